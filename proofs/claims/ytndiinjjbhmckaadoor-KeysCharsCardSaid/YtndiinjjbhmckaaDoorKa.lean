/- Keys, part 1: leaves. -/
import Derived.Test.YtndiinjjbhmckaaDoorKcode
import Derived.Test.YtndiinjjbhmckaaDoorAMd
import Derived.Test.YtndiinjjbhmckaaDoorShelf
set_option linter.all false
set_option linter.unusedVariables false
set_option maxRecDepth 100000
namespace Go.AM.K
attribute [local irreducible] hset Go.AM.killV
open Go.Proofs

theorem hmix : Tryd.prog.follows .mixedOrders = true := by kernel_rfl

/-! modes -/
def S11 : Spec
  | [.i .i64 a], H, n, κ => κ (.b (decide (0 ≤ a ∧ a < 17))) H n
  | _, _, _, _ => False
theorem ok11 : SpecOK Tryd.prog 11 S11 := compF_ok hmix tbl_nil_ok e11 (fun args H n κ hf h => by
  unfold S11 at h
  split at h
  · refine ⟨by simp, ?_⟩
    simp [c11, c11t1, c11t2, r11]
    exact Fin.same hf (by simpa using h) (by simp) (Keep.refl _ _)
  · exact h.elim)

def hasM (m x : Int) : Bool := if 0 ≤ x ∧ x < 17 then decide (ibits .and .u32 (m.fdiv (2 ^ (min x.toNat 32))) 1 = 1) else false
def S7 : Spec
  | [.i .u32 m, .i .i64 x], H, n, κ => κ (.b (hasM m x)) H n
  | _, _, _, _ => False
theorem ok7 : SpecOK Tryd.prog 7 S7 := compF_ok hmix (tbl_cons_ok ok11 tbl_nil_ok) e7 (fun args H n κ hf h => by
  unfold S7 at h
  split at h
  · rename_i m x
    refine ⟨by simp, ?_⟩
    by_cases hx : 0 ≤ x ∧ x < 17
    · simp [c7, c7t1, c7t2, r7, S11, hx, hasM] at h ⊢
      exact Fin.same hf h (by simp) (Keep.refl _ _)
    · simp [c7, c7t1, c7t2, r7, S11, hx, hasM] at h ⊢
      exact Fin.same hf h (by simp) (Keep.refl _ _)
  · exact h.elim)

def withM (m x : Int) (on : Bool) : Int := if 0 ≤ x ∧ x < 17 then (if on then ibits .or .u32 m (IntKind.u32.wrap (1 * 2 ^ (min x.toNat 32))) else ibits .andNot .u32 m (IntKind.u32.wrap (1 * 2 ^ (min x.toNat 32)))) else m
def S6 : Spec
  | [.i .u32 m, .i .i64 x, .b on], H, n, κ => κ (.i .u32 (withM m x on)) H n
  | _, _, _, _ => False
theorem ok6 : SpecOK Tryd.prog 6 S6 := compF_ok hmix (tbl_cons_ok ok11 tbl_nil_ok) e6 (fun args H n κ hf h => by
  unfold S6 at h
  split at h
  · rename_i m x on
    refine ⟨by simp, ?_⟩
    by_cases hx : 0 ≤ x ∧ x < 17
    · cases on <;> simp [c6, c6t1, c6t2, c6t3, r6, S11, hx, withM] at h ⊢ <;> exact Fin.same hf h (by simp) (Keep.refl _ _)
    · simp [c6, c6t1, c6t2, c6t3, r6, S11, hx, withM] at h ⊢
      exact Fin.same hf h (by simp) (Keep.refl _ _)
  · exact h.elim)

/-! numbers -/
def S54 : Spec
  | [.i .i64 a, .i .i64 b, .i .i64 c], H, n, κ => κ (.i .i64 (max b (min a c))) H n
  | _, _, _, _ => False
theorem ok54 : SpecOK Tryd.prog 54 S54 := compF_ok hmix tbl_nil_ok e54 (fun args H n κ hf h => by
  unfold S54 at h
  split at h
  · refine ⟨by simp, ?_⟩
    simp [c54, c54t1, c54t2, r54]
    exact Fin.same hf h (by simp) (Keep.refl _ _)
  · exact h.elim)

def isKey (n : Int) : Bool := decide (n ≠ 22 ∧ n ≠ 27 ∧ n ≠ 30 ∧ 17 ≤ n ∧ n ≤ 34)
def S39 : Spec
  | [.i .i64 a], H, n, κ => κ (.b (isKey a)) H n
  | _, _, _, _ => False
theorem ok39 : SpecOK Tryd.prog 39 S39 := compF_ok hmix tbl_nil_ok e39 (fun args H n κ hf h => by
  unfold S39 at h
  split at h
  · rename_i a
    refine ⟨by simp, ?_⟩
    by_cases h1 : a = 22
    · simp [c39, c39t1, c39t2, c39t3, r39, h1, isKey] at h ⊢; exact Fin.same hf h (by simp) (Keep.refl _ _)
    by_cases h2 : a = 27
    · simp [c39, c39t1, c39t2, c39t3, r39, h2, isKey] at h ⊢; exact Fin.same hf h (by simp) (Keep.refl _ _)
    by_cases h3 : a = 30
    · simp [c39, c39t1, c39t2, c39t3, r39, h3, isKey] at h ⊢; exact Fin.same hf h (by simp) (Keep.refl _ _)
    simp [c39, c39t1, c39t2, c39t3, r39, h1, h2, h3, isKey] at h ⊢
    exact Fin.same hf h (by simp) (Keep.refl _ _)
  · exact h.elim)

def numberF (f : Int) : Int := if f < 6 ∨ 20 < f then 0 else if f ≤ 10 then f + 11 else if f ≤ 14 then f + 12 else if f ≤ 16 then f + 13 else f + 14
def S34 : Spec
  | [.i .i64 a], H, n, κ => κ (.i .i64 (numberF a)) H n
  | _, _, _, _ => False
theorem ok34 : SpecOK Tryd.prog 34 S34 := compF_ok hmix tbl_nil_ok e34 (fun args H n κ hf h => by
  unfold S34 at h
  split at h
  · rename_i a
    refine ⟨by simp, ?_⟩
    by_cases h1 : a < 6 ∨ 20 < a
    · have : (decide (a < 6) || decide (20 < a)) = true := by simpa using h1
      simp [c34, c34t1, c34t2, c34t3, r34, this, h1, numberF] at h ⊢; exact Fin.same hf h (by simp) (Keep.refl _ _)
    have h1' : (decide (a < 6) || decide (20 < a)) = false := by simpa using h1
    have hw : ∀ k : Int, 0 ≤ k → k < 100 → IntKind.i64.wrap (a + k) = a + k := fun k h h' => wrap_i64 (by omega) (by omega)
    by_cases h2 : a ≤ 10
    · simp [c34, c34t1, c34t2, c34t3, r34, h1', h1, h2, numberF, hw] at h ⊢; exact Fin.same hf h (by simp) (Keep.refl _ _)
    by_cases h3 : a ≤ 14
    · simp [c34, c34t1, c34t2, c34t3, r34, h1', h1, h2, h3, numberF, hw] at h ⊢; exact Fin.same hf h (by simp) (Keep.refl _ _)
    by_cases h4 : a ≤ 16
    · simp [c34, c34t1, c34t2, c34t3, r34, h1', h1, h2, h3, h4, numberF, hw] at h ⊢; exact Fin.same hf h (by simp) (Keep.refl _ _)
    simp [c34, c34t1, c34t2, c34t3, r34, h1', h1, h2, h3, h4, numberF, hw] at h ⊢; exact Fin.same hf h (by simp) (Keep.refl _ _)
  · exact h.elim)

def opensF (k : Int) : Int := if k = 4 then 91 else if k = 5 then 80 else if k = 6 then 93 else if k = 7 then 88 else if k = 8 then 94 else if k = 9 then 95 else 0
def S57 : Spec
  | [.i .i64 a], H, n, κ => κ (.i .u8 (opensF a)) H n
  | _, _, _, _ => False
theorem ok57 : SpecOK Tryd.prog 57 S57 := compF_ok hmix tbl_nil_ok e57 (fun args H n κ hf h => by
  unfold S57 at h
  split at h
  · rename_i a
    refine ⟨by simp, ?_⟩
    by_cases h1 : a = 4
    · simp [c57, c57t1, c57t2, c57t3, r57, h1, opensF] at h ⊢; exact Fin.same hf h (by simp) (Keep.refl _ _)
    by_cases h2 : a = 5
    · simp [c57, c57t1, c57t2, c57t3, r57, h2, opensF] at h ⊢; exact Fin.same hf h (by simp) (Keep.refl _ _)
    by_cases h3 : a = 6
    · simp [c57, c57t1, c57t2, c57t3, r57, h3, opensF] at h ⊢; exact Fin.same hf h (by simp) (Keep.refl _ _)
    by_cases h4 : a = 7
    · simp [c57, c57t1, c57t2, c57t3, r57, h4, opensF] at h ⊢; exact Fin.same hf h (by simp) (Keep.refl _ _)
    by_cases h5 : a = 8
    · simp [c57, c57t1, c57t2, c57t3, r57, h5, opensF] at h ⊢; exact Fin.same hf h (by simp) (Keep.refl _ _)
    by_cases h6 : a = 9
    · simp [c57, c57t1, c57t2, c57t3, r57, h6, opensF] at h ⊢; exact Fin.same hf h (by simp) (Keep.refl _ _)
    simp [c57, c57t1, c57t2, c57t3, r57, h1, h2, h3, h4, h5, h6, opensF] at h ⊢; exact Fin.same hf h (by simp) (Keep.refl _ _)
  · exact h.elim)

def S74 : Spec
  | [.i .u8 c, .i .u8 a, .i .u8 b], H, n, κ => κ (.b (decide (a ≤ c ∧ c ≤ b))) H n
  | _, _, _, _ => False
theorem ok74 : SpecOK Tryd.prog 74 S74 := compF_ok hmix tbl_nil_ok e74 (fun args H n κ hf h => by
  unfold S74 at h
  split at h
  · refine ⟨by simp, ?_⟩
    simp [c74, c74t1, c74t2, r74] at h ⊢
    exact Fin.same hf (by simpa using h) (by simp) (Keep.refl _ _)
  · exact h.elim)
def S72 : Spec
  | [.i .i32 c], H, n, κ => κ (.b (decide (32 ≤ c ∧ c ≤ 47))) H n
  | _, _, _, _ => False
theorem ok72 : SpecOK Tryd.prog 72 S72 := compF_ok hmix tbl_nil_ok e72 (fun args H n κ hf h => by
  unfold S72 at h
  split at h
  · refine ⟨by simp, ?_⟩
    simp [c72, c72t1, c72t2, r72] at h ⊢
    exact Fin.same hf (by simpa using h) (by simp) (Keep.refl _ _)
  · exact h.elim)
def showsF (c : Int) : Bool := decide ((32 ≤ c ∧ c ≤ 126) ∨ 160 ≤ c)
def S81 : Spec
  | [.i .u8 c], H, n, κ => κ (.b (showsF c)) H n
  | _, _, _, _ => False
theorem ok81 : SpecOK Tryd.prog 81 S81 := compF_ok hmix (tbl_cons_ok ok74 tbl_nil_ok) e81 (fun args H n κ hf h => by
  unfold S81 at h
  split at h
  · refine ⟨by simp, ?_⟩
    simp [c81, c81t1, c81t2, r81, S74, showsF] at h ⊢
    exact ⟨by omega, Fin.same hf (by simpa using h) (by simp) (Keep.refl _ _)⟩
  · exact h.elim)
def dataF (c : Int) : Bool := showsF c || decide (8 ≤ c ∧ c ≤ 13)
def S73 : Spec
  | [.i .u8 c], H, n, κ => κ (.b (dataF c)) H n
  | _, _, _, _ => False
theorem ok73 : SpecOK Tryd.prog 73 S73 := compF_ok hmix (tbl_cons_ok ok81 (tbl_cons_ok ok74 tbl_nil_ok)) e73 (fun args H n κ hf h => by
  unfold S73 at h
  split at h
  · rename_i c
    refine ⟨by simp, ?_⟩
    cases hs : showsF c
    · simp [c73, c73t1, c73t2, r73, S74, S81, hs, dataF] at h ⊢
      exact Fin.same hf h (by simp) (Keep.refl _ _)
    · simp [c73, c73t1, c73t2, r73, S74, S81, hs, dataF] at h ⊢
      exact Fin.same hf h (by simp) (Keep.refl _ _)
  · exact h.elim)
def wideF (x : Int) : Bool := decide (x ≠ max 0 (min x 65535))
def S79 : Spec
  | [.i .i64 c], H, n, κ => κ (.b (wideF c)) H n
  | _, _, _, _ => False
theorem ok79 : SpecOK Tryd.prog 79 S79 := compF_ok hmix (tbl_cons_ok ok54 tbl_nil_ok) e79 (fun args H n κ hf h => by
  unfold S79 at h
  split at h
  · refine ⟨by simp, ?_⟩
    simp [c79, c79t1, c79t2, r79, S54, wideF] at h ⊢
    exact Fin.same hf (by simpa using h) (by simp) (Keep.refl _ _)
  · exact h.elim)
end Go.AM.K
/- Keys, part 2: keys that send plain bytes. -/
set_option linter.unusedVariables false
set_option linter.unusedSimpArgs false
set_option maxRecDepth 100000
namespace Go.AM.K
attribute [local irreducible] hset Go.AM.killV
open Go.Proofs

/-- No bytes at all, or a new row of bytes. -/
def retBytes (o : Option (List UInt8)) (H : Heap) (n : Nat) (κ : Cont) : Prop :=
  match o with
  | none => κ (.c (.slice none 0 0)) H n
  | some l => κ (.sl n 0 l.length) (hset H n (some ⟨false, 1, bytesA l⟩)) (n + 1)

def u8 (c : Int) : UInt8 := UInt8.ofNat c.toNat
theorem bytesA_u8 {c : Int} (h : 0 ≤ c) (h' : c < 256) : [AVal.i .u8 c] = bytesA [u8 c] := by
  simp [bytesA, u8]
  omega

theorem fin_nil {H0 : Heap} {n0 : Nat} {κ : Cont} {H : Heap} {n : Nat} (hf : ∀ m, n0 ≤ m → H0 m = none) (h : retBytes none H0 n0 κ) (hk : Keep H0 n0 H) : Fin H0 n0 κ (.c (.slice none 0 0)) H n :=
  Fin.same hf h (by simp) hk
theorem fin_bytes {H0 : Heap} {n0 : Nat} {κ : Cont} {H : Heap} {n m len : Nat} {l : List UInt8} (hf : ∀ m, n0 ≤ m → H0 m = none) (h : retBytes (some l) H0 n0 κ) (hm : n0 ≤ m) (hl : len = l.length)
    (hH : H m = some ⟨false, 1, bytesA l⟩) (hk : Keep H0 n0 H) : Fin H0 n0 κ (.sl m 0 len) H n := by
  subst hl
  exact Fin.new1 (vs := .sl n0 0 l.length) hf h hm hH (fun f _ h2 => by simp [h2]) (fun f _ => by simp) hk

/-- The code of a control. -/
def ctlF (c : Int) (ct : Bool) : Int := if ct ∧ c = 63 then 127 else if ct ∧ c = 32 then 0 else if ct ∧ 64 ≤ c ∧ c < 127 then ibits .and .u8 c 31 else c
def charF (c : Int) (ct : Bool) (lev : Int) : Option (List UInt8) :=
  if c < 32 ∨ (127 ≤ c ∧ c < 160) ∨ (160 ≤ c ∧ lev < 2) then none else some [u8 (ctlF c ct)]
def S17 : Spec
  | [.agg [.i .i64 kind, .i .u8 c, .b sh, .b ct, .i .u32 m, .i .i64 lev, .b ei, .ptr p 0 0]], H, n, κ => 0 ≤ c ∧ c < 256 ∧ retBytes (charF c ct lev) H n κ
  | _, _, _, _ => False

theorem wrap_u8_range (x : Int) : 0 ≤ IntKind.u8.wrap x ∧ IntKind.u8.wrap x < 256 := by
  simp only [IntKind.wrap, IntKind.bits, IntKind.signed]
  simp
  omega
theorem and31 {c : Int} (h : 0 ≤ c) (h' : c < 256) : 0 ≤ ibits .and .u8 c 31 ∧ ibits .and .u8 c 31 < 256 := wrap_u8_range _

theorem ok17 : SpecOK Tryd.prog 17 S17 := compF_ok hmix tbl_nil_ok e17 (fun args H n κ hf h => by
  unfold S17 at h
  split at h
  · rename_i kind c sh ct m lev ei p
    obtain ⟨h0, h1, h⟩ := h
    refine ⟨by simp, ?_⟩
    have hk1 : ∀ o, Keep H n (hset H n o) := fun o => (Keep.refl _ _).new (Nat.le_refl _)
    have hk2 : ∀ o o', Keep H n (hset (hset H n o) (n + 1) o') := fun o o' => (hk1 o).new (Nat.le_succ _)
    by_cases hb : c < 32 ∨ (127 ≤ c ∧ c < 160) ∨ (160 ≤ c ∧ lev < 2)
    · have hbad : (decide (c < 32) || decide (127 ≤ c) && decide (c < 160) || decide (160 ≤ c) && decide (lev < 2)) = true := by
        simp only [Bool.or_eq_true, Bool.and_eq_true, decide_eq_true_eq]; omega
      simp only [charF, if_pos hb] at h
      simp [c17, c17t1, c17t2, c17t3, c17t4, r17, hbad]
      repeat' refine And.intro ?_ ?_
      all_goals first | omega | exact fin_nil hf h (hk1 _)
    · have hbad : (decide (c < 32) || decide (127 ≤ c) && decide (c < 160) || decide (160 ≤ c) && decide (lev < 2)) = false := by
        simp only [Bool.or_eq_false_iff, Bool.and_eq_false_iff, decide_eq_false_iff_not]; omega
      simp only [charF, if_neg hb] at h
      have hend : ∀ x, 0 ≤ x → x < 256 → u8 (ctlF c ct) = u8 x → ∀ o, Fin H n κ (.sl (n + 1) 0 1) (hset (hset H n o) (n + 1) (some ⟨false, 1, [.i .u8 x]⟩)) (n + 1 + 1) := fun x hx hx' he o => by
        rw [he] at h
        exact fin_bytes (l := [u8 x]) hf h (Nat.le_succ _) rfl (by rw [hset_same, bytesA_u8 hx hx']) (hk2 _ _)
      cases ct
      · simp [c17, c17t1, c17t2, c17t3, c17t4, r17, hbad]
        repeat' refine And.intro ?_ ?_
        all_goals first | omega | exact hend c h0 h1 (by simp [ctlF]) _
      · by_cases q1 : c = 63
        · subst q1
          simp [c17, c17t1, c17t2, c17t3, c17t4, r17, hbad]
          repeat' refine And.intro ?_ ?_
          all_goals first | omega | exact hend 127 (by omega) (by omega) (by simp [ctlF]) _
        by_cases q2 : c = 32
        · subst q2
          simp [c17, c17t1, c17t2, c17t3, c17t4, r17, hbad]
          repeat' refine And.intro ?_ ?_
          all_goals first | omega | exact hend 0 (by omega) (by omega) (by simp [ctlF]) _
        by_cases q3 : 64 ≤ c ∧ c < 127
        · have hq : (decide (64 ≤ c) && decide (c < 127)) = true := by simp [q3]
          simp [c17, c17t1, c17t2, c17t3, c17t4, r17, hbad, q1, q2, q3, hq]
          repeat' refine And.intro ?_ ?_
          all_goals first | omega | exact hend _ (and31 h0 h1).1 (and31 h0 h1).2 (by simp [ctlF, q1, q2, q3]) _
        · have hq : (decide (64 ≤ c) && decide (c < 127)) = false := by simp only [Bool.and_eq_false_iff, decide_eq_false_iff_not]; omega
          simp [c17, c17t1, c17t2, c17t3, c17t4, r17, hbad, q1, q2, hq]
          repeat' refine And.intro ?_ ?_
          all_goals first | omega | exact hend c h0 h1 (by simp [ctlF, q1, q2, q3]) _
  · exact h.elim)

/-! enter, back, escape -/
def enterF (m : Int) : List UInt8 := if hasM m 3 then [13, 10] else [13]
def S18 : Spec
  | [.agg [.i .i64 kind, .i .u8 c, .b sh, .b ct, .i .u32 m, .i .i64 lev, .b ei, .ptr p 0 0]], H, n, κ => retBytes (some (enterF m)) H n κ
  | _, _, _, _ => False
theorem ok18 : SpecOK Tryd.prog 18 S18 := compF_ok hmix (tbl_cons_ok ok7 tbl_nil_ok) e18 (fun args H n κ hf h => by
  unfold S18 at h
  split at h
  · rename_i kind c sh ct m lev ei p
    refine ⟨by simp, ?_⟩
    have hk2 : ∀ o o', Keep H n (hset (hset H n o) (n + 1) o') := fun o o' => ((Keep.refl _ _).new (Nat.le_refl _)).new (Nat.le_succ _)
    cases hm : hasM m 3
    · simp [c18, c18t1, c18t2, c18t3, r18, S7, hm, enterF] at h ⊢
      exact fin_bytes hf h (Nat.le_succ _) rfl (by rw [hset_same]; rfl) (hk2 _ _)
    · simp [c18, c18t1, c18t2, c18t3, r18, S7, hm, enterF] at h ⊢
      exact fin_bytes hf h (Nat.le_succ _) rfl (by rw [hset_same]; rfl) (hk2 _ _)
  · exact h.elim)
def backF (m : Int) : List UInt8 := if hasM m 13 then [8] else [127]
def S20 : Spec
  | [.agg [.i .i64 kind, .i .u8 c, .b sh, .b ct, .i .u32 m, .i .i64 lev, .b ei, .ptr p 0 0]], H, n, κ => retBytes (some (backF m)) H n κ
  | _, _, _, _ => False
theorem ok20 : SpecOK Tryd.prog 20 S20 := compF_ok hmix (tbl_cons_ok ok7 tbl_nil_ok) e20 (fun args H n κ hf h => by
  unfold S20 at h
  split at h
  · rename_i kind c sh ct m lev ei p
    refine ⟨by simp, ?_⟩
    have hk2 : ∀ o o', Keep H n (hset (hset H n o) (n + 1) o') := fun o o' => ((Keep.refl _ _).new (Nat.le_refl _)).new (Nat.le_succ _)
    cases hm : hasM m 13
    · simp [c20, c20t1, c20t2, c20t3, r20, S7, hm, backF] at h ⊢
      exact fin_bytes hf h (Nat.le_succ _) rfl (by rw [hset_same]; rfl) (hk2 _ _)
    · simp [c20, c20t1, c20t2, c20t3, r20, S7, hm, backF] at h ⊢
      exact fin_bytes hf h (Nat.le_succ _) rfl (by rw [hset_same]; rfl) (hk2 _ _)
  · exact h.elim)
def S21 : Spec
  | [.agg [.i .i64 kind, .i .u8 c, .b sh, .b ct, .i .u32 m, .i .i64 lev, .b ei, .ptr p 0 0]], H, n, κ => retBytes (some [27]) H n κ
  | _, _, _, _ => False
theorem ok21 : SpecOK Tryd.prog 21 S21 := compF_ok hmix tbl_nil_ok e21 (fun args H n κ hf h => by
  unfold S21 at h
  split at h
  · rename_i kind c sh ct m lev ei p
    refine ⟨by simp, ?_⟩
    have hk2 : ∀ o o', Keep H n (hset (hset H n o) (n + 1) o') := fun o o' => ((Keep.refl _ _).new (Nat.le_refl _)).new (Nat.le_succ _)
    simp [c21, c21t1, c21t2, r21]
    exact fin_bytes hf h (Nat.le_succ _) rfl (by rw [hset_same]; rfl) (hk2 _ _)
  · exact h.elim)
/-! an event of the law's as the program's -/
def S10 : Spec
  | [.agg [.i .i64 kind, .i .u8 c, .b sh, .b ct]], H, n, κ => κ (.agg [.i .i64 kind, .i .u8 c, .b sh, .b ct]) H n
  | _, _, _, _ => False
theorem ok10 : SpecOK Tryd.prog 10 S10 := compF_ok hmix tbl_nil_ok e10 (fun args H n κ hf h => by
  unfold S10 at h
  split at h
  · rename_i kind c sh ct
    refine ⟨by simp, ?_⟩
    have hk2 : ∀ o o' o'', Keep H n (hset (hset (hset H n o) (n + 1) o') (n + 1) o'') := fun o o' o'' => (((Keep.refl _ _).new (Nat.le_refl _)).new (Nat.le_succ _)).new (Nat.le_succ _)
    simp [c10, c10t1, c10t2, r10]
    exact Fin.same hf h (by simp) (by (repeat (refine Keep.new ?_ (by omega))); exact Keep.refl _ _)
  · exact h.elim)
end Go.AM.K
/- Tokens, part 1. -/
set_option linter.unusedVariables false
set_option linter.unusedSimpArgs false
set_option maxRecDepth 100000
namespace Go.AM.K
attribute [local irreducible] hset Go.AM.killV
open Go.Proofs

/-! copies -/
def cloneS (bytes : Nat) : Spec
  | [v], H, n, κ => ∃ es, SlAt 1 H v es ∧ (∀ y ∈ es, y.solid = true ∧ ∀ f, ren f y = y) ∧ es.length * bytes ≤ 1099511627776 ∧ ((v = .c (.slice none 0 0) ∧ κ (.c (.slice none 0 0)) H n) ∨ (0 < es.length ∧ newSl 1 es H n κ))
  | _, _, _, _ => False
def S68 : Spec := cloneS 8
def S69 : Spec := cloneS 1
def cloneC (bytes : Nat) : CC :=
  .seq (.ops [⟨some 2, .mv, [.k (.c (.slice none 0 0))], none⟩] [0])
  (.seq (.seq (.ops [⟨some 3, .mv, [.t 0], none⟩,
      ⟨some 4, .slnil false, [.t 3, .k (.c (.slice none 0 0))], none⟩] [0, 4])
   (.cond (.t 4)
     (.seq (.ops [⟨some 2, .mv, [.k (.c (.slice none 0 0))], none⟩] [2])
     (.ret))
     (.skip)))
  (.seq (.ops [⟨some 5, .buildSlice 1, [], none⟩,
     ⟨some 6, .mv, [.t 0], none⟩,
     ⟨some 7, .append 1 bytes, [.t 5, .t 6], none⟩,
     ⟨some 2, .mv, [.t 7], none⟩] [2])
  (.ret)))
theorem clone_ok {BYTES : Nat} {c : CC} {r : List RV} (hc : c = cloneC BYTES) (hr : r = [.t 2]) (args : List AVal) (H : Heap) (n : Nat) (κ : Cont) (hf : ∀ m, n ≤ m → H m = none) (h : cloneS BYTES args H n κ) :
    args.length ≤ 8 ∧ WP (tbl []) c (retQ r H n κ) (argE args) H n := by
  subst hc; subst hr
  unfold cloneS at h
  split at h
  · rename_i v
    obtain ⟨es, hv, hs, hb, ⟨rfl, h⟩ | ⟨hlen, h⟩⟩ := h
    · refine ⟨by simp, ?_⟩
      simp [cloneC]
      exact Fin.same hf h (by simp) (Keep.refl _ _)
    · refine ⟨by simp, ?_⟩
      rcases hv.cases with ⟨rfl, rfl⟩ | ⟨a, off, ro, os, rfl, ha, hle, he⟩
      · exact absurd hlen (by simp)
      have he' := (hv.new (m := n) (o := some ⟨false, 1, []⟩) (hf n (Nat.le_refl _))).els
      have hsol : ∀ y ∈ es, ∀ x ∈ y.cells, x.one = true := fun y hy => by simpa [AVal.solid] using (hs y hy).1
      simp [cloneC, hlen, -elemsOf_sl, he']
      refine ⟨hsol, hb, ?_⟩
      exact fin_new hf h (Nat.le_succ _) (by simp) rfl (fun f _ => rens_id (fun y hy => (hs y hy).2) f) (by (repeat (refine Stay.new ?_ (by omega))); exact Stay.refl hf)
  · exact h.elim
theorem ok68 : SpecOK Tryd.prog 68 S68 := compF_ok hmix tbl_nil_ok e68 (fun args H n κ hf h => clone_ok (BYTES := 8) rfl rfl args H n κ hf h)
theorem ok69 : SpecOK Tryd.prog 69 S69 := compF_ok hmix tbl_nil_ok e69 (fun args H n κ hf h => clone_ok (BYTES := 1) rfl rfl args H n κ hf h)

/-! an escape and a byte, or one byte for both -/
def pairF (c : Int) (eight : Bool) : List UInt8 := if eight ∧ 64 ≤ c ∧ c ≤ 95 then [u8 (c + 64)] else [27, u8 c]
def S56 : Spec
  | [out, .i .u8 c, .b eight], H, n, κ => 0 ≤ c ∧ c < 256 ∧ ∃ l, OwnAt 1 H out (bytesA l) ∧ l.length ≤ 1000000000 ∧
      κ (.sl n 0 (bytesA (l ++ pairF c eight)).length) (hset (killV H out) n (some ⟨false, 1, bytesA (l ++ pairF c eight)⟩)) (n + 1)
  | _, _, _, _ => False
set_option maxHeartbeats 4000000 in
theorem ok56 : SpecOK Tryd.prog 56 S56 := compF_ok hmix (tbl_cons_ok ok74 tbl_nil_ok) e56 (fun args H n κ hf h => by
  unfold S56 at h
  split at h
  rotate_left
  · exact h.elim
  refine ⟨by simp, ?_⟩
  rename_i out c eight
  obtain ⟨h0, h1, l, ho, hlen, h⟩ := h
  have ho' := fun o => (ho.new (m := n) (o := o) (hf n (Nat.le_refl _))).own
  have hend : ∀ (k : List UInt8) (o : Option AObj) (es : List AVal) (len : Nat), pairF c eight = k → es = bytesA (l ++ k) → len = (l ++ k).length → Fin H n κ (.sl (n + 1) 0 len) (hset (killV (hset H n o) out) (n + 1) (some ⟨false, 1, es⟩)) (n + 1 + 1) := fun k o es len hl he hn => by
    subst he; subst hn; subst hl
    exact fin_new' h (by omega) (by simp) (by simp) (fun f _ => by simp) (((Stay.refl hf).new (Nat.le_refl _)).killV.new (by omega))
  have e2 : [AVal.i .u8 27, .i .u8 c] = bytesA [27, u8 c] := by simp [bytesA, u8]; omega
  cases eight
  · simp [c56, c56t1, c56t2, c56t3, r56, S74, ho']
    exact ⟨by omega, hend [27, u8 c] _ _ _ (by simp [pairF]) (by rw [e2]; simp) (by simp)⟩
  · by_cases hc : 64 ≤ c ∧ c ≤ 95
    · have hw : IntKind.u8.wrap (c + 64) = c + 64 := wrap_u8 (by omega) (by omega)
      simp [c56, c56t1, c56t2, c56t3, r56, S74, hc, hw, ho']
      exact ⟨by omega, hend [u8 (c + 64)] _ _ _ (by simp [pairF, hc]) (by rw [bytesA_u8 (by omega) (by omega)]; simp) (by simp)⟩
    · simp [c56, c56t1, c56t2, c56t3, r56, S74, hc, ho']
      exact ⟨by omega, hend [27, u8 c] _ _ _ (by simp [pairF, hc]) (by rw [e2]; simp) (by simp)⟩)
end Go.AM.K
/- Tokens, part 2. -/
set_option linter.unusedVariables false
set_option linter.unusedSimpArgs false
set_option maxRecDepth 100000
namespace Go.AM.K
attribute [local irreducible] hset Go.AM.killV
open Go.Proofs

/-! a token of a kind and a code alone -/
def S75 : Spec
  | [.agg [.i .i64 kind, .i .u8 code, .i .u8 mark, ps, .s inters, dt]], H, n, κ => ∃ k j, slLen ps = some k ∧ slLen dt = some j ∧ κ (.b (decide (mark = 0 ∧ k = 0 ∧ inters = [] ∧ j = 0))) H n
  | _, _, _, _ => False
theorem ok75 : SpecOK Tryd.prog 75 S75 := compF_ok hmix tbl_nil_ok e75 (fun args H n κ hf h => by
  unfold S75 at h
  split at h
  · rename_i kind code mark ps inters dt
    obtain ⟨k, j, hk, hj, h⟩ := h
    refine ⟨by simp, ?_⟩
    have hend : ∀ b o, b = decide (mark = 0 ∧ k = 0 ∧ inters = [] ∧ j = 0) → Fin H n κ (.b b) (hset H n o) (n + 1) := fun b o e => by
      subst e; exact Fin.same hf h (by simp) ((Keep.refl _ _).new (Nat.le_refl _))
    rcases slLen_cases hk with ⟨a1, o1, rfl⟩ | ⟨rfl, rfl⟩ <;> rcases slLen_cases hj with ⟨a2, o2, rfl⟩ | ⟨rfl, rfl⟩
    all_goals
      simp [c75, c75t1, c75t2, r75]
      repeat' refine And.intro ?_ ?_
    all_goals first
      | (refine hend _ _ ?_; rw [Bool.eq_iff_iff]; simp [and_assoc])
      | rfl
  · exact h.elim)

/-! small numbers -/
def smallF (x : Int) : List UInt8 := if x < 10 then [u8 (48 + x)] else [u8 (48 + x / 10), u8 (48 + x % 10)]
def S85 : Spec
  | [.i .i64 x], H, n, κ => 0 ≤ x ∧ x < 100 ∧ κ (.s (smallF x)) H n
  | _, _, _, _ => False
theorem ok85 : SpecOK Tryd.prog 85 S85 := compF_ok hmix tbl_nil_ok e85 (fun args H n κ hf h => by
  unfold S85 at h
  split at h
  · rename_i x
    obtain ⟨h0, h1, h⟩ := h
    refine ⟨by simp, ?_⟩
    obtain ⟨k, rfl⟩ := Int.eq_ofNat_of_zero_le h0
    have hk : k < 100 := by omega
    by_cases hx : (k : Int) < 10
    · have hw : IntKind.i64.wrap ((k : Int) + 1) = (k : Int) + 1 := wrap_i64 (by omega) (by omega)
      have key : ∀ j : _root_.Fin 10, List.take ((j.val : Int) + 1 - j.val).toNat (List.drop ((j.val : Int)).toNat
            [48, 49, 50, 51, 52, 53, 54, 55, 56, 57, 97, 98, 99, 100, 101, 102, 103, 104, 105, 106, 107, 108, 109, 110,
              111, 112, 113, 114, 115, 116, 117, 118, 119, 120, 121, 122]) = smallF (j.val : Int) := by decide
      have := key ⟨k, by omega⟩
      simp only at this
      simp only [c85, c85t1, c85t2, c85t3, r85]
      simp at this
      simp [hx, hw]
      rw [this]
      exact ⟨by omega, Fin.same hf h (by simp) (Keep.refl _ _)⟩
    · have hw : IntKind.i64.wrap ((k : Int) * 2) = (k : Int) * 2 := wrap_i64 (by omega) (by omega)
      have hw2 : IntKind.i64.wrap ((k : Int) * 2 + 2) = (k : Int) * 2 + 2 := wrap_i64 (by omega) (by omega)
      have key : ∀ j : _root_.Fin 100, 10 ≤ j.val → List.take ((j.val : Int) * 2 + 2 - j.val * 2).toNat (List.drop ((j.val : Int) * 2).toNat
            [48, 48, 48, 49, 48, 50, 48, 51, 48, 52, 48, 53, 48, 54, 48, 55, 48, 56, 48, 57, 49, 48, 49, 49, 49, 50, 49, 51, 49, 52, 49, 53, 49, 54, 49, 55, 49, 56, 49, 57, 50, 48, 50, 49, 50, 50, 50, 51, 50, 52, 50, 53, 50, 54, 50, 55, 50, 56, 50, 57, 51, 48, 51, 49, 51, 50, 51, 51, 51, 52, 51, 53, 51, 54, 51, 55, 51, 56, 51, 57, 52, 48, 52, 49, 52, 50, 52, 51, 52, 52, 52, 53, 52, 54, 52, 55, 52, 56, 52, 57, 53, 48, 53, 49, 53, 50, 53, 51, 53, 52, 53, 53, 53, 54, 53, 55, 53, 56, 53, 57, 54, 48, 54, 49, 54, 50, 54, 51, 54, 52, 54, 53, 54, 54, 54, 55, 54, 56, 54, 57, 55, 48, 55, 49, 55, 50, 55, 51, 55, 52, 55, 53, 55, 54, 55, 55, 55, 56, 55, 57, 56, 48, 56, 49, 56, 50, 56, 51, 56, 52, 56, 53, 56, 54, 56, 55, 56, 56, 56, 57, 57, 48, 57, 49, 57, 50, 57, 51, 57, 52, 57, 53, 57, 54, 57, 55, 57, 56, 57, 57]) = smallF (j.val : Int) := by decide
      have := key ⟨k, hk⟩ (by simp only; omega)
      simp only at this
      simp only [c85, c85t1, c85t2, c85t3, r85]
      simp [hx, hw, hw2]
      rw [this]
      exact ⟨by omega, Fin.same hf h (by simp) (Keep.refl _ _)⟩
  · exact h.elim)
end Go.AM.K
/- Numbers as text, tokens too great. -/
set_option linter.unusedVariables false
set_option linter.unusedSimpArgs false
set_option maxRecDepth 100000
namespace Go.AM.K
attribute [local irreducible] hset Go.AM.killV
open Go.Proofs

def S84 : Spec
  | [.i .i64 x, .i .i64 b], H, n, κ => 0 ≤ x ∧ x < 100 ∧ b = 10 ∧ κ (.s (smallF x)) H n
  | _, _, _, _ => False
theorem ok84 : SpecOK Tryd.prog 84 S84 := compF_ok hmix (tbl_cons_ok ok85 tbl_nil_ok) e84 (fun args H n κ hf h => by
  unfold S84 at h
  split at h
  · rename_i x b
    obtain ⟨h0, h1, rfl, h⟩ := h
    refine ⟨by simp, ?_⟩
    simp [c84, c84t1, c84t2, c84t3, c84t4, r84, h0, h1, S85]
    exact Fin.same hf h (by simp) (Keep.refl _ _)
  · exact h.elim)
def itoaS : Spec
  | [.i .i64 x], H, n, κ => 0 ≤ x ∧ x < 100 ∧ κ (.s (smallF x)) H n
  | _, _, _, _ => False
def S82 : Spec := itoaS
def S76 : Spec := itoaS
theorem ok82 : SpecOK Tryd.prog 82 S82 := compF_ok hmix (tbl_cons_ok ok84 tbl_nil_ok) e82 (fun args H n κ hf h => by
  unfold S82 itoaS at h
  split at h
  · rename_i x
    obtain ⟨h0, h1, h⟩ := h
    refine ⟨by simp, ?_⟩
    simp [c82, c82t1, c82t2, r82, h0, h1, S84]
    exact Fin.same hf h (by simp) (Keep.refl _ _)
  · exact h.elim)
theorem ok76 : SpecOK Tryd.prog 76 S76 := compF_ok hmix (tbl_cons_ok ok82 tbl_nil_ok) e76 (fun args H n κ hf h => by
  unfold S76 itoaS at h
  split at h
  · rename_i x
    obtain ⟨h0, h1, h⟩ := h
    refine ⟨by simp, ?_⟩
    simp [c76, c76t1, c76t2, r76, h0, h1, S82, itoaS]
    exact Fin.same hf h (by simp) (Keep.refl _ _)
  · exact h.elim)

/-! is one of the numbers too great? -/
def idxW (ps : List Int) : Int := match ps.findIdx? wideF with | some i => i | none => -1
def S83 : Spec
  | [v, .fn (.func g) [] []], H, n, κ => g = 79 ∧ ∃ ps, IntsAt H v ps ∧ ps.length < 1000000000 ∧ κ (.i .i64 (idxW ps)) H n
  | _, _, _, _ => False
set_option maxHeartbeats 4000000 in
theorem ok83 : SpecOK Tryd.prog 83 S83 := compF_ok hmix (tbl_cons_ok ok79 tbl_nil_ok) e83 (fun args H n κ hf h => by
  unfold S83 at h
  split at h
  rotate_left
  · exact h.elim
  refine ⟨by simp, ?_⟩
  rename_i v g
  obtain ⟨rfl, ps, hv, hlen, h⟩ := h
  have hl := ints_len hv
  have hw : ∀ i : Nat, i < 1000000000 → IntKind.i64.wrap ((i : Int) + 1) = (i : Int) + 1 := fun i hi => wrap_i64 (by omega) (by omega)
  have hend : ∀ x, x = idxW ps → Fin H n κ (.i .i64 x) H n := fun x hx => by subst hx; exact Fin.same hf h (by simp) (Keep.refl _ _)
  simp [c83, c83t1, c83t2, c83t3, r83, S79, hl]
  refine WP_loop_st (S := Nat) (fun i => mkE [(0, v), (1, .fn (.func 79) [] []), (7, .i .i64 ps.length), (8, .i .i64 i)]) (fun _ => H) (fun _ => n) (fun i => i ≤ ps.length ∧ ∀ j (hj : j < ps.length), j < i → wideF ps[j] = false) (fun i => ps.length - i) 0
    rfl (Heap.le.refl _) rfl ⟨by omega, fun j _ hj => by omega⟩ ?_
  rintro i ⟨hi, hno⟩ hf' G hG
  by_cases hlt : i < ps.length
  · obtain ⟨a, off, ro, os, rfl, ha, hg⟩ := ints_at hv hlt
    simp [hlt, ha, hg, S79]
    refine brK_b _ (fun hb => ?_) (fun hb => ?_)
    · simp
      refine hend _ ?_
      have : ps.findIdx? wideF = some i := by
        rw [List.findIdx?_eq_some_iff_getElem]
        exact ⟨hlt, hb, fun j hj => by rw [hno j (by omega) hj]; simp⟩
      simp [idxW, this]
    · simp [hw i (by omega)]
      refine hG (i + 1) rfl (Heap.le.refl _) rfl ⟨by omega, fun j hj hji => ?_⟩ (by omega)
      by_cases hj2 : j = i
      · subst hj2; exact hb
      · exact hno j hj (by omega)
  · simp [hlt]
    refine hend _ ?_
    have : ps.findIdx? wideF = none := by
      rw [List.findIdx?_eq_none_iff]
      intro x hx
      obtain ⟨j, hj, rfl⟩ := List.getElem_of_mem hx
      exact hno j hj (by omega)
    simp [idxW, this])
end Go.AM.K
/- Tokens: too great, of which code. -/
set_option linter.unusedVariables false
set_option linter.unusedSimpArgs false
set_option maxRecDepth 100000
namespace Go.AM.K
attribute [local irreducible] hset Go.AM.killV
open Go.Proofs

def S80 : Spec
  | [v, .fn (.func g) [] []], H, n, κ => g = 79 ∧ ∃ ps, IntsAt H v ps ∧ ps.length < 1000000000 ∧ κ (.b (ps.any wideF)) H n
  | _, _, _, _ => False
theorem idxW_any (ps : List Int) : decide (0 ≤ idxW ps) = ps.any wideF := by
  unfold idxW
  cases h : ps.findIdx? wideF with
  | none =>
    rw [List.findIdx?_eq_none_iff] at h
    have : ps.any wideF = false := by simpa using h
    rw [this]; decide
  | some i =>
    rw [List.findIdx?_eq_some_iff_getElem] at h
    obtain ⟨hi, hw, _⟩ := h
    have : ps.any wideF = true := List.any_eq_true.2 ⟨_, List.getElem_mem hi, hw⟩
    rw [this]; simp
theorem ok80 : SpecOK Tryd.prog 80 S80 := compF_ok hmix (tbl_cons_ok ok83 tbl_nil_ok) e80 (fun args H n κ hf h => by
  unfold S80 at h
  split at h
  · rename_i v g
    obtain ⟨rfl, ps, hv, hlen, h⟩ := h
    refine ⟨by simp, ?_⟩
    simp [c80, c80t1, c80t2, r80, S83]
    refine ⟨ps, hv, hlen, ?_⟩
    rw [← idxW_any] at h
    exact Fin.same hf h (by simp) (Keep.refl _ _)
  · exact h.elim)

def greatF (ps : List Int) (inters : List UInt8) (dl : Nat) : Bool := decide (3 < (inters.length : Int)) || decide (30 < (ps.length : Int)) || decide (4096 < (dl : Int)) || ps.any wideF
def S70 : Spec
  | [.agg [.i .i64 kind, .i .u8 code, .i .u8 mark, pv, .s inters, dt]], H, n, κ => ∃ ps j, IntsAt H pv ps ∧ slLen dt = some j ∧ κ (.b (greatF ps inters j)) H n
  | _, _, _, _ => False
set_option maxHeartbeats 4000000 in
theorem ok70 : SpecOK Tryd.prog 70 S70 := compF_ok hmix (tbl_cons_ok ok80 tbl_nil_ok) e70 (fun args H n κ hf h => by
  unfold S70 at h
  split at h
  rotate_left
  · exact h.elim
  refine ⟨by simp, ?_⟩
  rename_i kind code mark pv inters dt
  obtain ⟨ps, j, hp, hj, h⟩ := h
  have hend : ∀ b o, b = greatF ps inters j → Fin H n κ (.b b) (hset H n o) (n + 1) := fun b o e => by
    subst e; exact Fin.same hf h (by simp) ((Keep.refl _ _).new (Nat.le_refl _))
  have hk := ints_len hp
  have hpo := slLen_one hk
  have hjo := slLen_one hj
  have hp' := fun o => hp.new (m := n) (o := o) (hf n (Nat.le_refl _))
  have hLs : ps.length < 1000000000 ∨ decide (30 < (ps.length : Int)) = true := by
    by_cases q : 30 < (ps.length : Int)
    · exact .inr (by simpa using q)
    · exact .inl (by omega)
  cases hA : decide (3 < (inters.length : Int)) <;> cases hB : decide (30 < (ps.length : Int)) <;> cases hC : decide (4096 < (j : Int))
  all_goals
    simp [c70, c70t1, c70t2, c70t3, r70, S80, hA, hB, hC, hk, hj, hpo, hjo]
  all_goals first
    | exact ⟨ps, hp' _, hLs.resolve_right (by simp [hB]), hend _ _ (by simp [greatF, hA, hB, hC])⟩
    | exact hend _ _ (by simp [greatF, hA, hB, hC]))
end Go.AM.K
/- Tokens: codes. -/
set_option linter.unusedVariables false
set_option linter.unusedSimpArgs false
set_option maxRecDepth 100000
namespace Go.AM.K
attribute [local irreducible] hset Go.AM.killV
open Go.Proofs

def codeF (kind c : Int) (inters : List UInt8) : Bool :=
  if kind = 1 then showsF c
  else if kind = 2 then decide (1 ≤ c ∧ c ≤ 31 ∧ c ≠ 24 ∧ c ≠ 27)
  else if kind = 3 then (if inters = [] ∧ (c = 91 ∨ c = 80 ∨ c = 93 ∨ c = 88 ∨ c = 94 ∨ c = 95 ∨ c = 92) then false else decide (48 ≤ c ∧ c ≤ 126))
  else if kind = 4 ∨ kind = 5 then decide (64 ≤ c ∧ c ≤ 126)
  else decide (c = 0)
theorem codeF3 (c : Int) (inters : List UInt8) : codeF 3 c inters = if inters = [] ∧ (c = 91 ∨ c = 80 ∨ c = 93 ∨ c = 88 ∨ c = 94 ∨ c = 95 ∨ c = 92) then false else decide (48 ≤ c ∧ c ≤ 126) := by
  simp [codeF]
def S71 : Spec
  | [.agg [.i .i64 kind, .i .u8 c, .i .u8 mark, pv, .s inters, dv]], H, n, κ => pv.one = true ∧ dv.one = true ∧ κ (.b (codeF kind c inters)) H n
  | _, _, _, _ => False
theorem ok71 : SpecOK Tryd.prog 71 S71 := compF_ok hmix (tbl_cons_ok ok81 (tbl_cons_ok ok74 (tbl_cons_ok ok57 tbl_nil_ok))) e71 (fun args H n κ hf h => by
  unfold S71 at h
  split at h
  · rename_i kind c mark pv inters dv
    obtain ⟨hp, hd, h⟩ := h
    refine ⟨by simp, ?_⟩
    have hend : ∀ b o, b = codeF kind c inters → Fin H n κ (.b b) (hset H n o) (n + 1) := fun b o e => by
      subst e; exact Fin.same hf h (by simp) ((Keep.refl _ _).new (Nat.le_refl _))
    by_cases k1 : kind = 1
    · subst k1
      simp [c71, c71t1, c71t2, c71t3, c71t4, r71, hp, hd, S81]
      exact hend _ _ (by simp [codeF])
    by_cases k2 : kind = 2
    · subst k2
      simp [c71, c71t1, c71t2, c71t3, c71t4, r71, hp, hd, S74]
      repeat' refine And.intro ?_ ?_
      all_goals first | omega | (refine hend _ _ ?_; rw [Bool.eq_iff_iff]; simp [codeF]; omega) | trace_state
    by_cases k3 : kind = 3
    · subst k3
      simp [c71, c71t1, c71t2, c71t3, c71t4, r71, hp, hd, S74, S57]
      refine WP_loop_st (S := Nat) (fun i => mkE [(1, .ptr n 0 0), (3, .i .u8 c), (4, .i .i64 i)]) (fun _ => hset H n (some ⟨false, 6, [.agg [.i .i64 3, .i .u8 c, .i .u8 mark, pv, .s inters, dv]]⟩)) (fun _ => n + 1)
        (fun i => 4 ≤ i ∧ i ≤ 10 ∧ (4 < i → inters = []) ∧ (∀ j : Nat, 4 ≤ j → j < i → c ≠ opensF j ∧ c ≠ 92)) (fun i => 10 - i) 4 rfl (Heap.le.refl _) rfl ⟨by omega, by omega, by omega, fun j _ _ => by omega⟩ ?_
      rintro i ⟨hi4, hi10, hin, hno⟩ hf' G hG
      have hw : IntKind.i64.wrap ((i : Int) + 1) = (i : Int) + 1 := wrap_i64 (by omega) (by omega)
      have hstop : (inters ≠ [] ∨ i = 10) → (∀ b o, b = decide (48 ≤ c ∧ c ≤ 126) → Fin H n κ (.b b) (hset H n o) (n + 1)) := fun hs b o hb => hend b o (by
        subst hb
        rw [codeF3]
        rcases hs with q | q
        · rw [if_neg (fun r => q r.1)]
        · subst q
          have h4 := hno 4 (by omega) (by omega)
          have h5 := hno 5 (by omega) (by omega)
          have h6 := hno 6 (by omega) (by omega)
          have h7 := hno 7 (by omega) (by omega)
          have h8 := hno 8 (by omega) (by omega)
          have h9 := hno 9 (by omega) (by omega)
          simp [opensF] at h4 h5 h6 h7 h8 h9
          rw [if_neg (by omega)])
      by_cases hI : inters = []
      · subst hI
        by_cases h9 : i ≤ 9
        · have h9' : (i : Int) ≤ 9 := by omega
          simp [hp, hd, h9', S74, S57]
          refine brK_b _ (fun hb => ?_) (fun hb => ?_)
          · simp
            refine hend _ _ ?_
            have hb' : c = opensF i ∨ c = 92 := by simpa using hb
            rw [codeF3, if_pos]
            refine ⟨rfl, ?_⟩
            have : i = 4 ∨ i = 5 ∨ i = 6 ∨ i = 7 ∨ i = 8 ∨ i = 9 := by omega
            rcases this with q | q | q | q | q | q <;> subst q <;> simp [opensF] at hb' <;> omega
          · have hb' : c ≠ opensF i ∧ c ≠ 92 := by simpa using hb
            simp [hw]
            refine hG (i + 1) rfl (Heap.le.refl _) rfl ⟨by omega, by omega, fun _ => rfl, fun j h1 h2 => ?_⟩ (by omega)
            by_cases hj : j = i
            · subst hj; exact hb'
            · exact hno j h1 (by omega)
        · have h9' : ¬ (i : Int) ≤ 9 := by omega
          simp [hp, hd, h9', S74, S57]
          exact hstop (.inr (by omega)) _ _ (by simp)
      · have hI' : (inters == []) = false := by simpa using hI
        by_cases h9 : (i : Int) ≤ 9
        · simp [hp, hd, h9, hI, hI', S74, S57]
          exact hstop (.inl hI) _ _ (by simp)
        · simp [hp, hd, h9, hI, hI', S74, S57]
          exact hstop (.inl hI) _ _ (by simp)
    by_cases k4 : kind = 4
    · subst k4
      simp [c71, c71t1, c71t2, c71t3, c71t4, r71, hp, hd, S74]
      exact hend _ _ (by simp [codeF])
    by_cases k5 : kind = 5
    · subst k5
      simp [c71, c71t1, c71t2, c71t3, c71t4, r71, hp, hd, S74]
      exact hend _ _ (by simp [codeF])
    simp [c71, c71t1, c71t2, c71t3, c71t4, r71, hp, hd, k1, k2, k3, k4, k5]
    exact hend _ _ (by simp [codeF, k1, k2, k3, k4, k5])
  · exact h.elim)
end Go.AM.K
/- Tokens: may one be? -/
set_option linter.unusedVariables false
set_option linter.unusedSimpArgs false
set_option maxRecDepth 100000
namespace Go.AM.K
attribute [local irreducible] hset Go.AM.killV
open Go.Proofs

theorem get_l {l : List UInt8} {k : Nat} (hk : k < l.length) : (⟨l.toArray⟩ : ByteArray).get! (k + 0) = l[k] := by
  simp [ByteArray.get!, hk]
theorem decode_ascii {l : List UInt8} {k : Nat} (hk : k < l.length) (h : l[k].toNat < 128) : Utf8.decode ⟨l.toArray⟩ k = (l[k].toNat, 1) := by
  simp only [Utf8.decode, get_l hk]
  rw [if_pos h]
theorem decode_great {l : List UInt8} {k : Nat} (hk : k < l.length) (h : 128 ≤ l[k].toNat) : 128 ≤ (Utf8.decode ⟨l.toArray⟩ k).1 ∧ 1 ≤ (Utf8.decode ⟨l.toArray⟩ k).2 ∧ (Utf8.decode ⟨l.toArray⟩ k).2 ≤ 4 := by
  simp only [Utf8.decode, get_l hk]
  rw [if_neg (by omega)]
  repeat' split
  all_goals simp only [Utf8.runeError]
  all_goals rename_i hc
  all_goals first | omega | (simp only [ge_iff_le, Bool.and_eq_true, decide_eq_true_eq] at hc; omega)

def restF (kind mark : Int) (ps : List Int) (inters data : List UInt8) : Bool :=
  if kind = 3 then decide (mark = 0 ∧ ps.length = 0 ∧ data.length = 0)
  else if kind = 4 then decide (data.length = 0)
  else if kind = 5 then true
  else if 6 ≤ kind then decide (mark = 0 ∧ ps.length = 0 ∧ inters = [])
  else decide (mark = 0 ∧ ps.length = 0 ∧ inters = [] ∧ data.length = 0)
def interB (b : UInt8) : Bool := decide (32 ≤ b.toNat ∧ b.toNat ≤ 47)
def dataB (b : UInt8) : Bool := dataF b.toNat
def goodF (kind c : Int) (inters data : List UInt8) : Bool := codeF kind c inters && inters.all interB && data.all dataB
def checkF (kind c mark : Int) (ps : List Int) (inters data : List UInt8) : Int :=
  if kind < 1 ∨ 9 < kind then 1 else if greatF ps inters data.length then 2
  else if (mark ≠ 0 ∧ ¬ (60 ≤ mark ∧ mark ≤ 63)) ∨ goodF kind c inters data = false ∨ restF kind mark ps inters data = false then 3 else 0
def S55 : Spec
  | [.agg [.i .i64 kind, .i .u8 c, .i .u8 mark, pv, .s inters, dv]], H, n, κ => ∃ ps data, IntsAt H pv ps ∧ BytesAt H dv data ∧ κ (.i .i64 (checkF kind c mark ps inters data)) H n
  | _, _, _, _ => False
def chkG (c0 : Bool) (l : List UInt8) (f : UInt8 → Bool) (g : Bool) (i : Nat) : Prop :=
  (g = true → c0 = true ∧ ∀ j (hj : j < l.length), j < i → f l[j] = true) ∧ (g = false → c0 = false ∨ ∃ x ∈ l, f x = false)
theorem chkG_end {c0 : Bool} {l : List UInt8} {f : UInt8 → Bool} {g : Bool} {i : Nat} (h : chkG c0 l f g i) (hi : l.length ≤ i) : g = (c0 && l.all f) := by
  cases g with
  | true =>
    obtain ⟨h1, h2⟩ := h.1 rfl
    rw [h1]
    have : l.all f = true := List.all_eq_true.2 (fun x hx => by obtain ⟨j, hj, rfl⟩ := List.getElem_of_mem hx; exact h2 j hj (by omega))
    rw [this]; rfl
  | false =>
    rcases h.2 rfl with h1 | ⟨x, hx, h1⟩
    · rw [h1]; rfl
    · have : l.all f = false := by
        rw [← Bool.not_eq_true, List.all_eq_true]
        exact fun q => by rw [q x hx] at h1; exact absurd h1 (by simp)
      rw [this]; simp
theorem chkG_next {c0 : Bool} {l : List UInt8} {f : UInt8 → Bool} {g : Bool} {i k : Nat} (h : chkG c0 l f g i) (hi : i < l.length) (hk : f l[i] = true → k = 1) : chkG c0 l f (g && f l[i]) (i + k) := by
  cases hg : g && f l[i] with
  | true =>
    simp only [Bool.and_eq_true] at hg
    obtain ⟨h1, h2⟩ := h.1 hg.1
    refine ⟨fun _ => ⟨h1, fun j hj hlt => ?_⟩, fun q => absurd q (by simp)⟩
    have := hk hg.2
    by_cases q : j = i
    · subst q; exact hg.2
    · exact h2 j hj (by omega)
  | false =>
    refine ⟨fun q => absurd q (by simp), fun _ => ?_⟩
    cases hg' : g with
    | false => exact h.2 hg'
    | true => rw [hg'] at hg; exact .inr ⟨_, List.getElem_mem hi, by simpa using hg⟩
theorem chkG_init (c0 : Bool) (l : List UInt8) (f : UInt8 → Bool) : chkG c0 l f c0 0 := ⟨fun q => ⟨q, fun j _ hj => by omega⟩, fun q => .inl q⟩
set_option maxHeartbeats 4000000 in
theorem ok55 : SpecOK Tryd.prog 55 S55 := compF_ok hmix (tbl_cons_ok ok70 (tbl_cons_ok ok71 (tbl_cons_ok ok72 (tbl_cons_ok ok73 (tbl_cons_ok ok74 (tbl_cons_ok ok75 tbl_nil_ok)))))) e55 (fun args H n κ hf h => by
  unfold S55 at h
  split at h
  rotate_left
  · exact h.elim
  refine ⟨by simp, ?_⟩
  rename_i kind c mark pv inters dv
  obtain ⟨ps, data, hp, hd, h⟩ := h
  have hpo := hp.one
  have hdo := hd.one
  have hpl := ints_len hp
  have hdl := bytes_len hd
  have hpc := hp.cells
  have hdc := hd.cells
  have hend : ∀ r H' n', r = checkF kind c mark ps inters data → Keep H n H' → Fin H n κ (.i .i64 r) H' n' := fun r H' n' e hk => by
    subst e; exact Fin.same hf h (by simp) hk
  have hk1 : ∀ o, Keep H n (hset H n o) := fun o => (Keep.refl _ _).new (Nat.le_refl _)
  have hp1 := fun o => hp.new (m := n) (o := o) (hf n (Nat.le_refl _))
  by_cases hr : kind < 1 ∨ 9 < kind
  · have hr' : (decide (kind < 1) || decide (9 < kind)) = true := by simpa using hr
    simp [c55, c55t1, c55t2, c55t3, c55t4, c55t5, c55t6, c55t7, c55t8, c55t9, c55t10, r55, S70, S71, S72, S73, S74, S75, hpo, hdo, hr']
    repeat' refine And.intro ?_ ?_
    all_goals first | omega | exact hend _ _ _ (by simp [checkF, hr]) (hk1 _)
  have hr' : (decide (kind < 1) || decide (9 < kind)) = false := by simpa using hr
  cases hg : greatF ps inters data.length
  rotate_left
  · simp [c55, c55t1, c55t2, c55t3, c55t4, c55t5, c55t6, c55t7, c55t8, c55t9, c55t10, r55, S70, S71, S72, S73, S74, S75, hpo, hdo, hr']
    repeat' refine And.intro ?_ ?_
    all_goals first | omega | skip
    refine ⟨ps, hp1 _, data.length, hdl, ?_⟩
    rw [hg]
    simp
    exact hend _ _ _ (by simp [checkF, hr, hg]) (hk1 _)
  simp [c55, c55t1, c55t2, c55t3, c55t4, c55t5, c55t6, c55t7, c55t8, c55t9, c55t10, r55, S70, hpo, hdo, hr']
  repeat' refine And.intro ?_ ?_
  all_goals first | omega | skip
  refine ⟨ps, hp1 _, data.length, hdl, ?_⟩
  rw [hg]
  simp [hpo, hdo, S71]
  generalize hc0 : codeF kind c inters = c0
  generalize htk : (AVal.agg [.i .i64 kind, .i .u8 c, .i .u8 mark, pv, .s inters, dv]) = tk
  have htkc : tk.cells = [.i .i64 kind, .i .u8 c, .i .u8 mark, pv, .s inters, dv] := by rw [← htk]; rfl
  refine WP_loop_st (S := Nat × Bool) (fun s => mkE [(1, .ptr n 0 0), (3, .b s.2), (23, .ptr (n + 1) 0 0)]) (fun s => hset (hset H n (some ⟨false, 6, [tk]⟩)) (n + 1) (some ⟨false, itc inters s.1, []⟩)) (fun _ => n + 1 + 1)
    (fun s => s.1 ≤ inters.length + 4 ∧ chkG c0 inters interB s.2 s.1) (fun s => inters.length + 8 - s.1) (0, c0) rfl (Heap.le.refl _) rfl ⟨by omega, chkG_init _ _ _⟩ ?_
  rintro ⟨i, g⟩ ⟨hi4, hcg⟩ hf' G hG
  by_cases hi : i < inters.length
  · simp only at hcg hi4
    have hstep : ∀ q, q = interB inters[i] → G (mkE [(1, .ptr n 0 0), (3, .b (g && q)), (23, .ptr (n + 1) 0 0)]) (hset (hset H n (some ⟨false, 6, [tk]⟩)) (n + 1) (some ⟨false, itc inters (i + (Utf8.decode ⟨inters.toArray⟩ i).2), []⟩)) (n + 1 + 1) := fun q hq => by
      subst hq
      by_cases hb : inters[i].toNat < 128
      · refine hG (i + (Utf8.decode ⟨inters.toArray⟩ i).2, g && interB inters[i]) rfl (Heap.le.refl _) rfl ⟨?_, ?_⟩ ?_
        · rw [decode_ascii hi hb]; show i + 1 ≤ _; omega
        · exact chkG_next hcg hi (fun _ => by rw [decode_ascii hi hb])
        · rw [decode_ascii hi hb]; show _ - (i + 1) < _ - i; omega
      · have := decode_great hi (by omega)
        refine hG (i + (Utf8.decode ⟨inters.toArray⟩ i).2, g && interB inters[i]) rfl (Heap.le.refl _) rfl ⟨?_, ?_⟩ ?_
        · show i + _ ≤ _; omega
        · exact chkG_next hcg hi (fun q => by simp [interB] at q; omega)
        · show _ - (i + _) < _ - i; omega
    have hint : interB inters[i] = decide (32 ≤ ((Utf8.decode ⟨inters.toArray⟩ i).1 : Int) ∧ ((Utf8.decode ⟨inters.toArray⟩ i).1 : Int) ≤ 47) := by
      by_cases hb : inters[i].toNat < 128
      · rw [decode_ascii hi hb]; simp only [interB]; rw [Bool.eq_iff_iff]; simp; omega
      · have := decode_great hi (by omega)
        simp only [interB]; rw [Bool.eq_iff_iff]; simp; omega
    have hi' : ¬ inters.length ≤ i := by omega
    cases g
    · simp [hi, hi', htkc, hset_hset]
      have := hstep _ rfl
      simpa using this
    · simp [hi, hi', htkc, S72, hset_hset]
      have := hstep _ hint.symm
      simpa using this
  · simp only at hcg hi4
    have hi' : inters.length ≤ i := by omega
    have hg1 := chkG_end hcg hi'
    simp [hi, hi', htkc, hpo, hdo, hpc, hdc, hdl]
    have hd2 : BytesAt (hset (hset H n (some ⟨false, 6, [tk]⟩)) (n + 1) (some ⟨false, itc inters i, []⟩)) dv data := hd.keep hf (((Keep.refl _ _).new (Nat.le_refl _)).new (by omega))
    generalize hH2 : hset (hset H n (some ⟨false, 6, [tk]⟩)) (n + 1) (some ⟨false, itc inters i, []⟩) = H2 at *
    have hH2n : H2 n = some ⟨false, 6, [tk]⟩ := by rw [← hH2, hset_ne _ _ (by omega)]; simp
    have hK2 : Keep H n H2 := by rw [← hH2]; exact ((Keep.refl _ _).new (Nat.le_refl _)).new (by omega)
    have hdlen : data.length ≤ 4096 := by simp [greatF] at hg; omega
    refine WP_loop_st (S := Nat × Bool) (fun s => mkE [(1, .ptr n 0 0), (3, .b s.2), (33, dv), (34, .i .i64 data.length), (35, .i .i64 s.1)]) (fun s => H2) (fun _ => n + 1 + 1)
      (fun s => s.1 ≤ data.length ∧ chkG g data dataB s.2 s.1) (fun s => data.length - s.1) (0, g) rfl (Heap.le.refl _) rfl ⟨by omega, chkG_init _ _ _⟩ ?_
    rintro ⟨j, g2⟩ ⟨hj4, hcg2⟩ hf2 G hG
    simp only at hcg2 hj4
    have hw : IntKind.i64.wrap ((j : Int) + 1) = (j : Int) + 1 := wrap_i64 (by omega) (by omega)
    by_cases hj : j < data.length
    · obtain ⟨a, off, ro, os, rfl, ha, hgt⟩ := bytes_at hd2 hj
      have hstep : ∀ q, dataB data[j] = q → G (mkE [(1, .ptr n 0 0), (3, .b (g2 && q)), (33, .sl a off data.length), (34, .i .i64 data.length), (35, .i .i64 (j + 1))]) H2 (n + 1 + 1) := fun q hq => by
        subst hq
        exact hG (j + 1, g2 && dataB data[j]) (by simp) (Heap.le.refl _) rfl ⟨by show j + 1 ≤ _; omega, chkG_next hcg2 hj (fun _ => rfl)⟩ (by show _ - (j + 1) < _ - j; omega)
      cases g2
      · simp [hj, ha, hgt, hw]
        have := hstep _ rfl
        simpa using this
      · simp [hj, ha, hgt, hw, S73]
        have := hstep _ rfl
        simpa [dataB] using this
    · have hg2 := chkG_end hcg2 (by omega)
      have hgood : g2 = goodF kind c inters data := by rw [hg2, hg1, ← hc0]; rfl
      have hk1 : 1 ≤ kind := by omega
      have hk9 : kind ≤ 9 := by omega
      have hcases : kind = 1 ∨ kind = 2 ∨ kind = 3 ∨ kind = 4 ∨ kind = 5 ∨ kind = 6 ∨ kind = 7 ∨ kind = 8 ∨ kind = 9 := by omega
      have hcF : ∀ b, (b = true ↔ (mark ≠ 0 ∧ ¬ (60 ≤ mark ∧ mark ≤ 63)) ∨ goodF kind c inters data = false ∨ restF kind mark ps inters data = false) → (if b then 3 else 0) = checkF kind c mark ps inters data := fun b hb => by
        unfold checkF
        rw [if_neg hr, hg]
        simp only [← hb, Bool.false_eq_true, if_false]
      rw [hgood]
      cases hgd : goodF kind c inters data
      · have h3 : (3 : Int) = checkF kind c mark ps inters data := hcF true (by simp [hgd])
        rcases hcases with rfl | rfl | rfl | rfl | rfl | rfl | rfl | rfl | rfl
        all_goals
          by_cases hm : mark = 0
          · simp [hj, hH2n, htkc, hpo, hdo, hpc, hdc, hdl, hm]
            exact hend _ _ _ h3 (by (repeat (refine Keep.new ?_ (by omega))); exact hK2)
          · by_cases hmi : 60 ≤ mark ∧ mark ≤ 63
            · simp [hj, hH2n, htkc, hpo, hdo, hpc, hdc, hdl, hm, S74, hmi]
              exact hend _ _ _ h3 (by (repeat (refine Keep.new ?_ (by omega))); exact hK2)
            · simp [hj, hH2n, htkc, hpo, hdo, hpc, hdc, hdl, hm, S74, hmi]
              exact hend _ _ _ h3 (by (repeat (refine Keep.new ?_ (by omega))); exact hK2)
      · have h3 : ∀ b, (b = true ↔ (mark ≠ 0 ∧ ¬ (60 ≤ mark ∧ mark ≤ 63)) ∨ restF kind mark ps inters data = false) → (if b then 3 else 0) = checkF kind c mark ps inters data := fun b hb => hcF b (by rw [hb, hgd]; simp)
        rcases hcases with rfl | rfl | rfl | rfl | rfl | rfl | rfl | rfl | rfl
        all_goals
          by_cases hm0 : mark = 0
          · simp [hj, hH2n, htkc, hpo, hdo, hpc, hdc, hdl, hm0, S75, hpl]
            first
              | (refine brK_b _ (fun hb => ?_) (fun hb => ?_)
                 · simp
                   exact hend _ _ _ (h3 true (by simp [restF, hm0] at hb ⊢; grind)) (by (repeat (refine Keep.new ?_ (by omega))); exact hK2)
                 · simp
                   exact hend _ _ _ (h3 false (by simp [restF, hm0] at hb ⊢; grind)) (by (repeat (refine Keep.new ?_ (by omega))); exact hK2))
              | exact hend _ _ _ (h3 false (by simp [restF, hm0])) (by (repeat (refine Keep.new ?_ (by omega))); exact hK2)
          · by_cases hmi : 60 ≤ mark ∧ mark ≤ 63
            · simp [hj, hH2n, htkc, hpo, hdo, hpc, hdc, hdl, hm0, hmi, S74, S75, hpl]
              first
                | (refine brK_b _ (fun hb => ?_) (fun hb => ?_)
                   · simp
                     exact hend _ _ _ (h3 true (by simp [restF, hm0, hmi] at hb ⊢; grind)) (by (repeat (refine Keep.new ?_ (by omega))); exact hK2)
                   · simp
                     exact hend _ _ _ (h3 false (by simp [restF, hm0, hmi] at hb ⊢; grind)) (by (repeat (refine Keep.new ?_ (by omega))); exact hK2))
                | exact hend _ _ _ (h3 false (by simp [restF, hm0, hmi])) (by (repeat (refine Keep.new ?_ (by omega))); exact hK2)
                | exact hend _ _ _ (h3 true (by simp [restF, hm0, hmi])) (by (repeat (refine Keep.new ?_ (by omega))); exact hK2)
            · simp [hj, hH2n, htkc, hpo, hdo, hpc, hdc, hdl, hm0, S74, hmi]
              exact hend _ _ _ (h3 true (by simp [hm0]; omega)) (by (repeat (refine Keep.new ?_ (by omega))); exact hK2))
end Go.AM.K
/- Tokens: copies; an answer's token. -/
set_option linter.unusedVariables false
set_option linter.unusedSimpArgs false
set_option maxRecDepth 100000
namespace Go.AM.K
attribute [local irreducible] hset Go.AM.killV
open Go.Proofs

/-- A copy of a slice: nil is nil. -/
def cloneK (v : AVal) (es : List AVal) (H : Heap) (n : Nat) (κ : Cont) : Prop := (v = .c (.slice none 0 0) ∧ es = [] ∧ κ (.c (.slice none 0 0)) H n) ∨ (0 < es.length ∧ newSl 1 es H n κ)
def S53 : Spec
  | [.agg [.i .i64 kind, .i .u8 c, .i .u8 mark, pv, .s inters, .c (.slice none 0 0)]], H, n, κ => ∃ ps, IntsAt H pv ps ∧ ps.length < 1000000000 ∧
      cloneK pv (intsA ps) H n (fun v H n => κ (.agg [.i .i64 kind, .i .u8 c, .i .u8 mark, v, .s inters, .c (.slice none 0 0)]) H n)
  | _, _, _, _ => False
set_option maxHeartbeats 4000000 in
theorem ok53 : SpecOK Tryd.prog 53 S53 := compF_ok hmix (tbl_cons_ok ok68 (tbl_cons_ok ok69 tbl_nil_ok)) e53 (fun args H n κ hf h => by
  unfold S53 at h
  split at h
  rotate_left
  · exact h.elim
  refine ⟨by simp, ?_⟩
  rename_i kind c mark pv inters
  obtain ⟨ps, hp, hlen, h⟩ := h
  have hpo := hp.one
  have hpc := hp.cells
  rcases h with ⟨rfl, h0, h⟩ | ⟨h0, h⟩
  · simp [c53, c53t1, c53t2, c53t3, r53]
    refine ⟨[], SlAt.nil _ _, by simp, by simp, .inl ⟨rfl, ?_⟩⟩
    simp
    refine ⟨[], SlAt.nil _ _, by simp, by simp, .inl ⟨rfl, ?_⟩⟩
    simp
    exact fin_nameless h rfl (by (repeat (refine Stay.new ?_ (by omega))); exact Stay.refl hf) (by simp)
  · simp [c53, c53t1, c53t2, c53t3, r53, hpo, hpc]
    refine ⟨intsA ps, hp.keep hf (by (repeat (refine Keep.new ?_ (by omega))); exact Keep.refl _ _), fun y hy => ⟨intsA_solid ps y hy, fun f => ?_⟩, by simp; omega, .inr ⟨h0, ?_⟩⟩
    · obtain ⟨p, _, rfl⟩ := List.mem_map.1 hy
      rfl
    simp [newSl, hpo, hpc]
    refine ⟨[], SlAt.nil _ _, by simp, by simp, .inl ⟨rfl, ?_⟩⟩
    simp [hpo, hpc]
    exact Fin.new1' (m := n + 1 + 1) h (by omega) (by simp) (fun f _ h2 => by simp [h2]) (fun f _ => by simp) (by (repeat (refine Stay.new ?_ (by omega))); exact Stay.refl hf))
end Go.AM.K
/- An answer's token. -/
set_option linter.unusedVariables false
set_option linter.unusedSimpArgs false
set_option maxRecDepth 100000
namespace Go.AM.K
attribute [local irreducible] hset Go.AM.killV
open Go.Proofs

/-! the parts of an id -/
def fnMark : List UInt8 → Int
  | a :: _ :: _ => if 60 ≤ a.toNat ∧ a.toNat ≤ 63 then a.toNat else 0
  | _ => 0
def fnRest : List UInt8 → List UInt8
  | a :: b :: r => if 60 ≤ a.toNat ∧ a.toNat ≤ 63 then b :: r else a :: b :: r
  | l => l
def fnInters (id : List UInt8) : List UInt8 := (fnRest id).take ((fnRest id).length - 1)
def fnCode (id : List UInt8) : Int := match (fnRest id).getLast? with | some c => c.toNat | none => 0
def clipI (x : Int) : Int := max 0 (min x 65535)
def clipP (ps : List Int) : List Int := (ps.take 30).map clipI ++ ps.drop 30
theorem clipP_len (ps : List Int) : (clipP ps).length = ps.length := by simp [clipP]; omega
def fnTok (kind : Int) (id : List UInt8) (pv : AVal) : AVal := .agg [.i .i64 kind, .i .u8 (fnCode id), .i .u8 (fnMark id), pv, .s (fnInters id), .c (.slice none 0 0)]
def S44 : Spec
  | [.i .i64 kind, .s id, pv], H, n, κ => ∃ ps, IntsAt H pv ps ∧ ps.length < 1000000000 ∧ id.length < 1000000000 ∧
      ((pv = .c (.slice none 0 0) ∧ ps = [] ∧ κ (fnTok kind id (.c (.slice none 0 0))) H n) ∨
       (0 < ps.length ∧ κ (fnTok kind id (.sl n 0 (min ps.length 30))) (hset H n (some ⟨false, 1, intsA (clipP ps)⟩)) (n + 1)))
  | _, _, _, _ => False
def clipS (ps : List Int) (i : Nat) : List Int := (ps.take i).map clipI ++ ps.drop i
theorem clipS_next {ps : List Int} {i : Nat} (h : i < ps.length) : (intsA (clipS ps i)).set i (.i .i64 (clipI ps[i])) = intsA (clipS ps (i + 1)) := by
  have h1 : ps.drop i = ps[i] :: ps.drop (i + 1) := List.drop_eq_getElem_cons h
  have h2 : ps.take (i + 1) = ps.take i ++ [ps[i]] := by rw [List.take_succ_eq_append_getElem h]
  have hl : ((ps.take i).map clipI).length = i := by simp; omega
  simp only [clipS, intsA, h2, List.map_append, h1, List.map_cons, List.map_nil]
  rw [List.set_append_right _ _ (by simp; omega)]
  simp only [List.length_map, List.length_take, Nat.min_eq_left (Nat.le_of_lt h), Nat.sub_self, List.set_cons_zero, List.append_assoc, List.cons_append, List.nil_append]
theorem clipS_get {ps : List Int} {i : Nat} (h : i < ps.length) : (intsA (clipS ps i))[i]? = some (.i .i64 ps[i]) := by
  have h1 : ps.drop i = ps[i] :: ps.drop (i + 1) := List.drop_eq_getElem_cons h
  simp only [clipS, intsA, List.map_append, h1, List.map_cons]
  rw [List.getElem?_append_right (by simp; omega)]
  simp [Nat.min_eq_left (Nat.le_of_lt h)]
set_option maxHeartbeats 4000000 in
theorem ok44 : SpecOK Tryd.prog 44 S44 := compF_ok hmix (tbl_cons_ok ok53 (tbl_cons_ok ok54 tbl_nil_ok)) e44 (fun args H n κ hf h => by
  unfold S44 at h
  split at h
  rotate_left
  · exact h.elim
  refine ⟨by simp, ?_⟩
  rename_i kind id pv
  obtain ⟨ps, hp, hlen, hid, h⟩ := h
  have hpo := hp.one
  have hpc := hp.cells
  -- what comes behind the id
  have tail0 : ∀ H1, ps = [] → κ (fnTok kind id (.c (.slice none 0 0))) H n → Keep H n H1 →
      H1 n = some ⟨false, 6, [.agg [.i .i64 0, .i .u8 0, .i .u8 0, .c (.slice none 0 0), .s [], .c (.slice none 0 0)]]⟩ → H1 (n + 1) = some ⟨false, 6, [fnTok kind id (.c (.slice none 0 0))]⟩ →
      WP (tbl [(53, S53), (54, S54)]) c44t4 (retQ r44 H n κ) (mkE [(6, .ptr n 0 0), (7, .ptr (n + 1) 0 0)]) H1 (n + 1 + 1) := by
    intro H1 h0 hk hK e0 e1
    have ht := fun v => (show fnTok kind id v = .agg [.i .i64 kind, .i .u8 (fnCode id), .i .u8 (fnMark id), v, .s (fnInters id), .c (.slice none 0 0)] from rfl)
    generalize fnCode id = c at ht
    generalize fnMark id = m at ht
    generalize fnInters id = l at ht
    rw [ht] at e1
    have hm : min (0 : Int) 30 = 0 := rfl
    simp [c44t4, c44t5, c44t6, c44t7, r44, S54, e0, e1, hm]
    refine WP_loop_st (S := Unit) (fun _ => mkE [(6, .ptr n 0 0), (7, .ptr (n + 1) 0 0), (61, .c (.slice none 0 0)), (62, .i .i64 0), (63, .i .i64 0)]) (fun _ => hset H1 (n + 1) (some ⟨false, 6, [.agg [.i .i64 kind, .i .u8 c, .i .u8 m, .c (.slice none 0 0), .s l, .c (.slice none 0 0)]]⟩)) (fun _ => n + 1 + 1) (fun _ => True) (fun _ => 0) () rfl (Heap.le.refl _) rfl trivial ?_
    intro _ _ hf' G hG
    simp [c44t4, c44t5, c44t6, c44t7, r44, S54, e0]
    rw [ht] at hk
    exact fin_nameless hk rfl (by (repeat (refine Stay.new ?_ (by omega))); exact Stay.keep hf hK) (by simp)
  -- the same, where there are numbers
  have tail1 : ∀ H1, 0 < ps.length → κ (fnTok kind id (.sl n 0 (min ps.length 30))) (hset H n (some ⟨false, 1, intsA (clipP ps)⟩)) (n + 1) → Keep H n H1 →
      H1 n = some ⟨false, 6, [.agg [.i .i64 0, .i .u8 0, .i .u8 0, .c (.slice none 0 0), .s [], .c (.slice none 0 0)]]⟩ → H1 (n + 1) = some ⟨false, 1, intsA ps⟩ → H1 (n + 1 + 1) = some ⟨false, 6, [fnTok kind id (.sl (n + 1) 0 ps.length)]⟩ →
      WP (tbl [(53, S53), (54, S54)]) c44t4 (retQ r44 H n κ) (mkE [(6, .ptr n 0 0), (7, .ptr (n + 1 + 1) 0 0)]) H1 (n + 1 + 1 + 1) := by
    intro H1 h0 hk hK e0 e1 e2
    have ht := fun v => (show fnTok kind id v = .agg [.i .i64 kind, .i .u8 (fnCode id), .i .u8 (fnMark id), v, .s (fnInters id), .c (.slice none 0 0)] from rfl)
    generalize fnCode id = c at ht
    generalize fnMark id = m at ht
    generalize fnInters id = l at ht
    rw [ht] at e2
    have hm : ((min ps.length 30 : Nat) : Int) = min (ps.length : Int) 30 := by omega
    have hm2 : (min (ps.length : Int) 30).toNat = min ps.length 30 := by omega
    have hm3 : 0 ≤ min (ps.length : Int) 30 := by omega
    have hm4 : min (ps.length : Int) 30 ≤ ps.length := by omega
    simp [c44t4, c44t5, c44t6, c44t7, r44, S54, e0, e1, e2, hm2, hm3, hm4]
    refine WP_loop_st (S := Nat) (fun i => mkE [(6, .ptr n 0 0), (7, .ptr (n + 1 + 1) 0 0), (61, .sl (n + 1) 0 (min ps.length 30)), (62, .i .i64 (min ps.length 30 : Nat)), (63, .i .i64 i)])
      (fun i => hset (hset H1 (n + 1 + 1) (some ⟨false, 6, [.agg [.i .i64 kind, .i .u8 c, .i .u8 m, .sl (n + 1) 0 (min ps.length 30), .s l, .c (.slice none 0 0)]]⟩)) (n + 1) (some ⟨false, 1, intsA (clipS ps i)⟩)) (fun _ => n + 1 + 1 + 1)
      (fun i => i ≤ min ps.length 30) (fun i => 30 - i) 0 (by simp) ?_ rfl (by omega) ?_
    · exact le_hset_self (by simp [e1, clipS])
    rintro i hi hf' G hG
    have hw : IntKind.i64.wrap ((i : Int) + 1) = (i : Int) + 1 := wrap_i64 (by omega) (by omega)
    by_cases hlt : i < min ps.length 30
    · have hlt' : (i : Int) < (min ps.length 30 : Nat) := by omega
      have hg := clipS_get (ps := ps) (i := i) (by omega)
      have hx : i < (intsA (clipS ps i)).length := by simp [clipS]; omega
      simp [c44t4, c44t5, c44t6, c44t7, r44, S54, hlt', hg, hw, hx]
      have := clipS_next (ps := ps) (i := i) (by omega)
      rw [clipI] at this
      rw [this]
      exact hG (i + 1) (by simp) (Heap.le.refl _) rfl (by omega) (by omega)
    · have hlt' : ¬ (i : Int) < (min ps.length 30 : Nat) := by omega
      simp [c44t4, c44t5, c44t6, c44t7, r44, S54, hlt', e0]
      have hi2 : i = min ps.length 30 := by omega
      have hcl : intsA (clipS ps i) = intsA (clipP ps) := by
        subst hi2
        unfold clipS clipP
        by_cases q : ps.length ≤ 30
        · rw [Nat.min_eq_left q, List.drop_eq_nil_of_le (Nat.le_refl _), List.drop_eq_nil_of_le q, List.take_of_length_le (Nat.le_refl _), List.take_of_length_le q]
        · rw [Nat.min_eq_right (by omega)]
      rw [ht] at hk
      exact Fin.new1' (m := n + 1) hk (by omega) (by simp [hcl]) (fun f _ h2 => by simp [h2]) (fun f _ => by simp) (by (repeat (refine Stay.new ?_ (by omega))); exact Stay.keep hf hK)
  have hK : ∀ o o', Keep H n (hset (hset H n o) (n + 1) o') := fun o o' => ((Keep.refl _ _).new (Nat.le_refl _)).new (by omega)
  have hK2 : ∀ o o' o'', Keep H n (hset (hset (hset H n o) (n + 1) o') (n + 1 + 1) o'') := fun o o' o'' => (((Keep.refl _ _).new (Nat.le_refl _)).new (by omega)).new (by omega)
  have hgl : ∀ (b : UInt8) (r : List UInt8), (b :: r)[r.length]? = (b :: r).getLast? := fun b r => by rw [List.getLast?_eq_getElem?]; rfl
  rcases h with ⟨rfl, rfl, h⟩ | ⟨h0, h⟩
  · rcases id with _ | ⟨a, _ | ⟨b, r⟩⟩
    · simp [c44, c44t1, c44t2, c44t3, r44, hpo, hpc]
      refine ⟨[], SlAt.nil _ _, by simp, .inl ⟨rfl, rfl, ?_⟩⟩
      simp [wrap_i64]
      refine tail0 _ rfl h (by (repeat (refine Keep.new ?_ (by omega))); exact Keep.refl _ _) ?_ ?_ <;> simp [fnTok, fnCode, fnMark, fnInters, fnRest]
    · by_cases h1 : (60 : Int) ≤ (a.toNat : Int) <;> by_cases h2 : (a.toNat : Int) ≤ 63
      all_goals
        have h1' : (60 ≤ a.toNat) = ((60 : Int) ≤ (a.toNat : Int)) := by simp; omega
        have h2' : (a.toNat ≤ 63) = ((a.toNat : Int) ≤ 63) := by simp; omega
        simp [c44, c44t1, c44t2, c44t3, r44, hpo, hpc]
        refine ⟨[], SlAt.nil _ _, by simp, .inl ⟨rfl, rfl, ?_⟩⟩
        simp [h1, h2, wrap_i64]
        (repeat refine And.intro (by omega) ?_)
        refine tail0 _ rfl h (by (repeat (refine Keep.new ?_ (by omega))); exact Keep.refl _ _) ?_ ?_ <;> simp [fnTok, fnCode, fnMark, fnInters, fnRest, h1', h2', h1, h2, List.getLast?_eq_getElem?]
    · simp only [List.length_cons] at hid
      have hw : IntKind.i64.wrap ((r.length : Int) + 1) = (r.length : Int) + 1 := wrap_i64 (by omega) (by omega)
      have hw2 : IntKind.i64.wrap (r.length : Int) = (r.length : Int) := wrap_i64 (by omega) (by omega)
      have hz : (0 : Int) ≤ (r.length : Int) + 1 := by omega
      have hz2 : (1 : Int) < (r.length : Int) + 1 + 1 := by omega
      by_cases h1 : (60 : Int) ≤ (a.toNat : Int) <;> by_cases h2 : (a.toNat : Int) ≤ 63
      all_goals
        have h1' : (60 ≤ a.toNat) = ((60 : Int) ≤ (a.toNat : Int)) := by simp; omega
        have h2' : (a.toNat ≤ 63) = ((a.toNat : Int) ≤ 63) := by simp; omega
        simp [c44, c44t1, c44t2, c44t3, r44, hpo, hpc]
        refine ⟨[], SlAt.nil _ _, by simp, .inl ⟨rfl, rfl, ?_⟩⟩
        simp [h1, h2, hw, hw2, hgl, hz, hz2]
        (repeat refine And.intro (by omega) ?_)
        refine tail0 _ rfl h (by (repeat (refine Keep.new ?_ (by omega))); exact Keep.refl _ _) ?_ ?_ <;> simp [fnTok, fnCode, fnMark, fnInters, fnRest, h1', h2', h1, h2, List.getLast?_eq_getElem?]
  · rcases id with _ | ⟨a, _ | ⟨b, r⟩⟩
    · simp [c44, c44t1, c44t2, c44t3, r44, hpo, hpc]
      refine ⟨ps, hp.keep hf (by (repeat (refine Keep.new ?_ (by omega))); exact Keep.refl _ _), by omega, .inr ⟨by simpa using h0, ?_⟩⟩
      simp [wrap_i64, newSl]
      refine tail1 _ h0 h (by (repeat (refine Keep.new ?_ (by omega))); exact Keep.refl _ _) ?_ ?_ ?_ <;> simp [fnTok, fnCode, fnMark, fnInters, fnRest]
    · by_cases h1 : (60 : Int) ≤ (a.toNat : Int) <;> by_cases h2 : (a.toNat : Int) ≤ 63
      all_goals
        have h1' : (60 ≤ a.toNat) = ((60 : Int) ≤ (a.toNat : Int)) := by simp; omega
        have h2' : (a.toNat ≤ 63) = ((a.toNat : Int) ≤ 63) := by simp; omega
        simp [c44, c44t1, c44t2, c44t3, r44, hpo, hpc]
        refine ⟨ps, hp.keep hf (by (repeat (refine Keep.new ?_ (by omega))); exact Keep.refl _ _), by omega, .inr ⟨by simpa using h0, ?_⟩⟩
        simp [h1, h2, wrap_i64, newSl]
        (repeat refine And.intro (by omega) ?_)
        refine tail1 _ h0 h (by (repeat (refine Keep.new ?_ (by omega))); exact Keep.refl _ _) ?_ ?_ ?_ <;> simp [fnTok, fnCode, fnMark, fnInters, fnRest, h1', h2', h1, h2, List.getLast?_eq_getElem?]
    · simp only [List.length_cons] at hid
      have hw : IntKind.i64.wrap ((r.length : Int) + 1) = (r.length : Int) + 1 := wrap_i64 (by omega) (by omega)
      have hw2 : IntKind.i64.wrap (r.length : Int) = (r.length : Int) := wrap_i64 (by omega) (by omega)
      have hz : (0 : Int) ≤ (r.length : Int) + 1 := by omega
      have hz2 : (1 : Int) < (r.length : Int) + 1 + 1 := by omega
      by_cases h1 : (60 : Int) ≤ (a.toNat : Int) <;> by_cases h2 : (a.toNat : Int) ≤ 63
      all_goals
        have h1' : (60 ≤ a.toNat) = ((60 : Int) ≤ (a.toNat : Int)) := by simp; omega
        have h2' : (a.toNat ≤ 63) = ((a.toNat : Int) ≤ 63) := by simp; omega
        simp [c44, c44t1, c44t2, c44t3, r44, hpo, hpc]
        refine ⟨ps, hp.keep hf (by (repeat (refine Keep.new ?_ (by omega))); exact Keep.refl _ _), by omega, .inr ⟨by simpa using h0, ?_⟩⟩
        simp [h1, h2, hw, hw2, hgl, hz, hz2, newSl]
        (repeat refine And.intro (by omega) ?_)
        refine tail1 _ h0 h (by (repeat (refine Keep.new ?_ (by omega))); exact Keep.refl _ _) ?_ ?_ ?_ <;> simp [fnTok, fnCode, fnMark, fnInters, fnRest, h1', h2', h1, h2, List.getLast?_eq_getElem?])
end Go.AM.K
/- The library's: texts joined, looked through, counted. -/
set_option linter.unusedVariables false
set_option linter.unusedSimpArgs false
set_option maxRecDepth 100000
namespace Go.AM.K
attribute [local irreducible] hset Go.AM.killV
open Go.Proofs Go.RowKit

theorem str_rel {ρ : Rho} {l : List UInt8} {u : Value} (h : VRel ρ (.s l) u) : u = .string ⟨l.toArray⟩ := h
def S30 : Spec
  | [v, .s sep], H, n, κ => ∃ ps, StrsAt H v ps ∧ ps.length ≤ 1000000000 ∧ (Lib.join ps sep).length ≤ 140737488355328 ∧ κ (.s (Lib.join ps sep)) H n
  | _, _, _, _ => False
theorem ok30 : SpecOK Tryd.prog 30 S30 := SpecOK.lift (fn := Tryd.f30) (by kernel_rfl) (by kernel_rfl) (by kernel_rfl) (fun args H n κ h ρ w vs hv hs hfr => by
  unfold S30 at h
  split at h
  rotate_left
  · exact h.elim
  rename_i v sep
  obtain ⟨ps, hp, hl, hj, h⟩ := h
  obtain ⟨x, y, rfl, hx, hy⟩ := rels_2 hv
  rw [str_rel hy]
  rcases slice_at hx hp hs (fun e he => by obtain ⟨p, _, rfl⟩ := List.mem_map.1 he; rfl) with ⟨h0, ad, cp, rfl⟩ | ⟨blk, o, cp, rfl, hcp, hblk, hc⟩
  · have : ps = [] := by simpa [strsA] using h0
    subst this
    refine (Tryd.strings_Join_none _ _ _ _).mono ?_
    rintro e w' ⟨rfl, rfl⟩
    exact ⟨_, rfl, .same hs hfr (.refl _ _) h rfl⟩
  · have hlen : (strsA ps).length = (ps.map fun l => (⟨l.toArray⟩ : ByteArray)).length := by simp
    have hmap : List.map (fun x => x.data.toList) (ps.map fun l => (⟨l.toArray⟩ : ByteArray)) = ps := by simp [Function.comp_def]
    have hcells : ∀ (j : Nat) x, (ps.map fun l => (⟨l.toArray⟩ : ByteArray))[j]? = some x → w.cell? ⟨blk, o + j, none⟩ = some (.string x) := fun j x hx => by
      rw [List.getElem?_map] at hx
      cases hg : ps[j]? with
      | none => rw [hg] at hx; exact absurd hx (by simp)
      | some l =>
        rw [hg] at hx
        simp only [Option.map_some, Option.some.injEq] at hx
        subst hx
        obtain ⟨x, hx1, hx2⟩ := hc j (.s l) (by simp [strsA, hg])
        rw [hx1, str_rel hx2]
    have hN : (ps.map fun l => (⟨l.toArray⟩ : ByteArray)).length ≤ 140737488355328 := by rw [List.length_map]; omega
    have hcap : (ps.map fun l => (⟨l.toArray⟩ : ByteArray)).length ≤ cp := by rw [List.length_map]; rw [strsA_length] at hcp; exact hcp
    have hj' : (Lib.join ((ps.map fun l => (⟨l.toArray⟩ : ByteArray)).map (·.data.toList)) (⟨sep.toArray⟩ : ByteArray).data.toList).length ≤ 140737488355328 := by rw [hmap]; exact hj
    have key := Tryd.strings_Join blk o cp (ps.map fun l => (⟨l.toArray⟩ : ByteArray)) ⟨sep.toArray⟩ w hcells hblk hN hcap hj'
    rw [hmap] at key
    rw [hlen]
    refine key.mono ?_
    rintro e w' ⟨rfl, hb⟩
    exact ⟨_, rfl, .same hs hfr hb h rfl⟩)

def S32 : Spec
  | [.s l, .i .u8 c], H, n, κ => κ (.i .i64 (Lib.indexByte l c.toNat.toUInt8)) H n
  | _, _, _, _ => False
theorem ok32 : SpecOK Tryd.prog 32 S32 := SpecOK.lift (fn := Tryd.f32) (by kernel_rfl) (by kernel_rfl) (by kernel_rfl) (fun args H n κ h ρ w vs hv hs hfr => by
  unfold S32 at h
  split at h
  rotate_left
  · exact h.elim
  rename_i l c
  obtain ⟨x, y, rfl, hx, hy⟩ := rels_2 hv
  rw [str_rel hx, (hy : y = .int .u8 c)]
  refine (Tryd.strings_IndexByte ⟨l.toArray⟩ c w).mono ?_
  rintro e w' ⟨rfl, rfl⟩
  exact ⟨_, rfl, .same hs hfr (.refl _ _) h rfl⟩)
def S49 : Spec
  | [.s l, .s m], H, n, κ => ∃ c, m = [c] ∧ κ (.i .i64 (Lib.indexByte l c)) H n
  | _, _, _, _ => False
theorem ok49 : SpecOK Tryd.prog 49 S49 := SpecOK.lift (fn := Tryd.f49) (by kernel_rfl) (by kernel_rfl) (by kernel_rfl) (fun args H n κ h ρ w vs hv hs hfr => by
  unfold S49 at h
  split at h
  rotate_left
  · exact h.elim
  rename_i l m
  obtain ⟨c, rfl, h⟩ := h
  obtain ⟨x, y, rfl, hx, hy⟩ := rels_2 hv
  rw [str_rel hx, str_rel hy]
  refine (Tryd.strings_Index_one ⟨l.toArray⟩ c w).mono ?_
  rintro e w' ⟨rfl, rfl⟩
  exact ⟨_, rfl, .same hs hfr (.refl _ _) h rfl⟩)
def S50 : Spec
  | [.s l, .s m], H, n, κ => ∃ c, m = [c] ∧ κ (.i .i64 (Lib.indexByte l c)) H n
  | _, _, _, _ => False
theorem ok50 : SpecOK Tryd.prog 50 S50 := SpecOK.lift (fn := Tryd.f50) (by kernel_rfl) (by kernel_rfl) (by kernel_rfl) (fun args H n κ h ρ w vs hv hs hfr => by
  unfold S50 at h
  split at h
  rotate_left
  · exact h.elim
  rename_i l m
  obtain ⟨c, rfl, h⟩ := h
  obtain ⟨x, y, rfl, hx, hy⟩ := rels_2 hv
  rw [str_rel hx, str_rel hy]
  refine (Tryd.stringslite_Index_one ⟨l.toArray⟩ c w).mono ?_
  rintro e w' ⟨rfl, rfl⟩
  exact ⟨_, rfl, .same hs hfr (.refl _ _) h rfl⟩)
def S48 : Spec
  | [.s l, .s m], H, n, κ => ∃ c, m = [c] ∧ κ (.i .i64 (Lib.countByte l c : Nat)) H n
  | _, _, _, _ => False
theorem ok48 : SpecOK Tryd.prog 48 S48 := SpecOK.lift (fn := Tryd.f48) (by kernel_rfl) (by kernel_rfl) (by kernel_rfl) (fun args H n κ h ρ w vs hv hs hfr => by
  unfold S48 at h
  split at h
  rotate_left
  · exact h.elim
  rename_i l m
  obtain ⟨c, rfl, h⟩ := h
  obtain ⟨x, y, rfl, hx, hy⟩ := rels_2 hv
  rw [str_rel hx, str_rel hy]
  refine (Tryd.strings_Count_one ⟨l.toArray⟩ c w).mono ?_
  rintro e w' ⟨rfl, rfl⟩
  exact ⟨_, rfl, .same hs hfr (.refl _ _) h rfl⟩)
end Go.AM.K
/- Numbers as a text. -/
set_option linter.unusedVariables false
set_option linter.unusedSimpArgs false
set_option maxRecDepth 100000
namespace Go.AM.K
attribute [local irreducible] hset Go.AM.killV
open Go.Proofs Go.RowKit

def fmtParts (ps : List Int) : List (List UInt8) := (ps.take 30).map fun p => smallF (clipI p)
def formatF (ps : List Int) : List UInt8 := Lib.join (fmtParts ps) [59]
theorem smallF_len (x : Int) : (smallF x).length ≤ 2 := by unfold smallF; split <;> simp
theorem joinTail_len (sep : List UInt8) (k : Nat) : ∀ r : List (List UInt8), (∀ x ∈ r, x.length ≤ k) → (Lib.joinTail sep r).length ≤ r.length * (sep.length + k)
  | [], _ => by simp [Lib.joinTail]
  | x :: r, h => by
    have h1 := joinTail_len sep k r (fun y hy => h y (List.mem_cons_of_mem _ hy))
    have h2 := h x (List.mem_cons_self ..)
    simp only [Lib.joinTail, List.map_cons, List.flatten_cons, List.length_append, List.length_cons, Nat.add_mul] at h1 ⊢
    omega
theorem join_len (sep : List UInt8) (k : Nat) (r : List (List UInt8)) (h : ∀ x ∈ r, x.length ≤ k) : (Lib.join r sep).length ≤ r.length * (sep.length + k) + k := by
  cases r with
  | nil => simp [Lib.join_nil]
  | cons x r =>
    rw [Lib.join_cons]
    have h1 := joinTail_len sep k r (fun y hy => h y (List.mem_cons_of_mem _ hy))
    have h2 := h x (List.mem_cons_self ..)
    simp only [List.length_append, List.length_cons, Nat.add_mul] at h1 ⊢
    omega
theorem formatF_len (ps : List Int) : (formatF ps).length ≤ 92 := by
  have h1 : (fmtParts ps).length ≤ 30 := by simp [fmtParts]; omega
  have h2 := join_len [59] 2 (fmtParts ps) (fun x hx => by obtain ⟨p, _, rfl⟩ := List.mem_map.1 hx; exact smallF_len _)
  unfold formatF
  simp only [List.length_cons, List.length_nil] at h2
  omega
def S58 : Spec
  | [pv], H, n, κ => ∃ ps, IntsAt H pv ps ∧ ps.length < 1000000000 ∧ (∀ p ∈ ps.take 30, clipI p < 100) ∧ κ (.s (formatF ps)) H n
  | _, _, _, _ => False
set_option maxHeartbeats 4000000 in
theorem ok58 : SpecOK Tryd.prog 58 S58 := compF_ok hmix (tbl_cons_ok ok54 (tbl_cons_ok ok30 (tbl_cons_ok ok76 tbl_nil_ok))) e58 (fun args H n κ hf h => by
  unfold S58 at h
  split at h
  rotate_left
  · exact h.elim
  refine ⟨by simp, ?_⟩
  rename_i pv
  obtain ⟨ps, hp, hlen, hsm, h⟩ := h
  have hpl := ints_len hp
  have hgo : ∀ a off ro os, pv = .sl a off ps.length → H a = some ⟨ro, 1, os⟩ → True := fun _ _ _ _ _ _ => trivial
  have hm2 : (min (ps.length : Int) 30).toNat = min ps.length 30 := by omega
  -- the slice of the first ones
  have hsl : ∃ sv, IntsAt H sv (ps.take 30) ∧ ((pv = .c (.slice none 0 0) ∧ sv = pv) ∨ ∃ a off ro os, pv = .sl a off ps.length ∧ H a = some ⟨ro, 1, os⟩ ∧ sv = .sl a off (min ps.length 30)) := by
    rcases hp.cases with ⟨rfl, h0⟩ | ⟨a, off, ro, os, rfl, ha, hle, he⟩
    · have : ps = [] := by simpa [intsA] using h0
      subst this
      exact ⟨_, SlAt.nil _ _, .inl ⟨rfl, rfl⟩⟩
    · simp only [intsA_length] at hle he ⊢
      refine ⟨.sl a off (min ps.length 30), SlAt.of ha (by omega) ?_, .inr ⟨a, off, ro, os, rfl, ha, rfl⟩⟩
      have : (min ps.length 30) = min (min ps.length 30) ps.length := by omega
      rw [this, ← List.take_take, he, intsA, ← List.map_take]
      congr 1
      rw [Nat.min_comm, ← List.take_take, List.take_of_length_le (Nat.le_refl _)]
  obtain ⟨sv, hsv, hcase⟩ := hsl
  have hlt30 : (ps.take 30).length ≤ 30 := by simp; omega
  have hL : (ps.take 30).length = min ps.length 30 := by simp; omega
  generalize hqs : ps.take 30 = qs at hsv hsm hlt30 hL
  have hfmt : formatF ps = Lib.join (qs.map fun p => smallF (clipI p)) [59] := by rw [formatF, fmtParts, hqs]
  rw [hfmt] at h
  have loop : ∀ Q : Post, (∀ out H' n' x, OwnAt 1 H' out (strsA (qs.map fun p => smallF (clipI p))) → Keep H n H' → Q (.exit 0) (mkE [(3, out), (10, sv), (11, .i .i64 qs.length), (12, .i .i64 x), (13, .b false)]) H' n') →
      WP (tbl [(54, S54), (30, S30), (76, S76)]) c58L0 Q (mkE [(3, .c (.slice none 0 0)), (10, sv), (11, .i .i64 qs.length), (12, .i .i64 0)]) H n := by
    intro Q hQ
    refine WP_loop_st (S := Nat × AVal × Heap × Nat) (fun s => mkE [(3, s.2.1), (10, sv), (11, .i .i64 qs.length), (12, .i .i64 s.1)]) (fun s => s.2.2.1) (fun s => s.2.2.2)
      (fun s => s.1 ≤ qs.length ∧ OwnAt 1 s.2.2.1 s.2.1 (strsA ((qs.map fun p => smallF (clipI p)).take s.1)) ∧ Keep H n s.2.2.1 ∧ n ≤ s.2.2.2 ∧ NewV n s.2.1) (fun s => qs.length - s.1) (0, .c (.slice none 0 0), H, n) rfl (Heap.le.refl _) rfl ⟨by omega, .nil _ _, .refl _ _, Nat.le_refl _, trivial⟩ ?_
    rintro ⟨i, out, Hc, N⟩ ⟨hi, ho, hk, hn, hnv⟩ hf' G hG
    simp only at hi ho hk hn hnv hf'
    by_cases hlt : i < qs.length
    · obtain ⟨a, off, ro, os, rfl, ha, hg⟩ := ints_at (hsv.keep hf hk) hlt
      have hw : IntKind.i64.wrap ((i : Int) + 1) = (i : Int) + 1 := wrap_i64 (by omega) (by omega)
      have ho' := fun o => (ho.new (m := N) (o := o) (hf' N (Nat.le_refl _))).own
      have hx := hsm qs[i] (List.getElem_mem hlt)
      have hx0 : 0 ≤ clipI qs[i] := by unfold clipI; omega
      simp only [clipI] at hx hx0
      simp [hlt, ha, hg, hw, S54]
      refine ⟨hx0, hx, ?_⟩
      have hmin : min i qs.length = i := by omega
      simp [ho', hw, hmin]
      refine ⟨by omega, ?_⟩
      refine hG (i + 1, _, _, _) rfl (Heap.le.refl _) rfl ⟨by show i + 1 ≤ _; omega, ?_, ?_, ?_, Nat.le_succ_of_le hn⟩ ?_
      · have h3 : List.take (i + 1) (qs.map fun p => smallF (clipI p)) = (qs.map fun p => smallF (clipI p)).take i ++ [smallF (max 0 (min qs[i] 65535))] := by
          rw [List.take_succ_eq_append_getElem (by simpa using hlt)]; simp [clipI]
        show OwnAt 1 _ _ (strsA (List.take (i + 1) _))
        rw [h3, strsA_append]
        refine OwnAt.here ?_
        simp
        omega
      · refine Keep.new (Keep.killV ?_ ?_) (Nat.le_succ_of_le hn)
        · exact hk.new hn
        · exact hnv
      · exact Nat.le_succ_of_le (Nat.le_succ_of_le hn)
      · show _ - (i + 1) < _ - i; omega
    · have hi2 : i = qs.length := by omega
      subst hi2
      simp
      rw [List.take_of_length_le (by simp)] at ho
      exact hQ out Hc N _ ho hk
  have fin : ∀ out H' n' x, OwnAt 1 H' out (strsA (qs.map fun p => smallF (clipI p))) → Keep H n H' → WP (tbl [(54, S54), (30, S30), (76, S76)]) c58t3 (retQ r58 H n κ) (mkE [(3, out), (10, sv), (11, .i .i64 qs.length), (12, .i .i64 x), (13, .b false)]) H' n' := by
    intro out H' n' x ho hk
    simp [c58t3, c58t4, r58, S54]
    refine ⟨_, ho.sl, by simp; omega, ?_, ?_⟩
    · rw [← hfmt]; have := formatF_len ps; omega
    · simp
      exact fin_nameless h rfl (Stay.keep hf hk) (by simp)
  rcases hcase with ⟨rfl, rfl⟩ | ⟨a, off, ro, os, rfl, ha, rfl⟩
  · have hq : qs = [] := by
      rcases hsv.cases with ⟨_, h0⟩ | ⟨a, off, ro, os, h1, _⟩
      · simpa [intsA] using h0
      · exact absurd h1 (by simp)
    subst hq
    simp [c58, c58t1, c58t2, r58, S54]
    refine ⟨rfl, ?_⟩
    exact loop _ (fun out H' n' x ho hk => fin out H' n' x ho hk)
  · simp [c58, c58t1, c58t2, r58, S54, ha, hm2]
    refine ⟨by omega, ?_⟩
    rw [hL] at loop fin
    exact loop _ (fun out H' n' x ho hk => fin out H' n' x ho hk))
end Go.AM.K
/- A token's bytes. -/
set_option linter.unusedVariables false
set_option linter.unusedSimpArgs false
set_option maxRecDepth 100000
namespace Go.AM.K
attribute [local irreducible] hset Go.AM.killV
open Go.Proofs Go.RowKit

def headF (kind : Int) (eight : Bool) : List UInt8 := if kind = 3 then [27] else pairF (opensF kind) eight
def oneF (c : Int) : List UInt8 := if c = 0 then [] else [u8 c]
def tailF (kind : Int) (data : List UInt8) (eight : Bool) : List UInt8 := if 5 ≤ kind then data ++ pairF 92 eight else []
def bytesF (kind c mark : Int) (ps : List Int) (inters data : List UInt8) (eight : Bool) : List UInt8 :=
  if kind = 1 ∨ kind = 2 then [u8 c] else if kind = 3 ∧ inters = [] then pairF c eight
  else headF kind eight ++ oneF mark ++ formatF ps ++ inters ++ oneF c ++ tailF kind data eight
theorem pairF_len (c : Int) (eight : Bool) : (pairF c eight).length ≤ 2 := by unfold pairF; split <;> simp
theorem pairF_ne (c : Int) (eight : Bool) : pairF c eight ≠ [] := by unfold pairF; split <;> simp
theorem oneF_len (c : Int) : (oneF c).length ≤ 1 := by unfold oneF; split <;> simp
theorem opensF_rng (k : Int) : 0 ≤ opensF k ∧ opensF k < 256 := by unfold opensF; repeat' split <;> omega
def S45 : Spec
  | [.agg [.i .i64 kind, .i .u8 c, .i .u8 mark, pv, .s inters, dv], .b eight], H, n, κ => ∃ ps data, IntsAt H pv ps ∧ BytesAt H dv data ∧ 0 ≤ c ∧ c < 256 ∧ 0 ≤ mark ∧ mark < 256 ∧ (∀ p ∈ ps.take 30, clipI p < 100) ∧
      ((checkF kind c mark ps inters data ≠ 0 ∧ κ (.tup [.c (.slice none 0 0), .i .i64 (checkF kind c mark ps inters data)]) H n) ∨
       (checkF kind c mark ps inters data = 0 ∧ κ (.tup [.sl n 0 (bytesF kind c mark ps inters data eight).length, .i .i64 0]) (hset H n (some ⟨false, 1, bytesA (bytesF kind c mark ps inters data eight)⟩)) (n + 1)))
  | _, _, _, _ => False
theorem bytes_one (l : List UInt8) : ∀ z ∈ bytesA l, ∀ x ∈ z.cells, x.one = true := by
  intro z hz
  obtain ⟨p, _, rfl⟩ := List.mem_map.1 hz
  simp
theorem u8_cast {c : Int} (h : 0 ≤ c) (h' : c < 256) : ((u8 c).toNat : Int) = c := by
  have := bytesA_u8 h h'
  simp [bytesA] at this
  omega
set_option maxHeartbeats 4000000 in
theorem ok45 : SpecOK Tryd.prog 45 S45 := compF_ok hmix (tbl_cons_ok ok55 (tbl_cons_ok ok56 (tbl_cons_ok ok57 (tbl_cons_ok ok58 tbl_nil_ok)))) e45 (fun args H n κ hf h => by
  unfold S45 at h
  split at h
  rotate_left
  · exact h.elim
  refine ⟨by simp, ?_⟩
  rename_i kind c mark pv inters dv eight
  obtain ⟨ps, data, hp, hd, hc0, hc1, hm0, hm1, hsm, h⟩ := h
  have hpo := hp.one
  have hdo := hd.one
  have hpc := hp.cells
  have hdc := hd.cells
  have hfr := fresh_new (o := some ⟨false, 6, [.agg [.i .i64 kind, .i .u8 c, .i .u8 mark, pv, .s inters, dv]]⟩) hf
  have hH0n : (hset H n (some ⟨false, 6, [.agg [.i .i64 kind, .i .u8 c, .i .u8 mark, pv, .s inters, dv]]⟩)) n = some ⟨false, 6, [.agg [.i .i64 kind, .i .u8 c, .i .u8 mark, pv, .s inters, dv]]⟩ := by simp
  have hK0 : Keep H n (hset H n (some ⟨false, 6, [.agg [.i .i64 kind, .i .u8 c, .i .u8 mark, pv, .s inters, dv]]⟩)) := (by (repeat (refine Keep.new ?_ (by omega))); exact Keep.refl _ _)
  have hp0 := hp.keep hf hK0
  have hd0 := hd.keep hf hK0
  rcases h with ⟨hck, h⟩ | ⟨hck, h⟩
  · simp [c45, c45t1, r45, S57, hpo, hdo, hpc, hdc]
    refine ⟨ps, data, hp0, hd0, ?_⟩
    simp [hck]
    exact fin_nameless h rfl (by (repeat (refine Stay.new ?_ (by omega))); exact Stay.refl hf) (by simp)
  generalize hres : bytesF kind c mark ps inters data eight = res at h
  generalize hH0 : hset H n (some ⟨false, 6, [.agg [.i .i64 kind, .i .u8 c, .i .u8 mark, pv, .s inters, dv]]⟩) = H0 at *
  have hg : greatF ps inters data.length = false := by
    cases q : greatF ps inters data.length with
    | false => rfl
    | true => unfold checkF at hck; rw [q] at hck; split at hck <;> simp at hck
  have hdlen : data.length ≤ 4096 := by simp [greatF] at hg; omega
  have hplen : ps.length ≤ 30 := by simp [greatF] at hg; omega
  have hilen : inters.length ≤ 3 := by simp [greatF] at hg; omega
  have hflen := formatF_len ps
  have t9 : ∀ l out H1 N e, e 7 = out → Bld 1 H0 (n + 1) (bytesA l) out H1 N → l ≠ [] → l = res → WP (tbl [(55, S55), (56, S56), (57, S57), (58, S58)]) c45t9 (retQ r45 H n κ) e H1 N := by
    intro l out H1 N e e7 hb hl he
    subst he
    obtain ⟨a, rfl, ha, hH⟩ := hb.fin (by intro q; exact hl (by simpa [bytesA] using q))
    simp [c45t9, c45t10, r45, S57, e7]
    have hK : Keep H n H1 := fun b o hb' e => hb.keep b o (by omega) (hK0 b o hb' e)
    exact Fin.new1' (m := a) h (by omega) hH (fun f _ h2 => by simp [h2]) (fun f _ => by simp) (Stay.keep hf hK)
  have t8 : ∀ l out H1 N e, e 1 = .b eight → e 2 = .ptr n 0 0 → e 7 = out → Bld 1 H0 (n + 1) (bytesA l) out H1 N → l ≠ [] → l.length ≤ 1000 → l ++ tailF kind data eight = res → WP (tbl [(55, S55), (56, S56), (57, S57), (58, S58)]) c45t8 (retQ r45 H n κ) e H1 N := by
    intro l out H1 N e e1 e2 e7 hb hl hll he
    have h1n : H1 n = some _ := hb.keep n _ (by omega) hH0n
    by_cases hk : 5 ≤ kind
    · have hd1 := (hd0.keep hfr hb.keep).els
      have ho := hb.own.own
      simp [c45t8, r45, S57, e1, e2, e7, h1n, hk, hd1, ho]
      refine ⟨bytes_one data, by omega, by omega, by omega, l ++ data, ?_, by simp; omega, ?_⟩
      · have := (hb.app (bytesA data)).own
        simpa using this
      · simp
        have hb2 := (hb.app (bytesA data)).app (bytesA (pairF 92 eight))
        simp only [List.append_assoc, ← bytesA_append, bytesA_length, List.length_append, killV_sl] at hb2
        refine t9 (l ++ (data ++ pairF 92 eight)) _ _ _ _ rfl ?_ (by simp [hl]) (by rw [← he]; simp [tailF, hk])
        simpa [Nat.add_assoc] using hb2
    · simp [c45t8, r45, S57, e1, e2, e7, h1n, hk]
      exact t9 l out H1 N _ rfl hb hl (by simpa [tailF, hk] using he)
  have t7 : ∀ l out H1 N e, e 1 = .b eight → e 2 = .ptr n 0 0 → e 7 = out → Bld 1 H0 (n + 1) (bytesA l) out H1 N → l ≠ [] → l.length ≤ 900 → l ++ oneF c ++ tailF kind data eight = res → WP (tbl [(55, S55), (56, S56), (57, S57), (58, S58)]) c45t7 (retQ r45 H n κ) e H1 N := by
    intro l out H1 N e e1 e2 e7 hb hl hll he
    have h1n : H1 n = some _ := hb.keep n _ (by omega) hH0n
    by_cases hk : c = 0
    · simp [c45t7, r45, S57, e1, e2, e7, h1n, hk]
      exact t8 l out H1 N _ rfl rfl rfl hb hl (by omega) (by simpa [oneF, hk] using he)
    · have ho := (hb.ext (H' := hset H1 N (some ⟨false, 1, [.i .u8 c]⟩)) (by (repeat (refine Keep.new ?_ (by omega))); exact Keep.refl _ _) (Nat.le_succ _) (fresh_new hb.fresh)).own.own
      have hb2 := hb.app' (bytesA [u8 c]) (H' := hset H1 N (some ⟨false, 1, [.i .u8 c]⟩)) (by (repeat (refine Keep.new ?_ (by omega))); exact Keep.refl _ _) (Nat.le_succ _) (fresh_new hb.fresh)
      simp [c45t7, r45, S57, e1, e2, e7, h1n, hk, ho]
      refine ⟨by omega, ?_⟩
      refine t8 (l ++ [u8 c]) _ _ _ _ rfl rfl rfl ?_ (by simp) (by simp; omega) (by simpa [oneF, hk] using he)
      simpa [bytesA, u8_cast hc0 hc1] using hb2
  have t6 : ∀ l out H1 N e, e 1 = .b eight → e 2 = .ptr n 0 0 → e 7 = out → Bld 1 H0 (n + 1) (bytesA l) out H1 N → l ≠ [] → l.length ≤ 100 → l ++ formatF ps ++ inters ++ oneF c ++ tailF kind data eight = res → WP (tbl [(55, S55), (56, S56), (57, S57), (58, S58)]) c45t6 (retQ r45 H n κ) e H1 N := by
    intro l out H1 N e e1 e2 e7 hb hl hll he
    have h1n : H1 n = some _ := hb.keep n _ (by omega) hH0n
    have ho := hb.own.own
    simp [c45t6, r45, S57, e1, e2, e7, h1n, ho]
    refine ⟨ps, hp0.keep hfr hb.keep, by omega, hsm, ?_⟩
    have hkn : killV H1 out n = some _ := (killV_old hb.new (by omega)).trans h1n
    have hnN : (n = N) = False := by have := hb.le; simp; omega
    have hnN1 : (n = N + 1) = False := by have := hb.le; simp; omega
    have htk : List.take (l.length + (formatF ps).length) (bytesA l ++ bytesA (formatF ps)) = bytesA l ++ bytesA (formatF ps) := List.take_of_length_le (by simp)
    simp [e1, e2, e7, h1n, ho, hkn, hnN, hnN1, htk]
    refine ⟨bytes_one _, by omega, bytes_one _, by omega, ?_⟩
    have hb2 := (hb.app (bytesA (formatF ps))).app (bytesA inters)
    refine t7 (l ++ formatF ps ++ inters) _ _ _ _ rfl rfl rfl ?_ (by simp [hl]) (by simp; omega) he
    simpa using hb2
  have t5 : ∀ l out H1 N e, e 1 = .b eight → e 2 = .ptr n 0 0 → e 7 = out → Bld 1 H0 (n + 1) (bytesA l) out H1 N → l ≠ [] → l.length ≤ 10 → l ++ oneF mark ++ formatF ps ++ inters ++ oneF c ++ tailF kind data eight = res → WP (tbl [(55, S55), (56, S56), (57, S57), (58, S58)]) c45t5 (retQ r45 H n κ) e H1 N := by
    intro l out H1 N e e1 e2 e7 hb hl hll he
    have h1n : H1 n = some _ := hb.keep n _ (by omega) hH0n
    by_cases hk : mark = 0
    · simp [c45t5, r45, S57, e1, e2, e7, h1n, hk]
      rw [oneF, if_pos hk, List.append_nil] at he
      exact t6 l out H1 N _ rfl rfl rfl hb hl (by omega) he
    · have ho := (hb.ext (H' := hset H1 N (some ⟨false, 1, [.i .u8 mark]⟩)) (by (repeat (refine Keep.new ?_ (by omega))); exact Keep.refl _ _) (Nat.le_succ _) (fresh_new hb.fresh)).own.own
      have hb2 := hb.app' (bytesA [u8 mark]) (H' := hset H1 N (some ⟨false, 1, [.i .u8 mark]⟩)) (by (repeat (refine Keep.new ?_ (by omega))); exact Keep.refl _ _) (Nat.le_succ _) (fresh_new hb.fresh)
      simp [c45t5, r45, S57, e1, e2, e7, h1n, hk, ho]
      refine ⟨by omega, ?_⟩
      refine t6 (l ++ [u8 mark]) _ _ _ _ rfl rfl rfl ?_ (by simp) (by simp; omega) (by rw [oneF, if_neg hk] at he; exact he)
      simpa [bytesA, u8_cast hm0 hm1] using hb2
  have hK0' : Keep H n H0 := hK0
  have hb0 := Bld.nil (sz := 1) hfr
  have hkr : ¬ (kind < 1 ∨ 9 < kind) := fun q => by unfold checkF at hck; rw [if_pos q] at hck; simp at hck
  simp [c45, r45, S57, hpo, hdo, hpc, hdc, hH0]
  simp [c45t1, hpo, hdo, hpc, hdc, hH0n]
  refine ⟨ps, data, hp0, hd0, ?_⟩
  simp [hck]
  by_cases hk12 : kind = 1 ∨ kind = 2
  · have hk12' : (decide (kind = 1) || decide (kind = 2)) = true := by simpa using hk12
    simp [c45t2, r45, S57, hpo, hdo, hpc, hdc, hH0n, hk12']
    have hr1 : res = [u8 c] := by rw [← hres, bytesF, if_pos hk12]
    rw [hr1] at h
    exact Fin.new1' (m := n + 1) h (by omega) (by simp [bytesA, u8_cast hc0 hc1]) (fun f _ h2 => by simp [h2]) (fun f _ => by simp) ((Stay.keep hf hK0).new (by omega))
  have hk12' : (decide (kind = 1) || decide (kind = 2)) = false := by simpa using hk12
  by_cases hk3 : kind = 3
  · subst hk3
    by_cases hin : inters = []
    · subst hin
      simp [c45t2, c45t3, c45t4, r45, S57, hpo, hdo, hpc, hdc, hH0n, hk12']
      refine ⟨hc0, hc1, [], .nil _ _, by simp, ?_⟩
      simp
      have hr1 : res = pairF c eight := by rw [← hres]; simp [bytesF]
      rw [hr1] at h
      exact Fin.new1' (m := n + 1) h (by omega) (by simp) (fun f _ h2 => by simp [h2]) (fun f _ => by simp) ((Stay.keep hf hK0).new (by omega))
    · have hin' : (inters == []) = false := by simpa using hin
      simp [c45t2, c45t3, c45t4, r45, S57, hpo, hdo, hpc, hdc, hH0n, hk12', hin', hin]
      have hb1 := hb0.app' (bytesA [27]) (H' := hset H0 (n + 1) (some ⟨false, 1, [.i .u8 27]⟩)) (by (repeat (refine Keep.new ?_ (by omega))); exact Keep.refl _ _) (Nat.le_succ _) (fresh_new hfr)
      refine t5 [27] (.sl (n + 1 + 1) 0 1) _ _ _ ?_ ?_ ?_ ?_ (by simp) (by simp) ?_
      rotate_left 3
      · simpa [bytesA] using hb1
      · rw [← hres, bytesF, if_neg hk12, if_neg (fun q => hin q.2)]; simp [headF]
      all_goals rfl
  · simp [c45t2, c45t3, c45t4, r45, S57, hpo, hdo, hpc, hdc, hH0n, hk12', hk3]
    refine ⟨(opensF_rng kind).1, (opensF_rng kind).2, [], .nil _ _, by simp, ?_⟩
    simp
    have hb1 := hb0.app (bytesA (pairF (opensF kind) eight))
    refine t5 (pairF (opensF kind) eight) (.sl (n + 1) 0 (pairF (opensF kind) eight).length) _ _ _ ?_ ?_ ?_ ?_ (pairF_ne _ _) (by have := pairF_len (opensF kind) eight; omega) ?_
    rotate_left 3
    · simpa using hb1
    · rw [← hres, bytesF, if_neg hk12, if_neg (fun q => hk3 q.1)]; simp [headF, hk3]
    all_goals rfl)
end Go.AM.K
/- Answers; keys that send sequences. -/
set_option linter.unusedVariables false
set_option linter.unusedSimpArgs false
set_option maxRecDepth 100000
namespace Go.AM.K
attribute [local irreducible] hset Go.AM.killV
open Go.Proofs Go.RowKit

def csiPs (ps : List Int) : List Int := (ps.take 30).map clipI
def csiF (eight : Bool) (id : List UInt8) (ps : List Int) : List UInt8 := bytesF 4 (fnCode id) (fnMark id) (csiPs ps) (fnInters id) [] eight
theorem clipI_rng (x : Int) : 0 ≤ clipI x ∧ clipI x ≤ 65535 := by unfold clipI; omega
theorem clipI_clipI (x : Int) : clipI (clipI x) = clipI x := by unfold clipI; omega
theorem fnCode_rng (id : List UInt8) : 0 ≤ fnCode id ∧ fnCode id < 256 := by
  unfold fnCode
  split
  · rename_i c _; have := c.toNat_lt; omega
  · omega
theorem fnMark_rng (id : List UInt8) : 0 ≤ fnMark id ∧ fnMark id < 256 := by
  unfold fnMark
  split
  · split <;> omega
  · omega
def S31 : Spec
  | [.b eight, .s id, pv], H, n, κ => ∃ ps, IntsAt H pv ps ∧ ps.length < 1000000000 ∧ id.length < 1000000000 ∧ (∀ p ∈ ps.take 30, clipI p < 100) ∧
      checkF 4 (fnCode id) (fnMark id) (csiPs ps) (fnInters id) [] = 0 ∧ ((pv = .c (.slice none 0 0) ∧ ps = []) ∨ 0 < ps.length) ∧ retBytes (some (csiF eight id ps)) H n κ
  | _, _, _, _ => False
set_option maxHeartbeats 4000000 in
theorem ok31 : SpecOK Tryd.prog 31 S31 := compF_ok hmix (tbl_cons_ok ok44 (tbl_cons_ok ok45 tbl_nil_ok)) e31 (fun args H n κ hf h => by
  unfold S31 at h
  split at h
  rotate_left
  · exact h.elim
  refine ⟨by simp, ?_⟩
  rename_i eight id pv
  obtain ⟨ps, hp, hlen, hid, hsm, hck, hc, h⟩ := h
  have hcode := fnCode_rng id
  have hmark := fnMark_rng id
  rcases hc with ⟨rfl, rfl⟩ | h0
  · simp [c31, c31t1, c31t2, c31t3, r31]
    refine ⟨[], .nil _ _, by simp, hid, .inl ⟨rfl, rfl, ?_⟩⟩
    simp
    refine ⟨[], [], .nil _ _, .nil _ _, hcode.1, hcode.2, hmark.1, hmark.2, by simp, .inr ⟨hck, ?_⟩⟩
    simp
    exact fin_bytes (m := n) hf h (by omega) rfl (by simp [csiF, csiPs]) (by (repeat (refine Keep.new ?_ (by omega))); exact Keep.refl _ _)
  · simp [c31, c31t1, c31t2, c31t3, r31]
    refine ⟨ps, hp, by omega, hid, .inr ⟨h0, ?_⟩⟩
    simp
    refine ⟨csiPs ps, [], SlAt.of (ro := false) (os := intsA (clipP ps)) (by simp) (by simp [clipP_len]; omega) ?_, .nil _ _, hcode.1, hcode.2, hmark.1, hmark.2, ?_, .inr ⟨hck, ?_⟩⟩
    · simp only [List.drop_zero, intsA, ← List.map_take]
      congr 1
      simp only [clipP, csiPs]
      rw [List.take_append_of_le_length (by simp; omega), List.take_of_length_le (by simp; omega)]
    · intro p hp'
      have hp2 := List.mem_of_mem_take hp'
      obtain ⟨q, hq, rfl⟩ := List.mem_map.1 hp2
      rw [clipI_clipI]; exact hsm q hq
    · simp
      exact fin_bytes (m := n + 1) hf h (by omega) rfl (by simp [csiF]) (by (repeat (refine Keep.new ?_ (by omega))); exact Keep.refl _ _))

def singleF (eight : Bool) (c : Int) : List UInt8 := pairF 79 eight ++ [u8 c]
def S33 : Spec
  | [.b eight, .i .u8 c], H, n, κ => 0 ≤ c ∧ c < 256 ∧ retBytes (some (singleF eight c)) H n κ
  | _, _, _, _ => False
set_option maxHeartbeats 4000000 in
theorem ok33 : SpecOK Tryd.prog 33 S33 := compF_ok hmix (tbl_cons_ok ok45 tbl_nil_ok) e33 (fun args H n κ hf h => by
  unfold S33 at h
  split at h
  rotate_left
  · exact h.elim
  refine ⟨by simp, ?_⟩
  rename_i eight c
  obtain ⟨h0, h1, h⟩ := h
  simp [c33, c33t1, c33t2, c33t3, r33]
  refine ⟨[], [], .nil _ _, .nil _ _, by omega, by omega, by omega, by omega, by simp, .inr ⟨by decide, ?_⟩⟩
  simp
  have hb : bytesF 3 79 0 [] [] [] eight = pairF 79 eight := by simp [bytesF]
  have hl := pairF_len 79 eight
  simp [hb]
  refine ⟨by omega, ?_⟩
  refine fin_bytes (m := n + 1 + 1) hf h (by omega) (by simp [singleF]) (by simp [singleF, bytesA, u8_cast h0 h1]) (by (repeat (refine Keep.new ?_ (by omega))); exact Keep.refl _ _))
end Go.AM.K
/- Keys that send sequences. -/
set_option linter.unusedVariables false
set_option linter.unusedSimpArgs false
set_option maxRecDepth 100000
namespace Go.AM.K
attribute [local irreducible] hset Go.AM.killV
open Go.Proofs Go.RowKit

theorem wideF_clip (x : Int) : wideF (clipI x) = false := by unfold wideF clipI; simp; omega
theorem check_csi {c : Int} (h : 64 ≤ c) (h' : c ≤ 126) (ps : List Int) : checkF 4 c 0 (csiPs ps) [] [] = 0 := by
  have hl : (csiPs ps).length ≤ 30 := by simp [csiPs]; omega
  have hw : (csiPs ps).any wideF = false := by
    rw [← Bool.not_eq_true, List.any_eq_true]
    rintro ⟨x, hx, hw⟩
    obtain ⟨q, _, rfl⟩ := List.mem_map.1 hx
    rw [wideF_clip] at hw
    exact absurd hw (by simp)
  have hg : greatF (csiPs ps) [] 0 = false := by simp [greatF, hw]; omega
  simp [checkF, hg, goodF, codeF, restF, h, h']

/-- What a board is to a key's function: the names of its parts. -/
def tabF (sh : Bool) (lev : Int) (ei : Bool) : List UInt8 := if sh = true ∧ 2 ≤ lev then csiF ei [90] [] else [9]
def S19 : Spec
  | [.agg [.i .i64 kind, .i .u8 c, .b sh, .b ct, .i .u32 m, .i .i64 lev, .b ei, .ptr p 0 0]], H, n, κ => retBytes (some (tabF sh lev ei)) H n κ
  | _, _, _, _ => False
set_option maxHeartbeats 4000000 in
theorem ok19 : SpecOK Tryd.prog 19 S19 := compF_ok hmix (tbl_cons_ok ok31 tbl_nil_ok) e19 (fun args H n κ hf h => by
  unfold S19 at h
  split at h
  rotate_left
  · exact h.elim
  refine ⟨by simp, ?_⟩
  rename_i kind c sh ct m lev ei p
  by_cases hs : sh = true ∧ 2 ≤ lev
  · obtain ⟨rfl, hl⟩ := hs
    rw [tabF, if_pos ⟨rfl, hl⟩] at h
    simp [c19, c19t1, c19t2, c19t3, r19, hl]
    refine ⟨[], .nil _ _, by simp, by simp, by simp, check_csi (by decide) (by decide) [], .inl ⟨rfl, rfl⟩, ?_⟩
    simp [retBytes]
    exact fin_bytes (m := n + 1) hf h (by omega) rfl (by simp) (by (repeat (refine Keep.new ?_ (by omega))); exact Keep.refl _ _)
  · rw [tabF, if_neg hs] at h
    have hs' : (sh && decide (2 ≤ lev)) = false := by cases sh <;> simp at hs ⊢; omega
    simp [c19, c19t1, c19t2, c19t3, r19, hs']
    exact fin_bytes (m := n + 1) hf h (by omega) rfl (by simp [bytesA]) (by (repeat (refine Keep.new ?_ (by omega))); exact Keep.refl _ _))
def arrowF (kind : Int) (m : Int) (ei : Bool) : List UInt8 := if hasM m 4 = true then singleF ei (60 + kind) else csiF ei [u8 (60 + kind)] []
def S24 : Spec
  | [.agg [.i .i64 kind, .i .u8 c, .b sh, .b ct, .i .u32 m, .i .i64 lev, .b ei, .ptr p 0 0]], H, n, κ => 5 ≤ kind ∧ kind ≤ 8 ∧ retBytes (some (arrowF kind m ei)) H n κ
  | _, _, _, _ => False
set_option maxHeartbeats 4000000 in
theorem ok24 : SpecOK Tryd.prog 24 S24 := compF_ok hmix (tbl_cons_ok ok31 (tbl_cons_ok ok33 (tbl_cons_ok ok7 tbl_nil_ok))) e24 (fun args H n κ hf h => by
  unfold S24 at h
  split at h
  rotate_left
  · exact h.elim
  refine ⟨by simp, ?_⟩
  rename_i kind c sh ct m lev ei p
  obtain ⟨hk0, hk1, h⟩ := h
  have hw : IntKind.i64.wrap (65 + kind) = 65 + kind := wrap_i64 (by omega) (by omega)
  have hw2 : IntKind.i64.wrap (65 + kind - 5) = 60 + kind := by rw [wrap_i64 (by omega) (by omega)]; omega
  have hw3 : IntKind.u8.wrap (60 + kind) = 60 + kind := wrap_u8 (by omega) (by omega)
  cases hm : hasM m 4
  · rw [arrowF, hm, if_neg (by simp)] at h
    have hr1 : rdB [.i .u8 (60 + kind)] = some [u8 (60 + kind)] := by simp [u8]; omega
    simp [c24, c24t1, c24t2, c24t3, c24t4, r24, S7, hw, hw2, hw3, hm, -rdB_cons, hr1]
    have hcd : fnCode [u8 (60 + kind)] = 60 + kind := by simp [fnCode, fnRest]; exact u8_cast (by omega) (by omega)
    refine ⟨[], .nil _ _, by simp, by simp, by simp, by rw [hcd]; exact check_csi (by omega) (by omega) [], .inl ⟨rfl, rfl⟩, ?_⟩
    simp [retBytes]
    exact fin_bytes (m := n + 1 + 1) hf h (by omega) rfl (by simp) (by (repeat (refine Keep.new ?_ (by omega))); exact Keep.refl _ _)
  · rw [arrowF, hm, if_pos rfl] at h
    simp [c24, c24t1, c24t2, c24t3, c24t4, r24, S7, hw, hw2, hw3, hm]
    refine ⟨by omega, by omega, ?_⟩
    simp [retBytes]
    exact fin_bytes (m := n + 1) hf h (by omega) rfl (by simp) (by (repeat (refine Keep.new ?_ (by omega))); exact Keep.refl _ _))
def S36 : Spec
  | [.agg [.i .i64 kind, .i .u8 c, .b sh, .b ct, .i .u32 m, .i .i64 lev, .b ei, .ptr p 0 0], .i .i64 x], H, n, κ => 0 ≤ x ∧ x < 100 ∧ retBytes (some (csiF ei [126] [x])) H n κ
  | _, _, _, _ => False
set_option maxHeartbeats 4000000 in
theorem ok36 : SpecOK Tryd.prog 36 S36 := compF_ok hmix (tbl_cons_ok ok31 tbl_nil_ok) e36 (fun args H n κ hf h => by
  unfold S36 at h
  split at h
  rotate_left
  · exact h.elim
  refine ⟨by simp, ?_⟩
  rename_i kind c sh ct m lev ei p x
  obtain ⟨h0, h1, h⟩ := h
  simp [c36, c36t1, c36t2, r36]
  refine ⟨[x], SlAt.of (ro := false) (os := [.i .i64 x]) (by simp) (by simp) (by simp), by simp, by simp, by simp [clipI]; omega, check_csi (by decide) (by decide) [x], .inr (by simp), ?_⟩
  simp [retBytes]
  exact fin_bytes (m := n + 1 + 1) hf h (by omega) rfl (by simp) (by (repeat (refine Keep.new ?_ (by omega))); exact Keep.refl _ _))
def editF (kind lev : Int) (ei : Bool) : Option (List UInt8) := if lev < 2 then none else some (csiF ei [126] [kind - 8])
def S25 : Spec
  | [.agg [.i .i64 kind, .i .u8 c, .b sh, .b ct, .i .u32 m, .i .i64 lev, .b ei, .ptr p 0 0]], H, n, κ => 9 ≤ kind ∧ kind ≤ 14 ∧ retBytes (editF kind lev ei) H n κ
  | _, _, _, _ => False
set_option maxHeartbeats 4000000 in
theorem ok25 : SpecOK Tryd.prog 25 S25 := compF_ok hmix (tbl_cons_ok ok36 tbl_nil_ok) e25 (fun args H n κ hf h => by
  unfold S25 at h
  split at h
  rotate_left
  · exact h.elim
  refine ⟨by simp, ?_⟩
  rename_i kind c sh ct m lev ei p
  obtain ⟨h0, h1, h⟩ := h
  have hw : IntKind.i64.wrap (kind - 9) = kind - 9 := wrap_i64 (by omega) (by omega)
  have hw2 : IntKind.i64.wrap (kind - 9 + 1) = kind - 8 := by rw [wrap_i64 (by omega) (by omega)]; omega
  by_cases hl : lev < 2
  · rw [editF, if_pos hl] at h
    simp [c25, c25t1, c25t2, c25t3, r25, hl]
    exact fin_nil hf h (by (repeat (refine Keep.new ?_ (by omega))); exact Keep.refl _ _)
  · rw [editF, if_neg hl] at h
    simp [c25, c25t1, c25t2, c25t3, r25, hl, hw, hw2]
    refine ⟨by omega, by omega, ?_⟩
    simp [retBytes]
    exact fin_bytes (m := n + 1) hf h (by omega) rfl (by simp) (by (repeat (refine Keep.new ?_ (by omega))); exact Keep.refl _ _))
end Go.AM.K
/- Keys: the pad, function keys. -/
set_option linter.unusedVariables false
set_option linter.unusedSimpArgs false
set_option maxRecDepth 100000
namespace Go.AM.K
attribute [local irreducible] hset Go.AM.killV
open Go.Proofs Go.RowKit

/-- Keys' texts, in memory. -/
def KeysAt (H : Heap) (u : Nat) (ts : List (List UInt8)) (lk : Bool) : Prop := ∃ ro, H u = some ⟨ro, 19, [.agg (strsA ts ++ [.b lk])]⟩ ∧ ts.length = 18
theorem KeysAt.keep {H H' : Heap} {n u : Nat} {ts : List (List UInt8)} {lk : Bool} (h : KeysAt H u ts lk) (hf : ∀ m, n ≤ m → H m = none) (hk : Keep H n H') : KeysAt H' u ts lk := by
  obtain ⟨ro, h1, h2⟩ := h
  exact ⟨ro, hk _ _ (lt_of_live hf h1) h1, h2⟩
def getF (ts : List (List UInt8)) (k : Int) : List UInt8 := if isKey k = true then ts.getD (k - 17).toNat [] else []
theorem isKey_rng {k : Int} (h : isKey k = true) : 17 ≤ k ∧ k ≤ 34 := by simp [isKey] at h; omega
def S35 : Spec
  | [.ptr u 0 0, .i .i64 k], H, n, κ => ∃ ts lk, KeysAt H u ts lk ∧ κ (.tup [.s (getF ts k), .b (getF ts k != [])]) H n
  | _, _, _, _ => False
set_option maxHeartbeats 4000000 in
theorem ok35 : SpecOK Tryd.prog 35 S35 := compF_ok hmix (tbl_cons_ok ok39 tbl_nil_ok) e35 (fun args H n κ hf h => by
  unfold S35 at h
  split at h
  rotate_left
  · exact h.elim
  refine ⟨by simp, ?_⟩
  rename_i u k
  obtain ⟨ts, lk, ⟨ro, hu, hl⟩, h⟩ := h
  cases hk : isKey k
  · rw [getF, if_neg (by simp [hk])] at h
    simp [c35, c35t1, c35t2, c35t3, c35t4, r35, S39, hk]
    exact fin_nameless h (by simp) (by (repeat (refine Stay.new ?_ (by omega))); exact Stay.refl hf) (by simp)
  · have hr := isKey_rng hk
    have hw : IntKind.i64.wrap (k - 17) = k - 17 := wrap_i64 (by omega) (by omega)
    have h0 : 17 ≤ k := by omega
    have h1 : k - 17 < 18 := by omega
    have hg : (strsA ts ++ [.b lk])[(k - 17).toNat]? = some (.s (getF ts k)) := by
      rw [List.getElem?_append_left (by simp; omega), getF, if_pos hk]
      simp [strsA, List.getD_eq_getElem?_getD]
      rw [List.getElem?_eq_getElem (by omega)]
      simp
    simp [c35, c35t1, c35t2, c35t3, c35t4, r35, S39, hk, hw, hu, h0, h1, hg]
    exact fin_nameless h (by simp) (by (repeat (refine Stay.new ?_ (by omega))); exact Stay.refl hf) (by simp))

def padsL : List UInt8 := [48, 49, 50, 51, 52, 53, 54, 55, 56, 57, 45, 44, 46, 13]
def appsL : List UInt8 := [112, 113, 114, 115, 116, 117, 118, 119, 120, 121, 109, 108, 110, 77]
def padF (c m : Int) (ei : Bool) : Option (List UInt8) :=
  if Lib.indexByte padsL (u8 c) < 0 then none
  else if hasM m 12 = true then some (singleF ei (appsL.getD (Lib.indexByte padsL (u8 c)).toNat 0).toNat)
  else if c = 13 then some (enterF m) else some [u8 c]
theorem indexByte_lt (l : List UInt8) (c : UInt8) : Lib.indexByte l c < l.length ∨ Lib.indexByte l c = -1 := by
  have h1 := Lib.indexByte_ge l c
  by_cases h : Lib.indexByte l c = -1
  · exact .inr h
  · left
    have h2 : Lib.indexByte l c = ((Lib.indexByte l c).toNat : Int) := by omega
    have := (Lib.indexByte_some (o := (Lib.indexByte l c).toNat) h2).1
    have h3 : (Lib.indexByte l c).toNat < l.length := by
      rcases Nat.lt_or_ge (Lib.indexByte l c).toNat l.length with q | q
      · exact q
      · rw [List.getElem?_eq_none q] at this; exact absurd this (by simp)
    omega
def S22 : Spec
  | [.agg [.i .i64 kind, .i .u8 c, .b sh, .b ct, .i .u32 m, .i .i64 lev, .b ei, .ptr p 0 0]], H, n, κ => 0 ≤ c ∧ c < 256 ∧ retBytes (padF c m ei) H n κ
  | _, _, _, _ => False
set_option maxHeartbeats 4000000 in
theorem ok22 : SpecOK Tryd.prog 22 S22 := compF_ok hmix (tbl_cons_ok ok32 (tbl_cons_ok ok7 (tbl_cons_ok ok33 (tbl_cons_ok ok18 tbl_nil_ok)))) e22 (fun args H n κ hf h => by
  unfold S22 at h
  split at h
  rotate_left
  · exact h.elim
  refine ⟨by simp, ?_⟩
  rename_i kind c sh ct m lev ei p
  obtain ⟨h0, h1, h⟩ := h
  have hu : c.toNat.toUInt8 = u8 c := rfl
  have hi := indexByte_lt padsL (u8 c)
  have hge := Lib.indexByte_ge padsL (u8 c)
  unfold padF at h
  have hpl : padsL = [48, 49, 50, 51, 52, 53, 54, 55, 56, 57, 45, 44, 46, 13] := rfl
  have hal : [112, 113, 114, 115, 116, 117, 118, 119, 120, 121, 109, 108, 110, 77] = appsL := rfl
  generalize hat : Lib.indexByte padsL (u8 c) = at' at h hi hge
  rw [hpl] at hat
  have hlen : padsL.length = 14 := rfl
  have hlen2 : appsL.length = 14 := rfl
  by_cases hneg : at' < 0
  · rw [if_pos hneg] at h
    simp [c22, c22t1, c22t2, c22t3, c22t4, r22, S32, S7, hu, hat, hneg]
    exact fin_nil hf h (by (repeat (refine Keep.new ?_ (by omega))); exact Keep.refl _ _)
  rw [if_neg hneg] at h
  cases hm : hasM m 12
  · rw [hm, if_neg (by simp)] at h
    by_cases h13 : c = 13
    · rw [if_pos h13] at h
      subst h13
      have hat' : Lib.indexByte [48, 49, 50, 51, 52, 53, 54, 55, 56, 57, 45, 44, 46, 13] 13 = at' := hat
      simp [c22, c22t1, c22t2, c22t3, c22t4, r22, S32, S7, hu, hat', hneg, hm]
      simp [S18, retBytes]
      exact fin_bytes (m := n + 1) hf h (by omega) rfl (by simp) (by (repeat (refine Keep.new ?_ (by omega))); exact Keep.refl _ _)
    · rw [if_neg h13] at h
      simp [c22, c22t1, c22t2, c22t3, c22t4, r22, S32, S7, hu, hat, hneg, hm, h13]
      exact fin_bytes (m := n + 1) hf h (by omega) rfl (by simp [bytesA, u8_cast h0 h1]) (by (repeat (refine Keep.new ?_ (by omega))); exact Keep.refl _ _)
  · rw [hm, if_pos rfl] at h
    obtain ⟨b, hg⟩ : ∃ b, appsL[at'.toNat]? = some b := ⟨_, List.getElem?_eq_getElem (by omega)⟩
    rw [List.getD_eq_getElem?_getD, hg] at h
    have hc2 := b.toNat_lt
    have hge0 : 0 ≤ at' := by omega
    simp [c22, c22t1, c22t2, c22t3, c22t4, r22, S32, S7, hu, hat, hneg, hm, hal, hg, hge0]
    refine ⟨by omega, by omega, ?_⟩
    simp [retBytes]
    exact fin_bytes (m := n + 1) hf h (by omega) rfl (by simp) (by (repeat (refine Keep.new ?_ (by omega))); exact Keep.refl _ _))

def fF (c : Int) (sh : Bool) (m lev : Int) (ei : Bool) (ts : List (List UInt8)) : Option (List UInt8) :=
  if 1 ≤ c ∧ c ≤ 4 then some (singleF ei (79 + c)) else if lev < 2 ∧ 11 ≤ c ∧ c ≤ 13 then some [([27, 8, 10] : List UInt8).getD (c - 11).toNat 0]
  else if lev < 2 ∨ numberF c = 0 then none else if sh = true then some (getF ts (numberF c)) else some (csiF ei [126] [numberF c])
theorem numberF_rng (c : Int) : 0 ≤ numberF c ∧ numberF c < 100 := by unfold numberF; repeat' split <;> omega
def S23 : Spec
  | [.agg [.i .i64 kind, .i .u8 c, .b sh, .b ct, .i .u32 m, .i .i64 lev, .b ei, .ptr p 0 0]], H, n, κ => 0 ≤ c ∧ c < 256 ∧ ∃ ts lk, KeysAt H p ts lk ∧ retBytes (fF c sh m lev ei ts) H n κ
  | _, _, _, _ => False
set_option maxHeartbeats 4000000 in
theorem ok23 : SpecOK Tryd.prog 23 S23 := compF_ok hmix (tbl_cons_ok ok34 (tbl_cons_ok ok33 (tbl_cons_ok ok35 (tbl_cons_ok ok36 tbl_nil_ok)))) e23 (fun args H n κ hf h => by
  unfold S23 at h
  split at h
  rotate_left
  · exact h.elim
  refine ⟨by simp, ?_⟩
  rename_i kind c sh ct m lev ei p
  obtain ⟨h0, h1, ts, lk, hk, h⟩ := h
  have hw : IntKind.i64.wrap c = c := wrap_i64 (by omega) (by omega)
  have hn := numberF_rng c
  unfold fF at h
  by_cases hA : 1 ≤ c ∧ c ≤ 4
  · rw [if_pos hA] at h
    have hA' : (decide (1 ≤ c) && decide (c ≤ 4)) = true := by simpa using hA
    have hw2 : IntKind.u8.wrap (80 + c) = 80 + c := wrap_u8 (by omega) (by omega)
    have hw3 : IntKind.u8.wrap (80 + c - 1) = 79 + c := by rw [wrap_u8 (by omega) (by omega)]; omega
    simp [c23, c23t1, c23t2, c23t3, c23t4, r23, S34, hw, hA', hA, hw2, hw3]
    refine ⟨by omega, by omega, ?_⟩
    simp [retBytes]
    exact fin_bytes (m := n + 1) hf h (by omega) rfl (by simp) (by (repeat (refine Keep.new ?_ (by omega))); exact Keep.refl _ _)
  rw [if_neg hA] at h
  have hA' : (decide (1 ≤ c) && decide (c ≤ 4)) = false := by simp; omega
  by_cases hB : lev < 2 ∧ 11 ≤ c ∧ c ≤ 13
  · rw [if_pos hB] at h
    have hB' : (decide (lev < 2) && decide (11 ≤ c) && decide (c ≤ 13)) = true := by simp; omega
    have hw2 : IntKind.u8.wrap (c - 11) = c - 11 := wrap_u8 (by omega) (by omega)
    obtain ⟨hB1, hB2, hB3⟩ := hB
    have h3 : c = 11 ∨ c = 12 ∨ c = 13 := by omega
    rcases h3 with rfl | rfl | rfl
    · simp [c23, c23t1, c23t2, c23t3, c23t4, r23, S34, hw, hB1, wrap_u8]
      exact fin_bytes (l := [27]) (m := n + 1) hf h (by omega) rfl (by simp [bytesA]) (by (repeat (refine Keep.new ?_ (by omega))); exact Keep.refl _ _)
    · simp [c23, c23t1, c23t2, c23t3, c23t4, r23, S34, hw, hB1, wrap_u8]
      exact fin_bytes (l := [8]) (m := n + 1) hf h (by omega) rfl (by simp [bytesA]) (by (repeat (refine Keep.new ?_ (by omega))); exact Keep.refl _ _)
    · simp [c23, c23t1, c23t2, c23t3, c23t4, r23, S34, hw, hB1, wrap_u8]
      exact fin_bytes (l := [10]) (m := n + 1) hf h (by omega) rfl (by simp [bytesA]) (by (repeat (refine Keep.new ?_ (by omega))); exact Keep.refl _ _)
  rw [if_neg hB] at h
  have hB' : (decide (lev < 2) && decide (11 ≤ c) && decide (c ≤ 13)) = false := by simp; omega
  by_cases hC : lev < 2 ∨ numberF c = 0
  · rw [if_pos hC] at h
    have hC' : (decide (lev < 2) || decide (numberF c = 0)) = true := by simpa using hC
    simp [c23, c23t1, c23t2, c23t3, c23t4, r23, S34, hw, hA', hB', hC']
    exact fin_nil hf h (by (repeat (refine Keep.new ?_ (by omega))); exact Keep.refl _ _)
  rw [if_neg hC] at h
  have hC' : (decide (lev < 2) || decide (numberF c = 0)) = false := by simpa using hC
  have hC1 : ¬ lev < 2 := fun q => hC (.inl q)
  have hC2 : ¬ numberF c = 0 := fun q => hC (.inr q)
  cases sh
  · rw [if_neg (by simp)] at h
    simp [c23, c23t1, c23t2, c23t3, c23t4, r23, S34, hw, hA', hB', hC', hC1, hC2]
    refine ⟨by omega, by omega, ?_⟩
    simp [retBytes]
    exact fin_bytes (m := n + 1) hf h (by omega) rfl (by simp) (by (repeat (refine Keep.new ?_ (by omega))); exact Keep.refl _ _)
  · rw [if_pos rfl] at h
    simp [c23, c23t1, c23t2, c23t3, c23t4, r23, S34, hw, hA', hB', hC', hC1, hC2]
    refine ⟨ts, lk, hk.keep hf (by (repeat (refine Keep.new ?_ (by omega))); exact Keep.refl _ _), ?_⟩
    simp
    exact fin_bytes (m := n + 1) hf h (by omega) rfl (by simp) (by (repeat (refine Keep.new ?_ (by omega))); exact Keep.refl _ _))
end Go.AM.K
