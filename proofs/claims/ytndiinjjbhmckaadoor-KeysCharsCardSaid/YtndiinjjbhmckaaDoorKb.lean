/- Keys: all of them. -/
import Derived.Test.YtndiinjjbhmckaaDoorKa
set_option linter.all false
set_option linter.unusedVariables false
set_option linter.unusedSimpArgs false
set_option maxRecDepth 100000
namespace Go.AM.K
attribute [local irreducible] hset Go.AM.killV
open Go.Proofs Go.RowKit

def fnV (f : FuncId) : AVal := .fn (.func f) [] []
def nilF : AVal := .c .nilFunc
def tblA (i j : Nat) : List AVal := [.fn (.func 17) [] [], .fn (.func 18) [] [], .fn (.func 19) [] [], .fn (.func 20) [] [], .fn (.func 21) [] [],
  if 5 < i then .fn (.func 24) [] [] else .c .nilFunc, if 6 < i then .fn (.func 24) [] [] else .c .nilFunc, if 7 < i then .fn (.func 24) [] [] else .c .nilFunc, if 8 < i then .fn (.func 24) [] [] else .c .nilFunc,
  if 9 < j then .fn (.func 25) [] [] else .c .nilFunc, if 10 < j then .fn (.func 25) [] [] else .c .nilFunc, if 11 < j then .fn (.func 25) [] [] else .c .nilFunc, if 12 < j then .fn (.func 25) [] [] else .c .nilFunc,
  if 13 < j then .fn (.func 25) [] [] else .c .nilFunc, if 14 < j then .fn (.func 25) [] [] else .c .nilFunc, .fn (.func 22) [] [], .fn (.func 23) [] []]
def S13 : Spec
  | [], H, n, κ => κ (.agg (tblA 9 15)) H n
  | _, _, _, _ => False
set_option maxHeartbeats 4000000 in
theorem ok13 : SpecOK Tryd.prog 13 S13 := compF_ok hmix tbl_nil_ok e13 (fun args H n κ hf h => by
  unfold S13 at h
  split at h
  rotate_left
  · exact h.elim
  refine ⟨by simp, ?_⟩
  simp [c13, c13t1, c13t2, r13]
  refine WP_loop_st (S := Nat) (fun i => mkE [(0, .ptr n 0 0), (1, .ptr (n + 1) 0 0), (2, .i .i64 i)]) (fun i => hset (hset H n (some ⟨false, 17, [.agg (List.replicate 17 (.c .nilFunc))]⟩)) (n + 1) (some ⟨false, 17, [.agg (tblA i 9)]⟩)) (fun _ => n + 1 + 1)
    (fun i => 5 ≤ i ∧ i ≤ 9) (fun i => 9 - i) 5 rfl (by simp [tblA, List.replicate]; exact Heap.le.refl _) rfl (by omega) ?_
  rintro i ⟨h5, h9⟩ hf' G hG
  have hw : IntKind.i64.wrap ((i : Int) + 1) = (i : Int) + 1 := wrap_i64 (by omega) (by omega)
  by_cases hlt : i ≤ 8
  · have hcs : i = 5 ∨ i = 6 ∨ i = 7 ∨ i = 8 := by omega
    rcases hcs with rfl | rfl | rfl | rfl
    all_goals simp [tblA, wrap_i64]
    · exact hG 6 rfl (Heap.le.refl _) rfl (by omega) (by omega)
    · exact hG 7 rfl (Heap.le.refl _) rfl (by omega) (by omega)
    · exact hG 8 rfl (Heap.le.refl _) rfl (by omega) (by omega)
    · exact hG 9 rfl (Heap.le.refl _) rfl (by omega) (by omega)
  · have hi : i = 9 := by omega
    subst hi
    simp [c13t3, r13]
    refine WP_loop_st (S := Nat) (fun i => mkE [(0, .ptr n 0 0), (1, .ptr (n + 1) 0 0), (3, .i .i64 i)]) (fun i => hset (hset H n (some ⟨false, 17, [.agg (List.replicate 17 (.c .nilFunc))]⟩)) (n + 1) (some ⟨false, 17, [.agg (tblA 9 i)]⟩)) (fun _ => n + 1 + 1)
      (fun i => 9 ≤ i ∧ i ≤ 15) (fun i => 15 - i) 9 rfl (Heap.le.refl _) rfl (by omega) ?_
    rintro i ⟨h9, h15⟩ hf'' G' hG'
    by_cases hlt : i ≤ 14
    · have hcs : i = 9 ∨ i = 10 ∨ i = 11 ∨ i = 12 ∨ i = 13 ∨ i = 14 := by omega
      rcases hcs with rfl | rfl | rfl | rfl | rfl | rfl
      all_goals simp [tblA, wrap_i64]
      · exact hG' 10 rfl (Heap.le.refl _) rfl (by omega) (by omega)
      · exact hG' 11 rfl (Heap.le.refl _) rfl (by omega) (by omega)
      · exact hG' 12 rfl (Heap.le.refl _) rfl (by omega) (by omega)
      · exact hG' 13 rfl (Heap.le.refl _) rfl (by omega) (by omega)
      · exact hG' 14 rfl (Heap.le.refl _) rfl (by omega) (by omega)
      · exact hG' 15 rfl (Heap.le.refl _) rfl (by omega) (by omega)
    · have hi : i = 15 := by omega
      subst hi
      simp [c13t4, c13t5, r13, tblA]
      exact fin_nameless h (by simp [tblA]) (by (repeat (refine Stay.new ?_ (by omega))); exact Stay.refl hf) (by simp [tblA]))
def encF (kind c : Int) (sh ct : Bool) (m lev : Int) (ei : Bool) (ts : List (List UInt8)) : Option (List UInt8) :=
  if kind < 0 ∨ 16 < kind ∨ hasM m 0 = true then none
  else if kind = 0 then charF c ct lev else if kind = 1 then some (enterF m) else if kind = 2 then some (tabF sh lev ei) else if kind = 3 then some (backF m) else if kind = 4 then some [27]
  else if kind ≤ 8 then some (arrowF kind m ei) else if kind ≤ 14 then editF kind lev ei else if kind = 15 then padF c m ei else fF c sh m lev ei ts
def S9 : Spec
  | [.agg [.i .i64 kind, .i .u8 c, .b sh, .b ct], .i .u32 m, .i .i64 lev, .b ei, .ptr u 0 0], H, n, κ => 0 ≤ c ∧ c < 256 ∧ ∃ ts lk, KeysAt H u ts lk ∧ retBytes (encF kind c sh ct m lev ei ts) H n κ
  | _, _, _, _ => False
set_option maxHeartbeats 4000000 in
theorem ok9 : SpecOK Tryd.prog 9 S9 := compF_ok hmix (tbl_cons_ok ok7 (tbl_cons_ok ok13 (tbl_cons_ok ok17 (tbl_cons_ok ok18 (tbl_cons_ok ok19 (tbl_cons_ok ok20 (tbl_cons_ok ok21 (tbl_cons_ok ok24 (tbl_cons_ok ok25 (tbl_cons_ok ok22 (tbl_cons_ok ok23 tbl_nil_ok))))))))))) e9 (fun args H n κ hf h => by
  unfold S9 at h
  split at h
  rotate_left
  · exact h.elim
  refine ⟨by simp, ?_⟩
  rename_i kind c sh ct m lev ei u
  obtain ⟨h0, h1, ts, lk, hk, h⟩ := h
  unfold encF at h
  by_cases hA : kind < 0 ∨ 16 < kind
  · rw [if_pos (hA.elim .inl (fun q => .inr (.inl q)))] at h
    have hA' : (decide (kind < 0) || decide (16 < kind)) = true := by simpa using hA
    simp [c9, c9t1, c9t2, c9t3, c9t4, r9, S7, S13, S17, S18, S19, S20, S21, S24, S25, S22, hA']
    exact fin_nil hf h (by (repeat (refine Keep.new ?_ (by omega))); exact Keep.refl _ _)
  have hA' : (decide (kind < 0) || decide (16 < kind)) = false := by simpa using hA
  cases hm : hasM m 0
  rotate_left
  · rw [if_pos (.inr (.inr hm))] at h
    simp [c9, c9t1, c9t2, c9t3, c9t4, r9, S7, S13, S17, S18, S19, S20, S21, S24, S25, S22, hA', hm]
    exact fin_nil hf h (by (repeat (refine Keep.new ?_ (by omega))); exact Keep.refl _ _)
  rw [if_neg (by rw [hm]; simp; omega)] at h
  have hret : ∀ o H1 n1 (K : Cont), retBytes o H n κ → Keep H n H1 → n ≤ n1 → (∀ v H2 n2, (o = none → v = .c (.slice none 0 0) ∧ H2 = H1 ∧ n2 = n1) → (∀ l, o = some l → v = .sl n1 0 l.length ∧ H2 = hset H1 n1 (some ⟨false, 1, bytesA l⟩) ∧ n2 = n1 + 1) → Fin H n κ v H2 n2 → K v H2 n2) → retBytes o H1 n1 K := by
    intro o H1 n1 K ho hk1 hn hK
    cases o with
    | none => exact hK _ _ _ (fun _ => ⟨rfl, rfl, rfl⟩) (fun l q => absurd q (by simp)) (fin_nil hf ho hk1)
    | some l => exact hK _ _ _ (fun q => absurd q (by simp)) (fun l' q => by simp at q; subst q; exact ⟨rfl, rfl, rfl⟩) (fin_bytes (m := n1) hf ho hn rfl (by simp) (hk1.new hn))
  have hcs : kind = 0 ∨ kind = 1 ∨ kind = 2 ∨ kind = 3 ∨ kind = 4 ∨ kind = 5 ∨ kind = 6 ∨ kind = 7 ∨ kind = 8 ∨ kind = 9 ∨ kind = 10 ∨ kind = 11 ∨ kind = 12 ∨ kind = 13 ∨ kind = 14 ∨ kind = 15 ∨ kind = 16 := by omega
  rcases hcs with rfl | rfl | rfl | rfl | rfl | rfl | rfl | rfl | rfl | rfl | rfl | rfl | rfl | rfl | rfl | rfl | rfl
  all_goals
    simp at h
    simp [c9, c9t1, c9t2, c9t3, c9t4, r9, S7, S13, S17, S18, S19, S20, S21, S24, S25, S22, hm, tblA, h0, h1]
  all_goals first
    | (refine hret _ _ _ _ h (by (repeat (refine Keep.new ?_ (by omega))); exact Keep.refl _ _) (by omega) (fun v H2 n2 _ _ hfin => ?_)
       simp
       exact hfin)
    | (refine ⟨h0, h1, ts, lk, hk.keep hf (by (repeat (refine Keep.new ?_ (by omega))); exact Keep.refl _ _), ?_⟩
       refine hret _ _ _ _ h (by (repeat (refine Keep.new ?_ (by omega))); exact Keep.refl _ _) (by omega) (fun v H2 n2 _ _ hfin => ?_)
       simp
       exact hfin))
end Go.AM.K
/- Keys' texts: numbers, hexadecimal digits. -/
set_option linter.unusedVariables false
set_option linter.unusedSimpArgs false
set_option maxRecDepth 100000
namespace Go.AM.K
attribute [local irreducible] hset Go.AM.killV
open Go.Proofs Go.RowKit

def keyL : List UInt8 → Int → Option Int
  | [], x => some x
  | c :: r, x => if (c.toNat : Int) < 48 ∨ 57 < (c.toNat : Int) then none else keyL r (min (x * 10 + ((c.toNat : Int) - 48)) 68)
def keyF (s : List UInt8) : Int × Bool := match keyL s 0 with | some x => (x, isKey x) | none => (0, false)
def S28 : Spec
  | [.s l], H, n, κ => l.length < 1000000000 ∧ κ (.tup [.i .i64 (keyF l).1, .b (keyF l).2]) H n
  | _, _, _, _ => False
set_option maxHeartbeats 4000000 in
theorem ok28 : SpecOK Tryd.prog 28 S28 := compF_ok hmix (tbl_cons_ok ok39 tbl_nil_ok) e28 (fun args H n κ hf h => by
  unfold S28 at h
  split at h
  rotate_left
  · exact h.elim
  refine ⟨by simp, ?_⟩
  rename_i l
  obtain ⟨hlen, h⟩ := h
  simp [c28, c28t1, c28t2, r28, S39]
  refine WP_loop_st (S := Nat × Int) (fun s => mkE [(0, .s l), (4, .i .i64 s.2), (7, .i .i64 l.length), (8, .i .i64 s.1)]) (fun _ => H) (fun _ => n) (fun s => s.1 ≤ l.length ∧ 0 ≤ s.2 ∧ s.2 ≤ 68 ∧ keyL l 0 = keyL (l.drop s.1) s.2) (fun s => l.length - s.1) (0, 0)
    rfl (Heap.le.refl _) rfl ⟨by omega, by omega, by omega, rfl⟩ ?_
  rintro ⟨i, x⟩ ⟨hi, hx0, hx1, hk⟩ hf' G hG
  simp only at hi hx0 hx1 hk
  by_cases hlt : i < l.length
  · have hd : l.drop i = l[i] :: l.drop (i + 1) := List.drop_eq_getElem_cons hlt
    rw [hd, keyL] at hk
    have hg : l[i]? = some l[i] := List.getElem?_eq_getElem hlt
    have hc := l[i].toNat_lt
    by_cases hb : ((l[i].toNat : Nat) : Int) < 48 ∨ 57 < ((l[i].toNat : Nat) : Int)
    · rw [if_pos hb] at hk
      rw [keyF, hk] at h
      by_cases hb1 : ((l[i].toNat : Nat) : Int) < 48
      · simp [hlt, hg, hb1]
        exact fin_nameless h rfl (by (repeat (refine Stay.new ?_ (by omega))); exact Stay.refl hf) (by simp)
      · have hb2 : 57 < ((l[i].toNat : Nat) : Int) := hb.resolve_left hb1
        simp [hlt, hg, hb1, hb2]
        exact fin_nameless h rfl (by (repeat (refine Stay.new ?_ (by omega))); exact Stay.refl hf) (by simp)
    · rw [if_neg hb] at hk
      have hb1 : ¬ ((l[i].toNat : Nat) : Int) < 48 := fun q => hb (.inl q)
      have hb2 : ¬ 57 < ((l[i].toNat : Nat) : Int) := fun q => hb (.inr q)
      have hw1 : IntKind.i64.wrap (x * 10) = x * 10 := wrap_i64 (by omega) (by omega)
      have hw2 : IntKind.u8.wrap (((l[i].toNat : Nat) : Int) - 48) = ((l[i].toNat : Nat) : Int) - 48 := wrap_u8 (by omega) (by omega)
      have hw3 : IntKind.i64.wrap (((l[i].toNat : Nat) : Int) - 48) = ((l[i].toNat : Nat) : Int) - 48 := wrap_i64 (by omega) (by omega)
      have hw4 : IntKind.i64.wrap (x * 10 + (((l[i].toNat : Nat) : Int) - 48)) = x * 10 + (((l[i].toNat : Nat) : Int) - 48) := wrap_i64 (by omega) (by omega)
      have hw5 : IntKind.i64.wrap ((i : Int) + 1) = (i : Int) + 1 := wrap_i64 (by omega) (by omega)
      simp [hlt, hg, hb1, hb2, hw1, hw2, hw3, hw4, hw5]
      exact hG (i + 1, min (x * 10 + (((l[i].toNat : Nat) : Int) - 48)) 68) rfl (Heap.le.refl _) rfl ⟨by show i + 1 ≤ _; omega, by show 0 ≤ min _ _; omega, by show min _ _ ≤ 68; omega, hk⟩ (by show _ - (i + 1) < _ - i; omega)
  · have : l.drop i = [] := List.drop_eq_nil_of_le (by omega)
    rw [this, keyL] at hk
    rw [keyF, hk] at h
    simp [hlt]
    simp [c28t3, c28t4, r28, S39]
    exact fin_nameless h rfl (by (repeat (refine Stay.new ?_ (by omega))); exact Stay.refl hf) (by simp))
def hexL : List UInt8 := [48, 49, 50, 51, 52, 53, 54, 55, 56, 57, 65, 66, 67, 68, 69, 70]
def digitF (c : Int) : Int := Lib.indexByte hexL (u8 (if 97 ≤ c ∧ c ≤ 102 then c - 32 else c))
theorem digitF_rng (c : Int) : -1 ≤ digitF c ∧ digitF c < 16 := by
  have h1 := Lib.indexByte_ge hexL (u8 (if 97 ≤ c ∧ c ≤ 102 then c - 32 else c))
  have h2 := indexByte_lt hexL (u8 (if 97 ≤ c ∧ c ≤ 102 then c - 32 else c))
  have h3 : hexL.length = 16 := rfl
  unfold digitF
  omega
def S40 : Spec
  | [.i .u8 c], H, n, κ => 0 ≤ c ∧ c < 256 ∧ κ (.i .i64 (digitF c)) H n
  | _, _, _, _ => False
set_option maxHeartbeats 4000000 in
theorem ok40 : SpecOK Tryd.prog 40 S40 := compF_ok hmix (tbl_cons_ok ok32 tbl_nil_ok) e40 (fun args H n κ hf h => by
  unfold S40 at h
  split at h
  rotate_left
  · exact h.elim
  refine ⟨by simp, ?_⟩
  rename_i c
  obtain ⟨h0, h1, h⟩ := h
  have hx : [48, 49, 50, 51, 52, 53, 54, 55, 56, 57, 65, 66, 67, 68, 69, 70] = hexL := rfl
  by_cases hc : 97 ≤ c ∧ c ≤ 102
  · rw [digitF, if_pos hc] at h
    have hw : IntKind.u8.wrap (c - 32) = c - 32 := wrap_u8 (by omega) (by omega)
    simp [c40, c40t1, c40t2, c40t3, r40, S32, hc, hw, hx]
    exact fin_nameless h rfl (by (repeat (refine Stay.new ?_ (by omega))); exact Stay.refl hf) (by simp)
  · rw [digitF, if_neg hc] at h
    have hc' : (decide (97 ≤ c) && decide (c ≤ 102)) = false := by simp; omega
    simp [c40, c40t1, c40t2, c40t3, r40, S32, hc', hx]
    exact fin_nameless h rfl (by (repeat (refine Stay.new ?_ (by omega))); exact Stay.refl hf) (by simp))
end Go.AM.K
/- Keys' texts: out of hexadecimal digits; texts that are cut. -/
set_option linter.unusedVariables false
set_option linter.unusedSimpArgs false
set_option maxRecDepth 100000
namespace Go.AM.K
attribute [local irreducible] hset Go.AM.killV
open Go.Proofs Go.RowKit

def hexI (a b : Int) : Int := IntKind.u8.wrap (ibits .or .i64 (IntKind.i64.wrap (digitF a * 2 ^ min 4 IntKind.i64.bits)) (digitF b))
def hexP : List UInt8 → Option (List UInt8)
  | a :: b :: r => if digitF a.toNat < 0 ∨ digitF b.toNat < 0 then none else (hexP r).map (u8 (hexI a.toNat b.toNat) :: ·)
  | _ => some []
def hexF (l : List UInt8) : Option (List UInt8) := if l.length % 2 = 1 then none else hexP l
def S29 : Spec
  | [.s l], H, n, κ => l.length < 1000000000 ∧ (match hexF l with | some t => κ (.tup [.s t, .i .i64 0]) H n | none => κ (.tup [.s [], .i .i64 3]) H n)
  | _, _, _, _ => False
set_option maxHeartbeats 4000000 in
theorem ok29 : SpecOK Tryd.prog 29 S29 := compF_ok hmix (tbl_cons_ok ok40 tbl_nil_ok) e29 (fun args H n κ hf h => by
  unfold S29 at h
  split at h
  rotate_left
  · exact h.elim
  refine ⟨by simp, ?_⟩
  rename_i l
  obtain ⟨hlen, h⟩ := h
  by_cases hodd : l.length % 2 = 1
  · rw [hexF, if_pos hodd] at h
    have ho : ((l.length : Int).tmod 2 = 1) := by rw [Int.tmod_eq_emod_of_nonneg (by omega)]; omega
    simp [c29, c29t1, c29t2, c29t3, c29t4, c29t5, r29, S40, ho]
    exact fin_nameless h rfl (by (repeat (refine Stay.new ?_ (by omega))); exact Stay.refl hf) (by simp)
  rw [hexF, if_neg hodd] at h
  have ho : ¬ ((l.length : Int).tmod 2 = 1) := by rw [Int.tmod_eq_emod_of_nonneg (by omega)]; omega
  simp [c29, c29t1, c29t2, c29t3, r29, S40, ho]
  refine WP_loop_st (S := Nat × List UInt8 × AVal × Heap × Nat) (fun s => mkE [(0, .s l), (4, s.2.2.1), (5, .i .i64 s.1)]) (fun s => s.2.2.2.1) (fun s => s.2.2.2.2)
    (fun s => s.1 % 2 = 0 ∧ s.1 ≤ l.length ∧ s.2.1.length ≤ s.1 ∧ Bld 1 H n (bytesA s.2.1) s.2.2.1 s.2.2.2.1 s.2.2.2.2 ∧ hexP l = (hexP (l.drop s.1)).map (s.2.1 ++ ·)) (fun s => l.length - s.1) (0, [], .c (.slice none 0 0), H, n)
    rfl (Heap.le.refl _) rfl ⟨by omega, by omega, by simp, Bld.nil hf, by simp⟩ ?_
  rintro ⟨i, ds, out, Hc, N⟩ ⟨hi2, hi, hdl, hb, hk⟩ hf' G hG
  simp only at hi2 hi hdl hb hk hf'
  by_cases hlt : i < l.length
  · have hlt1 : i + 1 < l.length := by omega
    have hd : l.drop i = l[i] :: l[i + 1] :: l.drop (i + 2) := by rw [List.drop_eq_getElem_cons hlt, List.drop_eq_getElem_cons hlt1]
    rw [hd, hexP] at hk
    have hg : l[i]? = some l[i] := List.getElem?_eq_getElem hlt
    have hg1 : l[i + 1]? = some l[i + 1] := List.getElem?_eq_getElem hlt1
    have hc := l[i].toNat_lt
    have hc1 := l[i + 1].toNat_lt
    have hr := digitF_rng ((l[i].toNat : Nat) : Int)
    have hr1 := digitF_rng ((l[i + 1].toNat : Nat) : Int)
    have hw1 : IntKind.i64.wrap ((i : Int) + 1) = (i : Int) + 1 := wrap_i64 (by omega) (by omega)
    have hw2 : IntKind.i64.wrap ((i : Int) + 2) = (i : Int) + 2 := wrap_i64 (by omega) (by omega)
    have hz : (0 : Int) ≤ (i : Int) + 1 := by omega
    have hn1 : ((i : Int) + 1).toNat = i + 1 := by omega
    have hlti : (i : Int) < l.length := by omega
    have hl0 : ((l[i].toNat : Nat) : Int) < 256 := by omega
    have hl1 : ((l[i + 1].toNat : Nat) : Int) < 256 := by omega
    by_cases hA : digitF ((l[i].toNat : Nat) : Int) < 0
    · rw [if_pos (.inl hA)] at hk
      rw [hk] at h
      simp [hlti, hg, hg1, hw1, hz, hn1, S40, hl0, hl1, hA]
      exact fin_nameless h rfl (Stay.keep hf hb.keep) (by simp)
    by_cases hB : digitF ((l[i + 1].toNat : Nat) : Int) < 0
    · rw [if_pos (.inr hB)] at hk
      rw [hk] at h
      simp [hlti, hg, hg1, hw1, hz, hn1, S40, hl0, hl1, hA, hB]
      exact fin_nameless h rfl (Stay.keep hf hb.keep) (by simp)
    rw [if_neg (by simp only [hA, hB, or_self, not_false_eq_true])] at hk
    have hbx := hb.ext (H' := hset Hc N (some ⟨false, 1, [.i .u8 (hexI l[i].toNat l[i + 1].toNat)]⟩)) (by (repeat (refine Keep.new ?_ (by omega))); exact Keep.refl _ _) (Nat.le_succ _) (fresh_new hf')
    have hb2 := hbx.app (bytesA [u8 (hexI l[i].toNat l[i + 1].toNat)])
    have hho := fun x => (hb.ext (H' := hset Hc N x) (by (repeat (refine Keep.new ?_ (by omega))); exact Keep.refl _ _) (Nat.le_succ _) (fresh_new hf')).own.own
    have hrg := wrap_u8_range (ibits .or .i64 (IntKind.i64.wrap (digitF l[i].toNat * 2 ^ min 4 IntKind.i64.bits)) (digitF l[i + 1].toNat))
    simp [hlti, hg, hg1, hw1, hw2, hz, hn1, S40, hl0, hl1, hA, hB, hho]
    refine ⟨by omega, ?_⟩
    refine hG (i + 2, ds ++ [u8 (hexI l[i].toNat l[i + 1].toNat)], .sl (N + 1) 0 (ds.length + 1), _, _) rfl (Heap.le.refl _) rfl ⟨by show (i + 2) % 2 = 0; omega, by show i + 2 ≤ _; omega, by simp; omega, ?_, ?_⟩ (by show _ - (i + 2) < _ - i; omega)
    · simpa [bytesA, u8_cast hrg.1 hrg.2, hexI] using hb2
    · rw [hk]
      simp [Option.map_map, Function.comp_def]
  · have : l.drop i = [] := List.drop_eq_nil_of_le (by omega)
    have hk' : hexP l = some ds := by rw [hk, this]; simp [hexP]
    rw [hk'] at h
    have hlti : ¬ (i : Int) < l.length := by omega
    rcases hb.own with ⟨rfl, h0⟩ | ⟨a, rfl, ha⟩
    · have hds : ds = [] := by simpa [bytesA] using h0
      subst hds
      simp [hlti]
      simp [c29t4, c29t5, r29, S40]
      exact fin_nameless h rfl (Stay.keep hf hb.keep) (by simp)
    · simp [hlti]
      simp [c29t4, c29t5, r29, S40, ha]
      exact fin_nameless h rfl (Stay.keep hf hb.keep) (by simp))
end Go.AM.K
/- Texts that are cut. -/
set_option linter.unusedVariables false
set_option linter.unusedSimpArgs false
set_option maxRecDepth 100000
namespace Go.AM.K
attribute [local irreducible] hset Go.AM.killV
open Go.Proofs Go.RowKit

def splitF (c : UInt8) : List UInt8 → List (List UInt8)
  | [] => [[]]
  | x :: r => if x = c then [] :: splitF c r else match splitF c r with
    | [] => [[x]]
    | p :: ps => (x :: p) :: ps
theorem splitF_ne (c : UInt8) : ∀ l, splitF c l ≠ []
  | [] => by simp [splitF]
  | x :: r => by
    unfold splitF
    split
    · simp
    · split <;> simp
theorem splitF_miss (c : UInt8) : ∀ l, l.count c = 0 → splitF c l = [l]
  | [], _ => rfl
  | x :: r, h => by
    have hx : x ≠ c := fun e => by subst e; simp at h
    have hr : r.count c = 0 := by rw [List.count_cons_of_ne hx] at h; exact h
    rw [splitF, if_neg hx, splitF_miss c r hr]
theorem splitF_hit (c : UInt8) : ∀ l, l.count c ≠ 0 → ∃ i : Nat, Lib.indexByte l c = i ∧ i < l.length ∧ splitF c l = l.take i :: splitF c (l.drop (i + 1)) ∧ (l.drop (i + 1)).count c = l.count c - 1
  | [], h => by simp at h
  | x :: r, h => by
    by_cases hx : x = c
    · subst hx
      refine ⟨0, by simp [Lib.indexByte], by simp, by simp [splitF], by simp⟩
    · have hr : r.count c ≠ 0 := by rw [List.count_cons_of_ne hx] at h; exact h
      obtain ⟨i, h1, h2, h3, h4⟩ := splitF_hit c r hr
      refine ⟨i + 1, ?_, by simp; omega, ?_, ?_⟩
      · unfold Lib.indexByte
        rw [if_neg (by simpa using hx), h1, if_neg (by simp)]
        rfl
      · rw [splitF, if_neg hx, h3]; simp
      · rw [List.count_cons_of_ne hx]; simpa using h4
theorem splitF_len (c : UInt8) : ∀ k l, l.count c = k → (splitF c l).length = k + 1
  | 0, l, h => by rw [splitF_miss c l h]; rfl
  | k + 1, l, h => by
    obtain ⟨i, _, _, h3, h4⟩ := splitF_hit c l (by omega)
    rw [h3, List.length_cons, splitF_len c k _ (by omega)]
theorem splitF_parts (c : UInt8) : ∀ k l, l.count c = k → ∀ p ∈ splitF c l, p.length ≤ l.length
  | 0, l, h => by rw [splitF_miss c l h]; simp
  | k + 1, l, h => by
    obtain ⟨i, _, hi, h3, h4⟩ := splitF_hit c l (by omega)
    rw [h3]
    intro p hp
    rcases List.mem_cons.1 hp with rfl | hp
    · simp; omega
    · have := splitF_parts c k _ (by omega) p hp
      simp at this
      omega
def S37 : Spec
  | [.s l, .s m, .i .i64 sv, .i .i64 nn], H, n, κ => sv = 0 ∧ nn = -1 ∧ l.length < 1000000000 ∧ ∃ c, m = [c] ∧ newSl 1 (strsA (splitF c l)) H n κ
  | _, _, _, _ => False
set_option maxHeartbeats 4000000 in
theorem ok37 : SpecOK Tryd.prog 37 S37 := compF_ok hmix (tbl_cons_ok ok48 (tbl_cons_ok ok49 tbl_nil_ok)) e37 (fun args H n κ hf h => by
  unfold S37 at h
  split at h
  rotate_left
  · exact h.elim
  refine ⟨by simp, ?_⟩
  rename_i l m sv nn
  obtain ⟨rfl, rfl, hlen, c, rfl, h⟩ := h
  generalize hcnt : l.count c = cnt
  have hcl : cnt ≤ l.length := by rw [← hcnt]; exact List.count_le_length
  have hcb : Lib.countByte l c = cnt := hcnt
  have hw1 : IntKind.i64.wrap ((cnt : Int) + 1) = (cnt : Int) + 1 := wrap_i64 (by omega) (by omega)
  have hw2 : IntKind.i64.wrap ((l.length : Int) + 1) = (l.length : Int) + 1 := wrap_i64 (by omega) (by omega)
  have hw3 : IntKind.i64.wrap (cnt : Int) = (cnt : Int) := wrap_i64 (by omega) (by omega)
  have hmn : min ((cnt : Int) + 1) ((l.length : Int) + 1) = (cnt : Int) + 1 := by omega
  have hz : (0 : Int) ≤ (cnt : Int) + 1 := by omega
  have hz2 : ((cnt : Int) + 1) * 16 ≤ 1099511627776 := by omega
  have hz3 : ((cnt : Int) + 1) ≤ 1099511627776 := by omega
  have hz4 : ((cnt : Int) + 1).toNat = cnt + 1 := by omega
  simp [c37, c37t1, c37t2, c37t3, c37t4, c37t5, c37t6, c37t7, c37t8, c37t9, c37t10, c37t11, r37]
  refine ⟨c, rfl, ?_⟩
  rw [hcb]
  simp [hw1, hw2, hw3, hmn, hz, hz2, hz3, hz4]
  refine WP_loop_st (S := List (List UInt8) × List UInt8) (fun s => mkE [(0, .s s.2), (1, .s [c]), (2, .i .i64 0), (3, .i .i64 cnt), (9, .sl n 0 (cnt + 1)), (10, .i .i64 s.1.length)])
    (fun s => hset H n (some ⟨false, 1, strsA s.1 ++ List.replicate (cnt + 1 - s.1.length) (.s [])⟩)) (fun _ => n + 1)
    (fun s => s.1.length ≤ cnt ∧ splitF c l = s.1 ++ splitF c s.2 ∧ s.2.count c = cnt - s.1.length ∧ s.2.length ≤ l.length) (fun s => cnt - s.1.length) ([], l) rfl (by simp; exact Heap.le.refl _) rfl ⟨by simp, by simp, by simp [hcnt], Nat.le_refl _⟩ ?_
  rintro ⟨ds, s⟩ ⟨h1, h2, h3, h4⟩ hf' G hG
  simp only at h1 h2 h3 h4
  by_cases hlt : ds.length < cnt
  · obtain ⟨i, e1, e2, e3, e4⟩ := splitF_hit c s (by omega)
    have hwi : IntKind.i64.wrap (i : Int) = (i : Int) := wrap_i64 (by omega) (by omega)
    have hwi1 : IntKind.i64.wrap ((i : Int) + 1) = (i : Int) + 1 := wrap_i64 (by omega) (by omega)
    have hwd : IntKind.i64.wrap ((ds.length : Int) + 1) = (ds.length : Int) + 1 := wrap_i64 (by omega) (by omega)
    have hi0 : (i : Int) ≤ s.length := by omega
    have hi1 : (i : Int) + 1 ≤ s.length := by omega
    have hi2 : (0 : Int) ≤ (i : Int) + 1 := by omega
    have hi3 : ((i : Int) + 1).toNat = i + 1 := by omega
    have hi4 : ¬ (i : Int) < 0 := by omega
    have hd1 : (ds.length : Int) < (cnt : Int) + 1 := by omega
    simp [hlt]
    refine ⟨c, rfl, ?_⟩
    rw [e1]
    have hget : (strsA ds ++ List.replicate (cnt + 1 - ds.length) (AVal.s []))[ds.length]? = some (.s []) := by
      rw [List.getElem?_append_right (by simp), List.getElem?_replicate]
      simp; omega
    have hset' : (strsA ds ++ List.replicate (cnt + 1 - ds.length) (AVal.s [])).set ds.length (.s (s.take i)) = strsA (ds ++ [s.take i]) ++ List.replicate (cnt + 1 - (ds.length + 1)) (.s []) := by
      have : cnt + 1 - ds.length = (cnt + 1 - (ds.length + 1)) + 1 := by omega
      rw [List.set_append_right _ _ (by simp), this, List.replicate_succ]
      simp
    simp [hwi, hwi1, hwd, hi0, hi1, hi2, hi3, hd1, hget, hset', hi4]
    refine hG (ds ++ [s.take i], s.drop (i + 1)) ?_ ?_ rfl ⟨by simp; omega, ?_, ?_, ?_⟩ ?_
    · simp
    · simp; exact Heap.le.refl _
    · rw [h2, e3]; simp
    · rw [e4, h3]; simp; omega
    · simp; omega
    · show cnt - (ds ++ [s.take i]).length < cnt - ds.length
      simp; omega
  · have hds : ds.length = cnt := by omega
    have hs1 := splitF_miss c s (by omega)
    simp [hds, hw1, hz4]
    refine ⟨by omega, by omega, ?_⟩
    have hes : strsA ds ++ [.s s] = strsA (splitF c l) := by rw [h2, hs1]; simp
    rw [hes]
    have hln := splitF_len c cnt l hcnt
    exact fin_new (m := n) hf h (Nat.le_refl _) (by simp) (by simp [hln]) (fun f _ => by simp) (by (repeat (refine Stay.new ?_ (by omega))); exact Stay.refl hf))
def S26 : Spec
  | [.s l, .s m], H, n, κ => l.length < 1000000000 ∧ ∃ c, m = [c] ∧ newSl 1 (strsA (splitF c l)) H n κ
  | _, _, _, _ => False
set_option maxHeartbeats 4000000 in
theorem ok26 : SpecOK Tryd.prog 26 S26 := compF_ok hmix (tbl_cons_ok ok37 tbl_nil_ok) e26 (fun args H n κ hf h => by
  unfold S26 at h
  split at h
  rotate_left
  · exact h.elim
  refine ⟨by simp, ?_⟩
  rename_i l m
  obtain ⟨hlen, c, rfl, h⟩ := h
  simp [c26, c26t1, c26t2, r26]
  refine ⟨rfl, rfl, hlen, c, rfl, ?_⟩
  simp [newSl]
  exact fin_new (m := n) hf h (Nat.le_refl _) (by simp) (by simp) (fun f _ => by simp) (by (repeat (refine Stay.new ?_ (by omega))); exact Stay.refl hf))
def cutF (c : UInt8) (l : List UInt8) : List UInt8 × List UInt8 × Bool := if Lib.indexByte l c < 0 then (l, [], false) else (l.take (Lib.indexByte l c).toNat, l.drop ((Lib.indexByte l c).toNat + 1), true)
def cutS : Spec
  | [.s l, .s m], H, n, κ => l.length < 1000000000 ∧ ∃ c, m = [c] ∧ κ (.tup [.s (cutF c l).1, .s (cutF c l).2.1, .b (cutF c l).2.2]) H n
  | _, _, _, _ => False
def S38 : Spec := cutS
def S27 : Spec := cutS
theorem cutS_at {l m : List UInt8} {H : Heap} {n : Nat} {κ : Cont} (h : cutS [.s l, .s m] H n κ) : l.length < 1000000000 ∧ ∃ c, m = [c] ∧ κ (.tup [.s (cutF c l).1, .s (cutF c l).2.1, .b (cutF c l).2.2]) H n := h
set_option maxHeartbeats 1000000 in
theorem ok38 : SpecOK Tryd.prog 38 S38 := compF_ok hmix (tbl_cons_ok ok50 tbl_nil_ok) e38 (fun args H n κ hf h => by
  unfold S38 cutS at h
  split at h
  rotate_left
  · exact h.elim
  rename_i l m
  obtain ⟨hlen, c, rfl, h⟩ := h
  refine ⟨by simp, ?_⟩
  have hr := indexByte_lt l c
  have hge := Lib.indexByte_ge l c
  by_cases hneg : Lib.indexByte l c < 0
  · rw [cutF, if_pos hneg] at h
    simp [c38, c38t1, c38t2, c38t3, r38]
    refine ⟨c, rfl, ?_⟩
    have hneg' : ¬ 0 ≤ Lib.indexByte l c := by omega
    simp [hneg']
    exact fin_nameless h rfl (Stay.refl hf) (by simp)
  · rw [cutF, if_neg hneg] at h
    simp [c38, c38t1, c38t2, c38t3, r38]
    refine ⟨c, rfl, ?_⟩
    generalize Lib.indexByte l c = at' at *
    have hneg' : 0 ≤ at' := by omega
    have hw : IntKind.i64.wrap (at' + 1) = at' + 1 := wrap_i64 (by omega) (by omega)
    have h3 : (at' + 1).toNat = at'.toNat + 1 := by omega
    simp [hneg', hw]
    refine ⟨by omega, ⟨by omega, by omega⟩, ?_⟩
    exact fin_nameless h (by simp [h3]) (Stay.refl hf) (by simp))
set_option maxHeartbeats 1000000 in
theorem ok27 : SpecOK Tryd.prog 27 S27 := compF_ok hmix (tbl_cons_ok ok38 tbl_nil_ok) e27 (fun args H n κ hf h => by
  unfold S27 cutS at h
  split at h
  rotate_left
  · exact h.elim
  rename_i l m
  obtain ⟨hlen, c, rfl, h⟩ := h
  refine ⟨by simp, ?_⟩
  simp [c27, c27t1, c27t2, r27]
  refine ⟨hlen, c, rfl, ?_⟩
  simp
  exact fin_nameless h rfl (Stay.refl hf) (by simp))
end Go.AM.K
/- Keys' texts: how many bytes they have. -/
set_option linter.unusedVariables false
set_option linter.unusedSimpArgs false
set_option maxRecDepth 100000
namespace Go.AM.K
attribute [local irreducible] hset Go.AM.killV
open Go.Proofs Go.RowKit

def usedF (ts : List (List UInt8)) : Int := ((Lib.join ts []).length : Nat)
def usedRo : Spec
  | [.ptr u 0 0], H, n, κ => ∃ ts lk, H u = some ⟨true, 19, [.agg (strsA ts ++ [.b lk])]⟩ ∧ ts.length = 18 ∧ (∀ t ∈ ts, t.length ≤ 1000000000) ∧ κ (.i .i64 (usedF ts)) H n
  | _, _, _, _ => False
def S16 : Spec := borrowS usedRo
set_option maxHeartbeats 1000000 in
theorem ok16 : SpecOK Tryd.prog 16 S16 := SpecOK.borrow (compF_ok hmix (tbl_cons_ok ok30 tbl_nil_ok) e16 (fun args H n κ hf h => by
  unfold usedRo at h
  split at h
  rotate_left
  · exact h.elim
  rename_i u
  obtain ⟨ts, lk, hu, hl, hb, h⟩ := h
  refine ⟨by simp, ?_⟩
  have htk : List.take 18 (strsA ts ++ [.b lk]) = strsA ts := by rw [List.take_append_of_le_length (by simp; omega), List.take_of_length_le (by simp; omega)]
  have hcl : ∀ y ∈ strsA ts, y.cells = [y] := fun y hy => by obtain ⟨p, _, rfl⟩ := List.mem_map.1 hy; rfl
  have hlen2 : 17 ≤ ts.length := by omega
  have hun : u < n := lt_of_live hf hu
  simp [c16, c16t1, c16t2, r16, hu, htk, hcl, hlen2]
  refine ⟨hcl, ts, SlAt.of (ro := true) (os := strsA ts) (by simp) (by simp; omega) (by rw [List.drop_zero, List.take_of_length_le (by simp; omega)]), by omega, ?_, ?_⟩
  · have := join_len [] 1000000000 ts hb
    simp only [List.length_nil, hl] at this
    omega
  · simp
    exact fin_nameless h rfl (by (repeat (refine Stay.new ?_ (by omega))); exact Stay.refl hf) (by simp)))

/-! definitions -/
def defF (d : List UInt8) : Option (Int × List UInt8) := if (cutF 47 d).2.2 = true ∧ (keyF (cutF 47 d).1).2 = true then (hexF (cutF 47 d).2.1).map fun t => ((keyF (cutF 47 d).1).1, t) else none
def withL : List (List UInt8) → List (List UInt8) → List (List UInt8) × Bool
  | [], ts => (ts, true)
  | d :: r, ts => if d = [] then withL r ts else match defF d with
    | none => (ts, false)
    | some (x, t) => withL r (ts.set (x - 17).toNat t)
theorem keyF_rng {l : List UInt8} (h : (keyF l).2 = true) : 17 ≤ (keyF l).1 ∧ (keyF l).1 ≤ 34 := by
  unfold keyF at h ⊢
  split
  · rename_i x hx
    rw [hx] at h
    exact isKey_rng h
  · rename_i hx
    rw [hx] at h
    exact absurd h (by simp)
theorem cutF_len (c : UInt8) (l : List UInt8) : (cutF c l).1.length ≤ l.length ∧ (cutF c l).2.1.length ≤ l.length := by
  unfold cutF
  split <;> simp <;> omega
theorem keys_put {ts : List (List UInt8)} {lk : Bool} {j : Nat} (hl : ts.length = 18) (hj : j < 18) (t : List UInt8) :
    List.take j (strsA ts ++ [.b lk]) ++ AVal.s t :: List.drop (j + 1) (strsA ts ++ [.b lk]) = strsA (ts.set j t) ++ [.b lk] := by
  have h1 : List.take j (strsA ts ++ [.b lk]) ++ AVal.s t :: List.drop (j + 1) (strsA ts ++ [.b lk]) = (strsA ts ++ [AVal.b lk]).set j (AVal.s t) := by
    rw [List.set_eq_take_append_cons_drop, if_pos (by simp; omega)]
  rw [h1, List.set_append_left _ _ (by simp; omega)]
  congr 1
  simp [strsA, List.map_set]
def S15 : Spec
  | [.agg cs, .s data], H, n, κ => ∃ ts lk, cs = strsA ts ++ [.b lk] ∧ ts.length = 18 ∧ data.length < 1000000000 ∧ κ (.tup [.agg (strsA (withL (splitF 59 data) ts).1 ++ [.b lk]), .b (withL (splitF 59 data) ts).2]) H n
  | _, _, _, _ => False
theorem keys_solid (ts : List (List UInt8)) (lk : Bool) : (AVal.agg (strsA ts ++ [.b lk])).solid = true := by
  simp only [AVal.solid, cells_agg, List.all_append, List.all_cons, one_b, List.all_nil, Bool.and_true, Bool.true_and, List.all_eq_true]
  intro x hx
  obtain ⟨p, _, rfl⟩ := List.mem_map.1 hx
  rfl
set_option maxHeartbeats 4000000 in
theorem ok15 : SpecOK Tryd.prog 15 S15 := compF_ok hmix (tbl_cons_ok ok26 (tbl_cons_ok ok27 (tbl_cons_ok ok28 (tbl_cons_ok ok29 tbl_nil_ok)))) e15 (fun args H n κ hf h => by
  unfold S15 at h
  split at h
  rotate_left
  · exact h.elim
  refine ⟨by simp, ?_⟩
  rename_i cs data
  obtain ⟨ts0, lk, rfl, hl0, hlen, h⟩ := h
  have hsol := fun ts => keys_solid ts lk
  have hone : ∀ (ts : List (List UInt8)), ∀ x ∈ strsA ts, x.one = true := fun ts x hx => by obtain ⟨p, _, rfl⟩ := List.mem_map.1 hx; rfl
  simp [c15, c15t1, r15, -AVal.solid, hsol, hl0, hone ts0]
  refine ⟨rfl, hlen, 59, rfl, ?_⟩
  simp [newSl]
  have hparts := splitF_parts 59 _ data rfl
  have hpl : (splitF 59 data).length < 1000000002 := by rw [splitF_len 59 _ data rfl]; have := List.count_le_length (a := (59 : UInt8)) (l := data); omega
  generalize splitF 59 data = ds at h hparts hpl
  generalize hz : AVal.agg [.s [], .s [], .s [], .s [], .s [], .s [], .s [], .s [], .s [], .s [], .s [], .s [], .s [], .s [], .s [], .s [], .s [], .s [], .b false] = z
  have hzl : z.cells.length = 19 := by rw [← hz]; rfl
  have hBk : Keep H n (hset (hset (hset H n (some ⟨false, 19, [.agg (strsA ts0 ++ [.b lk])]⟩)) (n + 1) (some ⟨false, 19, [z]⟩)) (n + 1 + 1) (some ⟨false, 1, strsA ds⟩)) := (by (repeat (refine Keep.new ?_ (by omega))); exact Keep.refl _ _)
  generalize hB : hset (hset (hset H n (some ⟨false, 19, [.agg (strsA ts0 ++ [.b lk])]⟩)) (n + 1) (some ⟨false, 19, [z]⟩)) (n + 1 + 1) (some ⟨false, 1, strsA ds⟩) = B at hBk
  have hB1 : B (n + 1) = some ⟨false, 19, [z]⟩ := by rw [← hB]; simp
  have hB2 : B (n + 1 + 1) = some ⟨false, 1, strsA ds⟩ := by rw [← hB]; simp
  refine WP_loop_st (S := Nat × List (List UInt8)) (fun s => mkE [(2, .ptr n 0 0), (4, .ptr (n + 1) 0 0), (16, .sl (n + 1 + 1) 0 ds.length), (17, .i .i64 ds.length), (18, .i .i64 s.1)])
    (fun s => hset B n (some ⟨false, 19, [.agg (strsA s.2 ++ [.b lk])]⟩)) (fun _ => n + 1 + 1 + 1)
    (fun s => s.1 ≤ ds.length ∧ s.2.length = 18 ∧ withL ds ts0 = withL (ds.drop s.1) s.2) (fun s => ds.length - s.1) (0, ts0) rfl (le_hset_self (by rw [← hB]; simp)) rfl ⟨by omega, hl0, rfl⟩ ?_
  rintro ⟨i, ts⟩ ⟨hi, hl, hk⟩ hf' G hG
  simp only at hi hl hk
  have hw : IntKind.i64.wrap ((i : Int) + 1) = (i : Int) + 1 := wrap_i64 (by omega) (by omega)
  have htk : List.take 19 (strsA ts ++ [AVal.b lk]) = strsA ts ++ [AVal.b lk] := List.take_of_length_le (by simp; omega)
  by_cases hlt : i < ds.length
  · have hd : ds.drop i = ds[i] :: ds.drop (i + 1) := List.drop_eq_getElem_cons hlt
    have hdl := hparts ds[i] (List.getElem_mem hlt)
    have hg : ds[i]? = some ds[i] := List.getElem?_eq_getElem hlt
    have hg2 : (strsA ds)[i]? = some (.s ds[i]) := by simp [strsA, hg]
    rw [hd, withL] at hk
    generalize hdd : ds[i] = d at hk hdl hg hg2
    by_cases hd0 : d = []
    · rw [if_pos hd0] at hk
      simp [hlt, hB2, hg2, hdd, hd0, hw]
      exact hG (i + 1, ts) rfl (Heap.le.refl _) rfl ⟨by show i + 1 ≤ _; omega, hl, hk⟩ (by show _ - (i + 1) < _ - i; omega)
    rw [if_neg hd0] at hk
    have hd0' : d.isEmpty = false := by simpa using hd0
    simp [hlt, hB2, hg2, hdd, hd0, hd0', hw]
    refine ⟨by omega, 47, rfl, ?_⟩
    have hcl := cutF_len 47 d
    simp
    refine ⟨by omega, ?_⟩
    simp
    refine ⟨by omega, ?_⟩
    have hbad : defF d = none → ∀ H' n', Keep H n H' → Fin H n κ (.tup [.agg (strsA ts ++ [.b lk]), .b false]) H' n' := fun q H' n' hk' => by
      rw [q] at hk
      rw [hk] at h
      exact fin_nameless h rfl (Stay.keep hf hk') (by simp)
    cases hx : hexF (cutF 47 d).2.1 with
    | none =>
      have hb := hbad (by unfold defF; split <;> simp [hx])
      simp [-AVal.solid, hsol, hl, hone ts, hzl, hB1, htk]
      exact hb _ _ (by (repeat (refine Keep.new ?_ (by omega))); exact hBk)
    | some t =>
      have hbt : (!(cutF 47 d).2.2 || !(keyF (cutF 47 d).1).2) = !((cutF 47 d).2.2 && (keyF (cutF 47 d).1).2) := by cases (cutF 47 d).2.2 <;> simp
      cases hc : ((cutF 47 d).2.2 && (keyF (cutF 47 d).1).2)
      · have hb := hbad (by unfold defF; rw [if_neg (by simpa using hc)])
        simp [-AVal.solid, hbt, hc, hsol, hl, hone ts, hzl, hB1, htk]
        exact hb _ _ (by (repeat (refine Keep.new ?_ (by omega))); exact hBk)
      · have hc' : (cutF 47 d).2.2 = true ∧ (keyF (cutF 47 d).1).2 = true := by simpa using hc
        have hdf : defF d = some ((keyF (cutF 47 d).1).1, t) := by unfold defF; rw [if_pos hc', hx]; rfl
        rw [hdf] at hk
        have hr := keyF_rng hc'.2
        generalize (keyF (cutF 47 d).1).1 = x at hk hr
        have hwx : IntKind.i64.wrap (x - 17) = x - 17 := wrap_i64 (by omega) (by omega)
        have hx0 : 17 ≤ x := by omega
        have hx1 : x - 17 < 18 := by omega
        have hpt := keys_put (lk := lk) hl (j := (x - 17).toNat) (by omega) t
        have hx2 : (x - 17).toNat + 1 ≤ 19 := by omega
        simp [-AVal.solid, hbt, hc, hsol, hl, hone ts, hzl, hB1, htk, hwx, hx0, hx1, hx2, hpt, hw]
        refine ⟨rfl, hG (i + 1, ts.set (x - 17).toNat t) rfl (Heap.le.refl _) rfl ⟨by show i + 1 ≤ _; omega, by simp [hl], hk⟩ (by show _ - (i + 1) < _ - i; omega)⟩
  · have : ds.drop i = [] := List.drop_eq_nil_of_le (by omega)
    rw [this, withL] at hk
    rw [hk] at h
    simp [hlt]
    simp [c15t2, c15t3, r15, -AVal.solid, hsol, hl, hone ts, hzl, hB1, htk]
    exact fin_nameless h rfl (Stay.keep hf (by (repeat (refine Keep.new ?_ (by omega))); exact hBk)) (by simp))
end Go.AM.K
/- Keys' texts: they are defined. -/
set_option linter.unusedVariables false
set_option linter.unusedSimpArgs false
set_option maxRecDepth 100000
namespace Go.AM.K
attribute [local irreducible] hset Go.AM.killV
open Go.Proofs Go.RowKit

def clrF : List (List UInt8) := List.replicate 18 []
theorem drop18 {ts : List (List UInt8)} {lk : Bool} (hl : ts.length = 18) : List.drop 18 (strsA ts ++ [AVal.b lk]) = [.b lk] := by
  rw [List.drop_append_of_le_length (by simp; omega), List.drop_eq_nil_of_le (by simp; omega)]; rfl
def S14 : Spec
  | [.ptr u 0 0], H, n, κ => ∃ ts lk, H u = some ⟨false, 19, [.agg (strsA ts ++ [.b lk])]⟩ ∧ ts.length = 18 ∧ κ (.tup []) (hset H u (some ⟨false, 19, [.agg (strsA clrF ++ [.b lk])]⟩)) n
  | _, _, _, _ => False
set_option maxHeartbeats 4000000 in
theorem ok14 : SpecOK Tryd.prog 14 S14 := compF_ok hmix tbl_nil_ok e14 (fun args H n κ hf h => by
  unfold S14 at h
  split at h
  rotate_left
  · exact h.elim
  refine ⟨by simp, ?_⟩
  rename_i u
  obtain ⟨ts, lk, hu, hl, h⟩ := h
  have hd := drop18 (lk := lk) hl
  simp [c14, r14, hu, hd]
  refine Fin.same' (Hs := hset H u (some ⟨false, 19, [.agg (strsA clrF ++ [.b lk])]⟩)) h (by simp) ?_
  exact (Stay.refl hf).turn (lt_of_live hf hu) (fun f _ => by simp))
/-- What a definition comes to. -/
def defineF (clear lock : Bool) (data : List UInt8) (ts : List (List UInt8)) (lk : Bool) : Int × List (List UInt8) × Bool :=
  if (withL (splitF 59 data) (if clear then clrF else ts)).2 = false then (3, ts, lk)
  else if 804 < usedF (withL (splitF 59 data) (if clear then clrF else ts)).1 then (5, ts, lk)
  else if lk then (6, ts, lk) else (0, (withL (splitF 59 data) (if clear then clrF else ts)).1, lock)
theorem hexP_len : ∀ (k : Nat) (l t : List UInt8), l.length ≤ k → hexP l = some t → t.length ≤ l.length
  | k, [], t, _, h => by simp [hexP] at h; subst h; simp
  | k, [a], t, _, h => by simp [hexP] at h; subst h; simp
  | 0, a :: b :: r, t, hk, h => by simp at hk
  | k + 1, a :: b :: r, t, hk, h => by
    unfold hexP at h
    split at h
    · exact absurd h (by simp)
    · simp only [Option.map_eq_some_iff] at h
      obtain ⟨t', h1, rfl⟩ := h
      have := hexP_len k r t' (by simp at hk; omega) h1
      simp; omega
theorem defF_len {d t : List UInt8} {x : Int} (h : defF d = some (x, t)) : t.length ≤ d.length := by
  unfold defF at h
  split at h
  · simp only [Option.map_eq_some_iff, Prod.mk.injEq] at h
    obtain ⟨t', h1, _, rfl⟩ := h
    have h2 := cutF_len 47 d
    unfold hexF at h1
    split at h1
    · exact absurd h1 (by simp)
    · have := hexP_len _ _ _ (Nat.le_refl _) h1
      omega
  · exact absurd h (by simp)
theorem withL_ok (k : Nat) : ∀ (ds ts : List (List UInt8)), ts.length = 18 → (∀ t ∈ ts, t.length ≤ k) → (∀ d ∈ ds, d.length ≤ k) → (withL ds ts).1.length = 18 ∧ ∀ t ∈ (withL ds ts).1, t.length ≤ k
  | [], ts, hl, ht, _ => ⟨hl, ht⟩
  | d :: r, ts, hl, ht, hd => by
    unfold withL
    split
    · exact withL_ok k r ts hl ht (fun x hx => hd x (List.mem_cons_of_mem _ hx))
    · split
      · exact ⟨hl, ht⟩
      · rename_i x t hx
        refine withL_ok k r _ (by simp [hl]) (fun y hy => ?_) (fun x hx => hd x (List.mem_cons_of_mem _ hx))
        rcases List.mem_or_eq_of_mem_set hy with q | rfl
        · exact ht y q
        · have h1 := defF_len hx
          have h2 := hd d (List.mem_cons_self ..)
          omega
def S12 : Spec
  | [.ptr u 0 0, .b clear, .b lock, .s data], H, n, κ => ∃ ts lk, H u = some ⟨false, 19, [.agg (strsA ts ++ [.b lk])]⟩ ∧ ts.length = 18 ∧ (∀ t ∈ ts, t.length ≤ 100000000) ∧ data.length ≤ 100000000 ∧
      κ (.i .i64 (defineF clear lock data ts lk).1) (hset H u (some ⟨false, 19, [.agg (strsA (defineF clear lock data ts lk).2.1 ++ [.b (defineF clear lock data ts lk).2.2])]⟩)) n
  | _, _, _, _ => False
set_option maxHeartbeats 4000000 in
theorem ok12 : SpecOK Tryd.prog 12 S12 := compF_ok hmix (tbl_cons_ok ok14 (tbl_cons_ok ok15 (tbl_cons_ok ok16 tbl_nil_ok))) e12 (fun args H n κ hf h => by
  unfold S12 at h
  split at h
  rotate_left
  · exact h.elim
  refine ⟨by simp, ?_⟩
  rename_i u clear lock data
  obtain ⟨ts, lk, hu, hl, hts, hdl, h⟩ := h
  have hun : u < n := lt_of_live hf hu
  have hsol := keys_solid
  have hone : ∀ (ts : List (List UInt8)), ∀ x ∈ strsA ts, x.one = true := fun ts x hx => by obtain ⟨p, _, rfl⟩ := List.mem_map.1 hx; rfl
  have htk : List.take 19 (strsA ts ++ [AVal.b lk]) = strsA ts ++ [AVal.b lk] := List.take_of_length_le (by simp; omega)
  have hfr1 := frA hun
  have hrd := fun k => frB hun k
  unfold defineF at h
  generalize hts0 : (if clear = true then clrF else ts) = ts0 at h
  have hl0 : ts0.length = 18 := by rw [← hts0]; split <;> simp [clrF, hl]
  have ht0 : ∀ t ∈ ts0, t.length ≤ 100000000 := by
    rw [← hts0]; split
    · intro t ht; simp [clrF] at ht; subst ht; simp
    · exact hts
  have t3 : ∀ e H1, e 0 = .ptr u 0 0 → e 2 = .b lock → e 3 = .s data → e 9 = .ptr n 0 0 → H1 u = some ⟨false, 19, [.agg (strsA ts ++ [.b lk])]⟩ → H1 n = some ⟨false, 19, [.agg (strsA ts0 ++ [.b lk])]⟩ → Keep H n H1 → (∀ m, n + 1 ≤ m → H1 m = none) →
      WP (tbl [(14, S14), (15, S15), (16, S16)]) c12t3 (retQ r12 H n κ) e H1 (n + 1) := by
    intro e H1 e0 e2 e3 e9 hu1 hn1 hk hfr
    have htk0 : List.take 19 (strsA ts0 ++ [AVal.b lk]) = strsA ts0 ++ [AVal.b lk] := List.take_of_length_le (by simp; omega)
    have hps := splitF_parts 59 _ data rfl
    obtain ⟨hw1, hw2⟩ := withL_ok 100000000 (splitF 59 data) ts0 hl0 ht0 (fun d hd => by have := hps d hd; omega)
    simp [c12t3, r12, e0, e2, e3, e9, hu1, hn1, hl0, htk0]
    refine ⟨ts0, lk, rfl, hl0, by omega, ?_⟩
    generalize withL (splitF 59 data) ts0 = wt at h hw1 hw2
    obtain ⟨tw, okw⟩ := wt
    simp only at h hw1 hw2
    have htkw : List.take 19 (strsA tw ++ [AVal.b lk]) = strsA tw ++ [AVal.b lk] := List.take_of_length_le (by simp; omega)
    simp [-AVal.solid, hsol, e0, e2, e3, e9, hu1, hn1, hl0, hw1, hone tw]
    have hK2 : ∀ x, Keep H n (hset H1 n x) := fun x => hk.new (Nat.le_refl _)
    have hend : ∀ (x : Int) ts' lk' H' n', x = (if okw = false then ((3, ts, lk) : Int × List (List UInt8) × Bool) else if 804 < usedF tw then (5, ts, lk) else if lk = true then (6, ts, lk) else (0, tw, lock)).1 →
        ts' = (if okw = false then ((3, ts, lk) : Int × List (List UInt8) × Bool) else if 804 < usedF tw then (5, ts, lk) else if lk = true then (6, ts, lk) else (0, tw, lock)).2.1 →
        lk' = (if okw = false then ((3, ts, lk) : Int × List (List UInt8) × Bool) else if 804 < usedF tw then (5, ts, lk) else if lk = true then (6, ts, lk) else (0, tw, lock)).2.2 →
        (∀ a o, a < n → a ≠ u → H a = some o → H' a = some o) → H' u = some ⟨false, 19, [.agg (strsA ts' ++ [.b lk'])]⟩ → Fin H n κ (.i .i64 x) H' n' := by
      intro x ts' lk' H' n' hx ht hl' hka hku
      rw [← hx, ← ht, ← hl'] at h
      exact Fin.same' h (by simp) (Stay.at hf hka hku hun (fun f _ => by simp))
    have hkx : ∀ x, ∀ a o, a < n → a ≠ u → H a = some o → (hset H1 n x) a = some o := fun x a o ha _ e => hK2 x a o ha e
    have hux : ∀ x, (hset H1 n x) u = some ⟨false, 19, [.agg (strsA ts ++ [.b lk])]⟩ := fun x => by rw [hset_ne _ _ (by omega)]; exact hu1
    cases okw
    · simp [c12t4, r12]
      exact hend _ _ _ _ _ (by simp) rfl rfl (hkx _) (by rw [hux]; simp)
    · have hro : roH (hset H1 n (some ⟨false, 19, [.agg (strsA tw ++ [.b lk])]⟩)) n = some ⟨true, 19, [.agg (strsA tw ++ [.b lk])]⟩ := roH_some (ro := false) (by simp)
      simp [c12t4, r12]
      refine ⟨tw, lk, hro, hw1, fun t ht => by have := hw2 t ht; omega, rfl, ?_⟩
      simp
      by_cases hus : 804 < usedF tw
      · simp [hus]
        exact hend _ _ _ _ _ (by simp [hus]) rfl rfl (hkx _) (by rw [hux]; simp [hus])
      · cases lk
        · simp [hus, hfr1, hu1, hl]
          have hd18 : List.drop 19 (strsA tw ++ [AVal.b false]) = [] := List.drop_eq_nil_of_le (by simp; omega)
          have ht18 : List.take 18 (strsA tw ++ [AVal.b false]) = strsA tw := by rw [List.take_append_of_le_length (by simp; omega), List.take_of_length_le (by simp; omega)]
          have htkl : List.take 19 (strsA tw ++ [AVal.b lock]) = strsA tw ++ [AVal.b lock] := List.take_of_length_le (by simp; omega)
          have hune : u ≠ n := by omega
          simp [c12t5, c12t6, c12t7, c12t8, r12, -AVal.solid, hsol, hfr1, hu1, hw1, hl, hd18, ht18, htkl]
          refine ⟨rfl, ?_⟩
          refine hend _ _ _ _ _ (by simp [hus]) rfl rfl (fun a o ha hau e => ?_) (by simp [hus])
          rw [hset_ne _ _ hau, hset_ne _ _ (by omega)]
          exact hk a o ha e
        · simp [hus, hfr1, hu1, hl]
          exact hend _ _ _ _ _ (by simp [hus]) rfl rfl (hkx _) (by rw [hux]; simp [hus])
  cases clear
  · simp only [Bool.false_eq_true, if_false] at hts0
    subst hts0
    simp [c12, c12t1, c12t2, r12, -AVal.solid, hsol, hu, hl, htk, hone ts]
    refine ⟨rfl, t3 _ _ rfl rfl rfl rfl (by simp [hfr1, hu]) (by simp) (by (repeat (refine Keep.new ?_ (by omega))); exact Keep.refl _ _) (fresh_new hf)⟩
  · simp only [if_true] at hts0
    subst hts0
    simp [c12, c12t1, c12t2, r12, -AVal.solid, hsol, hu, hl, htk, hone ts]
    refine ⟨rfl, ts, lk, by simp, hl, ?_⟩
    simp
    refine t3 _ _ rfl rfl rfl rfl (by simp [hfr1, hu]) (by simp) (by (repeat (refine Keep.new ?_ (by omega))); exact Keep.refl _ _) (fresh_new hf))

/-! a board's texts -/
def textsF (data : List UInt8) : List (List UInt8) := if data.length < 2000 then (defineF false false data clrF false).2.1 else clrF
def textsL (data : List UInt8) : Bool := if data.length < 2000 then (defineF false false data clrF false).2.2 else false
theorem textsF_len (data : List UInt8) : (textsF data).length = 18 := by
  unfold textsF
  split
  · unfold defineF
    have hps := splitF_parts 59 _ data rfl
    obtain ⟨hw1, hw2⟩ := withL_ok 100000000 (splitF 59 data) clrF (by simp [clrF]) (by intro t ht; simp [clrF] at ht; subst ht; simp) (fun d hd => by have := hps d hd; omega)
    simp only [Bool.false_eq_true, if_false]
    split
    · simp [clrF]
    · split
      · simp [clrF]
      · exact hw1
  · simp [clrF]
def S8 : Spec
  | [.agg [.i .u32 m, .i .i64 lev, .b ei, .s data]], H, n, κ => κ (.ptr n 0 0) (hset H n (some ⟨false, 19, [.agg (strsA (textsF data) ++ [.b (textsL data)])]⟩)) (n + 1)
  | _, _, _, _ => False
set_option maxHeartbeats 4000000 in
theorem ok8 : SpecOK Tryd.prog 8 S8 := compF_ok hmix (tbl_cons_ok ok12 tbl_nil_ok) e8 (fun args H n κ hf h => by
  unfold S8 at h
  split at h
  rotate_left
  · exact h.elim
  refine ⟨by simp, ?_⟩
  rename_i m lev ei data
  have hz : [AVal.s [], .s [], .s [], .s [], .s [], .s [], .s [], .s [], .s [], .s [], .s [], .s [], .s [], .s [], .s [], .s [], .s [], .s [], .b false] = strsA clrF ++ [.b false] := rfl
  unfold textsF textsL at h
  by_cases hd : data.length < 2000
  · rw [if_pos hd, if_pos hd] at h
    have hd' : (data.length : Int) < 2000 := by omega
    simp [c8, c8t1, c8t2, c8t3, c8t4, r8, hd']
    refine ⟨clrF, false, by simp [hz], by simp [clrF], by intro t ht; simp [clrF] at ht; subst ht; simp, by omega, ?_⟩
    simp
    exact Fin.new1' (vs := .ptr n 0 0) (m := n + 1) h (by omega) (by simp) (fun f _ h2 => by simp [h2]) (fun f _ => by simp) (by (repeat (refine Stay.new ?_ (by omega))); exact Stay.refl hf)
  · rw [if_neg hd, if_neg hd] at h
    have hd' : ¬ (data.length : Int) < 2000 := by omega
    simp [c8, c8t1, c8t2, c8t3, c8t4, r8, hd']
    exact Fin.new1' (vs := .ptr n 0 0) (m := n + 1) h (by omega) (by simp [hz]) (fun f _ h2 => by simp [h2]) (fun f _ => by simp) (by (repeat (refine Stay.new ?_ (by omega))); exact Stay.refl hf))
end Go.AM.K
/- The laws' functions. -/
set_option linter.unusedVariables false
set_option linter.unusedSimpArgs false
set_option maxRecDepth 100000
namespace Go.AM.K
attribute [local irreducible] hset Go.AM.killV
open Go.Proofs Go.RowKit

def S5 : Spec
  | [], H, n, κ => κ (.b true) H n
  | _, _, _, _ => False
theorem enc1 (ts : List (List UInt8)) : encF 5 0 false false 0 5 false ts = some [27, 91, 65] := by
  have : arrowF 5 0 false = [27, 91, 65] := by decide
  simp [encF, this, show hasM 0 0 = false from by decide]
theorem enc2 (ts : List (List UInt8)) : encF 5 0 false false (withM 0 4 true) 5 false ts = some [27, 79, 65] := by
  have : arrowF 5 (withM 0 4 true) false = [27, 79, 65] := by decide
  simp [encF, this, show hasM (withM 0 4 true) 0 = false from by decide]
theorem enc3 (ts : List (List UInt8)) : encF 16 6 false false 0 5 false ts = some [27, 91, 49, 55, 126] := by
  have h1 : numberF 6 = 17 := by decide
  have h2 : csiF false [126] [17] = [27, 91, 49, 55, 126] := by decide
  simp [encF, fF, h1, h2, show hasM 0 0 = false from by decide]
set_option maxHeartbeats 4000000 in
theorem ok5 : SpecOK Tryd.prog 5 S5 := compF_ok hmix (tbl_cons_ok ok9 (tbl_cons_ok ok6 tbl_nil_ok)) e5 (fun args H n κ hf h => by
  unfold S5 at h
  split at h
  rotate_left
  · exact h.elim
  refine ⟨by simp, ?_⟩
  have hz : [AVal.s [], .s [], .s [], .s [], .s [], .s [], .s [], .s [], .s [], .s [], .s [], .s [], .s [], .s [], .s [], .s [], .s [], .s [], .b false] = strsA clrF ++ [.b false] := rfl
  simp [c5, c5t1, c5t2, c5t3, c5t4, r5, S6]
  refine ⟨by omega, by omega, clrF, false, ⟨false, by simp [hz], by simp [clrF]⟩, ?_⟩
  simp [enc1, retBytes, S6]
  refine ⟨by omega, by omega, clrF, false, ⟨false, by simp [hz], by simp [clrF]⟩, ?_⟩
  simp [enc2, retBytes]
  refine ⟨by omega, by omega, clrF, false, ⟨false, by simp [hz], by simp [clrF]⟩, ?_⟩
  simp [enc3, retBytes]
  exact fin_nameless h rfl (by (repeat (refine Stay.new ?_ (by omega))); exact Stay.refl hf) (by simp))
def five : List Int := [0, 3, 4, 12, 13]
/-- The other modes, with five as they are. -/
def mixM (o m : Int) : Int := five.foldl (fun o x => withM o x (hasM m x)) o
theorem withM_rng {m x : Int} {on : Bool} (h : 0 ≤ m ∧ m < 4294967296) : 0 ≤ withM m x on ∧ withM m x on < 4294967296 := by
  unfold withM
  split
  · split <;> (simp only [ibits, IntKind.wrap, IntKind.bits, IntKind.signed]; simp; omega)
  · exact h
end Go.AM.K
/- Modes, bit by bit; what a key sends hangs on five of them. -/
set_option linter.unusedVariables false
set_option linter.unusedSimpArgs false
set_option maxRecDepth 100000
namespace Go.AM.K
attribute [local irreducible] hset Go.AM.killV
open Go.Proofs Go.RowKit

theorem wrap_u32 {x : Int} (h : 0 ≤ x) (h2 : x < 4294967296) : IntKind.u32.wrap x = x := by
  simp only [IntKind.wrap, IntKind.bits, IntKind.signed]
  simp
  omega
theorem wrap_bv (v : BitVec 32) : IntKind.u32.wrap ((v.toNat : Nat) : Int) = ((v.toNat : Nat) : Int) := wrap_u32 (by omega) (by have := v.isLt; omega)
theorem bv_toNat {m : Int} (h : 0 ≤ m) (h2 : m < 4294967296) : (BitVec.ofInt 32 m).toNat = m.toNat := by
  rw [BitVec.toNat_ofInt]
  rw [Int.emod_eq_of_lt h (by simpa using h2)]
theorem lt_cast {p : Nat} (h : p < 4294967296) : (p : Int) < 4294967296 := by omega
theorem hasM_bit {m x : Int} (hm : 0 ≤ m ∧ m < 4294967296) (hx : 0 ≤ x ∧ x < 17) : hasM m x = m.toNat.testBit x.toNat := by
  have hmin : min x.toNat 32 = x.toNat := by omega
  obtain ⟨k, rfl⟩ := Int.eq_ofNat_of_zero_le hm.1
  obtain ⟨j, rfl⟩ := Int.eq_ofNat_of_zero_le hx.1
  simp only [Int.toNat_natCast] at hmin ⊢
  have hd : (k : Int).fdiv (2 ^ j) = ((k / 2 ^ j : Nat) : Int) := by
    have : ((2 : Int) ^ j) = ((2 ^ j : Nat) : Int) := by simp
    rw [this, Int.ofNat_fdiv]
  have hk : k / 2 ^ j < 4294967296 := Nat.lt_of_le_of_lt (Nat.div_le_self _ _) (by omega)
  unfold hasM
  rw [if_pos hx]
  simp only [Int.toNat_natCast, hmin, hd]
  rw [Nat.testBit_eq_decide_div_mod_eq]
  generalize k / 2 ^ j = q at hk
  have hib : ibits .and .u32 (q : Int) 1 = ((q % 2 : Nat) : Int) := by
    unfold ibits
    have e : ((BitVec.ofInt 32 (q : Int) &&& BitVec.ofInt 32 1).toNat) = q % 2 := by
      rw [BitVec.toNat_and, bv_toNat (by omega) (by omega), bv_toNat (by omega) (by omega)]
      simp
    show IntKind.u32.wrap (((BitVec.ofInt 32 (q : Int) &&& BitVec.ofInt 32 1).toNat : Nat) : Int) = _
    rw [wrap_bv, e]
  rw [hib]
  congr 1
  simp only [eq_iff_iff]
  omega
theorem withM_bit {m x : Int} (hm : 0 ≤ m ∧ m < 4294967296) (hx : 0 ≤ x ∧ x < 17) (on : Bool) (j : Nat) (hj : j < 32) : (withM m x on).toNat.testBit j = if j = x.toNat then on else m.toNat.testBit j := by
  have hmin : min x.toNat 32 = x.toNat := by omega
  unfold withM
  rw [if_pos hx]
  obtain ⟨k, rfl⟩ := Int.eq_ofNat_of_zero_le hx.1
  simp only [Int.toNat_natCast] at hmin ⊢
  have hp : (1 * 2 ^ (min k 32) : Int) = ((2 ^ k : Nat) : Int) := by rw [hmin]; simp
  have hlt : (2 ^ k : Nat) < 4294967296 := by
    have : (2 ^ k : Nat) ≤ 2 ^ 16 := Nat.pow_le_pow_right (by omega) (by omega)
    omega
  have hw : IntKind.u32.wrap ((2 ^ k : Nat) : Int) = ((2 ^ k : Nat) : Int) := wrap_u32 (Int.natCast_nonneg _) (lt_cast hlt)
  rw [hp, hw]
  have hb : (BitVec.ofInt 32 ((2 ^ k : Nat) : Int)).getLsbD j = decide (k = j) := by
    rw [← BitVec.testBit_toNat, bv_toNat (Int.natCast_nonneg _) (lt_cast hlt), Int.toNat_natCast, Nat.testBit_two_pow]
  have ha : (BitVec.ofInt 32 m).getLsbD j = m.toNat.testBit j := by
    rw [← BitVec.testBit_toNat, bv_toNat hm.1 hm.2]
  cases on
  · have e : ibits .andNot .u32 m ((2 ^ k : Nat) : Int) = (((BitVec.ofInt 32 m &&& ~~~(BitVec.ofInt 32 ((2 ^ k : Nat) : Int))).toNat : Nat) : Int) := by
      show IntKind.u32.wrap _ = _
      exact wrap_bv _
    simp only [Bool.false_eq_true, if_false]
    rw [e, Int.toNat_natCast, BitVec.testBit_toNat, BitVec.getLsbD_and, BitVec.getLsbD_not, ha, hb]
    by_cases q : j = k
    · subst q; simp
    · have : ¬ k = j := fun e => q e.symm
      simp [q, this, hj]
  · have e : ibits .or .u32 m ((2 ^ k : Nat) : Int) = (((BitVec.ofInt 32 m ||| BitVec.ofInt 32 ((2 ^ k : Nat) : Int)).toNat : Nat) : Int) := by
      show IntKind.u32.wrap _ = _
      exact wrap_bv _
    simp only [if_true]
    rw [e, Int.toNat_natCast, BitVec.testBit_toNat, BitVec.getLsbD_or, ha, hb]
    by_cases q : j = k
    · subst q; simp
    · have : ¬ k = j := fun e => q e.symm
      simp [q, this]
theorem hasM_withM {m x y : Int} (hm : 0 ≤ m ∧ m < 4294967296) (hx : 0 ≤ x ∧ x < 17) (hy : 0 ≤ y ∧ y < 17) (on : Bool) : hasM (withM m x on) y = if y = x then on else hasM m y := by
  rw [hasM_bit (withM_rng hm) hy, withM_bit hm hx on _ (by omega), hasM_bit hm hy]
  have : (y.toNat = x.toNat) = (y = x) := by simp; omega
  simp only [this]
theorem mixM_has {o m : Int} (ho : 0 ≤ o ∧ o < 4294967296) (hm : 0 ≤ m ∧ m < 4294967296) {y : Int} (hy : y ∈ five) : hasM (mixM o m) y = hasM m y := by
  have h0 : (0 : Int) ≤ 0 ∧ (0 : Int) < 17 := by omega
  have h3 : (0 : Int) ≤ 3 ∧ (3 : Int) < 17 := by omega
  have h4 : (0 : Int) ≤ 4 ∧ (4 : Int) < 17 := by omega
  have h12 : (0 : Int) ≤ 12 ∧ (12 : Int) < 17 := by omega
  have h13 : (0 : Int) ≤ 13 ∧ (13 : Int) < 17 := by omega
  have r1 := withM_rng (x := 0) (on := hasM m 0) ho
  have r2 := withM_rng (x := 3) (on := hasM m 3) r1
  have r3 := withM_rng (x := 4) (on := hasM m 4) r2
  have r4 := withM_rng (x := 12) (on := hasM m 12) r3
  have hyy : 0 ≤ y ∧ y < 17 := by simp [five] at hy; omega
  simp only [mixM, five, List.foldl_cons, List.foldl_nil]
  rw [hasM_withM r4 h13 hyy, hasM_withM r3 h12 hyy, hasM_withM r2 h4 hyy, hasM_withM r1 h3 hyy, hasM_withM ho h0 hyy]
  simp only [five, List.mem_cons, List.not_mem_nil, or_false] at hy
  rcases hy with rfl | rfl | rfl | rfl | rfl <;> simp
/-- The law: what is sent hangs on five modes alone. -/
theorem encF_five {m m' : Int} (h : ∀ y ∈ five, hasM m' y = hasM m y) (kind c : Int) (sh ct : Bool) (lev : Int) (ei : Bool) (ts : List (List UInt8)) : encF kind c sh ct m' lev ei ts = encF kind c sh ct m lev ei ts := by
  have h0 := h 0 (by simp [five])
  have h3 := h 3 (by simp [five])
  have h4 := h 4 (by simp [five])
  have h12 := h 12 (by simp [five])
  have h13 := h 13 (by simp [five])
  have e1 : enterF m' = enterF m := by simp [enterF, h3]
  have e2 : backF m' = backF m := by simp [backF, h13]
  have e3 : arrowF kind m' ei = arrowF kind m ei := by simp [arrowF, h4]
  have e4 : padF c m' ei = padF c m ei := by simp [padF, h12, e1]
  have e5 : fF c sh m' lev ei ts = fF c sh m lev ei ts := rfl
  simp only [encF, h0, e1, e2, e3, e4, e5]
end Go.AM.K
/- KeysModes: the walk. -/
set_option linter.unusedVariables false
set_option linter.unusedSimpArgs false
set_option maxRecDepth 100000
namespace Go.AM.K
attribute [local irreducible] hset Go.AM.killV
open Go.Proofs Go.RowKit

def S3 : Spec
  | [.agg [.i .i64 kind, .i .u8 c, .b sh, .b ct], .agg [.i .u32 m, .i .i64 lev, .b ei, .s data], .i .u32 o], H, n, κ => 0 ≤ c ∧ c < 256 ∧ 0 ≤ m ∧ m < 4294967296 ∧ 0 ≤ o ∧ o < 4294967296 ∧ κ (.b true) H n
  | _, _, _, _ => False
set_option maxHeartbeats 4000000 in
theorem ok3 : SpecOK Tryd.prog 3 S3 := compF_ok hmix (tbl_cons_ok ok5 (tbl_cons_ok ok7 (tbl_cons_ok ok6 (tbl_cons_ok ok8 (tbl_cons_ok ok10 (tbl_cons_ok ok9 tbl_nil_ok)))))) e3 (fun args H n κ hf h => by
  unfold S3 at h
  split at h
  rotate_left
  · exact h.elim
  refine ⟨by simp, ?_⟩
  rename_i kind c sh ct m lev ei data o
  obtain ⟨hc0, hc1, hm0, hm1, ho0, ho1, h⟩ := h
  simp [c3, c3t1, c3t2, r3, S5, S7, S6, S8, S10]
  refine WP_loop_st (S := Nat × Int) (fun s => mkE [(2, .i .u32 s.2), (3, .ptr n 0 0), (4, .ptr (n + 1) 0 0), (12, .sl (n + 1 + 1) 0 5), (13, .i .i64 5), (14, .i .i64 s.1)])
    (fun _ => hset (hset (hset H n (some ⟨false, 4, [.agg [.i .i64 kind, .i .u8 c, .b sh, .b ct]]⟩)) (n + 1) (some ⟨false, 4, [.agg [.i .u32 m, .i .i64 lev, .b ei, .s data]]⟩)) (n + 1 + 1) (some ⟨false, 1, intsA five⟩)) (fun _ => n + 1 + 1 + 1)
    (fun s => s.1 ≤ 5 ∧ (five.drop s.1).foldl (fun o x => withM o x (hasM m x)) s.2 = mixM o m) (fun s => 5 - s.1) (0, o) rfl (by simp [five]; exact Heap.le.refl _) rfl ⟨by omega, rfl⟩ ?_
  rintro ⟨i, o'⟩ ⟨hi, ho'⟩ hf' G hG
  simp only at hi ho'
  by_cases hlt : i < 5
  · have hcs : i = 0 ∨ i = 1 ∨ i = 2 ∨ i = 3 ∨ i = 4 := by omega
    rcases hcs with rfl | rfl | rfl | rfl | rfl
    all_goals
      simp [five, wrap_i64, S7, S6]
    · exact hG (1, _) rfl (Heap.le.refl _) rfl ⟨by omega, ho'⟩ (by omega)
    · exact hG (2, _) rfl (Heap.le.refl _) rfl ⟨by omega, ho'⟩ (by omega)
    · exact hG (3, _) rfl (Heap.le.refl _) rfl ⟨by omega, ho'⟩ (by omega)
    · exact hG (4, _) rfl (Heap.le.refl _) rfl ⟨by omega, ho'⟩ (by omega)
    · exact hG (5, _) rfl (Heap.le.refl _) rfl ⟨by omega, ho'⟩ (by omega)
  · have hi5 : i = 5 := by omega
    subst hi5
    have ho2 : o' = mixM o m := by rw [← ho']; simp [five]
    have hen : encF kind c sh ct o' lev ei (textsF data) = encF kind c sh ct m lev ei (textsF data) := encF_five (fun y hy => by rw [ho2]; exact mixM_has ⟨ho0, ho1⟩ ⟨hm0, hm1⟩ hy) _ _ _ _ _ _ _
    simp [c3t3, c3t4, c3t5, r3, S5, S7, S6, S8, S10]
    refine ⟨hc0, hc1, textsF data, textsL data, ⟨false, by simp, textsF_len _⟩, ?_⟩
    cases hx : encF kind c sh ct m lev ei (textsF data) with
    | none =>
      rw [hx] at hen
      simp [retBytes, S10]
      refine ⟨hc0, hc1, textsF data, textsL data, ⟨false, by simp, textsF_len _⟩, ?_⟩
      simp [retBytes, hen]
      exact fin_nameless h rfl (by (repeat (refine Stay.new ?_ (by omega))); exact Stay.refl hf) (by simp)
    | some l =>
      rw [hx] at hen
      simp [retBytes, S10]
      refine ⟨hc0, hc1, textsF data, textsL data, ⟨false, by simp, textsF_len _⟩, ?_⟩
      simp [retBytes, hen]
      exact fin_nameless h rfl (by (repeat (refine Stay.new ?_ (by omega))); exact Stay.refl hf) (by simp))
end Go.AM.K
/- KeysChars: the walk. -/
set_option linter.unusedVariables false
set_option linter.unusedSimpArgs false
set_option maxRecDepth 100000
namespace Go.AM.K
attribute [local irreducible] hset Go.AM.killV
open Go.Proofs Go.RowKit

theorem charF_plain (c lev : Int) : charF c false lev = if (32 ≤ c ∧ c ≤ 126) ∨ (160 ≤ c ∧ 2 ≤ lev) then some [u8 c] else none := by
  unfold charF
  by_cases h : c < 32 ∨ (127 ≤ c ∧ c < 160) ∨ (160 ≤ c ∧ lev < 2)
  · rw [if_pos h, if_neg (by omega)]
  · rw [if_neg h, if_pos (by omega)]
    simp [ctlF]
theorem encF_char {m : Int} (hm : 0 ≤ m ∧ m < 4294967296) (c lev : Int) (ei : Bool) (ts : List (List UInt8)) :
    encF 0 c false false (withM m 0 false) lev ei ts = if (32 ≤ c ∧ c ≤ 126) ∨ (160 ≤ c ∧ 2 ≤ lev) then some [u8 c] else none := by
  have h0 : hasM (withM m 0 false) 0 = false := by rw [hasM_withM hm (by omega) (by omega)]; simp
  simp [encF, h0, charF_plain]
def S4 : Spec
  | [tv, .agg [.i .u32 m, .i .i64 lev, .b ei, .s data]], H, n, κ => ∃ l, BytesAt H tv l ∧ 0 ≤ m ∧ m < 4294967296 ∧ κ (.b true) H n
  | _, _, _, _ => False
set_option maxHeartbeats 4000000 in
theorem ok4 : SpecOK Tryd.prog 4 S4 := compF_ok hmix (tbl_cons_ok ok5 (tbl_cons_ok ok6 (tbl_cons_ok ok8 (tbl_cons_ok ok9 tbl_nil_ok)))) e4 (fun args H n κ hf h => by
  unfold S4 at h
  split at h
  rotate_left
  · exact h.elim
  refine ⟨by simp, ?_⟩
  rename_i tv m lev ei data
  obtain ⟨l, hl, hm0, hm1, h⟩ := h
  have hll := bytes_len hl
  have t7 : ∀ e H0 n0 H1 N ls out, e 7 = out → e 8 = .s ls → Bld 1 H0 n0 (bytesA ls) out H1 N → Keep H n H1 →
      WP (tbl [(5, S5), (6, S6), (8, S8), (9, S9)]) c4t7 (retQ r4 H n κ) e H1 N := by
    intro e H0 n0 H1 N ls out e7 e8 hb hk
    rcases hb.own with ⟨rfl, h0⟩ | ⟨a, rfl, ha⟩
    · have hls : ls = [] := by simpa [bytesA] using h0
      subst hls
      simp [c4t7, c4t8, r4, S5, S6, S8, e7, e8]
      exact fin_nameless h rfl (Stay.keep hf hk) (by simp)
    · simp [c4t7, c4t8, r4, S5, S6, S8, e7, e8, ha]
      exact fin_nameless h rfl (Stay.keep hf hk) (by simp)
  simp [c4, c4t1, c4t2, c4t3, c4t4, c4t5, c4t6, r4, S5, S6, S8, hll]
  have hK0 : Keep H n (hset (hset H n (some ⟨false, 4, [.agg [.i .u32 m, .i .i64 lev, .b ei, .s data]]⟩)) (n + 1) (some ⟨false, 19, [.agg (strsA (textsF data) ++ [.b (textsL data)])]⟩)) := (by (repeat (refine Keep.new ?_ (by omega))); exact Keep.refl _ _)
  have hfr0 := fresh_new (o := some ⟨false, 19, [.agg (strsA (textsF data) ++ [.b (textsL data)])]⟩) (fresh_new (o := some ⟨false, 4, [.agg [.i .u32 m, .i .i64 lev, .b ei, .s data]]⟩) hf)
  generalize hH0 : hset (hset H n (some ⟨false, 4, [.agg [.i .u32 m, .i .i64 lev, .b ei, .s data]]⟩)) (n + 1) (some ⟨false, 19, [.agg (strsA (textsF data) ++ [.b (textsL data)])]⟩) = H0 at *
  have hn0 : H0 n = some ⟨false, 4, [.agg [.i .u32 m, .i .i64 lev, .b ei, .s data]]⟩ := by rw [← hH0]; simp
  have hn1 : H0 (n + 1) = some ⟨false, 19, [.agg (strsA (textsF data) ++ [.b (textsL data)])]⟩ := by rw [← hH0]; simp
  refine WP_loop_st (S := Nat × List UInt8 × AVal × Heap × Nat) (fun s => mkE [(3, .ptr n 0 0), (5, .ptr (n + 1) 0 0), (6, .i .u32 (withM m 0 false)), (7, s.2.2.1), (8, .s s.2.1), (18, tv), (19, .i .i64 l.length), (20, .i .i64 s.1)]) (fun s => s.2.2.2.1) (fun s => s.2.2.2.2)
    (fun s => s.1 ≤ l.length ∧ s.1 ≤ 100 ∧ s.2.1.length ≤ s.1 ∧ Bld 1 H0 (n + 1 + 1) (bytesA s.2.1) s.2.2.1 s.2.2.2.1 s.2.2.2.2) (fun s => l.length - s.1) (0, [], .c (.slice none 0 0), H0, n + 1 + 1)
    rfl (Heap.le.refl _) rfl ⟨by omega, by omega, by simp, Bld.nil hfr0⟩ ?_
  rintro ⟨i, ls, out, Hc, N⟩ ⟨hi, hi100, hlsl, hb⟩ hf' G hG
  simp only at hi hi100 hlsl hb hf'
  have hK : Keep H n Hc := fun b o hb' e => hb.keep b o (by omega) (hK0 b o hb' e)
  have hcn : Hc n = some _ := hb.keep n _ (by omega) hn0
  have hcn1 : Hc (n + 1) = some _ := hb.keep (n + 1) _ (by omega) hn1
  have hNn := hb.le
  by_cases hlt : i < l.length
  · obtain ⟨a, off, ro, os, rfl, ha, hg⟩ := bytes_at (hl.keep hf hK) hlt
    have hw : IntKind.i64.wrap ((i : Int) + 1) = (i : Int) + 1 := wrap_i64 (by omega) (by omega)
    have hlti : (i : Int) < l.length := by omega
    have hc := l[i].toNat_lt
    by_cases h100 : i = 100
    · have h100' : (100 : Int) ≤ (i : Int) := by omega
      simp [hlti, ha, hg, hlt, h100']
      exact t7 _ _ _ _ _ ls out (by rfl) (by rfl) hb hK
    · have h100' : ¬ (100 : Int) ≤ (i : Int) := by omega
      have hcv := encF_char ⟨hm0, hm1⟩ ((l[i].toNat : Nat) : Int) lev ei (textsF data)
      simp [hlti, ha, hg, hlt, h100', hcn, hcn1]
      refine ⟨by omega, by omega, textsF data, textsL data, ⟨false, hcn1, textsF_len _⟩, ?_⟩
      have hkn : ∀ x, killV (hset Hc N x) out n = some _ := fun x => (killV_old hb.new (by omega)).trans ((hset_ne _ _ (by omega)).trans hcn)
      have hkn2 : killV Hc out n = some _ := (killV_old hb.new (by omega)).trans hcn
      have hnN : (n = N) = False := by simp; omega
      have hnN1 : (n = N + 1) = False := by simp; omega
      by_cases hgood : (32 ≤ ((l[i].toNat : Nat) : Int) ∧ ((l[i].toNat : Nat) : Int) ≤ 126) ∨ (160 ≤ ((l[i].toNat : Nat) : Int) ∧ 2 ≤ lev)
      · rw [if_pos hgood] at hcv
        rw [hcv]
        have hu : u8 ((l[i].toNat : Nat) : Int) = l[i] := by simp [u8]
        rw [hu]
        have hho := fun x => (hb.ext (H' := hset Hc N x) (by (repeat (refine Keep.new ?_ (by omega))); exact Keep.refl _ _) (Nat.le_succ _) (fresh_new hf')).own.own
        have hb2 := hb.app' (bytesA [l[i]]) (H' := hset Hc N (some ⟨false, 1, bytesA [l[i]]⟩)) (by (repeat (refine Keep.new ?_ (by omega))); exact Keep.refl _ _) (Nat.le_succ _) (fresh_new hf')
        have hfin : ∀ H' n', Keep (hset (killV (hset Hc N (some ⟨false, 1, bytesA [l[i]]⟩)) out) (N + 1) (some ⟨false, 1, bytesA ls ++ bytesA [l[i]]⟩)) (N + 1 + 1) H' → N + 1 + 1 ≤ n' → (∀ m, n' ≤ m → H' m = none) →
            G (mkE [(3, .ptr n 0 0), (5, .ptr (n + 1) 0 0), (6, .i .u32 (withM m 0 false)), (7, .sl (N + 1) 0 (ls.length + 1)), (8, .s (ls ++ [l[i]])), (18, .sl a off l.length), (19, .i .i64 l.length), (20, .i .i64 (i + 1))]) H' n' := fun H' n' hk' hn' hfr' => by
          refine hG (i + 1, ls ++ [l[i]], .sl (N + 1) 0 (ls.length + 1), H', n') rfl (Heap.le.refl _) rfl ⟨by show i + 1 ≤ _; omega, by show i + 1 ≤ _; omega, by simp; omega, ?_⟩ (by show _ - (i + 1) < _ - i; omega)
          have := hb2.ext hk' hn' hfr'
          simpa using this
        have hc' : ((l[i].toNat : Nat) : Int) < 256 := by omega
        have hsl : ls.length + 1 ≤ 9223372036854775807 := by omega
        have hsl2 : ls.length ≤ 9223372036854775806 := by omega
        have hfr2 := hb2.fresh
        simp only [← bytesA_append, bytesA_length] at hfr2
        rcases hgood with ⟨h32, h126⟩ | ⟨h160, hlev⟩
        · simp [retBytes, hho, hkn, hnN, hnN1, h32, h126, hc', hw, hsl, hsl2]
          refine ⟨bytes_one _, by omega, ?_⟩
          exact hfin _ _ (by (repeat (refine Keep.new ?_ (by omega))); exact Keep.refl _ _) (Nat.le_succ _) (fresh_new hb2.fresh)
        · have h32 : (32 : Int) ≤ ((l[i].toNat : Nat) : Int) := by omega
          have h126 : ¬ ((l[i].toNat : Nat) : Int) ≤ 126 := by omega
          simp [retBytes, hho, hkn, hnN, hnN1, h32, h126, h160, hlev, hc', hw, hsl, hsl2]
          refine ⟨bytes_one _, by omega, ?_⟩
          exact hfin _ _ (by (repeat (refine Keep.new ?_ (by omega))); exact Keep.refl _ _) (Nat.le_succ _) (fresh_new hb2.fresh)
      · rw [if_neg hgood] at hcv
        rw [hcv]
        have hho := hb.own.own
        have hb2 := hb.app (bytesA [])
        have hbad : ((l[i].toNat : Nat) : Int) < 32 ∨ (126 < ((l[i].toNat : Nat) : Int) ∧ ((l[i].toNat : Nat) : Int) < 160) ∨ (160 ≤ ((l[i].toNat : Nat) : Int) ∧ lev < 2) := by omega
        have hcond : ((decide (32 ≤ ((l[i].toNat : Nat) : Int)) && decide (((l[i].toNat : Nat) : Int) ≤ 126)) = false) := by simp; omega
        have hcd2 : (decide (32 ≤ ((l[i].toNat : Nat) : Int)) && decide (((l[i].toNat : Nat) : Int) ≤ 126) || decide (160 ≤ ((l[i].toNat : Nat) : Int)) && decide (2 ≤ lev)) = false := by simp; omega
        simp [retBytes, hho, hkn2, hnN, hnN1]
        refine ⟨by omega, by omega, by omega, ?_⟩
        rw [hcd2]
        simp [hw]
        refine hG (i + 1, ls, .sl N 0 ls.length, _, _) rfl (Heap.le.refl _) rfl ⟨by show i + 1 ≤ _; omega, by show i + 1 ≤ _; omega, by show ls.length ≤ i + 1; omega, ?_⟩ (by show _ - (i + 1) < _ - i; omega)
        simpa using hb2
  · have hlti : ¬ (i : Int) < l.length := by omega
    simp [hlti]
    exact t7 _ _ _ _ _ ls out (by rfl) (by rfl) hb hK)
end Go.AM.K
