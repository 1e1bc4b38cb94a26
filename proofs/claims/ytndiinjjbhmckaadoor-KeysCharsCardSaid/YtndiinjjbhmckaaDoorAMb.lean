/- AM, part 8: slices, append, bytes and strings. -/
import Derived.Test.YtndiinjjbhmckaaDoorAMa
set_option linter.all false
set_option linter.unusedVariables false
namespace Go.AM
variable {P : Program}

/-! least, greatest -/
def opMin (vs : List AVal) (κ : AVal → Prop) : Prop := ∃ k x y, vs = [.i k x, .i k y] ∧ κ (.i k (min x y))
def opMax (vs : List AVal) (κ : AVal → Prop) : Prop := ∃ k x y, vs = [.i k x, .i k y] ∧ κ (.i k (max x y))
theorem min_ok {ats : Array TypeId} {ty : TypeId} {vs : List AVal} {x y : Value} {ρ : Rho} {w : World} {κ : AVal → Prop} (h : opMin vs κ) (hv : VRels ρ vs [x, y]) :
    ∃ v', (Builtin.min_ ats ty #[x, y]).run P w = .ok v' w ∧ ∃ v, κ v ∧ VRel ρ v v' := by
  obtain ⟨k, a, b, rfl, hk⟩ := h
  obtain ⟨x', y', hx', hr, hry⟩ := rels2 hv
  simp only [List.cons.injEq, and_true] at hx'
  obtain ⟨rfl, rfl⟩ := hx'
  simp only [VRel] at hr hry
  subst hr; subst hry
  refine ⟨.int k (if b < a then b else a), by simp [Builtin.min_, Builtin.min2], _, hk, ?_⟩
  simp only [VRel, Value.int.injEq, true_and]
  omega
theorem max_ok {ats : Array TypeId} {ty : TypeId} {vs : List AVal} {x y : Value} {ρ : Rho} {w : World} {κ : AVal → Prop} (h : opMax vs κ) (hv : VRels ρ vs [x, y]) :
    ∃ v', (Builtin.max_ ats ty #[x, y]).run P w = .ok v' w ∧ ∃ v, κ v ∧ VRel ρ v v' := by
  obtain ⟨k, a, b, rfl, hk⟩ := h
  obtain ⟨x', y', hx', hr, hry⟩ := rels2 hv
  simp only [List.cons.injEq, and_true] at hx'
  obtain ⟨rfl, rfl⟩ := hx'
  simp only [VRel] at hr hry
  subst hr; subst hry
  refine ⟨.int k (if b > a then b else a), by simp [Builtin.max_, Builtin.max2], _, hk, ?_⟩
  simp only [VRel, Value.int.injEq, true_and]
  omega

/-! bounds of a slice: what stands between the brackets -/
inductive Bd where
  | no | yes
/-- The two bounds out of the operands behind the first one: there or not. -/
def bounds (lo hi : Bool) (vs : List AVal) (len : Int) (κ : Int → Int → Prop) : Prop :=
  match lo, hi with
  | false, false => vs = [] ∧ κ 0 len
  | true, false => ∃ k x, vs = [.i k x] ∧ κ x len
  | false, true => ∃ k y, vs = [.i k y] ∧ κ 0 y
  | true, true => ∃ k x j y, vs = [.i k x, .i j y] ∧ κ x y

def bndVals (lo hi : Bool) (x y : Value) : Option Value × Option Value := (if lo then some x else none, if hi then some y else none)

theorem run_sliceBound {k : IntKind} {x : Int} {y : Nat} {code : BoundsCode} (h0 : 0 ≤ x) (h1 : x ≤ y) (w : World) : (Instr.sliceBound (.int k x) y code).run P w = .ok x.toNat w := by
  simp [Instr.sliceBound, asIntOf, h0, h1]

/-- The bounds as the machine is told them. -/
inductive BdRel : Bool → Bool → List Value → Option Value → Option Value → Prop where
  | no : BdRel false false [] none none
  | lo (x : Value) : BdRel true false [x] (some x) none
  | hi (y : Value) : BdRel false true [y] none (some y)
  | both (x y : Value) : BdRel true true [x, y] (some x) (some y)

theorem run_bounds {lo hi : Bool} {vs : List AVal} {xs : List Value} {a b : Option Value} (hb : BdRel lo hi xs a b) {ρ : Rho} (hv : VRels ρ vs xs) {isSl : Bool} {len cap : Nat} (hlc : len ≤ cap) {κ : Int → Int → Prop}
    (h : bounds lo hi vs len κ) (hκ : ∀ x y, κ x y → 0 ≤ x ∧ x ≤ y ∧ y ≤ len) (w : World) :
    ∃ x y : Nat, κ x y ∧ x ≤ y ∧ y ≤ len ∧ (Instr.sliceBounds isSl len cap a b none).run P w = .ok (x, y, cap) w := by
  cases hb with
  | no =>
    obtain ⟨rfl, hk⟩ := h
    exact ⟨0, len, hk, by omega, by omega, by simp [Instr.sliceBounds]⟩
  | lo x =>
    obtain ⟨k, n, rfl, hk⟩ := h
    obtain ⟨x', hx', hr⟩ := rels1 hv
    simp only [List.cons.injEq, and_true] at hx'
    subst hx'
    simp only [VRel] at hr
    subst hr
    obtain ⟨h0, h1, h2⟩ := hκ _ _ hk
    exact ⟨n.toNat, len, by rw [Int.toNat_of_nonneg h0]; exact hk, by omega, by omega, by simp [Instr.sliceBounds, run_sliceBound h0 h1]⟩
  | hi y =>
    obtain ⟨k, n, rfl, hk⟩ := h
    obtain ⟨x', hx', hr⟩ := rels1 hv
    simp only [List.cons.injEq, and_true] at hx'
    subst hx'
    simp only [VRel] at hr
    subst hr
    obtain ⟨h0, h1, h2⟩ := hκ _ _ hk
    have hn : n ≤ (cap : Int) := by omega
    exact ⟨0, n.toNat, by rw [Int.toNat_of_nonneg h1]; exact hk, by omega, by omega, by cases isSl <;> simp [Instr.sliceBounds, run_sliceBound h1 hn]⟩
  | both x y =>
    obtain ⟨k, n, j, m, rfl, hk⟩ := h
    obtain ⟨x', y', hx', hr, hry⟩ := rels2 hv
    simp only [List.cons.injEq, and_true] at hx'
    obtain ⟨rfl, rfl⟩ := hx'
    simp only [VRel] at hr hry
    subst hr; subst hry
    obtain ⟨h0, h1, h2⟩ := hκ _ _ hk
    have h3 : 0 ≤ m := by omega
    have hn : m ≤ (cap : Int) := by omega
    have hnm : n ≤ (m.toNat : Int) := by omega
    exact ⟨n.toNat, m.toNat, by rw [Int.toNat_of_nonneg h0, Int.toNat_of_nonneg h3]; exact hk, by omega, by omega, by
      cases isSl <;> simp [Instr.sliceBounds, run_sliceBound h3 hn, run_sliceBound h0 hnm]⟩

/-- Of a string. -/
def opSliceStr (lo hi : Bool) (vs : List AVal) (κ : AVal → Prop) : Prop :=
  ∃ l rest, vs = .s l :: rest ∧ bounds lo hi rest l.length fun x y => (0 ≤ x ∧ x ≤ y ∧ y ≤ l.length) ∧ κ (.s ((l.drop x.toNat).take (y - x).toNat))
theorem sliceStr_ok {t : TypeId} (hu : P.underlying t = some .string) {lo hi : Bool} {vs : List AVal} {x : Value} {xs : List Value} {a b : Option Value} (hb : BdRel lo hi xs a b) {ρ : Rho} {w : World} {κ : AVal → Prop}
    (h : opSliceStr lo hi vs κ) (hv : VRels ρ vs (x :: xs)) : ∃ v', (Instr.sliceAt t x a b none).run P w = .ok v' w ∧ ∃ v, κ v ∧ VRel ρ v v' := by
  obtain ⟨l, rest, rfl, hbd⟩ := h
  simp only [VRels] at hv
  obtain ⟨x', xs', hx', hr, hrs⟩ := hv
  simp only [List.cons.injEq] at hx'
  obtain ⟨rfl, rfl⟩ := hx'
  simp only [VRel] at hr
  subst hr
  have hsz : (⟨l.toArray⟩ : ByteArray).size = l.length := by show l.toArray.size = _; simp
  obtain ⟨p, q, ⟨_, hk⟩, hpq, hql, hrun⟩ := run_bounds (P := P) (isSl := false) hb hrs (Nat.le_refl l.length) hbd (fun _ _ h => h.1) w
  refine ⟨.string ((⟨l.toArray⟩ : ByteArray).extract p q), ?_, _, hk, ?_⟩
  · simp [Instr.sliceAt, Instr.slice, run_underlying' hu, hsz, hrun]
  · simp only [VRel, Value.string.injEq]
    apply ByteArray.ext
    simp only [ByteArray.data_extract]
    apply Array.toList_inj.1
    simp only [Int.toNat_natCast]
    rw [Array.toList_extract, List.extract_eq_take_drop]
    congr 1
    omega

/-- Of a slice, within its length. -/
def opSliceSl (lo hi : Bool) (vs : List AVal) (κ : AVal → Prop) : Prop :=
  (∃ a off len rest, vs = .sl a off len :: rest ∧ bounds lo hi rest (len : Int) fun x y => (0 ≤ x ∧ x ≤ y ∧ y ≤ (len : Int)) ∧ κ (.sl a (off + x.toNat) (y - x).toNat)) ∨
  (∃ rest, vs = .c (.slice none 0 0) :: rest ∧ bounds lo hi rest 0 fun x y => (0 ≤ x ∧ x ≤ y ∧ y ≤ 0) ∧ κ (.c (.slice none 0 0)))
theorem sliceSl_ok {t e : TypeId} {ti : TypeInfo} (hu : P.underlying t = some (.slice e)) (hi : P.info? e = some ti) {lo hi' : Bool} {vs : List AVal} {x : Value} {xs : List Value} {a b : Option Value} (hb : BdRel lo hi' xs a b)
    {ρ : Rho} {H : Heap} {w : World} {κ : AVal → Prop} (hszs : ∀ nm blk base cap sz off len rest, vs = .sl nm off len :: rest → ρ nm = some (.at blk base cap sz) → sz = ti.size)
    (h : opSliceSl lo hi' vs κ) (hv : VRels ρ vs (x :: xs)) : ∃ v', (Instr.sliceAt t x a b none).run P w = .ok v' w ∧ ∃ v, κ v ∧ VRel ρ v v' := by
  rcases h with ⟨nm, off, len, rest, rfl, hbd⟩ | ⟨rest, rfl, hbd⟩
  · simp only [VRels] at hv
    obtain ⟨x', xs', hx', hr, hrs⟩ := hv
    simp only [List.cons.injEq] at hx'
    obtain ⟨rfl, rfl⟩ := hx'
    simp only [VRel] at hr
    rcases hr with ⟨hnil, rfl, rfl⟩ | ⟨blk, base, cap, sz, ad, cp, hρ, rfl, hle, hcp⟩
    · obtain ⟨p, q, ⟨_, hk⟩, hpq, hql, hrun⟩ := run_bounds (P := P) (isSl := true) hb hrs (Nat.le_refl 0) hbd (fun _ _ h => h.1) w
      obtain rfl : p = 0 := by omega
      obtain rfl : q = 0 := by omega
      refine ⟨.slice none 0 0, ?_, _, hk, ?_⟩
      · simp [Instr.sliceAt, Instr.slice, run_underlying' hu, hrun, run_sizeOf' hi]
      · simp [VRel, hnil]
    · obtain ⟨p, q, ⟨_, hk⟩, hpq, hql, hrun⟩ := run_bounds (P := P) (isSl := true) hb hrs hle hbd (fun _ _ h => h.1) w
      have hsz := hszs nm blk base cap sz off len rest rfl hρ
      refine ⟨.slice (if cp = p then some ad else (some ad).map (·.add (p * ti.size))) (q - p) (cp - p), ?_, _, hk, ?_⟩
      · simp [Instr.sliceAt, Instr.slice, run_underlying' hu, hrun, run_sizeOf' hi]
      · simp only [VRel]
        right
        by_cases hcpp : cp = p
        · refine ⟨blk, base, cap, sz, ad, cp - p, hρ, by simp [hcpp], by omega, .inl (by omega)⟩
        · have hcp0 : cp ≠ 0 := by omega
          obtain ⟨rfl, hoc⟩ := hcp.resolve_left hcp0
          refine ⟨blk, base, cap, sz, ⟨blk, base + (off + p) * sz, none⟩, cp - p, hρ, ?_, by omega, .inr ⟨by simp, by simp; omega⟩⟩
          rw [if_neg hcpp]
          simp only [Option.map_some, add_mk, hsz, Nat.add_mul, Nat.add_assoc]
          simp only [Value.slice.injEq, true_and, and_true]
          omega
  · simp only [VRels] at hv
    obtain ⟨x', xs', hx', hr, hrs⟩ := hv
    simp only [List.cons.injEq] at hx'
    obtain ⟨rfl, rfl⟩ := hx'
    simp only [VRel] at hr
    subst hr
    obtain ⟨p, q, ⟨_, hk⟩, hpq, hql, hrun⟩ := run_bounds (P := P) (isSl := true) hb hrs (Nat.le_refl 0) hbd (fun _ _ h => h.1) w
    obtain rfl : p = 0 := by omega
    obtain rfl : q = 0 := by omega
    refine ⟨.slice none 0 0, ?_, _, hk, by simp [VRel]⟩
    simp [Instr.sliceAt, Instr.slice, run_underlying' hu, hrun, run_sizeOf' hi]

/-! bytes as a string, a string as bytes -/
def opStrOf (vs : List AVal) (H : Heap) (κ : AVal → Prop) : Prop :=
  (∃ a off len o l, vs = [.sl a off len] ∧ H a = some o ∧ o.sz = 1 ∧ (o.es.drop off).take len = bytesA l ∧ l.length = len ∧ κ (.s l)) ∨ (∃ len cap, vs = [.c (.slice none len cap)] ∧ κ (.s []))
theorem strOf_ok {src dst e : TypeId} (h1 : P.underlying src = some (.slice e)) (h2 : P.underlying e = some (.int .u8)) (h3 : P.underlying dst = some .string) {vs : List AVal} {x : Value} {ρ : Rho} {H : Heap} {w : World} {κ : AVal → Prop}
    (h : opStrOf vs H κ) (hv : VRels ρ vs [x]) (hs : Sat ρ H w) : ∃ v', (convert src dst x).run P w = .ok v' w ∧ ∃ v, κ v ∧ VRel ρ v v' := by
  rcases h with ⟨a, off, len, o, l, rfl, ha, hsz, hl, hll, hk⟩ | ⟨len, cap, rfl, hk⟩
  · obtain ⟨x', hx', hr⟩ := rels1 hv
    simp only [List.cons.injEq, and_true] at hx'
    subst hx'
    simp only [VRel] at hr
    rcases hr with ⟨_, rfl, rfl⟩ | ⟨blk, base, cap, sz, ad, cp, hρ, rfl, hle, hcp⟩
    · obtain rfl : l = [] := by simpa using hll
      refine ⟨.string .empty, ?_, _, hk, rfl⟩
      rw [run_convert_bytes_string w src dst e none 0 0 h1 h2 h3]
      rfl
    · obtain ⟨hsz', cc, elem, fz, hg, _, _, hcapl, hh⟩ := hs.at ha hρ (.inr (by omega))
      refine ⟨.string ⟨l.toArray⟩, ?_, _, hk, rfl⟩
      subst hll
      refine run_convert_bytes_back w src dst e ad cp l h1 h2 h3 (fun j hj => ?_)
      have hcp0 : cp ≠ 0 := by omega
      obtain ⟨rfl, hoc⟩ := hcp.resolve_left hcp0
      rw [add_mk, cell_of hg]
      have hget : o.es[off + j]? = some (.i .u8 (l[j].toNat : Int)) := by
        have := congrArg (·[j]?) hl
        simp only [List.getElem?_take_of_lt hj, List.getElem?_drop, bytesA_get] at this
        rw [this]
        simp [hj]
      obtain ⟨_, hc⟩ := hh _ _ hget
      obtain ⟨u, hu1, hu2⟩ := hc 0 (.i .u8 (l[j].toNat : Int)) (by simp)
      simp only [VRel] at hu2
      subst hu2
      rw [← hu1]
      congr 1
      have : sz = 1 := by omega
      subst this
      omega
  · obtain ⟨x', hx', hr⟩ := rels1 hv
    simp only [List.cons.injEq, and_true] at hx'
    subst hx'
    simp only [VRel] at hr
    subst hr
    refine ⟨.string .empty, ?_, _, hk, rfl⟩
    rw [run_convert_bytes_string w src dst e none len cap h1 h2 h3]
    rfl

def opBytesOf (vs : List AVal) (H : Heap) (n : Nat) (κ : Cont) : Prop :=
  ∃ l, vs = [.s l] ∧ κ (.sl n 0 l.length) (hset H n (some ⟨false, 1, bytesA l⟩)) (n + 1)
theorem bytesOf_ok {src dst e : TypeId} (hsrc : P.underlying src = some .string) (h1 : P.underlying dst = some (.slice e)) (h2 : P.underlying e = some (.int .u8)) {vs : List AVal} {x : Value} {ρ : Rho} {H : Heap} {w : World} {n : Nat} {κ : Cont}
    (h : opBytesOf vs H n κ) (hv : VRels ρ vs [x]) (hs : Sat ρ H w) (hf : Fresh ρ n) : Comes' P (convert src dst x) ρ H w n κ := by
  obtain ⟨l, rfl, hk⟩ := h
  obtain ⟨x', hx', hr⟩ := rels1 hv
  simp only [List.cons.injEq, and_true] at hx'
  subst hx'
  simp only [VRel] at hr
  subst hr
  have hsz : (⟨l.toArray⟩ : ByteArray).size = l.length := by show l.toArray.size = _; simp
  let q : Question := .appendCap l.length 0 e
  let cp : Nat := q.cut (w.tape w.drawn q)
  have hcp : l.length ≤ cp := by simp only [cp, q, Question.cut]; omega
  let cc : Array Value := (⟨l.toArray⟩ : ByteArray).data.map (fun b => Value.int .u8 b.toNat) ++ Array.replicate (cp - l.length) (.int .u8 0)
  have hccs : cc.size = cp := by simp [cc]; omega
  let w1 : World := { w with drawn := w.drawn + 1 }
  have hs1 : Sat ρ H w1 := ⟨hs.obj, hs.apart⟩
  have hnew := hs1.new hf (.inr (by omega)) (cc := cc) (t := e) (fz := (cp, cp + 1)) (sz := 1) (cap := cp) (es := bytesA l) (.inr (by simp [hccs])) (by omega) (by simp; omega) (by
    intro i y hy
    rw [bytesA_get] at hy
    simp only [Option.map_eq_some_iff] at hy
    obtain ⟨c, hc, rfl⟩ := hy
    refine ⟨rfl, fun j z hz => ?_⟩
    cases j with
    | succ j => simp at hz
    | zero =>
      simp at hz
      subst hz
      have hlt : i < l.length := (List.getElem?_eq_some_iff.1 hc).1
      refine ⟨.int .u8 c.toNat, ?_, rfl⟩
      simp only [cc, Nat.zero_add, Nat.mul_one, Nat.add_zero]
      rw [Array.getElem?_append_left (by simpa using hlt)]
      simp [hc])
  refine ⟨.slice (some ⟨w.heap.size, 0, none⟩) l.length cp, { w1 with heap := w.heap.push (.cells cc e (cp, cp + 1)) }, ?_, _, _, _, _, hk, ?_, ⟨hnew.sat, hnew.fresh, hnew.le, ?_⟩⟩
  · have hq : (choose (.appendCap l.length 0 e)).run P w = .ok cp w1 := by simp [choose, Sem.run, Question.forced, cp, q, w1]
    have hmark : (markStringish ⟨w.heap.size, 0, none⟩).run P { w1 with heap := w.heap.push (.cells cc e) } = .ok () { w1 with heap := w.heap.push (.cells cc e (cp, cp + 1)) } := by
      simp only [markStringish, shape, Sem.run_bind, Sem.run, World.shape?]
      simp [freeze, Sem.run, World.freeze, hccs]
      apply Array.ext_getElem?
      intro j
      rw [Array.getElem?_modify, Array.getElem?_push, Array.getElem?_push]
      by_cases hj : w.heap.size = j
      · subst hj; simp
      · rw [if_neg hj, if_neg (fun h => hj h.symm), if_neg (fun h => hj h.symm)]
    simp only [convert, Sem.run_bind, run_underlying' hsrc, run_underlying' h1, Result.andThen_ok, run_underlying' h2, Conv.stringToBytes, hsz, hq, run_newRow']
    have hcc : (⟨l.toArray⟩ : ByteArray).data.map (fun b => Value.int .u8 b.toNat) ++ Array.replicate (cp - l.length) (.int .u8 0) = cc := rfl
    rw [hcc]
    have hw1 : w1.heap = w.heap := rfl
    rw [hw1, hmark]
    rfl
  · simp only [VRel]
    exact .inr ⟨w.heap.size, 0, cp, 1, ⟨w.heap.size, 0, none⟩, cp, rset_same _ _ _, rfl, hcp, .inr ⟨by simp, by omega⟩⟩
  · exact ⟨hnew.frame.le, rfl, rfl, rfl, hnew.frame.size, hnew.frame.block, hnew.frame.owns⟩

end Go.AM
/- AM, part 9: append. -/
set_option linter.unusedVariables false
namespace Go.AM
variable {P : Program}

/-- The elements of what is appended, or copied. -/
def elemsOf (sz : Nat) (H : Heap) : AVal → Option (List AVal)
  | .sl a off len => match H a with
    | some o => if o.sz = sz ∧ off + len ≤ o.es.length then some ((o.es.drop off).take len) else none
    | none => none
  | .c (.slice none 0 0) => some []
  | .s l => if sz = 1 then some (bytesA l) else none
  | _ => none

theorem elemsOf_ok {sz : Nat} {H : Heap} {y : AVal} {ys : List AVal} (h : elemsOf sz H y = some ys) (hlt : sz < 18446744073709551616) {ρ : Rho} {w : World} {y' : Value} (hr : VRel ρ y y') (hs : Sat ρ H w) :
    (Builtin.lenOf y').run P w = .ok ys.length w ∧ ∀ k, k ≤ ys.length → ∃ cc : Array Value, (Builtin.firstCells sz k y').run P w = .ok cc w ∧ cc.size = k * sz ∧ Holds ρ cc 0 sz (ys.take k) := by
  unfold elemsOf at h
  split at h
  · rename_i a off len
    cases ha : H a with
    | none => rw [ha] at h; exact absurd h (by simp)
    | some o =>
      simp only [ha] at h
      split at h
      · rename_i hc
        obtain ⟨hsz, hlen⟩ := hc
        simp only [Option.some.injEq] at h
        subst h
        have hl : ((o.es.drop off).take len).length = len := by simp; omega
        simp only [VRel] at hr
        rcases hr with ⟨_, rfl, rfl⟩ | ⟨blk, base, cap, sz', ad, cp, hρ, rfl, hle, hcp⟩
        · refine ⟨by rw [hl]; rfl, fun k hk => ?_⟩
          obtain rfl : k = 0 := by omega
          exact ⟨#[], rfl, by simp, by intro i e he; simp at he⟩
        · obtain ⟨hsz', cc, elem, fz, hg, _, hbc, hcapl, hh⟩ := hs.at ha hρ (.inr (by omega))
          refine ⟨by rw [hl]; rfl, fun k hk => ?_⟩
          rw [hl] at hk
          by_cases hcp0 : cp = 0
          · obtain rfl : k = 0 := by omega
            refine ⟨#[], ?_, by simp, by intro i e he; simp at he⟩
            simp [Builtin.firstCells, loadCells, loadCellsFrom]
          · obtain ⟨rfl, hoc⟩ := hcp.resolve_left hcp0
            have hszz : sz' = sz := by omega
            subst hszz
            have hb : base + off * sz' + k * sz' ≤ cc.size := by
              have : (off + k) * sz' ≤ cap * sz' := Nat.mul_le_mul_right _ (by omega)
              rw [Nat.add_mul] at this
              omega
            let us : List Value := (List.range (k * sz')).map fun m => (cc[base + off * sz' + m]?).getD undef
            have hrun : (loadCells ⟨blk, base + off * sz', none⟩ (k * sz')).run P w = .ok us.toArray w := by
              have := run_loadCells_list (P := P) w ⟨blk, base + off * sz', none⟩ us (fun m v hm => by
                rw [add_mk, cell_of hg]
                have hm' : m < k * sz' := by have := (List.getElem?_eq_some_iff.1 hm).1; simpa [us] using this
                have hlt : base + off * sz' + m < cc.size := by omega
                simp [us, hm', hlt] at hm
                rw [← hm]
                simp [hlt])
              simpa [us] using this
            refine ⟨us.toArray, by simpa [Builtin.firstCells] using hrun, by simp [us], fun i e he => ?_⟩
            have hik : i < k := by
              rcases Nat.lt_or_ge i k with q | q
              · exact q
              · rw [List.getElem?_eq_none (by simp; omega)] at he; exact absurd he (by simp)
            rw [List.getElem?_take_of_lt hik, List.getElem?_take_of_lt (by omega), List.getElem?_drop] at he
            obtain ⟨h1, h2⟩ := hh _ _ he
            refine ⟨h1, fun j z hz => ?_⟩
            obtain ⟨u, hu1, hu2⟩ := h2 j z hz
            refine ⟨u, ?_, hu2⟩
            have hj : j < sz' := by have := (List.getElem?_eq_some_iff.1 hz).1; omega
            have hm' : i * sz' + j < k * sz' := by
              have : (i + 1) * sz' ≤ k * sz' := Nat.mul_le_mul_right _ hik
              rw [Nat.add_mul, Nat.one_mul] at this
              omega
            have e1 : base + off * sz' + (i * sz' + j) = base + (off + i) * sz' + j := by rw [Nat.add_mul]; omega
            simp [us, hm', e1, hu1]
      · exact absurd h (by simp)
  · simp only [Option.some.injEq] at h
    subst h
    simp only [VRel] at hr
    subst hr
    refine ⟨rfl, fun k hk => ?_⟩
    obtain rfl : k = 0 := by simpa using hk
    exact ⟨#[], rfl, by simp, by intro i e he; simp at he⟩
  · rename_i l
    split at h
    · rename_i hsz
      subst hsz
      simp only [Option.some.injEq] at h
      subst h
      simp only [VRel] at hr
      subst hr
      have hsz : (⟨l.toArray⟩ : ByteArray).size = l.length := by show l.toArray.size = _; simp
      refine ⟨by simp [Builtin.lenOf, hsz], fun k hk => ?_⟩
      refine ⟨(((⟨l.toArray⟩ : ByteArray).extract 0 k).data.map fun b => Value.int .u8 b.toNat), rfl, ?_, fun i e he => ?_⟩
      · simp at hk; simp; omega
      · rw [bytesA_take, bytesA_get] at he
        simp only [Option.map_eq_some_iff] at he
        obtain ⟨c, hc, rfl⟩ := he
        refine ⟨rfl, fun j z hz => ?_⟩
        cases j with
        | succ j => simp at hz
        | zero =>
          simp at hz
          subst hz
          refine ⟨.int .u8 c.toNat, ?_, rfl⟩
          have hik : i < k := by
            rcases Nat.lt_or_ge i k with q | q
            · exact q
            · rw [List.getElem?_eq_none (by simp; omega)] at hc; exact absurd hc (by simp)
          rw [List.getElem?_take_of_lt hik] at hc
          simp [hik, hc]
    · exact absurd h (by simp)
  · exact absurd h (by simp)

theorem growBy_le (need : Nat) : ∀ (r c : Nat), c < need → Builtin.growBy need r c ≤ 2 * need + 192
  | 0, c, h => by simp only [Builtin.growBy]; omega
  | r + 1, c, h => by
    simp only [Builtin.growBy]
    rw [if_neg (by omega)]
    by_cases h2 : c + (c + 768) / 4 < need
    · exact growBy_le need r _ h2
    · cases r with
      | zero => simp only [Builtin.growBy]; omega
      | succ r => simp only [Builtin.growBy]; rw [if_pos (by omega)]; omega
theorem nextslicecap_le {need old : Nat} (h : old < need) : Builtin.nextslicecap need old ≤ 2 * need + 192 := by
  unfold Builtin.nextslicecap
  split
  · omega
  · split
    · omega
    · exact growBy_le _ _ _ h

def opAppend (sz bytes : Nat) (vs : List AVal) (H : Heap) (n : Nat) (κ : Cont) : Prop :=
  ∃ x y ys, vs = [x, y] ∧ elemsOf sz H y = some ys ∧ (∀ e ∈ ys, e.solid = true) ∧
    ((∃ a off len o, x = .sl a off len ∧ H a = some o ∧ o.ro = false ∧ o.sz = sz ∧ off + len ≤ o.es.length ∧ (len + ys.length) * bytes ≤ 1099511627776 ∧
        κ (.sl n 0 (len + ys.length)) (hset (hset H a none) n (some ⟨false, sz, (o.es.drop off).take len ++ ys⟩)) (n + 1)) ∨
     (x = .c (.slice none 0 0) ∧ ys.length * bytes ≤ 1099511627776 ∧ κ (.sl n 0 ys.length) (hset H n (some ⟨false, sz, ys⟩)) (n + 1)))

theorem Holds.append {ρ : Rho} {c1 c2 c3 : Array Value} {sz : Nat} {xs ys : List AVal} (h1 : Holds ρ c1 0 sz xs) (h2 : Holds ρ c2 0 sz ys) (hl : c1.size = xs.length * sz) (hl2 : c2.size = ys.length * sz) :
    Holds ρ (c1 ++ c2 ++ c3) 0 sz (xs ++ ys) := by
  intro i e he
  by_cases hi : i < xs.length
  · rw [List.getElem?_append_left hi] at he
    obtain ⟨a, b⟩ := h1 i e he
    refine ⟨a, fun j y hy => ?_⟩
    obtain ⟨u, hu1, hu2⟩ := b j y hy
    refine ⟨u, ?_, hu2⟩
    have hlt : 0 + i * sz + j < c1.size := (Array.getElem?_eq_some_iff.1 hu1).1
    rw [Array.append_assoc, Array.getElem?_append_left hlt]
    exact hu1
  · rw [List.getElem?_append_right (by omega)] at he
    obtain ⟨a, b⟩ := h2 (i - xs.length) e he
    refine ⟨a, fun j y hy => ?_⟩
    obtain ⟨u, hu1, hu2⟩ := b j y hy
    refine ⟨u, ?_, hu2⟩
    have hlt : 0 + (i - xs.length) * sz + j < c2.size := (Array.getElem?_eq_some_iff.1 hu1).1
    have e1 : i * sz = xs.length * sz + (i - xs.length) * sz := by rw [← Nat.add_mul]; congr 1; omega
    rw [Array.append_assoc, Array.getElem?_append_right (by omega), Array.getElem?_append_left (by omega)]
    rw [← hu1]
    congr 1
    omega

theorem one_of_holds {ρ : Rho} {cc : Array Value} {sz : Nat} {es : List AVal} (h : Holds ρ cc 0 sz es) (hl : cc.size = es.length * sz) (hs : ∀ e ∈ es, e.solid = true) : ∀ v ∈ cc.toList, v.oneCell' = true := by
  intro v hv
  obtain ⟨m, hm⟩ := List.mem_iff_getElem?.1 hv
  have hlt : m < cc.size := by have := (List.getElem?_eq_some_iff.1 hm).1; simpa using this
  have hsz : sz ≠ 0 := by intro q; rw [q, Nat.mul_zero] at hl; omega
  have hq : m / sz < es.length := Nat.div_lt_of_lt_mul (by rw [Nat.mul_comm, ← hl]; exact hlt)
  obtain ⟨h1, h2⟩ := h (m / sz) es[m / sz] (by simp [hq])
  have hr : m % sz < sz := Nat.mod_lt _ (by omega)
  have hsol := hs _ (List.getElem_mem hq)
  obtain ⟨u, hu1, hu2⟩ := h2 (m % sz) (es[m / sz].cells[m % sz]'(by omega)) (by simp)
  have e1 : 0 + m / sz * sz + m % sz = m := by rw [Nat.zero_add, Nat.mul_comm]; exact Nat.div_add_mod m sz
  rw [e1] at hu1
  rw [Array.getElem?_toList, hu1] at hm
  simp only [Option.some.injEq] at hm
  subst hm
  refine (hu2.one ?_).1
  simp only [AVal.solid, List.all_eq_true] at hsol
  exact hsol _ (List.getElem_mem _)

theorem run_askRoom (b : Nat) (w : World) : (askRoom b).run P w = .ok () w := by
  unfold askRoom; split <;> rfl

def isRowD : TypeDesc → Bool
  | .string | .slice _ => true
  | _ => false

theorem append_ok {ats : Array TypeId} {ty st xt e : TypeId} {xd : TypeDesc} {ti : TypeInfo} {z : Value} (h0 : ats[0]? = some st) (h1 : ats[1]? = some xt) (hst : P.underlying st = some (.slice e)) (hxt : P.underlying xt = some xd)
    (hxd : isRowD xd = true) (hi : P.info? e = some ti) (hz : ti.zero = some z) (hzs : z.cells.size = ti.size) (hb0 : 0 < ti.bytes) (hb1 : ti.bytes ≤ 1048576) (hlt : ti.size < 18446744073709551616)
    {vs : List AVal} {x y : Value} {ρ : Rho} {H : Heap} {w : World} {n : Nat} {κ : Cont} (h : opAppend ti.size ti.bytes vs H n κ) (hv : VRels ρ vs [x, y]) (hs : Sat ρ H w) (hf : Fresh ρ n) :
    Comes' P (Builtin.append_ ats ty #[x, y]) ρ H w n κ := by
  obtain ⟨xa, ya, ys, rfl, hy, hsol, hcase⟩ := h
  obtain ⟨x', y', hx', hrx, hry⟩ := rels2 hv
  simp only [List.cons.injEq, and_true] at hx'
  obtain ⟨rfl, rfl⟩ := hx'
  obtain ⟨hlen, hfirst⟩ := elemsOf_ok (P := P) hy hlt hry hs
  have hs1 : ∀ w1 : World, w1.heap = w.heap → Sat ρ H w1 := fun w1 hw => ⟨fun a o ho => by
      obtain ⟨x, hx, hoo⟩ := hs.obj a o ho
      refine ⟨x, hx, ?_⟩
      cases x with
      | nil => exact hoo
      | «at» b1 b2 b3 b4 => exact hoo.world (by rw [hw]), hs.apart⟩
  -- the row that is made anew: whatever was there, it is not written
  have hnewcase : ∀ (H0 : Heap) (xs : List AVal) (base : Option Addr) (cp : Nat), Heap.le H0 H → elemsOf ti.size H xa = some xs → x = .slice base xs.length cp → (xs.length + ys.length) * ti.bytes ≤ 1099511627776 →
      ¬ (xs.length + ys.length ≤ cp) →
      κ (.sl n 0 (xs.length + ys.length)) (hset H0 n (some ⟨false, ti.size, xs ++ ys⟩)) (n + 1) → Comes' P (Builtin.append_ ats ty #[x, y]) ρ H w n κ := by
    intro H0 xs base cp hH0 hxel hxe hbound hroom hk
    let q : Question := .appendCap (xs.length + ys.length) cp e
    let nc : Nat := q.cut (w.tape w.drawn q)
    have hnc : xs.length + ys.length ≤ nc := by simp only [nc, q, Question.cut]; omega
    let w1 : World := { w with drawn := w.drawn + 1 }
    obtain ⟨_, hfx⟩ := elemsOf_ok (P := P) hxel hlt hrx (hs1 w1 rfl)
    obtain ⟨_, hfy⟩ := elemsOf_ok (P := P) hy hlt hry (hs1 w1 rfl)
    obtain ⟨old, ho1, ho2, ho3⟩ := hfx xs.length (Nat.le_refl _)
    obtain ⟨new, hn1, hn2, hn3⟩ := hfy ys.length (Nat.le_refl _)
    rw [List.take_length] at ho3 hn3
    let rest : Array Value := Builtin.zeroCells z.cells (nc - (xs.length + ys.length))
    have hrest : rest.size = (nc - (xs.length + ys.length)) * ti.size := by simp [rest, Builtin.zeroCells, hzs]
    have e1 : nc * ti.size = xs.length * ti.size + ys.length * ti.size + (nc - (xs.length + ys.length)) * ti.size := by
      rw [← Nat.add_mul, ← Nat.add_mul]; congr 1; omega
    have hsd : After ρ H w n ρ H0 w1 n := ⟨(hs1 w1 rfl).drop hH0, hf, Nat.le_refl _, ⟨.refl _, rfl, rfl, rfl, Nat.le_refl _, fun _ _ _ => rfl, fun b hb => .inl (hb.drop hH0)⟩⟩
    have hnew := hsd.sat.new hsd.fresh (.inr hlt) (cc := old ++ new ++ rest) (t := e) (fz := (0, 0)) (sz := ti.size) (cap := nc) (es := xs ++ ys) (free_zero _) (by simp; omega) (by simp; omega) (Holds.append ho3 hn3 ho2 hn2)
    have hnb : ¬ (Builtin.nextslicecap (xs.length + ys.length) cp * ti.bytes > 2 ^ 48) := by
      have h2 := nextslicecap_le (need := xs.length + ys.length) (old := cp) (by omega)
      have h3 : Builtin.nextslicecap (xs.length + ys.length) cp * ti.bytes ≤ (2 * (xs.length + ys.length) + 192) * ti.bytes := Nat.mul_le_mul_right _ h2
      have h4 : (2 * (xs.length + ys.length) + 192) * ti.bytes = 2 * ((xs.length + ys.length) * ti.bytes) + 192 * ti.bytes := by rw [Nat.add_mul, Nat.mul_assoc]
      omega
    refine ⟨.slice (some ⟨w.heap.size, 0, none⟩) (xs.length + ys.length) nc, { w1 with heap := w.heap.push (.cells (old ++ new ++ rest) e) }, ?_, _, _, _, _, hk, ?_, hsd.trans hnew⟩
    · have hq : (choose (.appendCap (xs.length + ys.length) cp e)).run P w = .ok nc w1 := by simp [choose, Sem.run, Question.forced, nc, q, w1]
      have hneg : ¬ (((xs.length + ys.length : Nat) : Int) > IntKind.i64.max ∧ (ti.bytes = 0)) := by omega
      have hzr : (zeroValue e).run P w1 = .ok z w1 := by simp [zeroValue, run_typeInfo' hi, hz]
      subst hxe
      unfold Builtin.append_
      cases xd <;> simp only [isRowD, Bool.false_eq_true] at hxd
      all_goals
        simp only [h0, h1, List.getElem?_toArray, List.getElem?_cons_zero, List.getElem?_cons_succ, Sem.run_bind, run_underlying' hst, Result.andThen_ok, run_sizeOf' hi, run_underlying' hxt, Sem.run_pure,
          Bool.false_eq_true, if_false, hlen, hroom, false_or, run_typeInfo' hi, hneg, hnb, hq, run_askRoom, ho1, Bool.not_false, if_true, hn1, hzr, run_newRow']
        rfl
    · simp only [VRel]
      exact .inr ⟨w.heap.size, 0, nc, ti.size, ⟨w.heap.size, 0, none⟩, nc, rset_same _ _ _, rfl, hnc, .inr ⟨by simp, by omega⟩⟩
  -- a nil slice to which nothing is appended
  have hnilcase : ∀ (H0 : Heap), Heap.le H0 H → x = .slice none 0 0 → ys = [] → κ (.sl n 0 0) (hset H0 n (some ⟨false, ti.size, []⟩)) (n + 1) → Comes' P (Builtin.append_ ats ty #[x, y]) ρ H w n κ := by
    intro H0 hH0 hxe hys hk
    subst hxe
    subst hys
    obtain ⟨new, hn1, hn2, hn3⟩ := hfirst 0 (Nat.zero_le _)
    have hsd : After ρ H w n ρ H0 w n := ⟨hs.drop hH0, hf, Nat.le_refl _, ⟨.refl _, rfl, rfl, rfl, Nat.le_refl _, fun _ _ _ => rfl, fun b hb => .inl (hb.drop hH0)⟩⟩
    refine ⟨.slice none 0 0, w, ?_, _, _, _, _, hk, ?_, hsd.trans (hsd.sat.newNil hsd.fresh ti.size)⟩
    · unfold Builtin.append_
      have hlen' : (Builtin.lenOf y).run P w = .ok 0 w := hlen
      cases xd <;> simp only [isRowD, Bool.false_eq_true] at hxd
      all_goals
        simp only [h0, h1, List.getElem?_toArray, List.getElem?_cons_zero, List.getElem?_cons_succ, Sem.run_bind, run_underlying' hst, Result.andThen_ok, run_sizeOf' hi, run_underlying' hxt, Sem.run_pure,
          Bool.false_eq_true, if_false, hlen', Nat.add_zero, Nat.le_refl, Bool.not_false, if_true, hn1]
    · simp [VRel]
  rcases hcase with ⟨a, off, len, o, rfl, ha, hro, hosz, hol, hbound, hk⟩ | ⟨rfl, hbound, hk⟩
  · have hxl : ((o.es.drop off).take len).length = len := by simp; omega
    have hxel : elemsOf ti.size H (.sl a off len) = some ((o.es.drop off).take len) := by simp [elemsOf, ha, hosz, hol]
    have hle0 : Heap.le (hset H a none) H := fun c oc e => by
      by_cases hc : c = a
      · subst hc; rw [hset_same] at e; exact absurd e (by simp)
      · rwa [hset_ne _ _ hc] at e
    have hrx' := hrx
    simp only [VRel] at hrx
    rcases hrx with ⟨hnil, rfl, rfl⟩ | ⟨blk, base, cap, sz, ad, cp, hρ, rfl, hle, hcp⟩
    · by_cases hys : ys = []
      · refine hnilcase _ hle0 rfl hys ?_
        subst hys
        simpa using hk
      · refine hnewcase (hset H a none) _ none 0 hle0 hxel (by simp) (by simpa using hbound) (by simp; exact hys) ?_
        simpa using hk
    · by_cases hroom : len + ys.length ≤ cp
      · -- in place
        obtain ⟨hsz', cc, elem, fz, hg, hfree, hbc, hcapl, hh⟩ := hs.at ha hρ (.inr (by omega))
        obtain ⟨new, hn1, hn2, hn3⟩ := hfirst ys.length (Nat.le_refl _)
        rw [List.take_length] at hn3
        have hszz : sz = ti.size := by omega
        subst hszz
        have hone := one_of_holds hn3 hn2 hsol
        by_cases hcp0 : cp = 0
        · have hl0 : len = 0 := by omega
          have hy0 : ys = [] := by simpa using (show ys.length = 0 by omega)
          subst hl0
          subst hy0
          have hnew0 : new = #[] := by simpa using hn2
          subst hnew0
          have hgrow := hs.grow hf ha hro (.inr hlt) hρ hg (cc' := cc) rfl (base' := base) (cap' := cap) hbc (es := []) (by simp) (by intro i e he; simp at he)
          have hwset : wset w blk (.cells cc elem fz) = w := by
            have := run_storeCells (P := P) (g := blk) (t := elem) (fz := fz) 0 [] 0 cc w hg (hfree hro) (by simp) (by simp)
            simp only [storeCells, Sem.run_pure, put, Result.ok.injEq, true_and] at this
            exact this.symm
          rw [hwset] at hgrow
          refine ⟨.slice (some ad) 0 cp, w, ?_, _, _, _, _, hk, ?_, by simpa using hgrow⟩
          · unfold Builtin.append_
            have hlen' : (Builtin.lenOf y).run P w = .ok 0 w := hlen
            cases xd <;> simp only [isRowD, Bool.false_eq_true] at hxd
            all_goals
              simp only [h0, h1, List.getElem?_toArray, List.getElem?_cons_zero, List.getElem?_cons_succ, Sem.run_bind, run_underlying' hst, Result.andThen_ok, run_sizeOf' hi, run_underlying' hxt, Sem.run_pure,
                Bool.false_eq_true, if_false, hlen', Nat.add_zero, Nat.zero_le, Bool.not_false, if_true]
              rw [show ([] : List AVal).length = 0 from rfl] at hn1
              simp only [hn1, Result.andThen_ok, storeCells, Sem.run_pure]
          · simp only [VRel]
            exact .inr ⟨blk, base, cap, ti.size, ad, cp, rset_same _ _ _, rfl, by omega, .inl hcp0⟩
        · obtain ⟨rfl, hoc⟩ := hcp.resolve_left hcp0
          have hm1 : (off + cp) * ti.size ≤ cap * ti.size := Nat.mul_le_mul_right _ hoc
          have hm2 : (len + ys.length) * ti.size ≤ cp * ti.size := Nat.mul_le_mul_right _ hroom
          rw [Nat.add_mul] at hm1 hm2
          have hrun := run_storeCells (P := P) (g := blk) (t := elem) (fz := fz) (base + off * ti.size + len * ti.size) new.toList 0 cc w hg (hfree hro) (by simp; omega) hone
          have hgrow := hs.grow hf ha hro (.inr hlt) hρ hg (cc' := put cc (base + off * ti.size + len * ti.size + 0) new.toList) (by rw [put_size]) (base' := base + off * ti.size) (cap' := cp) (by omega)
            (es := (o.es.drop off).take len ++ ys) (by simp; omega) (by
              intro i e he
              by_cases hi' : i < len
              · rw [List.getElem?_append_left (by omega), List.getElem?_take_of_lt hi', List.getElem?_drop] at he
                obtain ⟨q1, q2⟩ := hh _ _ he
                refine ⟨q1, fun j z hz => ?_⟩
                obtain ⟨u, hu1, hu2⟩ := q2 j z hz
                refine ⟨u, ?_, hu2⟩
                have hj : j < ti.size := by have := (List.getElem?_eq_some_iff.1 hz).1; omega
                have hm3 : (i + 1) * ti.size ≤ len * ti.size := Nat.mul_le_mul_right _ hi'
                rw [Nat.add_mul, Nat.one_mul] at hm3
                rw [put_out _ _ _ _ (.inl (by omega)), ← hu1]
                congr 1
                rw [Nat.add_mul]; omega
              · rw [List.getElem?_append_right (by omega), hxl] at he
                obtain ⟨q1, q2⟩ := hn3 _ _ he
                refine ⟨q1, fun j z hz => ?_⟩
                obtain ⟨u, hu1, hu2⟩ := q2 j z hz
                refine ⟨u, ?_, hu2⟩
                have hlt : 0 + (i - len) * ti.size + j < new.size := (Array.getElem?_eq_some_iff.1 hu1).1
                have e1 : i * ti.size = len * ti.size + (i - len) * ti.size := by rw [← Nat.add_mul]; congr 1; omega
                have := put_in new.toList cc (base + off * ti.size + len * ti.size + 0) (0 + (i - len) * ti.size + j) (by simp; omega) (by simpa using hlt)
                rw [show base + off * ti.size + i * ti.size + j = base + off * ti.size + len * ti.size + 0 + (0 + (i - len) * ti.size + j) from by omega, this]
                simpa using hu1)
          refine ⟨.slice (some ⟨blk, base + off * ti.size, none⟩) (len + ys.length) cp, wset w blk (.cells (put cc (base + off * ti.size + len * ti.size + 0) new.toList) elem fz), ?_, _, _, _, _, hk, ?_, hgrow⟩
          · unfold Builtin.append_
            cases xd <;> simp only [isRowD, Bool.false_eq_true] at hxd
            all_goals
              simp only [h0, h1, List.getElem?_toArray, List.getElem?_cons_zero, List.getElem?_cons_succ, Sem.run_bind, run_underlying' hst, Result.andThen_ok, run_sizeOf' hi, run_underlying' hxt, Sem.run_pure,
                Bool.false_eq_true, if_false, hlen, hroom, Bool.not_false, if_true, hn1, add_mk, hrun]
          · simp only [VRel]
            exact .inr ⟨blk, base + off * ti.size, cp, ti.size, ⟨blk, base + off * ti.size, none⟩, cp, rset_same _ _ _, rfl, hroom, .inr ⟨by simp, by omega⟩⟩
      · have := hnewcase (hset H a none) _ (some ad) cp hle0 hxel (by rw [hxl]) (by rw [hxl]; exact hbound) (by rw [hxl]; exact hroom)
        rw [hxl] at this
        exact this hk
  · have hrx' := hrx
    simp only [VRel] at hrx
    by_cases hys : ys = []
    · refine hnilcase H (.refl _) hrx hys ?_
      subst hys
      simpa using hk
    · refine hnewcase H [] none 0 (.refl _) rfl hrx (by simpa using hbound) (by simp; exact hys) ?_
      simpa using hk

end Go.AM
/- AM, part 9a: strings that are gone through, bytes that are sealed, slices of arrays, slices that are made. -/
set_option linter.unusedVariables false
namespace Go.AM
variable {P : Program}

/-- A block is changed. -/
theorem Sat.put {ρ : Rho} {H : Heap} {w : World} {n : Nat} (h : Sat ρ H w) (hf : Fresh ρ n) {a : Nat} {o o' : AObj} (ha : H a = some o) (hro : o.ro = false) (hro' : o'.ro = false)
    {blk base cap sz : Nat} (hx : ρ a = some (.at blk base cap sz)) {X : Obj} (hobj : ObjAt ρ (wset w blk X) (.at blk base cap sz) o') :
    After ρ H w n ρ (hset H a (some o')) (wset w blk X) n := by
  refine ⟨⟨fun c oc e => ?_, fun b c ob oc x y p1 p2 p3 q1 q2 q3 hbc e1 e2 hr e3 e4 => ?_⟩, hf, Nat.le_refl _, .refl _, rfl, rfl, rfl, by simp, fun k hk hn => ?_, fun k hk => ?_⟩
  · by_cases hca : c = a
    · subst hca
      rw [hset_same] at e
      simp only [Option.some.injEq] at e
      subst e
      exact ⟨_, hx, hobj⟩
    · rw [hset_ne _ _ hca] at e
      obtain ⟨x, hx', ho⟩ := h.obj c oc e
      refine ⟨x, hx', ?_⟩
      cases x with
      | nil => exact ho
      | «at» b1 b2 b3 b4 =>
        have hne : b1 ≠ blk := h.apart c a oc o b1 blk b2 b3 b4 base cap sz hca e ha (.inr hro) hx' hx
        exact ho.world (wset_ne _ _ hne)
  · have conv : ∀ d od, hset H a (some o') d = some od → ∃ od', H d = some od' ∧ (od.ro = false → od'.ro = false) := fun d od e => by
      by_cases hda : d = a
      · subst hda; exact ⟨o, ha, fun _ => hro⟩
      · rw [hset_ne _ _ hda] at e; exact ⟨od, e, id⟩
    obtain ⟨ob', e1', r1⟩ := conv b ob e1
    obtain ⟨oc', e2', r2⟩ := conv c oc e2
    exact h.apart b c ob' oc' x y p1 p2 p3 q1 q2 q3 hbc e1' e2' (hr.imp r1 r2) e3 e4
  · refine wset_ne _ _ (fun e => hn ?_)
    subst e
    exact ⟨a, o, base, cap, sz, ha, hro, hx⟩
  · obtain ⟨c, oc, p1, p2, p3, e1, e2, e3⟩ := hk
    by_cases hca : c = a
    · subst hca; exact .inl ⟨c, o, p1, p2, p3, ha, hro, e3⟩
    · rw [hset_ne _ _ hca] at e1; exact .inl ⟨c, oc, p1, p2, p3, e1, e2, e3⟩

/-- A block is made. -/
theorem Sat.push {ρ : Rho} {H : Heap} {w : World} {n : Nat} (h : Sat ρ H w) (hf : Fresh ρ n) {X : Obj} {base cap sz : Nat} {o : AObj}
    (hobj : ∀ ρ' w', Rho.le ρ ρ' → w'.heap[w.heap.size]? = some X → ObjAt ρ' w' (.at w.heap.size base cap sz) o) :
    After ρ H w n (rset ρ n (.at w.heap.size base cap sz)) (hset H n (some o)) { w with heap := w.heap.push X } (n + 1) := by
  have hle : Rho.le ρ (rset ρ n (.at w.heap.size base cap sz)) := rset_le _ (hf n (Nat.le_refl _))
  have hkeep : ∀ k, k < w.heap.size → (w.heap.push X)[k]? = w.heap[k]? := fun k hk => by
    rw [Array.getElem?_push, if_neg (by omega)]
  have hinfo : ∀ c x, c ≠ n → rset ρ n (.at w.heap.size base cap sz) c = some x → ρ c = some x := fun c x hc e => by rwa [rset_ne _ _ hc] at e
  have hblk : ∀ c o x p1 p2 p3, H c = some o → ρ c = some (.at x p1 p2 p3) → x < w.heap.size := fun c o x p1 p2 p3 e1 e2 => by
    obtain ⟨y, hy, ho⟩ := h.obj c o e1
    rw [e2] at hy
    simp only [Option.some.injEq] at hy
    subst hy
    exact ho.lt
  refine ⟨⟨fun c o e => ?_, fun a c oa oc x y p1 p2 p3 q1 q2 q3 hac e1 e2 hro e3 e4 => ?_⟩, hf.set _, Nat.le_succ _, hle, rfl, rfl, rfl, by simp, fun k hk _ => hkeep k hk, fun k hk => ?_⟩
  · by_cases hcn : c = n
    · subst hcn
      rw [hset_same] at e
      simp only [Option.some.injEq] at e
      subst e
      exact ⟨_, rset_same _ _ _, hobj _ _ hle (by simp)⟩
    · rw [hset_ne _ _ hcn] at e
      obtain ⟨x, hx, ho⟩ := h.obj c o e
      refine ⟨x, hle _ _ hx, ?_⟩
      cases x with
      | nil => exact ho
      | «at» b1 b2 b3 b4 => exact (ho.mono hle).world (hkeep _ ho.lt)
  · by_cases han : a = n
    · subst han
      rw [rset_same] at e3
      simp only [Option.some.injEq, Info.at.injEq] at e3
      have hcn : c ≠ a := fun q => hac q.symm
      rw [hset_ne _ _ hcn] at e2
      have := hblk c oc y q1 q2 q3 e2 (hinfo c _ hcn e4)
      omega
    · by_cases hcn : c = n
      · subst hcn
        rw [rset_same] at e4
        simp only [Option.some.injEq, Info.at.injEq] at e4
        rw [hset_ne _ _ han] at e1
        have := hblk a oa x p1 p2 p3 e1 (hinfo a _ han e3)
        omega
      · rw [hset_ne _ _ han] at e1
        rw [hset_ne _ _ hcn] at e2
        exact h.apart a c oa oc x y p1 p2 p3 q1 q2 q3 hac e1 e2 hro (hinfo a _ han e3) (hinfo c _ hcn e4)
  · obtain ⟨a, o, p1, p2, p3, e1, e2, e3⟩ := hk
    by_cases han : a = n
    · subst han
      rw [rset_same] at e3
      simp only [Option.some.injEq, Info.at.injEq] at e3
      exact .inr (by omega)
    · rw [hset_ne _ _ han] at e1
      exact .inl ⟨a, o, p1, p2, p3, e1, e2, hinfo a _ han e3⟩

/-- Another name for a part of a row that nobody writes. -/
theorem Sat.alias {ρ : Rho} {H : Heap} {w : World} {n : Nat} (h : Sat ρ H w) (hf : Fresh ρ n) {a : Nat} {o o' : AObj} (ha : H a = some o) (hro : o.ro = true) (hro' : o'.ro = true)
    {blk base cap sz base' cap' sz' : Nat} (hx : ρ a = some (.at blk base cap sz)) (hobj : ∀ ρ', Rho.le ρ ρ' → ObjAt ρ' w (.at blk base' cap' sz') o') :
    After ρ H w n (rset ρ n (.at blk base' cap' sz')) (hset H n (some o')) w (n + 1) := by
  have hle : Rho.le ρ (rset ρ n (.at blk base' cap' sz')) := rset_le _ (hf n (Nat.le_refl _))
  have hinfo : ∀ c x, c ≠ n → rset ρ n (.at blk base' cap' sz') c = some x → ρ c = some x := fun c x hc e => by rwa [rset_ne _ _ hc] at e
  refine ⟨⟨fun c o e => ?_, fun b c ob oc x y p1 p2 p3 q1 q2 q3 hbc e1 e2 hr e3 e4 => ?_⟩, hf.set _, Nat.le_succ _, hle, rfl, rfl, rfl, Nat.le_refl _, fun _ _ _ => rfl, fun k hk => ?_⟩
  · by_cases hcn : c = n
    · subst hcn
      rw [hset_same] at e
      simp only [Option.some.injEq] at e
      subst e
      exact ⟨_, rset_same _ _ _, hobj _ hle⟩
    · rw [hset_ne _ _ hcn] at e
      obtain ⟨x, hx, ho⟩ := h.obj c o e
      exact ⟨x, hle _ _ hx, ho.mono hle⟩
  · by_cases hbn : b = n
    · subst hbn
      rw [rset_same] at e3
      rw [hset_same] at e1
      simp only [Option.some.injEq, Info.at.injEq] at e3 e1
      have hcn : c ≠ b := fun q => hbc q.symm
      rw [hset_ne _ _ hcn] at e2
      have hrc : oc.ro = false := by
        rcases hr with q | q
        · rw [← e1, hro'] at q; exact absurd q (by simp)
        · exact q
      have hac : a ≠ c := fun q => by subst q; rw [ha] at e2; simp only [Option.some.injEq] at e2; rw [e2, hrc] at hro; exact absurd hro (by simp)
      rw [← e3.1]
      exact h.apart a c o oc blk y base cap sz q1 q2 q3 hac ha e2 (.inr hrc) hx (hinfo c _ hcn e4)
    · by_cases hcn : c = n
      · subst hcn
        rw [rset_same] at e4
        rw [hset_same] at e2
        simp only [Option.some.injEq, Info.at.injEq] at e4 e2
        rw [hset_ne _ _ hbn] at e1
        have hrb : ob.ro = false := by
          rcases hr with q | q
          · exact q
          · rw [← e2, hro'] at q; exact absurd q (by simp)
        have hab : b ≠ a := fun q => by subst q; rw [ha] at e1; simp only [Option.some.injEq] at e1; rw [e1, hrb] at hro; exact absurd hro (by simp)
        rw [← e4.1]
        exact h.apart b a ob o x blk p1 p2 p3 base cap sz hab e1 ha (.inl hrb) (hinfo b _ hbn e3) hx
      · rw [hset_ne _ _ hbn] at e1
        rw [hset_ne _ _ hcn] at e2
        exact h.apart b c ob oc x y p1 p2 p3 q1 q2 q3 hbc e1 e2 hr (hinfo b _ hbn e3) (hinfo c _ hcn e4)
  · obtain ⟨c, oc, p1, p2, p3, e1, e2, e3⟩ := hk
    by_cases hcn : c = n
    · subst hcn
      rw [hset_same] at e1
      simp only [Option.some.injEq] at e1
      rw [← e1, hro'] at e2
      exact absurd e2 (by simp)
    · rw [hset_ne _ _ hcn] at e1
      exact .inl ⟨c, oc, p1, p2, p3, e1, e2, hinfo c _ hcn e3⟩

/-! strings that are gone through -/
def opRange (vs : List AVal) (H : Heap) (n : Nat) (κ : Cont) : Prop := ∃ l, vs = [.s l] ∧ κ (.ptr n 0 0) (hset H n (some ⟨false, itc l 0, []⟩)) (n + 1)
theorem range_ok {t : TypeId} (hu : P.underlying t = some .string) {vs : List AVal} {x : Value} {ρ : Rho} {H : Heap} {w : World} {n : Nat} {κ : Cont} (h : opRange vs H n κ) (hv : VRels ρ vs [x]) (hs : Sat ρ H w) (hf : Fresh ρ n) :
    Comes' P (Instr.range t x) ρ H w n κ := by
  obtain ⟨l, rfl, hk⟩ := h
  obtain ⟨x', hx', hr⟩ := rels1 hv
  simp only [List.cons.injEq, and_true] at hx'
  subst hx'
  simp only [VRel] at hr
  subst hr
  have hnew := hs.push hf (X := .stringIter ⟨l.toArray⟩ 0) (base := 0) (cap := 0) (sz := 0) (o := ⟨false, itc l 0, []⟩) (fun ρ' w' _ hw => .inl ⟨rfl, rfl, rfl, rfl, l, 0, rfl, hw⟩)
  refine ⟨.pointer (some ⟨w.heap.size, 0, none⟩), _, ?_, _, _, _, _, hk, ?_, hnew⟩
  · simp [Instr.range, run_underlying' hu, newObj, Sem.run]
  · simp only [VRel]
    exact ⟨w.heap.size, 0, 0, 0, rset_same _ _ _, rfl⟩

def opNext (vs : List AVal) (H : Heap) (n : Nat) (κ : Cont) : Prop :=
  ∃ a l k, vs = [.ptr a 0 0] ∧ H a = some ⟨false, itc l k, []⟩ ∧
    (k < l.length → κ (.tup [.b true, .i .i64 k, .i .i32 (Utf8.decode ⟨l.toArray⟩ k).1]) (hset H a (some ⟨false, itc l (k + (Utf8.decode ⟨l.toArray⟩ k).2), []⟩)) n) ∧
    (l.length ≤ k → κ (.tup [.b false]) H n)
theorem next_ok {t : TypeId} {vs : List AVal} {x : Value} {ρ : Rho} {H : Heap} {w : World} {n : Nat} {κ : Cont} (h : opNext vs H n κ) (hv : VRels ρ vs [x]) (hs : Sat ρ H w) (hf : Fresh ρ n) :
    Comes' P (Instr.next x true t) ρ H w n κ := by
  obtain ⟨a, l, k, rfl, ha, h1, h2⟩ := h
  obtain ⟨x', hx', hr⟩ := rels1 hv
  simp only [List.cons.injEq, and_true] at hx'
  subst hx'
  simp only [VRel] at hr
  obtain ⟨blk, base, cap, sz, hρ, rfl⟩ := hr
  obtain ⟨y, hy, ho⟩ := hs.obj a _ ha
  rw [hρ] at hy; simp only [Option.some.injEq] at hy; subst hy
  have hit : base = 0 ∧ cap = 0 ∧ sz = 0 ∧ w.heap[blk]? = some (.stringIter ⟨l.toArray⟩ k) := by
    rcases ho with ⟨_, g2, g3, g4, m, j, g5, g6⟩ | ⟨g0, g1, cc, el, fz, g2, g3, g4, g5, g6⟩
    · obtain ⟨rfl, rfl⟩ := itc_inj g5
      exact ⟨g2, g3, g4, g6⟩
    · exfalso
      simp only at g1
      rcases g0 with q | q
      · exact q rfl
      · unfold itc at g1; omega
  obtain ⟨rfl, rfl, rfl, hg⟩ := hit
  have hlt := lt_of_heap hg
  have hsz : (⟨l.toArray⟩ : ByteArray).size = l.length := by show l.toArray.size = _; simp
  by_cases hk : k < l.length
  · have hput := hs.put hf (o' := ⟨false, itc l (k + (Utf8.decode ⟨l.toArray⟩ k).2), []⟩) ha rfl rfl hρ (X := .stringIter ⟨l.toArray⟩ (k + (Utf8.decode ⟨l.toArray⟩ k).2))
      (.inl ⟨rfl, rfl, rfl, rfl, l, _, rfl, wset_same _ _ hlt⟩)
    refine ⟨.tuple #[.bool true, .int .i64 k, .int .i32 (Utf8.decode ⟨l.toArray⟩ k).1], wset w blk (.stringIter ⟨l.toArray⟩ (k + (Utf8.decode ⟨l.toArray⟩ k).2)), ?_, _, _, _, _, h1 hk, ?_, hput⟩
    · simp [Instr.next, getObj, Sem.run, hg, hsz, hk, setObj, wset, goInt]
    · simp [VRel, VRels, goInt]
  · refine ⟨.tuple #[.bool false], w, ?_, _, _, _, _, h2 (by omega), ?_, .refl hs hf⟩
    · simp [Instr.next, getObj, Sem.run, hg, hsz, hk]
    · simp [VRel, VRels]


/-! bytes that are sealed: `[]byte("..")` of a constant -/
def opSeal (vs : List AVal) (H : Heap) (κ : AVal → Prop) : Prop := ∃ a off len o, vs = [.sl a off len] ∧ H a = some o ∧ o.ro = false ∧ o.sz = 1 ∧ 0 < len ∧ κ (.sl a off len)
theorem seal_ok {t e : TypeId} (h1 : P.underlying t = some (.slice e)) (h2 : P.underlying e = some (.int .u8)) {vs : List AVal} {x : Value} {ρ : Rho} {H : Heap} {w : World} {n : Nat} {κ : Cont} (h : opSeal vs H fun v => κ v H n) (hv : VRels ρ vs [x]) (hs : Sat ρ H w) (hf : Fresh ρ n) :
    Comes' P (convert t t x) ρ H w n κ := by
  obtain ⟨a, off, len, o, rfl, ha, hro, hsz, hlen, hk⟩ := h
  obtain ⟨x', hx', hr⟩ := rels1 hv
  simp only [List.cons.injEq, and_true] at hx'
  subst hx'
  have hr0 := hr
  simp only [VRel] at hr
  rcases hr with ⟨_, rfl, _⟩ | ⟨blk, base, cap, sz, ad, cp, hρ, rfl, hle, hcp⟩
  · omega
  obtain ⟨rfl, hoc⟩ := hcp.resolve_left (by omega)
  obtain ⟨hsz', cc, elem, fz, hg, hfree, hbc, hcapl, hh⟩ := hs.at ha hρ (.inr (by omega))
  have hlt := lt_of_heap hg
  let fz' : Nat × Nat := if fz.1 == fz.2 then (cc.size, cc.size + 1) else (min fz.1 cc.size, max fz.2 (cc.size + 1))
  have hput := hs.put hf (o' := o) ha hro hro hρ (X := .cells cc elem fz') (.inr ⟨.inr (by omega), hsz', cc, elem, fz', wset_same _ _ hlt, fun _ => by
    have := hfree hro
    unfold free at this ⊢
    simp only [fz']
    split
    · exact .inr (Nat.le_refl _)
    · rename_i hne
      simp only [beq_iff_eq] at hne
      rcases this with q | q
      · exact absurd q hne
      · exact .inr (by simp only; omega), hbc, hcapl, hh⟩)
  have hHH : hset H a (some o) = H := by
    funext c
    by_cases hc : c = a
    · subst hc; rw [hset_same, ha]
    · rw [hset_ne _ _ hc]
  rw [hHH] at hput
  refine ⟨_, wset w blk (.cells cc elem fz'), ?_, _, _, _, _, hk, hr0, hput⟩
  have hmark : (markStringish ⟨blk, base + off * sz, none⟩).run P w = .ok () (wset w blk (.cells cc elem fz')) := by
    have hshape : w.shape? blk = some (elem, cc.size) := by simp [World.shape?, hg]
    simp only [markStringish, shape, Sem.run_bind, Sem.run, hshape, Result.andThen_ok]
    have : w.freeze ⟨blk, cc.size, none⟩ 1 = wset w blk (.cells cc elem fz') := by
      simp only [World.freeze, wset]
      rw [if_neg (by omega)]
      congr 1
      apply Array.ext_getElem?
      intro j
      rw [Array.getElem?_modify, Array.getElem?_setIfInBounds]
      by_cases hj : blk = j
      · subst hj
        simp only [if_true, hg, hlt, Option.map_some]
        obtain ⟨f1, f2⟩ := fz
        simp [fz']
      · rw [if_neg hj, if_neg hj]
    simp only [freeze, Sem.run, this]
  simp only [convert, Sem.run_bind, run_underlying' h1, run_underlying' h2, Result.andThen_ok, beq_self_eq_true, hmark, Sem.run_pure]

/-! is a slice nil? -/
def isNilS : AVal → Option Bool
  | .sl _ _ len => if 0 < len then some false else none
  | .c (.slice none 0 0) => some true
  | _ => none
def opSlnil (neg : Bool) (vs : List AVal) (κ : AVal → Prop) : Prop := ∃ x p, vs = [x, .c (.slice none 0 0)] ∧ isNilS x = some p ∧ κ (.b (xor neg p))
theorem isNilS_ok {x : AVal} {p : Bool} (h : isNilS x = some p) {ρ : Rho} {v : Value} (hr : VRel ρ x v) : ∃ a len cp, v = .slice a len cp ∧ a.isNone = p := by
  unfold isNilS at h
  split at h
  · split at h
    · simp only [Option.some.injEq] at h
      subst h
      simp only [VRel] at hr
      rcases hr with ⟨_, q, _⟩ | ⟨_, _, _, _, ad, cp, _, rfl, _⟩
      · omega
      · exact ⟨_, _, _, rfl, rfl⟩
    · exact absurd h (by simp)
  · simp only [Option.some.injEq] at h
    subst h
    simp only [VRel] at hr
    exact ⟨_, _, _, hr, rfl⟩
  · exact absurd h (by simp)

/-! a slice of an array that nobody writes -/
def opSliceArr (alen : Nat) (vs : List AVal) (H : Heap) (n : Nat) (κ : Cont) : Prop :=
  ∃ a i j o e, vs = [.ptr a i j] ∧ H a = some o ∧ o.ro = true ∧ o.es[i]? = some e ∧ j + alen ≤ e.cells.length ∧ (∀ y ∈ (e.cells.drop j).take alen, y.cells = [y]) ∧
    κ (.sl n 0 alen) (hset H n (some ⟨true, 1, (e.cells.drop j).take alen⟩)) (n + 1)
theorem sliceArr_ok {t e : TypeId} {alen : Nat} {ti : TypeInfo} (hu : P.underlying t = some (.array alen e)) (hi : P.info? e = some ti) (h1 : ti.size = 1) {vs : List AVal} {x : Value} {ρ : Rho} {H : Heap} {w : World} {n : Nat} {κ : Cont}
    (h : opSliceArr alen vs H n κ) (hv : VRels ρ vs [x]) (hs : Sat ρ H w) (hf : Fresh ρ n) : Comes' P (Instr.sliceAt t x none none none) ρ H w n κ := by
  obtain ⟨a, i, j, o, el, rfl, ha, hro, hie, hj, hcells, hk⟩ := h
  obtain ⟨x', hx', hr⟩ := rels1 hv
  simp only [List.cons.injEq, and_true] at hx'
  subst hx'
  simp only [VRel] at hr
  obtain ⟨blk, base, cap, sz, hρ, rfl⟩ := hr
  obtain ⟨hsz', cc, elem, fz, hg, hfree, hbc, hcapl, hh⟩ := hs.at ha hρ (.inl (by rintro q; rw [q] at hie; simp at hie))
  obtain ⟨hel, hcell⟩ := hh i el hie
  have hlt : i < o.es.length := (List.getElem?_eq_some_iff.1 hie).1
  have hin : (i + 1) * sz ≤ cap * sz := Nat.mul_le_mul_right _ (by omega)
  rw [Nat.add_mul, Nat.one_mul] at hin
  have hal := hs.alias hf ha hro (o' := ⟨true, 1, (el.cells.drop j).take alen⟩) rfl hρ (base' := base + i * sz + j) (cap' := alen) (sz' := 1) (fun ρ' hle => .inr ⟨.inr (by omega), rfl, cc, elem, fz, hg, fun q => by simp at q, by omega, by simp; omega, fun k y hy => by
    have hy2 := List.mem_of_getElem? hy
    rw [hcells y hy2]
    refine ⟨rfl, fun m z hz => ?_⟩
    cases m with
    | succ m => simp at hz
    | zero =>
      simp at hz
      subst hz
      have hkl : k < alen := by
        have := (List.getElem?_eq_some_iff.1 hy).1
        simp at this
        omega
      rw [List.getElem?_take_of_lt hkl, List.getElem?_drop] at hy
      obtain ⟨u, hu1, hu2⟩ := hcell _ _ hy
      exact ⟨u, by rw [← hu1]; congr 1; omega, VRel.mono hle _ _ hu2⟩⟩)
  refine ⟨.slice (some ⟨blk, base + i * sz + j, none⟩) alen alen, w, ?_, _, _, _, _, hk, ?_, hal⟩
  · simp only [Instr.sliceAt, Sem.run_bind, run_underlying' hu, Result.andThen_ok, run_sizeOf' hi, h1]
    simp only [Instr.sureAddr, Instr.sliceBounds, Sem.run_pure, Result.andThen_ok, Sem.run_bind, Nat.zero_mul, Nat.sub_zero]
    congr 4
    split
    · rfl
    · simp [Addr.add]
  · simp only [VRel]
    exact .inr ⟨blk, _, alen, 1, _, alen, rset_same _ _ _, rfl, Nat.le_refl _, .inr ⟨by simp, by omega⟩⟩

/-! slices that are made -/
def zeroEl (zs : List AVal) : AVal :=
  match zs with
  | [z] => z
  | _ => .agg zs
def opMake (sz bytes : Nat) (z : AVal) (vs : List AVal) (H : Heap) (n : Nat) (κ : Cont) : Prop :=
  ∃ l c : Int, vs = [.i .i64 l, .i .i64 c] ∧ 0 ≤ l ∧ l ≤ c ∧ c * bytes ≤ 1099511627776 ∧ c ≤ 1099511627776 ∧
    κ (.sl n 0 l.toNat) (hset H n (some ⟨false, sz, List.replicate c.toNat z⟩)) (n + 1)
theorem make_ok {t e : TypeId} {ti : TypeInfo} {zv : Value} {z : AVal} (hu : P.underlying t = some (.slice e)) (hi : P.info? e = some ti) (hz : ti.zero = some zv) (hzs : zv.cells.size = ti.size) (hpos : 0 < ti.size) (hlt : ti.size < 18446744073709551616)
    (hzz : ∀ ρ, VRels ρ z.cells zv.cells.toList) {vs : List AVal} {x y : Value} {ρ : Rho} {H : Heap} {w : World} {n : Nat} {κ : Cont}
    (h : opMake ti.size ti.bytes z vs H n κ) (hv : VRels ρ vs [x, y]) (hs : Sat ρ H w) (hf : Fresh ρ n) : Comes' P (Instr.makeSlice t x y) ρ H w n κ := by
  obtain ⟨l, c, rfl, h0, h1, h2, h3, hk⟩ := h
  obtain ⟨x', y', hx', hr, hry⟩ := rels2 hv
  simp only [List.cons.injEq, and_true] at hx'
  obtain ⟨rfl, rfl⟩ := hx'
  simp only [VRel] at hr hry
  subst hr; subst hry
  have hwl : IntKind.i64.wrap l = l := by
    simp only [IntKind.wrap, IntKind.bits, IntKind.signed]; simp; omega
  have hwc : IntKind.i64.wrap c = c := by
    simp only [IntKind.wrap, IntKind.bits, IntKind.signed]; simp; omega
  have hzl : z.cells.length = ti.size := by have := (hzz ρ).length; simpa [hzs] using this
  let zero : Array Value := if c.toNat * ti.size = 0 then #[] else zv.cells
  let cc : Array Value := (Array.range (c.toNat * ti.size)).map (zero[· % zero.size]!)
  have hnew := hs.new hf (.inr hlt) (cc := cc) (t := e) (fz := (0, 0)) (sz := ti.size) (cap := c.toNat) (es := List.replicate c.toNat z) (free_zero _) (by simp [cc]) (by simp) (by
    intro i el hel
    rw [List.getElem?_replicate] at hel
    split at hel
    · rename_i hic
      simp only [Option.some.injEq] at hel
      subst hel
      refine ⟨hzl, fun j q hq => ?_⟩
      obtain ⟨u, hu1, hu2⟩ := (hzz (rset ρ n (.at w.heap.size 0 c.toNat ti.size))).get hq
      have hj : j < ti.size := by have := (List.getElem?_eq_some_iff.1 hq).1; omega
      refine ⟨u, ?_, ?_⟩
      · have hne : c.toNat * ti.size ≠ 0 := Nat.mul_ne_zero (by omega) (by omega)
        have hidx : i * ti.size + j < c.toNat * ti.size := by
          have : (i + 1) * ti.size ≤ c.toNat * ti.size := Nat.mul_le_mul_right _ hic
          rw [Nat.add_mul] at this
          omega
        have hmod : (i * ti.size + j) % ti.size = j := by
          rw [Nat.add_comm, Nat.add_mul_mod_self_right]; exact Nat.mod_eq_of_lt hj
        simp only [cc, zero, if_neg hne, Nat.zero_add]
        rw [Array.getElem?_map, Array.getElem?_range]
        rw [if_pos hidx]
        simp only [Option.map_some, hzs, hmod]
        have hu1' : zv.cells[j]? = some u := by simpa using hu1
        rw [getElem!_def, hu1']
      · obtain ⟨u2, hv1, hv2⟩ := (hzz ρ).get hq
        rw [hu1] at hv1
        simp only [Option.some.injEq] at hv1
        subst hv1
        exact hv2
    · exact absurd hel (by simp))
  refine ⟨.slice (some ⟨w.heap.size, 0, none⟩) l.toNat c.toNat, _, ?_, _, _, _, _, hk, ?_, hnew⟩
  · have hb : ¬ ((ti.bytes : Int) * c > 2 ^ 48) := by rw [Int.mul_comm]; omega
    have hb2 : ¬ ((ti.bytes : Int) * l > 2 ^ 48) := by
      have : (ti.bytes : Int) * l ≤ ti.bytes * c := Int.mul_le_mul_of_nonneg_left h1 (by omega)
      omega
    have hc0 : ¬ c < 0 := by omega
    have hl0 : ¬ l < 0 := by omega
    have hlc : ¬ l > c := by omega
    have hcond : ((decide (c < 0) || decide ((ti.bytes : Int) * c > 2 ^ 48)) || decide (l < 0) || decide (l > c)) = false := by simp [hc0, hb, hl0, hlc]; omega
    have hgo : ∀ z0 : Array Value, z0 = zero → (do let a ← newRow e (Array.map (fun x => z0[x % z0.size]!) (Array.range (c.toNat * ti.size))); Pure.pure (Value.slice (some a) l.toNat c.toNat) : Sem Value).run P w =
        .ok (Value.slice (some { block := w.heap.size, off := 0 }) l.toNat c.toNat) { w with heap := w.heap.push (Obj.cells cc e) } := by
      rintro z0 rfl
      simp only [Sem.run_bind, run_newRow', Result.andThen_ok, Sem.run_pure]
      rfl
    simp only [Instr.makeSlice, Sem.run_bind, run_underlying' hu, Result.andThen_ok, asInt, asIntOf, Sem.run_pure, run_typeInfo' hi, hwl, hwc]
    simp only [hcond, Bool.false_eq_true, if_false, Sem.run_bind, Sem.run_pure, Result.andThen_ok, run_askRoom, run_sizeOf' hi]
    by_cases hz0 : c.toNat * ti.size = 0
    · rw [if_pos hz0]
      exact hgo _ (by simp only [zero, if_pos hz0])
    · rw [if_neg hz0]
      simp only [Sem.run_bind, zeroValue, run_typeInfo' hi, Result.andThen_ok, hz, Sem.run_pure]
      exact hgo _ (by simp only [zero, if_neg hz0])
  · simp only [VRel]
    exact .inr ⟨w.heap.size, 0, c.toNat, ti.size, ⟨w.heap.size, 0, none⟩, c.toNat, rset_same _ _ _, rfl, by omega, .inr ⟨by simp, by omega⟩⟩

end Go.AM
/- AM, part 10: the abstract machine's code, and what it needs to come to its end. -/
set_option linter.unusedVariables false
namespace Go.AM

inductive Opd where
  | t (n : Nat)
  | k (v : AVal)
  deriving Inhabited

def ev (e : Env) : Opd → AVal
  | .t n => e n
  | .k v => v

inductive IOp where
  | mv | pick | bin (op : BinOp) | not | neg | conv (k : IntKind)
  | beq (neg : Bool) | peq (neg : Bool)
  | load (sz : Nat) (agg : Bool) | store (sz : Nat) | fadr (off : Nat) | iadrS (sz : Nat) | iadrA (len sz : Nat) | idxS | idxA (len sz : Nat) (agg : Bool)
  | field (off sz : Nat) (agg : Bool) | extract (k : Nat)
  | box | alloc (zero : AVal) | build (zero : List AVal) (places : List (Nat × Nat)) | buildSlice (sz : Nat)
  | lenStr | lenSl | min | max | nilchk
  | sliceStr (lo hi : Bool) | sliceSl (sz : Nat) (lo hi : Bool) | sliceArr (len sz : Nat)
  | append (sz bytes : Nat) | strOf | bytesOf
  | never | sealB | slnil (neg : Bool) | range | next | make (sz bytes : Nat) (z : AVal)
  | call (f : FuncId) | callv | mkfn (f : Fn) (first : Nat)
  deriving Inhabited

/-- Operations that look at no memory and can't fail once their operands are of the right kind. -/
def IOp.quiet : IOp → Bool
  | .bin op => match op with | .quo | .rem | .shl | .shr => false | _ => true
  | .mv | .pick | .not | .neg | .conv _ | .beq _ | .peq _ | .load .. | .fadr _ | .field .. | .extract _ | .lenStr | .lenSl | .min | .max | .idxA .. => true
  | _ => false

def unw : AVal → AVal
  | .when _ v => v
  | v => v
def gof : AVal → Bool
  | .when g _ => g
  | _ => true

def pickV (p : Bool) (x y : AVal) (κ : AVal → Prop) : Prop :=
  match x, y with
  | .b a, .b c => κ (.b (if p then a else c))
  | x, y => (p = true → κ x) ∧ (p = false → κ y)

def opPick (vs : List AVal) (κ : AVal → Prop) : Prop :=
  ∃ p x y, vs = [.b p, x, y] ∧ (p = true → gof x = true) ∧ (p = false → gof y = true) ∧ pickV p (unw x) (unw y) κ

/-- A value that is known not to be nil, or to be nil. -/
def isNilV : AVal → Option Bool
  | .ptr .. => some false
  | .fn (.func _) _ _ => some false
  | _ => none

/-- The same of pointers alone. -/
def isNilP : AVal → Option Bool
  | .ptr .. => some false
  | .c (.pointer none) => some true
  | _ => none

def opNil (neg : Bool) (vs : List AVal) (κ : AVal → Prop) : Prop :=
  ∃ x y p q, vs = [x, y] ∧ isNilP x = some p ∧ isNilP y = some q ∧ (p || q) = true ∧ κ (.b (xor neg (p && q)))

def opSliceSl' (sz : Nat) (lo hi : Bool) (vs : List AVal) (H : Heap) (κ : AVal → Prop) : Prop :=
  (∀ a off len rest, vs = .sl a off len :: rest → ∃ o, H a = some o ∧ o.sz = sz) ∧ opSliceSl lo hi vs κ

def istep (Γ : FuncId → Spec) : IOp → List AVal → Heap → Nat → Cont → Prop
  | .mv, vs, H, n, κ => ∃ v, vs = [v] ∧ κ v H n
  | .pick, vs, H, n, κ => opPick vs fun v => κ v H n
  | .bin op, vs, H, n, κ => opBin op vs fun v => κ v H n
  | .not, vs, H, n, κ => ∃ p, vs = [.b p] ∧ κ (.b (!p)) H n
  | .neg, vs, H, n, κ => ∃ k x, vs = [.i k x] ∧ κ (.i k (k.wrap (0 - x))) H n
  | .conv k, vs, H, n, κ => ∃ j x, vs = [.i j x] ∧ κ (.i k (k.wrap x)) H n
  | .beq neg, vs, H, n, κ => ∃ p q, vs = [.b p, .b q] ∧ κ (.b (xor neg (p == q))) H n
  | .peq neg, vs, H, n, κ => opNil neg vs fun v => κ v H n
  | .load sz agg, vs, H, n, κ => opLoad sz agg vs H fun v => κ v H n
  | .store sz, vs, H, n, κ => opStore sz vs H fun H' => κ .junk H' n
  | .fadr off, vs, H, n, κ => opFadr off vs fun v => κ v H n
  | .iadrS sz, vs, H, n, κ => opIadrS sz vs H fun v => κ v H n
  | .iadrA len sz, vs, H, n, κ => opIadrA len sz vs fun v => κ v H n
  | .idxS, vs, H, n, κ => opIdxS vs fun v => κ v H n
  | .idxA len sz agg, vs, H, n, κ => opIdxA len sz agg vs fun v => κ v H n
  | .field off sz agg, vs, H, n, κ => opField off sz agg vs fun v => κ v H n
  | .extract k, vs, H, n, κ => opExtract k vs fun v => κ v H n
  | .box, vs, H, n, κ => opBox vs H n κ
  | .alloc z, vs, H, n, κ => vs = [] ∧ opBox [z] H n κ
  | .build z ps, vs, H, n, κ => opBuild z ps vs fun v => κ v H n
  | .buildSlice sz, vs, H, n, κ => opBuildSlice sz vs H n κ
  | .lenStr, vs, H, n, κ => ∃ l, vs = [.s l] ∧ κ (.i .i64 (l.length : Int)) H n
  | .lenSl, vs, H, n, κ => (∃ a off len, vs = [.sl a off len] ∧ κ (.i .i64 (len : Int)) H n) ∨ (vs = [.c (.slice none 0 0)] ∧ κ (.i .i64 0) H n)
  | .min, vs, H, n, κ => opMin vs fun v => κ v H n
  | .max, vs, H, n, κ => opMax vs fun v => κ v H n
  | .nilchk, vs, H, n, κ => ∃ v, vs = [v] ∧ isNilV v = some false ∧ κ v H n
  | .sliceStr lo hi, vs, H, n, κ => opSliceStr lo hi vs fun v => κ v H n
  | .sliceSl sz lo hi, vs, H, n, κ => opSliceSl' sz lo hi vs H fun v => κ v H n
  | .sliceArr len sz, vs, H, n, κ => opSliceArr len vs H n κ
  | .never, vs, H, n, κ => False
  | .sealB, vs, H, n, κ => opSeal vs H fun v => κ v H n
  | .slnil neg, vs, H, n, κ => opSlnil neg vs fun v => κ v H n
  | .range, vs, H, n, κ => opRange vs H n κ
  | .next, vs, H, n, κ => opNext vs H n κ
  | .make sz bytes z, vs, H, n, κ => opMake sz bytes z vs H n κ
  | .append sz bytes, vs, H, n, κ => opAppend sz bytes vs H n κ
  | .strOf, vs, H, n, κ => opStrOf vs H fun v => κ v H n
  | .bytesOf, vs, H, n, κ => opBytesOf vs H n κ
  | .call f, vs, H, n, κ => Γ f vs H n κ
  | .callv, vs, H, n, κ => ∃ g first cap rest, vs = .fn (.func g) first cap :: rest ∧ Γ g (first ++ rest ++ cap) H n κ
  | .mkfn f k, vs, H, n, κ => κ (.fn f (vs.take k) (vs.drop k)) H n

structure Ins where
  d : Option Nat
  op : IOp
  xs : List Opd
  g : Option (Nat × Bool × Bool)
  deriving Inhabited

def eset (e : Env) (d : Option Nat) (v : AVal) : Env :=
  match d with
  | some d => fun x => if x = d then v else e x
  | none => e

def gcond : AVal → Bool → Option Bool
  | .b p, want => some (p == want)
  | .when g v, want => match v with
    | .b p => some (g && (p == want))
    | _ => if g then none else some false
  | _, _ => none

/-- Behind a split the guard is known. -/
def gfix (e : Env) (j : Nat) (p : Bool) : Env :=
  match e j with
  | .b _ => fun x => if x = j then .b p else e x
  | _ => e

/-- The operands that an operation looks at are there: a pick looks at the one that it takes. -/
def gofsOp : IOp → List AVal → Bool
  | .pick, [g, x, y] => gof g && (match unw g with | .b p => if p then gof x else gof y | _ => false)
  | _, vs => vs.all gof

def step (Γ : FuncId → Spec) (x : Ins) (e : Env) (H : Heap) (n : Nat) (K : Env → Heap → Nat → Prop) : Prop :=
  match x.g with
  | none => istep Γ x.op (x.xs.map (ev e)) H n fun v H' n' => K (eset e x.d v) H' n'
  | some (j, want, spec) => ∃ c, gcond (e j) want = some c ∧
      if spec then
        x.op.quiet = true ∧ (c = true → gofsOp x.op (x.xs.map (ev e)) = true) ∧
          istep Γ x.op (x.xs.map fun y => unw (ev e y)) H n fun v _ _ => K (eset e x.d (.when c v)) H n
      else
        (c = true → gofsOp x.op (x.xs.map (ev (gfix e j want))) = true ∧ istep Γ x.op (x.xs.map fun y => unw (ev (gfix e j want) y)) H n fun v H' n' => K (eset (gfix e j want) x.d v) H' n') ∧
        (c = false → K (eset (gfix e j (!want)) x.d (.when false .junk)) H n)

def WPs (Γ : FuncId → Spec) : List Ins → (Env → Heap → Nat → Prop) → Env → Heap → Nat → Prop
  | [], K, e, H, n => K e H n
  | x :: xs, K, e, H, n => step Γ x e H n (WPs Γ xs K)

/-- What is looked at again behind an operation that changes memory. -/
def recheck (Γ : FuncId → Spec) : List Ins → Env → Heap → Nat → Prop
  | [], _, _, _ => True
  | q :: qs, e, H, n => step Γ q e H n (fun e' _ _ => ∀ d, q.d = some d → e' d = e d) ∧ recheck Γ qs e H n

/-- The operations in the order in which the abstract machine takes them, each with those that are to be looked at again behind it. -/
def WPP (Γ : FuncId → Spec) : List (Ins × List Ins) → (Env → Heap → Nat → Prop) → Env → Heap → Nat → Prop
  | [], K, e, H, n => K e H n
  | (x, late) :: r, K, e, H, n => step Γ x e H n fun e' H' n' => recheck Γ late e' H' n' ∧ WPP Γ r K e' H' n'

inductive CC where
  | skip
  | ops (is : List Ins) (ks : List Nat)
  | par (is : List (Ins × List Ins)) (ks : List Nat)
  | seq (a b : CC)
  | cond (x : Opd) (a b : CC)
  | block (id : Nat) (c : CC)
  | loop (c : CC)
  | exit (id : Nat)
  | ret
  | never
  deriving Inhabited

/-- Slots that are not named are forgotten. -/
def mkE : List (Nat × AVal) → Env
  | [], _ => .junk
  | (k, v) :: r, x => if x = k then v else mkE r x
def keepE (ks : List Nat) (e : Env) : Env := mkE (ks.map fun k => (k, e k))
def keepK (ks : List Nat) (K : Env → Heap → Nat → Prop) (e : Env) (H : Heap) (n : Nat) : Prop := K (keepE ks e) H n

abbrev Post := Exit → Env → Heap → Nat → Prop
def thenQ (K : Env → Heap → Nat → Prop) (Q : Post) : Post
  | .normal => K
  | x => Q x
def blockQ (id : Nat) (Q : Post) : Post
  | .exit j => if j = id then Q .normal else Q (.exit j)
  | x => Q x

def WP (Γ : FuncId → Spec) : CC → Post → Env → Heap → Nat → Prop
  | .skip, Q, e, H, n => Q .normal e H n
  | .ops is ks, Q, e, H, n => WPs Γ is (keepK ks (Q .normal)) e H n
  | .par is ks, Q, e, H, n => WPP Γ is (keepK ks (Q .normal)) e H n
  | .seq a b, Q, e, H, n => WP Γ a (thenQ (WP Γ b Q) Q) e H n
  | .cond x a b, Q, e, H, n => ∃ p, ev e x = .b p ∧ (p = true → WP Γ a Q e H n) ∧ (p = false → WP Γ b Q e H n)
  | .block id c, Q, e, H, n => WP Γ c (blockQ id Q) e H n
  | .loop c, Q, e, H, n => ∃ (I : Nat → Env → Heap → Nat → Prop) (k : Nat) (H1 : Heap), Heap.le H1 H ∧ I k e H1 n ∧
      ∀ k e H n, (∀ m, n ≤ m → H m = none) → I k e H n → WP Γ c (thenQ (fun e' H' n' => ∃ H'' k', Heap.le H'' H' ∧ k' < k ∧ I k' e' H'' n') Q) e H n
  | .exit id, Q, e, H, n => Q (.exit id) e H n
  | .ret, Q, e, H, n => Q .ret e H n
  | .never, Q, e, H, n => False

/-- The same, but between two pieces of code something weaker may be remembered. -/
def WPC (Γ : FuncId → Spec) : CC → Post → Env → Heap → Nat → Prop
  | .skip, Q, e, H, n => Q .normal e H n
  | .ops is ks, Q, e, H, n => WPs Γ is (keepK ks (Q .normal)) e H n
  | .par is ks, Q, e, H, n => WPP Γ is (keepK ks (Q .normal)) e H n
  | .seq a b, Q, e, H, n => ∃ R : Env → Heap → Nat → Prop, WPC Γ a (thenQ R Q) e H n ∧ ∀ e H n, (∀ m, n ≤ m → H m = none) → R e H n → WPC Γ b Q e H n
  | .cond x a b, Q, e, H, n => ∃ p, ev e x = .b p ∧ (p = true → WPC Γ a Q e H n) ∧ (p = false → WPC Γ b Q e H n)
  | .block id c, Q, e, H, n => WPC Γ c (blockQ id Q) e H n
  | .loop c, Q, e, H, n => ∃ (I : Nat → Env → Heap → Nat → Prop) (k : Nat) (H1 : Heap), Heap.le H1 H ∧ I k e H1 n ∧
      ∀ k e H n, (∀ m, n ≤ m → H m = none) → I k e H n → WPC Γ c (thenQ (fun e' H' n' => ∃ H'' k', Heap.le H'' H' ∧ k' < k ∧ I k' e' H'' n') Q) e H n
  | .exit id, Q, e, H, n => Q (.exit id) e H n
  | .ret, Q, e, H, n => Q .ret e H n
  | .never, Q, e, H, n => False

theorem WP.toC {Γ : FuncId → Spec} : ∀ {c : CC} {Q : Post} {e : Env} {H : Heap} {n : Nat}, WP Γ c Q e H n → WPC Γ c Q e H n
  | .skip, _, _, _, _, h => h
  | .ops .., _, _, _, _, h => h
  | .par .., _, _, _, _, h => h
  | .seq a b, Q, e, H, n, h => ⟨WP Γ b Q, WP.toC (c := a) h, fun e H n _ hb => WP.toC (c := b) hb⟩
  | .cond x a b, Q, e, H, n, h => by
    obtain ⟨p, h1, h2, h3⟩ := h
    exact ⟨p, h1, fun q => WP.toC (c := a) (h2 q), fun q => WP.toC (c := b) (h3 q)⟩
  | .block id c, Q, e, H, n, h => WP.toC (c := c) h
  | .loop c, Q, e, H, n, h => by
    obtain ⟨I, k, H1, h1, h2, h3⟩ := h
    exact ⟨I, k, H1, h1, h2, fun k e H n hf hi => WP.toC (c := c) (h3 k e H n hf hi)⟩
  | .exit _, _, _, _, _, h => h
  | .ret, _, _, _, _, h => h
  | .never, _, _, _, _, h => h

end Go.AM
/- AM, part 11: Go's operations as the abstract machine's, and that these speak true. -/
set_option linter.unusedVariables false
namespace Go.AM
variable {P : Program}

/-- A call comes back with a value. -/
def Ret (P : Program) (R : Value → World → Prop) : Result Next → Prop
  | .ok (.value v) w => R v w
  | .ok (.enter f args) w => Calls P f args w fun e w' => ∃ v, e = .returned v ∧ R v w'
  | .ok (.row row args) w => Rows P row args w R
  | _ => False

def SpecOK (P : Program) (f : FuncId) (S : Spec) : Prop :=
  ∀ args H n κ, S args H n κ → ∀ ρ w vs, VRels ρ args vs.toList → Sat ρ H w → Fresh ρ n → Ret P (Res ρ H w n κ) ((callFunc f vs).run P w)

theorem Ret.upon {o : Oper} {a : Act} {next : Act → World → Prop} {Q : Exit → Act → World → Prop} {R : Value → World → Prop} {r : Result Next} (h : Ret P R r) (hn : ∀ v w, R v w → next (a.put o.dst v) w) : o.upon P a next Q r := by
  cases r with
  | ok x w =>
    cases x <;> simp only [Ret] at h
    · exact hn _ _ h
    · refine Calls.mono h ?_
      rintro e w' ⟨v, rfl, hr⟩
      exact hn _ _ hr
    · exact Rows.mono h (fun v w' hr => hn _ _ hr)
  | halt x w => exact h.elim

theorem run_callFunc {f : FuncId} {fn : Func} (hf : P.funcs[f]? = some fn) (hname : (fn.name == "runtime.NumGoroutine") = false) (hb : fn.body.isNone = false) (vs : Array Value) (w : World) : (callFunc f vs).run P w = .ok (.enter f vs) w := by
  simp only [callFunc, Sem.run_bind, program, Sem.run, Result.andThen_ok, hf, hname, hb, Bool.false_eq_true, if_false, Sem.run_pure]

/-- A value that names no memory. -/
def toA : Value → Option AVal
  | .int k n => some (.i k n)
  | .bool b => some (.b b)
  | .string s => some (.s s.data.toList)
  | .pointer none => some (.c (.pointer none))
  | .slice none 0 0 => some (.c (.slice none 0 0))
  | .map none => some (.c (.map none))
  | .nilFunc => some (.c .nilFunc)
  | .nilIface => some (.c .nilIface)
  | .func f x y => if x.size = 0 ∧ y.size = 0 then some (.fn f [] []) else none
  | _ => none

theorem toA_ok {v : Value} {x : AVal} (h : toA v = some x) (ρ : Rho) : VRel ρ x v := by
  unfold toA at h
  split at h <;> try simp only [Option.some.injEq, reduceCtorEq] at h
  case h_9 f x y =>
    split at h
    · rename_i hc
      obtain ⟨h1, h2⟩ := hc
      simp only [Option.some.injEq] at h
      subst h
      have hx : x = #[] := Array.eq_empty_of_size_eq_zero h1
      have hy : y = #[] := Array.eq_empty_of_size_eq_zero h2
      subst hx; subst hy
      simp [VRel, VRels]
    · exact absurd h (by simp)
  all_goals (subst h; simp [VRel])

def toAs : List Value → Option (List AVal)
  | [] => some []
  | v :: vs => match toA v, toAs vs with
    | some x, some xs => some (x :: xs)
    | _, _ => none
theorem toAs_ok : ∀ {vs : List Value} {xs : List AVal}, toAs vs = some xs → ∀ ρ, VRels ρ xs vs
  | [], xs, h, ρ => by simp [toAs] at h; subst h; exact VRels.nil'
  | v :: vs, xs, h, ρ => by
    simp only [toAs] at h
    split at h
    · rename_i x xs' h1 h2
      simp only [Option.some.injEq] at h
      subst h
      exact VRels.cons' (toA_ok h1 ρ) (toAs_ok h2 ρ)
    · exact absurd h (by simp)

def toZ : Value → Option AVal
  | .agg cs => (toAs cs.toList).map .agg
  | v => toA v
theorem toZ_ok {v : Value} {x : AVal} (h : toZ v = some x) (ρ : Rho) : VRel ρ x v := by
  unfold toZ at h
  split at h
  · rename_i cs
    simp only [Option.map_eq_some_iff] at h
    obtain ⟨xs, h1, rfl⟩ := h
    simp only [VRel, Value.agg.injEq]
    exact ⟨cs, rfl, toAs_ok h1 ρ⟩
  · exact toA_ok h ρ

/-- The operands of a slice's bounds. -/
def bdOpds : Option Operand → Option Operand → List Operand
  | none, none => []
  | some x, none => [x]
  | none, some y => [y]
  | some x, some y => [x, y]
theorem bdRel (lo hi : Option Operand) (f : Operand → Value) : BdRel lo.isSome hi.isSome ((bdOpds lo hi).map f) (lo.map f) (hi.map f) := by
  cases lo <;> cases hi <;> simp [bdOpds] <;> constructor

def compOp (P : Program) (o : Oper) : Option (IOp × List Operand) :=
  match o.op with
  | .move x | .assign x => some (.mv, [x])
  | .pick c a b => some (.pick, [c, a, b])
  | .binOp op t x y _ => do
    match ← P.underlying t with
    | .int _ | .string => some (.bin op, [x, y])
    | .bool => match op with
      | .eql => some (.beq false, [x, y])
      | .neq => some (.beq true, [x, y])
      | _ => none
    | .pointer _ => match op with
      | .eql => some (.peq false, [x, y])
      | .neq => some (.peq true, [x, y])
      | _ => none
    | .slice _ => match op with
      | .eql => some (.slnil false, [x, y])
      | .neq => some (.slnil true, [x, y])
      | _ => none
    | _ => none
  | .unOp op _ x => match op with
    | .not => some (.not, [x])
    | .neg => some (.neg, [x])
    | _ => none
  | .convert src dst x => do
    match ← P.underlying src, ← P.underlying dst with
    | .int _, .int k => some (.conv k, [x])
    | .slice e, .string => do match ← P.underlying e with
      | .int .u8 => some (.strOf, [x])
      | _ => none
    | .string, .slice e => do match ← P.underlying e with
      | .int .u8 => some (.bytesOf, [x])
      | _ => none
    | .slice e, .slice _ => do match ← P.underlying e with
      | .int .u8 => if src = dst then some (.sealB, [x]) else none
      | _ => none
    | _, _ => none
  | .load t x => do
    let d ← P.underlying t
    let ti ← P.info? t
    some (.load ti.size (isAggD d), [x])
  | .store t x y => do
    let ti ← P.info? t
    some (.store ti.size, [x, y])
  | .fieldAddr s x k => do
    match ← P.underlying s with
    | .struct fs => do
      let f ← fs[k]?
      let ti ← P.info? f.type
      if ti.size = 0 then none else some (.fadr f.offset, [x])
    | _ => none
  | .field s x k => do
    match ← P.underlying s with
    | .struct fs => do
      let f ← fs[k]?
      let d ← P.underlying f.type
      let ti ← P.info? f.type
      some (.field f.offset ti.size (isAggD d), [x])
    | _ => none
  | .indexAddr t x y => do
    match ← P.underlying t with
    | .slice e => do let ti ← P.info? e; if ti.size < 18446744073709551616 then some (.iadrS ti.size, [x, y]) else none
    | .array n e => do let ti ← P.info? e; some (.iadrA n ti.size, [x, y])
    | _ => none
  | .index t x y => do
    match ← P.underlying t with
    | .string => some (.idxS, [x, y])
    | .array n e => do
      let d ← P.underlying e
      let ti ← P.info? e
      some (.idxA n ti.size (isAggD d), [x, y])
    | _ => none
  | .extract x k => some (.extract k, [x])
  | .box _ x => some (.box, [x])
  | .alloc t => do
    let ti ← P.info? t
    let z ← ti.zero
    let a ← toZ z
    some (.alloc a, [])
  | .build t parts => do
    let ti ← P.info? t
    let z ← ti.zero
    let a ← toAs z.cells.toList
    let ps ← placesOf P t (parts.toList.map (·.1))
    some (.build a ps, parts.toList.map (·.2))
  | .buildSlice t len parts => do
    match ← P.underlying t with
    | .slice e => do
      let ti ← P.info? e
      let z ← ti.zero
      if (ti.size = 0 ∨ z.cells.size = ti.size) ∧ ti.size < 18446744073709551616 ∧ parts.toList.map (·.1) = List.range len then some (.buildSlice ti.size, parts.toList.map (·.2)) else none
    | _ => none
  | .nilCheck x => some (.nilchk, [x])
  | .slice t x lo hi mx => do
    if mx.isSome then none else
    match ← P.underlying t with
    | .string => some (.sliceStr lo.isSome hi.isSome, x :: bdOpds lo hi)
    | .slice e => do let ti ← P.info? e; if ti.size < 18446744073709551616 then some (.sliceSl ti.size lo.isSome hi.isSome, x :: bdOpds lo hi) else none
    | .array len e => do
      let ti ← P.info? e
      if ti.size = 1 ∧ lo.isSome = false ∧ hi.isSome = false then some (.sliceArr len 1, [x]) else none
    | _ => none
  | .range t x => do
    match ← P.underlying t with
    | .string => some (.range, [x])
    | _ => none
  | .next x true => some (.next, [x])
  | .makeSlice t x y => do
    match ← P.underlying t with
    | .slice e => do
      let ti ← P.info? e
      let zv ← ti.zero
      let z ← toZ zv
      if zv.cells.size = ti.size ∧ 0 < ti.size ∧ ti.size < 18446744073709551616 ∧ z.cells.length = ti.size then some (.make ti.size ti.bytes z, [x, y]) else none
    | _ => none
  | .makeFunc fn first captured => some (.mkfn fn first.size, first.toList ++ captured.toList)
  | .call { callee := .value (.func f), args, .. } => some (.call f, args.toList)
  | .call { callee := .value x, args, .. } => some (.callv, x :: args.toList)
  | .call { callee := .builtin b, args, argTypes } => do
    match b with
    | .len => do
      let t ← argTypes[0]?
      match ← P.underlying t with
      | .string => if args.size = 1 then some (.lenStr, args.toList) else none
      | .slice _ => if args.size = 1 then some (.lenSl, args.toList) else none
      | _ => none
    | .min => if args.size = 2 then some (.min, args.toList) else none
    | .max => if args.size = 2 then some (.max, args.toList) else none
    | .append => do
      let st ← argTypes[0]?
      let xt ← argTypes[1]?
      let xd ← P.underlying xt
      match ← P.underlying st with
      | .slice e => do
        let ti ← P.info? e
        let z ← ti.zero
        if args.size = 2 ∧ isRowD xd = true ∧ z.cells.size = ti.size ∧ 0 < ti.bytes ∧ ti.bytes ≤ 1048576 ∧ ti.size < 18446744073709551616 then some (.append ti.size ti.bytes, args.toList) else none
      | _ => none
    | _ => none
  | _ => none

def OpGoal (P : Program) (Γ : FuncId → Spec) (o : Oper) (iop : IOp) (os : List Operand) : Prop :=
  ∀ (vals : List AVal) (ρ : Rho) (a : Act) (w : World) (H : Heap) (n : Nat) (κ : Cont) (next : Act → World → Prop) (Q : Exit → Act → World → Prop),
    VRels ρ vals (os.map a.eval) → Sat ρ H w → Fresh ρ n → istep Γ iop vals H n κ →
    (∀ v' w' v ρ' H' n', κ v H' n' → VRel ρ' v v' → After ρ H w n ρ' H' w' n' → next (a.put o.dst v') w') → o.wp P a w next Q

theorem wp_value {o : Oper} {a : Act} {w : World} {next : Act → World → Prop} {Q : Exit → Act → World → Prop} {s : Sem Value} (he : execOp a.eval o = (do pure (.value (← s)) : Sem Next))
    {ρ : Rho} {H : Heap} {n : Nat} {κ : Cont} (h : Comes' P s ρ H w n κ) (hn : ∀ v' w' v ρ' H' n', κ v H' n' → VRel ρ' v v' → After ρ H w n ρ' H' w' n' → next (a.put o.dst v') w') : o.wp P a w next Q := by
  obtain ⟨v', w', hr, v, ρ', H', n', hk, hv, ha⟩ := h
  unfold Oper.wp
  rw [he, Sem.run_bind, hr]
  exact hn v' w' v ρ' H' n' hk hv ha

theorem wp_valueS {o : Oper} {a : Act} {w : World} {next : Act → World → Prop} {Q : Exit → Act → World → Prop} {s : Sem Value} (he : execOp a.eval o = (do pure (.value (← s)) : Sem Next))
    {ρ : Rho} {H : Heap} {n : Nat} {κ : AVal → Prop} (hs : Sat ρ H w) (hf : Fresh ρ n) (h : ∃ v', s.run P w = .ok v' w ∧ ∃ v, κ v ∧ VRel ρ v v')
    (hn : ∀ v' v, κ v → VRel ρ v v' → next (a.put o.dst v') w) : o.wp P a w next Q := by
  obtain ⟨v', hr, v, hk, hv⟩ := h
  unfold Oper.wp
  rw [he, Sem.run_bind, hr]
  exact hn v' v hk hv

end Go.AM
/- AM, part 12: the abstract machine's operations speak true. -/
set_option linter.unusedVariables false
namespace Go.AM
variable {P : Program}

theorem isNilP_ok {x : AVal} {p : Bool} (h : isNilP x = some p) {ρ : Rho} {v : Value} (hr : VRel ρ x v) : ∃ a : Option Addr, v = .pointer a ∧ a.isNone = p := by
  unfold isNilP at h
  split at h <;> simp only [Option.some.injEq, reduceCtorEq] at h <;> subst h <;> simp only [VRel] at hr
  · obtain ⟨_, _, _, _, _, rfl⟩ := hr; exact ⟨_, rfl, rfl⟩
  · exact ⟨_, hr, rfl⟩

theorem equalIn_bool {t : TypeId} (hu : P.underlying t = some .bool) (d : Nat) (p q : Bool) (w : World) : (Op.equalIn (d + 1) t (.bool p) (.bool q)).run P w = .ok (p == q) w := by
  simp [Op.equalIn, run_underlying' hu]
theorem equal_bool {t : TypeId} (hu : P.underlying t = some .bool) (p q : Bool) (w : World) : (Op.equal t (.bool p) (.bool q)).run P w = .ok (p == q) w := equalIn_bool hu 9999 p q w

theorem equalIn_ptr {t e : TypeId} (hu : P.underlying t = some (.pointer e)) (d : Nat) (a b : Option Addr) (h : (a.isNone || b.isNone) = true) (w : World) :
    (Op.equalIn (d + 1) t (.pointer a) (.pointer b)).run P w = .ok (a.isNone && b.isNone) w := by
  cases a <;> cases b <;> simp at h <;> simp [Op.equalIn, run_underlying' hu]
theorem equal_ptr {t e : TypeId} (hu : P.underlying t = some (.pointer e)) (a b : Option Addr) (h : (a.isNone || b.isNone) = true) (w : World) :
    (Op.equal t (.pointer a) (.pointer b)).run P w = .ok (a.isNone && b.isNone) w := equalIn_ptr hu 9999 a b h w

theorem equalIn_slnil {t e : TypeId} (hu : P.underlying t = some (.slice e)) (d : Nat) (a : Option Addr) (l c : Nat) (w : World) :
    (Op.equalIn (d + 1) t (.slice a l c) (.slice none 0 0)).run P w = .ok a.isNone w := by
  cases a <;> simp [Op.equalIn, run_underlying' hu]
theorem equal_slnil {t e : TypeId} (hu : P.underlying t = some (.slice e)) (a : Option Addr) (l c : Nat) {w : World} :
    (Op.equal t (.slice a l c) (.slice none 0 0)).run P w = .ok a.isNone w := equalIn_slnil hu 9999 a l c w

theorem toZ_cells {zv : Value} {z : AVal} {k : Nat} (h : toZ zv = some z) (h1 : zv.cells.size = k) (h2 : z.cells.length = k) (ρ : Rho) : VRels ρ z.cells zv.cells.toList := by
  have hr := toZ_ok h ρ
  unfold toZ at h
  split at h
  · rename_i cs
    simp only [Option.map_eq_some_iff] at h
    obtain ⟨xs, hx, rfl⟩ := h
    simpa [Value.cells] using toAs_ok hx ρ
  · rename_i v hv
    have hc : zv.cells = #[zv] := by
      cases zv <;> first | rfl | exact absurd rfl (hv _)
    have hz : z.cells = [z] := by
      unfold toA at h
      split at h <;> try simp only [Option.some.injEq, reduceCtorEq] at h
      case h_9 f x y =>
        split at h
        · simp only [Option.some.injEq] at h; subst h; rfl
        · exact absurd h (by simp)
      all_goals (subst h; rfl)
    rw [hc, hz]
    exact VRels.cons' hr VRels.nil'

theorem compOp_ok {Γ : FuncId → Spec} (hΓ : ∀ f, SpecOK P f (Γ f)) {o : Oper} {iop : IOp} {os : List Operand} (h : compOp P o = some (iop, os)) : OpGoal P Γ o iop os := by
  intro vals ρ a w H n κ next Q hv hs hf hi hn
  have hsame : ∀ v' v, κ v H n → VRel ρ v v' → next (a.put o.dst v') w := fun v' v hk hr => hn v' w v ρ H n hk hr (.refl hs hf)
  obtain ⟨dst, op, type, pos, after, guard⟩ := o
  cases op with
  | move x =>
    simp only [compOp, Option.some.injEq, Prod.mk.injEq] at h
    obtain ⟨rfl, rfl⟩ := h
    obtain ⟨v, rfl, hk⟩ := hi
    obtain ⟨x', hx', hr⟩ := rels1 hv
    simp only [List.map_cons, List.map_nil, List.cons.injEq, and_true] at hx'
    subst hx'
    exact hsame _ _ hk hr
  | assign x =>
    simp only [compOp, Option.some.injEq, Prod.mk.injEq] at h
    obtain ⟨rfl, rfl⟩ := h
    obtain ⟨v, rfl, hk⟩ := hi
    obtain ⟨x', hx', hr⟩ := rels1 hv
    simp only [List.map_cons, List.map_nil, List.cons.injEq, and_true] at hx'
    subst hx'
    exact hsame _ _ hk hr
  | pick c x y =>
    simp only [compOp, Option.some.injEq, Prod.mk.injEq] at h
    obtain ⟨rfl, rfl⟩ := h
    obtain ⟨p, ax, ay, rfl, hgx, hgy, hk⟩ := hi
    obtain ⟨c', x', y', hx', hrc, hrx, hry⟩ := rels3 hv
    simp only [List.map_cons, List.map_nil, List.cons.injEq, and_true] at hx'
    obtain ⟨rfl, rfl, rfl⟩ := hx'
    simp only [VRel] at hrc
    have hux : p = true → VRel ρ (unw ax) (a.eval x) := fun hp => by
      have := hgx hp
      cases ax <;> simp only [unw, gof] at this ⊢ <;> first | exact hrx | (simp only [VRel] at hrx; exact hrx.1 this)
    have huy : p = false → VRel ρ (unw ay) (a.eval y) := fun hp => by
      have := hgy hp
      cases ay <;> simp only [unw, gof] at this ⊢ <;> first | exact hry | (simp only [VRel] at hry; exact hry.1 this)
    have hres : ∃ v, κ v H n ∧ VRel ρ v (if p then a.eval x else a.eval y) := by
      unfold pickV at hk
      split at hk
      · rename_i b1 b2 e1 e2
        refine ⟨_, hk, ?_⟩
        cases p with
        | true => have := hux rfl; rw [e1] at this; simpa using this
        | false => have := huy rfl; rw [e2] at this; simpa using this
      · cases p with
        | true => exact ⟨_, hk.1 rfl, by simpa using hux rfl⟩
        | false => exact ⟨_, hk.2 rfl, by simpa using huy rfl⟩
    obtain ⟨v, hkv, hrv⟩ := hres
    unfold Oper.wp
    simp only [execOp, hrc, asBool, Sem.run_bind, Sem.run_pure, Result.andThen_ok]
    exact hsame _ _ hkv hrv
  | binOp op t x y ty =>
    simp only [compOp, Option.bind_eq_bind, Option.bind_eq_some_iff] at h
    obtain ⟨d, hu, h⟩ := h
    have hbin : (iop, os) = (.bin op, [x, y]) → (Oper.mk dst (.binOp op t x y ty) type pos after guard).wp P a w next Q := by
      intro e
      simp only [Prod.mk.injEq] at e
      obtain ⟨rfl, rfl⟩ := e
      exact wp_valueS rfl hs hf (bin_ok (P := P) op t hi (by simpa using hv) w) hsame
    have hbeq : ∀ neg : Bool, (op = if neg then .neq else .eql) → d = .bool → (iop, os) = (.beq neg, [x, y]) → (Oper.mk dst (.binOp op t x y ty) type pos after guard).wp P a w next Q := by
      intro neg ho hd e
      simp only [Prod.mk.injEq] at e
      obtain ⟨rfl, rfl⟩ := e
      subst hd
      obtain ⟨p, q, rfl, hk⟩ := hi
      obtain ⟨x', y', hx', hr, hry⟩ := rels2 hv
      simp only [List.map_cons, List.map_nil, List.cons.injEq, and_true] at hx'
      obtain ⟨rfl, rfl⟩ := hx'
      simp only [VRel] at hr hry
      refine wp_valueS (κ := fun v => κ v H n) rfl hs hf ⟨.bool (xor neg (p == q)), ?_, _, hk, by simp [VRel]⟩ hsame
      cases neg
      · simp only [Bool.false_eq_true, if_false] at ho
        subst ho
        simp [hr, hry, eqGuard, binOp, equal_bool hu]
      · simp only [if_true] at ho
        subst ho
        simp [hr, hry, eqGuard, binOp, equal_bool hu]
    have hpeq : ∀ (neg : Bool) (e' : TypeId), (op = if neg then .neq else .eql) → d = .pointer e' → (iop, os) = (.peq neg, [x, y]) → (Oper.mk dst (.binOp op t x y ty) type pos after guard).wp P a w next Q := by
      intro neg e' ho hd e
      simp only [Prod.mk.injEq] at e
      obtain ⟨rfl, rfl⟩ := e
      subst hd
      obtain ⟨ax, ay, p, q, rfl, hx, hy, hpq, hk⟩ := hi
      obtain ⟨x', y', hx', hr, hry⟩ := rels2 hv
      simp only [List.map_cons, List.map_nil, List.cons.injEq, and_true] at hx'
      obtain ⟨rfl, rfl⟩ := hx'
      obtain ⟨u, hu1, rfl⟩ := isNilP_ok hx hr
      obtain ⟨v, hv1, rfl⟩ := isNilP_ok hy hry
      refine wp_valueS (κ := fun v => κ v H n) rfl hs hf ⟨.bool (xor neg (u.isNone && v.isNone)), ?_, _, hk, by simp [VRel]⟩ hsame
      have heq := equal_ptr hu u v hpq
      cases neg
      · simp only [Bool.false_eq_true, if_false] at ho
        subst ho
        cases u <;> cases v <;> simp [hu1, hv1, eqGuard, binOp, heq] at hpq ⊢
      · simp only [if_true] at ho
        subst ho
        cases u <;> cases v <;> simp [hu1, hv1, eqGuard, binOp, heq] at hpq ⊢
    cases d with
    | int k => simp only [Option.some.injEq] at h; exact hbin h.symm
    | string => simp only [Option.some.injEq] at h; exact hbin h.symm
    | bool =>
      cases op <;> simp only [Option.some.injEq, reduceCtorEq] at h
      · exact hbeq false rfl rfl h.symm
      · exact hbeq true rfl rfl h.symm
    | pointer e' =>
      cases op <;> simp only [Option.some.injEq, reduceCtorEq] at h
      · exact hpeq false e' rfl rfl h.symm
      · exact hpeq true e' rfl rfl h.symm
    | slice e' =>
      have hsl : ∀ neg : Bool, op = (if neg then .neq else .eql) → (iop, os) = (.slnil neg, [x, y]) → (Oper.mk dst (.binOp op t x y ty) type pos after guard).wp P a w next Q := by
        intro neg ho e
        simp only [Prod.mk.injEq] at e
        obtain ⟨rfl, rfl⟩ := e
        obtain ⟨ax, p, rfl, hx, hk⟩ := hi
        obtain ⟨x', y', hx', hr, hry⟩ := rels2 hv
        simp only [List.map_cons, List.map_nil, List.cons.injEq, and_true] at hx'
        obtain ⟨rfl, rfl⟩ := hx'
        obtain ⟨u, l, cp, hu1, rfl⟩ := isNilS_ok hx hr
        simp only [VRel] at hry
        refine wp_valueS (κ := fun v => κ v H n) rfl hs hf ⟨.bool (xor neg u.isNone), ?_, _, hk, by simp [VRel]⟩ hsame
        have heq := equal_slnil (P := P) (w := w) hu u l cp
        cases neg
        · simp only [Bool.false_eq_true, if_false] at ho
          subst ho
          cases u <;> simp [hu1, hry, eqGuard, binOp, heq]
        · simp only [if_true] at ho
          subst ho
          cases u <;> simp [hu1, hry, eqGuard, binOp, heq]
      cases op <;> simp only [Option.some.injEq, reduceCtorEq] at h
      · exact hsl false rfl h.symm
      · exact hsl true rfl h.symm
    | _ => exact absurd h (by simp)
  | unOp op t x =>
    simp only [compOp] at h
    cases op <;> simp only [Option.some.injEq, Prod.mk.injEq, reduceCtorEq] at h
    · obtain ⟨rfl, rfl⟩ := h
      obtain ⟨k, b, rfl, hk⟩ := hi
      obtain ⟨x', hx', hr⟩ := rels1 hv
      simp only [List.map_cons, List.map_nil, List.cons.injEq, and_true] at hx'
      subst hx'
      simp only [VRel] at hr
      exact wp_valueS (κ := fun v => κ v H n) rfl hs hf ⟨.int k (k.wrap (0 - b)), by simp [hr, Op.unary, Op.intArith], _, hk, by simp [VRel]⟩ hsame
    · obtain ⟨rfl, rfl⟩ := h
      obtain ⟨b, rfl, hk⟩ := hi
      obtain ⟨x', hx', hr⟩ := rels1 hv
      simp only [List.map_cons, List.map_nil, List.cons.injEq, and_true] at hx'
      subst hx'
      simp only [VRel] at hr
      exact wp_valueS (κ := fun v => κ v H n) rfl hs hf ⟨.bool (!b), by simp [hr, Op.unary], _, hk, by simp [VRel]⟩ hsame
  | convert src dst' x =>
    simp only [compOp, Option.bind_eq_bind, Option.bind_eq_some_iff] at h
    obtain ⟨d1, h1, d2, h2, h⟩ := h
    have hint : ∀ k k', d1 = .int k → d2 = .int k' → (iop, os) = (.conv k', [x]) → (Oper.mk dst (.convert src dst' x) type pos after guard).wp P a w next Q := by
      intro k k' e1 e2 e
      simp only [Prod.mk.injEq] at e
      obtain ⟨rfl, rfl⟩ := e
      subst e1; subst e2
      obtain ⟨j, b, rfl, hk⟩ := hi
      obtain ⟨x', hx', hr⟩ := rels1 hv
      simp only [List.map_cons, List.map_nil, List.cons.injEq, and_true] at hx'
      subst hx'
      simp only [VRel] at hr
      exact wp_valueS (κ := fun v => κ v H n) rfl hs hf ⟨.int k' (k'.wrap b), by simp [hr, convert, run_underlying' h1, run_underlying' h2, Conv.intToInt], _, hk, by simp [VRel]⟩ hsame
    have hstr : ∀ e', d1 = .slice e' → d2 = .string → P.underlying e' = some (.int .u8) → (iop, os) = (.strOf, [x]) → (Oper.mk dst (.convert src dst' x) type pos after guard).wp P a w next Q := by
      intro e' e1 e2 e3 e
      simp only [Prod.mk.injEq] at e
      obtain ⟨rfl, rfl⟩ := e
      subst e1; subst e2
      exact wp_valueS (κ := fun v => κ v H n) rfl hs hf (strOf_ok (P := P) (w := w) h1 e3 h2 hi (by simpa using hv) hs) hsame
    have hbytes : ∀ e', d1 = .string → d2 = .slice e' → P.underlying e' = some (.int .u8) → (iop, os) = (.bytesOf, [x]) → (Oper.mk dst (.convert src dst' x) type pos after guard).wp P a w next Q := by
      intro e' e1 e2 e3 e
      simp only [Prod.mk.injEq] at e
      obtain ⟨rfl, rfl⟩ := e
      subst e1; subst e2
      exact wp_value (κ := κ) rfl (bytesOf_ok (P := P) (w := w) h1 h2 e3 hi (by simpa using hv) hs hf) hn
    have hseal : ∀ e' e'', d1 = .slice e' → d2 = .slice e'' → P.underlying e' = some (.int .u8) → src = dst' → (iop, os) = (.sealB, [x]) → (Oper.mk dst (.convert src dst' x) type pos after guard).wp P a w next Q := by
      intro e' e'' e1 e2 e3 e4 e
      simp only [Prod.mk.injEq] at e
      obtain ⟨rfl, rfl⟩ := e
      subst e1; subst e4
      exact wp_value (κ := κ) rfl (seal_ok (P := P) (w := w) h1 e3 hi (by simpa using hv) hs hf) hn
    cases d1 <;> cases d2 <;> simp only [Option.some.injEq, reduceCtorEq, Option.bind_eq_some_iff] at h
    · exact hint _ _ rfl rfl h.symm
    · obtain ⟨de, h3, h⟩ := h
      split at h
      · simp only [Option.some.injEq] at h; exact hbytes _ rfl rfl h3 h.symm
      · exact absurd h (by simp)
    · obtain ⟨de, h3, h⟩ := h
      split at h
      · simp only [Option.some.injEq] at h; exact hstr _ rfl rfl h3 h.symm
      · exact absurd h (by simp)
    · obtain ⟨de, h3, h⟩ := h
      split at h
      · split at h
        · rename_i hsd
          simp only [Option.some.injEq] at h; exact hseal _ _ rfl rfl h3 hsd h.symm
        · exact absurd h (by simp)
      · exact absurd h (by simp)
  | load t x =>
    simp only [compOp, Option.bind_eq_bind, Option.bind_eq_some_iff, Option.some.injEq, Prod.mk.injEq] at h
    obtain ⟨d, hu, ti, hti, rfl, rfl⟩ := h
    exact wp_valueS (κ := fun v => κ v H n) rfl hs hf (load_ok (P := P) hu hti hi (by simpa using hv) hs) hsame
  | store t x y =>
    simp only [compOp, Option.bind_eq_bind, Option.bind_eq_some_iff, Option.some.injEq, Prod.mk.injEq] at h
    obtain ⟨ti, hti, rfl, rfl⟩ := h
    have hi' : opStore ti.size vals H (fun H' => κ .junk H' n) := hi
    obtain ⟨w', hr, H', hk, ha⟩ := store_ok (P := P) (n := n) hti hi' (by simpa using hv) hs hf
    unfold Oper.wp
    simp only [execOp, Sem.run_bind, hr, Result.andThen_ok, Sem.run_pure]
    exact hn undef w' .junk ρ H' n hk (by simp [VRel]) ha
  | fieldAddr s x k =>
    simp only [compOp, Option.bind_eq_bind, Option.bind_eq_some_iff] at h
    obtain ⟨d, hu, h⟩ := h
    cases d with
    | struct fs =>
      simp only [Option.bind_eq_some_iff] at h
      obtain ⟨f, hfk, ti, hti, h⟩ := h
      split at h
      · exact absurd h (by simp)
      · rename_i hz
        simp only [Option.some.injEq, Prod.mk.injEq] at h
        obtain ⟨rfl, rfl⟩ := h
        exact wp_valueS (κ := fun v => κ v H n) rfl hs hf (fadr_ok (P := P) (w := w) hu hfk hti hz hi (by simpa using hv)) hsame
    | _ => exact absurd h (by simp)
  | field s x k =>
    simp only [compOp, Option.bind_eq_bind, Option.bind_eq_some_iff] at h
    obtain ⟨d, hu, h⟩ := h
    cases d with
    | struct fs =>
      simp only [Option.bind_eq_some_iff, Option.some.injEq, Prod.mk.injEq] at h
      obtain ⟨f, hfk, d', hd', ti, hti, rfl, rfl⟩ := h
      exact wp_valueS (κ := fun v => κ v H n) rfl hs hf (field_ok (P := P) (w := w) hu hfk hd' hti hi (by simpa using hv)) hsame
    | _ => exact absurd h (by simp)
  | indexAddr t x y =>
    simp only [compOp, Option.bind_eq_bind, Option.bind_eq_some_iff] at h
    obtain ⟨d, hu, h⟩ := h
    cases d with
    | slice e =>
      simp only [Option.bind_eq_some_iff] at h
      obtain ⟨ti, hti, h⟩ := h
      split at h
      · rename_i hlt
        simp only [Option.some.injEq, Prod.mk.injEq] at h
        obtain ⟨rfl, rfl⟩ := h
        exact wp_valueS (κ := fun v => κ v H n) rfl hs hf (iadrS_ok (P := P) (w := w) hu hti hlt hi (by simpa using hv) hs) hsame
      · exact absurd h (by simp)
    | array len e =>
      simp only [Option.bind_eq_some_iff, Option.some.injEq, Prod.mk.injEq] at h
      obtain ⟨ti, hti, rfl, rfl⟩ := h
      exact wp_valueS (κ := fun v => κ v H n) rfl hs hf (iadrA_ok (P := P) (w := w) hu hti hi (by simpa using hv)) hsame
    | _ => exact absurd h (by simp)
  | index t x y =>
    simp only [compOp, Option.bind_eq_bind, Option.bind_eq_some_iff] at h
    obtain ⟨d, hu, h⟩ := h
    cases d with
    | string =>
      simp only [Option.some.injEq, Prod.mk.injEq] at h
      obtain ⟨rfl, rfl⟩ := h
      exact wp_valueS (κ := fun v => κ v H n) rfl hs hf (idxS_ok (P := P) (w := w) hu hi (by simpa using hv)) hsame
    | array len e =>
      simp only [Option.bind_eq_some_iff, Option.some.injEq, Prod.mk.injEq] at h
      obtain ⟨d', hd', ti, hti, rfl, rfl⟩ := h
      exact wp_valueS (κ := fun v => κ v H n) rfl hs hf (idxA_ok (P := P) (w := w) hu hd' hti hi (by simpa using hv)) hsame
    | _ => exact absurd h (by simp)
  | extract x k =>
    simp only [compOp, Option.some.injEq, Prod.mk.injEq] at h
    obtain ⟨rfl, rfl⟩ := h
    exact wp_valueS (κ := fun v => κ v H n) rfl hs hf (extract_ok (P := P) (w := w) hi (by simpa using hv)) hsame
  | box t x =>
    simp only [compOp, Option.some.injEq, Prod.mk.injEq] at h
    obtain ⟨rfl, rfl⟩ := h
    exact wp_value (κ := κ) rfl (box_ok (P := P) (t := t) hi (by simpa using hv) hs hf) hn
  | alloc t =>
    simp only [compOp, Option.bind_eq_bind, Option.bind_eq_some_iff, Option.some.injEq, Prod.mk.injEq] at h
    obtain ⟨ti, hti, z, hz, ax, hax, rfl, rfl⟩ := h
    obtain ⟨rfl, hi⟩ := hi
    exact wp_value (κ := κ) rfl (alloc_ok (P := P) hti hz (toZ_ok hax ρ) hi hs hf) hn
  | build t parts =>
    simp only [compOp, Option.bind_eq_bind, Option.bind_eq_some_iff, Option.some.injEq, Prod.mk.injEq] at h
    obtain ⟨ti, hti, z, hz, ax, hax, ps, hps, rfl, rfl⟩ := h
    have hi' : opBuild ax ps vals (fun v => κ v H n) := hi
    refine wp_valueS (κ := fun v => κ v H n) rfl hs hf (build_ok (P := P) (w := w) hti hz hps (toAs_ok hax ρ) hi' hv _ ?_ (by simp)) hsame
    rw [Array.toList_map]
    induction parts.toList with
    | nil => rfl
    | cons p ps ih => simp only [List.map_cons, List.zip_cons_cons, ih]
  | buildSlice t len parts =>
    simp only [compOp, Option.bind_eq_bind, Option.bind_eq_some_iff] at h
    obtain ⟨d, hu, h⟩ := h
    cases d with
    | slice e =>
      simp only [Option.bind_eq_some_iff] at h
      obtain ⟨ti, hti, z, hz, h⟩ := h
      split at h
      · rename_i hc
        obtain ⟨hzs, hlt, hidx⟩ := hc
        simp only [Option.some.injEq, Prod.mk.injEq] at h
        obtain ⟨rfl, rfl⟩ := h
        have hlen : parts.toList.length = len := by have := congrArg List.length hidx; simpa using this
        have hlen2 : len = ((parts.toList.map (·.2)).map a.eval).length := by simp [← hlen]
        have := buildSlice_ok (P := P) (t := t) hu hti hz hlt hzs hi hv hs hf (parts.map fun (i, x) => (i, a.eval x)) (by
          rw [Array.toList_map, ← hlen2, ← hidx]
          induction parts.toList with
          | nil => rfl
          | cons p ps ih => simp only [List.map_cons, List.zip_cons_cons, ih])
        rw [← hlen2] at this
        exact wp_value (κ := κ) rfl this hn
      · exact absurd h (by simp)
    | _ => exact absurd h (by simp)
  | nilCheck x =>
    simp only [compOp, Option.some.injEq, Prod.mk.injEq] at h
    obtain ⟨rfl, rfl⟩ := h
    obtain ⟨v, rfl, hnil, hk⟩ := hi
    obtain ⟨x', hx', hr⟩ := rels1 hv
    simp only [List.map_cons, List.map_nil, List.cons.injEq, and_true] at hx'
    subst hx'
    unfold isNilV at hnil
    split at hnil <;> simp only [reduceCtorEq] at hnil
    · have hr' := hr
      simp only [VRel] at hr
      obtain ⟨_, _, _, _, _, he⟩ := hr
      unfold Oper.wp
      simp only [execOp, he, Sem.run_pure]
      rw [he] at hr'
      exact hsame _ _ hk hr'
    · have hr' := hr
      simp only [VRel] at hr
      obtain ⟨_, _, he, _⟩ := hr
      unfold Oper.wp
      simp only [execOp, he, Sem.run_pure]
      rw [he] at hr'
      exact hsame _ _ hk hr'
  | slice t x lo hi' mx =>
    simp only [compOp] at h
    split at h
    · exact absurd h (by simp)
    · rename_i hmx
      have hmx' : mx = none := by cases mx <;> simp at hmx ⊢
      subst hmx'
      simp only [Option.bind_eq_bind, Option.bind_eq_some_iff] at h
      obtain ⟨d, hu, h⟩ := h
      cases d with
      | string =>
        simp only [Option.some.injEq, Prod.mk.injEq] at h
        obtain ⟨rfl, rfl⟩ := h
        exact wp_valueS (κ := fun v => κ v H n) rfl hs hf (sliceStr_ok (P := P) (w := w) hu (bdRel lo hi' a.eval) hi (by simpa using hv)) hsame
      | slice e =>
        simp only [Option.bind_eq_some_iff] at h
        obtain ⟨ti, hti, h⟩ := h
        split at h
        · rename_i hlt
          simp only [Option.some.injEq, Prod.mk.injEq] at h
          obtain ⟨rfl, rfl⟩ := h
          refine wp_valueS (κ := fun v => κ v H n) rfl hs hf (sliceSl_ok (P := P) (H := H) (w := w) hu hti (bdRel lo hi' a.eval) (fun nm blk base cap sz off len rest e1 e2 => ?_) hi.2 (by simpa using hv)) hsame
          obtain ⟨o, ho, hosz⟩ := hi.1 _ _ _ _ e1
          have := (hs.at ho e2 (.inr (by omega))).1
          omega
        · exact absurd h (by simp)
      | array len e =>
        simp only [Option.bind_eq_some_iff] at h
        obtain ⟨ti, hti, h⟩ := h
        split at h
        · rename_i hc
          obtain ⟨hsz, hlo, hhi⟩ := hc
          have hlo' : lo = none := by cases lo <;> simp at hlo ⊢
          have hhi' : hi' = none := by cases hi' <;> simp at hhi ⊢
          subst hlo'; subst hhi'
          simp only [Option.some.injEq, Prod.mk.injEq] at h
          obtain ⟨rfl, rfl⟩ := h
          exact wp_value (κ := κ) rfl (sliceArr_ok (P := P) (w := w) hu hti hsz hi (by simpa using hv) hs hf) hn
        · exact absurd h (by simp)
      | _ => exact absurd h (by simp)
  | range t x =>
    simp only [compOp, Option.bind_eq_bind, Option.bind_eq_some_iff] at h
    obtain ⟨d, hu, h⟩ := h
    cases d with
    | string =>
      simp only [Option.some.injEq, Prod.mk.injEq] at h
      obtain ⟨rfl, rfl⟩ := h
      exact wp_value (κ := κ) rfl (range_ok (P := P) (w := w) hu hi (by simpa using hv) hs hf) hn
    | _ => exact absurd h (by simp)
  | next x b =>
    cases b with
    | true =>
      simp only [compOp, Option.some.injEq, Prod.mk.injEq] at h
      obtain ⟨rfl, rfl⟩ := h
      exact wp_value (κ := κ) rfl (next_ok (P := P) (w := w) hi (by simpa using hv) hs hf) hn
    | false => exact absurd h (by simp [compOp])
  | makeSlice t x y =>
    simp only [compOp, Option.bind_eq_bind, Option.bind_eq_some_iff] at h
    obtain ⟨d, hu, h⟩ := h
    cases d with
    | slice e =>
      simp only [Option.bind_eq_some_iff] at h
      obtain ⟨ti, hti, zv, hz, z, hzz, h⟩ := h
      split at h
      · rename_i hc
        obtain ⟨hzs, hpos, hlt, hzl⟩ := hc
        simp only [Option.some.injEq, Prod.mk.injEq] at h
        obtain ⟨rfl, rfl⟩ := h
        exact wp_value (κ := κ) rfl (make_ok (P := P) (w := w) hu hti hz hzs hpos hlt (fun ρ => toZ_cells hzz hzs hzl ρ) hi (by simpa using hv) hs hf) hn
      · exact absurd h (by simp)
    | _ => exact absurd h (by simp)
  | makeFunc fn first captured =>
    simp only [compOp, Option.some.injEq, Prod.mk.injEq] at h
    obtain ⟨rfl, rfl⟩ := h
    have hl : (List.map a.eval first.toList).length = first.size := by simp
    refine wp_valueS (κ := fun v => κ v H n) rfl hs hf ⟨.func fn (first.map a.eval) (captured.map a.eval), by simp [Instr.makeFunc], _, hi, ?_⟩ hsame
    simp only [VRel]
    refine ⟨_, _, rfl, ?_, ?_⟩
    · have := hv.take first.size
      simpa [List.map_append, List.take_append_of_le_length] using this
    · have := hv.drop first.size
      rw [List.map_append, List.drop_left' hl] at this
      simpa using this
  | call c =>
    obtain ⟨callee, args, argTypes⟩ := c
    -- a call of a function, known by its number
    have hgo : ∀ (f : FuncId) (avals : List AVal) (cargs : Array Value), VRels ρ avals cargs.toList → Γ f avals H n κ →
        (execOp a.eval ⟨dst, .call ⟨callee, args, argTypes⟩, type, pos, after, guard⟩).run P w = (callFunc f cargs).run P w → (Oper.mk dst (.call ⟨callee, args, argTypes⟩) type pos after guard).wp P a w next Q := by
      intro f avals cargs hav hG hex
      unfold Oper.wp
      rw [hex]
      refine (hΓ f avals H n κ hG ρ w cargs hav hs hf).upon ?_
      rintro v' w' ⟨v, ρ', H', n', hk, hr, ha⟩
      exact hn v' w' v ρ' H' n' hk hr ha
    have hdyn : ∀ x, callee = .value x → (iop, os) = (.callv, x :: args.toList) → (Oper.mk dst (.call ⟨callee, args, argTypes⟩) type pos after guard).wp P a w next Q := by
      intro x hc e
      simp only [Prod.mk.injEq] at e
      obtain ⟨rfl, rfl⟩ := e
      obtain ⟨g, first, cap, rest, rfl, hG⟩ := hi
      simp only [List.map_cons, VRels] at hv
      obtain ⟨v0, vs', hve, hr0, hrs⟩ := hv
      simp only [List.cons.injEq] at hve
      obtain ⟨rfl, rfl⟩ := hve
      simp only [VRel] at hr0
      obtain ⟨xs, ys, hx0, hxs, hys⟩ := hr0
      refine hgo g _ (xs ++ args.map a.eval ++ ys) ?_ hG ?_
      · have := (hxs.append hrs).append hys
        simpa using this
      · subst hc
        simp [execOp, resolve, Deferred.ofValue, hx0, invoke]
    cases callee with
    | value x =>
      cases x with
      | func f =>
        simp only [compOp, Option.some.injEq, Prod.mk.injEq] at h
        obtain ⟨rfl, rfl⟩ := h
        refine hgo f vals (args.map a.eval) (by simpa using hv) hi ?_
        simp [execOp, resolve, Deferred.ofValue, invoke, Act.eval]
      | tmp t => simp only [compOp, Option.some.injEq] at h; exact hdyn _ rfl h.symm
      | const c => simp only [compOp, Option.some.injEq] at h; exact hdyn _ rfl h.symm
      | global g => simp only [compOp, Option.some.injEq] at h; exact hdyn _ rfl h.symm
    | invoke r m => exact absurd h (by simp [compOp])
    | builtin b =>
      have hexec : ∀ cargs, args.map a.eval = cargs → execOp a.eval ⟨dst, .call ⟨.builtin b, args, argTypes⟩, type, pos, after, guard⟩ = builtin b argTypes type (args.map fun | .const _ => true | _ => false) cargs := by
        intro cargs e
        subst e
        simp [execOp, resolve, invoke]
        rfl
      have hone : args.size = 1 → ∃ x, args = #[x] := fun e => by
        obtain ⟨l⟩ := args
        match l, e with
        | [x], _ => exact ⟨x, rfl⟩
      have htwo : args.size = 2 → ∃ x y, args = #[x, y] := fun e => by
        obtain ⟨l⟩ := args
        match l, e with
        | [x, y], _ => exact ⟨x, y, rfl⟩
      cases b with
      | len =>
        simp only [compOp, Option.bind_eq_bind, Option.bind_eq_some_iff] at h
        obtain ⟨t, ht, d, hu, h⟩ := h
        cases d with
        | string =>
          simp only at h
          split at h
          · rename_i hsz
            simp only [Option.some.injEq, Prod.mk.injEq] at h
            obtain ⟨rfl, rfl⟩ := h
            obtain ⟨x, rfl⟩ := hone hsz
            obtain ⟨l, rfl, hk⟩ := hi
            exact wp_valueS (κ := fun v => κ v H n) (hexec #[a.eval x] (by simp)) hs hf (len_ok (P := P) (w := w) hu rfl ht (fun _ => ⟨l, rfl⟩) (fun e he => by simp at he) (.inl ⟨l, rfl, hk⟩) (by simpa using hv)) hsame
          · exact absurd h (by simp)
        | slice e =>
          simp only at h
          split at h
          · rename_i hsz
            simp only [Option.some.injEq, Prod.mk.injEq] at h
            obtain ⟨rfl, rfl⟩ := h
            obtain ⟨x, rfl⟩ := hone hsz
            refine wp_valueS (κ := fun v => κ v H n) (hexec #[a.eval x] (by simp)) hs hf (len_ok (P := P) (w := w) hu rfl ht (fun he => by simp at he) (fun e he => ?_) ?_ (by simpa using hv)) hsame
            · rcases hi with ⟨_, _, _, rfl, _⟩ | ⟨rfl, _⟩ <;> simp
            · rcases hi with ⟨aa, off, len, rfl, hk⟩ | ⟨rfl, hk⟩
              · exact .inr (.inl ⟨aa, off, len, rfl, hk⟩)
              · exact .inr (.inr ⟨0, 0, rfl, hk⟩)
          · exact absurd h (by simp)
        | _ => exact absurd h (by simp)
      | min =>
        simp only [compOp] at h
        split at h
        · rename_i hsz
          simp only [Option.some.injEq, Prod.mk.injEq] at h
          obtain ⟨rfl, rfl⟩ := h
          obtain ⟨x, y, rfl⟩ := htwo hsz
          exact wp_valueS (κ := fun v => κ v H n) (hexec #[a.eval x, a.eval y] (by simp)) hs hf (min_ok (P := P) (w := w) hi (by simpa using hv)) hsame
        · exact absurd h (by simp)
      | max =>
        simp only [compOp] at h
        split at h
        · rename_i hsz
          simp only [Option.some.injEq, Prod.mk.injEq] at h
          obtain ⟨rfl, rfl⟩ := h
          obtain ⟨x, y, rfl⟩ := htwo hsz
          exact wp_valueS (κ := fun v => κ v H n) (hexec #[a.eval x, a.eval y] (by simp)) hs hf (max_ok (P := P) (w := w) hi (by simpa using hv)) hsame
        · exact absurd h (by simp)
      | append =>
        simp only [compOp, Option.bind_eq_bind, Option.bind_eq_some_iff] at h
        obtain ⟨st, h1, xt, h2, xd, h3, d, h4, h⟩ := h
        cases d with
        | slice e =>
          simp only [Option.bind_eq_some_iff] at h
          obtain ⟨ti, hti, z, hz, h⟩ := h
          split at h
          · rename_i hc
            obtain ⟨hsz, hxd, hzs, hb0, hb1, hlt⟩ := hc
            simp only [Option.some.injEq, Prod.mk.injEq] at h
            obtain ⟨rfl, rfl⟩ := h
            obtain ⟨x, y, rfl⟩ := htwo hsz
            exact wp_value (κ := κ) (hexec #[a.eval x, a.eval y] (by simp)) (append_ok (P := P) h1 h2 h4 h3 hxd hti hz hzs hb0 hb1 hlt hi (by simpa using hv) hs hf) hn
          · exact absurd h (by simp)
        | _ => exact absurd h (by simp)
      | _ => exact absurd h (by simp [compOp])
  | _ => exact absurd h (by simp [compOp])

end Go.AM
