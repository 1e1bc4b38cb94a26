/- AM, part 1: abstract values, abstract memory, what they stand for in the machine's world. -/
import Derived.Orders
import Derived.Laws.Cells
import Derived.Laws.Entries
import Derived.Laws.Strings
import Derived.Laws.IdiomStrings
set_option linter.all false
set_option linter.unusedVariables false
namespace Go.AM

inductive AVal where
  | i (k : IntKind) (n : Int)
  | b (p : Bool)
  | s (l : List UInt8)
  | c (v : Value)
  | ptr (a i j : Nat)
  | sl (a off len : Nat)
  | agg (cs : List AVal)
  | tup (vs : List AVal)
  | fn (f : Fn) (first cap : List AVal)
  | ifc (t : TypeId) (v : AVal)
  | when (g : Bool) (v : AVal)
  | junk
  deriving Inhabited

/-- Where the rows of a name lie. -/
inductive Info where
  | at (blk base cap sz : Nat)
  | nil

abbrev Rho := Nat → Option Info

mutual
def VRel (ρ : Rho) : AVal → Value → Prop
  | .i k n, v => v = .int k n
  | .b p, v => v = .bool p
  | .s l, v => v = .string ⟨l.toArray⟩
  | .c x, v => v = x
  | .ptr a i j, v => ∃ blk base cap sz, ρ a = some (.at blk base cap sz) ∧ v = .pointer (some ⟨blk, base + i * sz + j, none⟩)
  | .sl a off len, v => (ρ a = some .nil ∧ len = 0 ∧ v = .slice none 0 0) ∨
      ∃ blk base cap sz ad cp, ρ a = some (.at blk base cap sz) ∧ v = .slice (some ad) len cp ∧ len ≤ cp ∧
        (cp = 0 ∨ (ad = ⟨blk, base + off * sz, none⟩ ∧ off + cp ≤ cap))
  | .agg cs, v => ∃ vs, v = .agg vs ∧ VRels ρ cs vs.toList
  | .tup cs, v => ∃ vs, v = .tuple vs ∧ VRels ρ cs vs.toList
  | .fn f x y, v => ∃ xs ys, v = .func f xs ys ∧ VRels ρ x xs.toList ∧ VRels ρ y ys.toList
  | .ifc t x, v => ∃ y, v = .iface t y ∧ VRel ρ x y
  | .when g x, v => (g = true → VRel ρ x v) ∧ (g = false → v = undef)
  | .junk, _ => True
def VRels (ρ : Rho) : List AVal → List Value → Prop
  | [], vs => vs = []
  | x :: xs, vs => ∃ v vs', vs = v :: vs' ∧ VRel ρ x v ∧ VRels ρ xs vs'
end

def Rho.le (ρ ρ' : Rho) : Prop := ∀ a x, ρ a = some x → ρ' a = some x
theorem Rho.le.refl (ρ : Rho) : Rho.le ρ ρ := fun _ _ h => h
theorem Rho.le.trans {a b c : Rho} (h : Rho.le a b) (k : Rho.le b c) : Rho.le a c := fun x y e => k x y (h x y e)

mutual
theorem VRel.mono {ρ ρ' : Rho} (h : Rho.le ρ ρ') : ∀ (x : AVal) (v : Value), VRel ρ x v → VRel ρ' x v
  | .i _ _, _, e | .b _, _, e | .s _, _, e | .c _, _, e => by simpa [VRel] using e
  | .ptr a i j, v, e => by
    simp only [VRel] at e ⊢
    obtain ⟨blk, base, cap, sz, e1, e2⟩ := e
    exact ⟨blk, base, cap, sz, h _ _ e1, e2⟩
  | .sl a off len, v, e => by
    simp only [VRel] at e ⊢
    rcases e with ⟨e1, e2⟩ | ⟨blk, base, cap, sz, ad, cp, e1, e2⟩
    · exact .inl ⟨h _ _ e1, e2⟩
    · exact .inr ⟨blk, base, cap, sz, ad, cp, h _ _ e1, e2⟩
  | .agg cs, v, e => by
    simp only [VRel] at e ⊢
    obtain ⟨vs, e1, e2⟩ := e
    exact ⟨vs, e1, VRels.mono h cs _ e2⟩
  | .tup cs, v, e => by
    simp only [VRel] at e ⊢
    obtain ⟨vs, e1, e2⟩ := e
    exact ⟨vs, e1, VRels.mono h cs _ e2⟩
  | .fn f x y, v, e => by
    simp only [VRel] at e ⊢
    obtain ⟨xs, ys, e1, e2, e3⟩ := e
    exact ⟨xs, ys, e1, VRels.mono h x _ e2, VRels.mono h y _ e3⟩
  | .ifc t x, v, e => by
    simp only [VRel] at e ⊢
    obtain ⟨y, e1, e2⟩ := e
    exact ⟨y, e1, VRel.mono h x _ e2⟩
  | .when g x, v, e => by
    simp only [VRel] at e ⊢
    exact ⟨fun hg => VRel.mono h x _ (e.1 hg), e.2⟩
  | .junk, _, _ => by simp [VRel]
theorem VRels.mono {ρ ρ' : Rho} (h : Rho.le ρ ρ') : ∀ (x : List AVal) (v : List Value), VRels ρ x v → VRels ρ' x v
  | [], _, e => by simpa [VRels] using e
  | x :: xs, vs, e => by
    simp only [VRels] at e ⊢
    obtain ⟨v, vs', e1, e2, e3⟩ := e
    exact ⟨v, vs', e1, VRel.mono h x _ e2, VRels.mono h xs _ e3⟩
end

theorem VRels.length {ρ : Rho} : ∀ {x : List AVal} {v : List Value}, VRels ρ x v → x.length = v.length
  | [], v, h => by simp [VRels] at h; simp [h]
  | x :: xs, v, h => by
    simp only [VRels] at h
    obtain ⟨u, us, rfl, _, h2⟩ := h
    simp [VRels.length h2]

theorem VRels.get {ρ : Rho} : ∀ {x : List AVal} {v : List Value}, VRels ρ x v → ∀ {j : Nat} {y : AVal}, x[j]? = some y → ∃ u, v[j]? = some u ∧ VRel ρ y u
  | [], v, h, j, y, e => by simp at e
  | x :: xs, v, h, j, y, e => by
    simp only [VRels] at h
    obtain ⟨u, us, rfl, h1, h2⟩ := h
    cases j with
    | zero => simp at e; subst e; exact ⟨u, by simp, h1⟩
    | succ j => simp at e; obtain ⟨z, hz, hr⟩ := VRels.get h2 e; exact ⟨z, by simpa using hz, hr⟩

theorem VRels.mk {ρ : Rho} : ∀ {x : List AVal} {v : List Value}, x.length = v.length → (∀ (j : Nat) (y : AVal) (u : Value), x[j]? = some y → v[j]? = some u → VRel ρ y u) → VRels ρ x v
  | [], [], _, _ => by simp [VRels]
  | x :: xs, u :: us, hl, h => by
    simp only [VRels]
    refine ⟨u, us, rfl, h 0 x u (by simp) (by simp), VRels.mk (by simpa using hl) (fun j y w e1 e2 => h (j + 1) y w (by simpa using e1) (by simpa using e2))⟩

theorem VRels.append {ρ : Rho} : ∀ {x y : List AVal} {v u : List Value}, VRels ρ x v → VRels ρ y u → VRels ρ (x ++ y) (v ++ u)
  | [], y, v, u, h, k => by simp [VRels] at h; subst h; simpa using k
  | x :: xs, y, v, u, h, k => by
    simp only [VRels] at h
    obtain ⟨z, zs, rfl, h1, h2⟩ := h
    simp only [List.cons_append, VRels]
    exact ⟨z, zs ++ u, rfl, h1, VRels.append h2 k⟩

theorem VRels.take {ρ : Rho} : ∀ {x : List AVal} {v : List Value} (n : Nat), VRels ρ x v → VRels ρ (x.take n) (v.take n)
  | _, _, 0, _ => by simp [VRels]
  | [], v, n + 1, h => by simp [VRels] at h; subst h; simp [VRels]
  | x :: xs, v, n + 1, h => by
    simp only [VRels] at h
    obtain ⟨z, zs, rfl, h1, h2⟩ := h
    simp only [List.take_succ_cons, VRels]
    exact ⟨z, zs.take n, rfl, h1, VRels.take n h2⟩

theorem VRels.drop {ρ : Rho} : ∀ {x : List AVal} {v : List Value} (n : Nat), VRels ρ x v → VRels ρ (x.drop n) (v.drop n)
  | _, _, 0, h => by simpa using h
  | [], v, n + 1, h => by simp [VRels] at h; subst h; simp [VRels]
  | x :: xs, v, n + 1, h => by
    simp only [VRels] at h
    obtain ⟨z, zs, rfl, h1, h2⟩ := h
    simpa using VRels.drop n h2

theorem VRels.nil' {ρ : Rho} : VRels ρ [] [] := by simp [VRels]
theorem VRels.cons' {ρ : Rho} {x : AVal} {v : Value} {xs : List AVal} {vs : List Value} (h : VRel ρ x v) (k : VRels ρ xs vs) : VRels ρ (x :: xs) (v :: vs) := by
  simp only [VRels]; exact ⟨v, vs, rfl, h, k⟩

/-- The cells of a value. -/
def AVal.cells : AVal → List AVal
  | .agg cs => cs
  | v => [v]
@[simp] theorem cells_agg (cs : List AVal) : (AVal.agg cs).cells = cs := rfl
@[simp] theorem cells_i (k : IntKind) (n : Int) : (AVal.i k n).cells = [.i k n] := rfl
@[simp] theorem cells_b (p : Bool) : (AVal.b p).cells = [.b p] := rfl
@[simp] theorem cells_s (l : List UInt8) : (AVal.s l).cells = [.s l] := rfl
@[simp] theorem cells_c (v : Value) : (AVal.c v).cells = [.c v] := rfl
@[simp] theorem cells_ptr (a i j : Nat) : (AVal.ptr a i j).cells = [.ptr a i j] := rfl
@[simp] theorem cells_sl (a i j : Nat) : (AVal.sl a i j).cells = [.sl a i j] := rfl
@[simp] theorem cells_fn (f : Fn) (x y : List AVal) : (AVal.fn f x y).cells = [.fn f x y] := rfl
@[simp] theorem cells_ifc (t : TypeId) (x : AVal) : (AVal.ifc t x).cells = [.ifc t x] := rfl

/-- A value of one cell, known. -/
def AVal.one : AVal → Bool
  | .i .. | .b _ | .s _ | .ptr .. | .sl .. | .fn .. | .ifc .. => true
  | .c v => v.oneCell'
  | _ => false
@[simp] theorem one_i (k : IntKind) (n : Int) : (AVal.i k n).one = true := rfl
@[simp] theorem one_b (p : Bool) : (AVal.b p).one = true := rfl
@[simp] theorem one_s (l : List UInt8) : (AVal.s l).one = true := rfl
@[simp] theorem one_ptr (a i j : Nat) : (AVal.ptr a i j).one = true := rfl
@[simp] theorem one_sl (a i j : Nat) : (AVal.sl a i j).one = true := rfl
@[simp] theorem one_fn (f : Fn) (x y : List AVal) : (AVal.fn f x y).one = true := rfl
@[simp] theorem one_ifc (t : TypeId) (x : AVal) : (AVal.ifc t x).one = true := rfl
@[simp] theorem one_c (v : Value) : (AVal.c v).one = v.oneCell' := rfl

theorem VRel.one {ρ : Rho} {x : AVal} {v : Value} (h : VRel ρ x v) (k : x.one = true) : v.oneCell' = true ∧ v.cells = #[v] := by
  cases x with
  | i _ _ => simp only [VRel] at h; subst h; exact ⟨rfl, rfl⟩
  | b _ => simp only [VRel] at h; subst h; exact ⟨rfl, rfl⟩
  | s _ => simp only [VRel] at h; subst h; exact ⟨rfl, rfl⟩
  | c _ =>
    simp only [AVal.one] at k
    simp only [VRel] at h; subst h
    refine ⟨k, ?_⟩
    cases v <;> first | rfl | simp [Value.oneCell'] at k
  | ptr _ _ _ => simp only [VRel] at h; obtain ⟨_, _, _, _, _, rfl⟩ := h; exact ⟨rfl, rfl⟩
  | sl _ _ _ =>
    simp only [VRel] at h
    rcases h with ⟨_, _, h⟩ | ⟨_, _, _, _, _, _, _, h, _⟩
    · subst h; exact ⟨rfl, rfl⟩
    · subst h; exact ⟨rfl, rfl⟩
  | fn _ _ _ => simp only [VRel] at h; obtain ⟨_, _, rfl, _, _⟩ := h; exact ⟨rfl, rfl⟩
  | ifc _ _ => simp only [VRel] at h; obtain ⟨_, rfl, _⟩ := h; exact ⟨rfl, rfl⟩
  | agg _ => exact absurd k (by simp [AVal.one])
  | tup _ => exact absurd k (by simp [AVal.one])
  | when _ _ => exact absurd k (by simp [AVal.one])
  | junk => exact absurd k (by simp [AVal.one])

/-- A value that may be stored: its cells are known one by one. -/
def AVal.solid (v : AVal) : Bool := v.cells.all AVal.one

theorem VRel.cells {ρ : Rho} {x : AVal} {v : Value} (h : VRel ρ x v) (k : x.solid = true) :
    VRels ρ x.cells v.cells.toList ∧ ∀ u ∈ v.cells.toList, u.oneCell' = true := by
  cases x with
  | agg cs =>
    simp only [VRel] at h
    obtain ⟨vs, rfl, h2⟩ := h
    refine ⟨by simpa [Value.cells] using h2, fun u hu => ?_⟩
    simp only [Value.cells] at hu
    obtain ⟨j, hj⟩ := List.mem_iff_getElem?.1 hu
    have hlt : j < cs.length := by
      have := h2.length
      have h3 : j < vs.toList.length := by
        rcases Nat.lt_or_ge j vs.toList.length with q | q
        · exact q
        · rw [List.getElem?_eq_none q] at hj; exact absurd hj (by simp)
      omega
    obtain ⟨u', e1, e2⟩ := h2.get (j := j) (y := cs[j]) (by simp [hlt])
    rw [hj] at e1
    simp only [Option.some.injEq] at e1
    subst e1
    refine (e2.one ?_).1
    have hall : ∀ y ∈ cs, y.one = true := by simpa [AVal.solid, AVal.cells, List.all_eq_true] using k
    exact hall _ (List.getElem_mem hlt)
  | tup vs => simp [AVal.solid, AVal.cells, AVal.one] at k
  | junk => simp [AVal.solid, AVal.cells, AVal.one] at k
  | when g x => simp [AVal.solid, AVal.cells, AVal.one] at k
  | _ =>
    have hk := k
    simp only [AVal.solid, AVal.cells, List.all_cons, List.all_nil, Bool.and_true] at hk
    obtain ⟨h1, h2⟩ := h.one hk
    refine ⟨?_, by rw [h2]; simpa using h1⟩
    rw [h2]
    exact VRels.cons' h VRels.nil'

structure AObj where
  ro : Bool
  sz : Nat
  es : List AVal

abbrev Heap := Nat → Option AObj
abbrev Env := Nat → AVal

/-- No cell of the row is kept from writing. -/
def free (fz : Nat × Nat) (n : Nat) : Prop := fz.1 = fz.2 ∨ n ≤ fz.1

def encL : List UInt8 → Nat
  | [] => 0
  | c :: l => encL l * 257 + (c.toNat + 1)
theorem encL_inj : ∀ {l m : List UInt8}, encL l = encL m → l = m
  | [], [], _ => rfl
  | [], c :: m, h => by simp only [encL] at h; omega
  | c :: l, [], h => by simp only [encL] at h; omega
  | c :: l, d :: m, h => by
    simp only [encL] at h
    have h1 := c.toNat_lt
    have h2 := d.toNat_lt
    have h3 : c.toNat = d.toNat := by omega
    have h4 : encL l = encL m := by omega
    rw [encL_inj h4, UInt8.toNat_inj.1 h3]

/-- How far a string has been gone through, as a number that is no element's size. -/
def itc (l : List UInt8) (k : Nat) : Nat := 18446744073709551616 + ((encL l + k) * (encL l + k) + k)
theorem itc_inj {l m : List UInt8} {k j : Nat} (h : itc l k = itc m j) : l = m ∧ k = j := by
  unfold itc at h
  generalize ha : encL l = a at h
  generalize hb : encL m = b at h
  have key : ∀ s t x y : Nat, x ≤ s → y ≤ t → s * s + x = t * t + y → s = t := by
    intro s t x y hx hy e
    rcases Nat.lt_trichotomy s t with q | q | q
    · have : (s + 1) * (s + 1) ≤ t * t := Nat.mul_le_mul q q
      have : (s + 1) * (s + 1) = s * s + 2 * s + 1 := by rw [Nat.add_mul, Nat.mul_add]; omega
      omega
    · exact q
    · have : (t + 1) * (t + 1) ≤ s * s := Nat.mul_le_mul q q
      have : (t + 1) * (t + 1) = t * t + 2 * t + 1 := by rw [Nat.add_mul, Nat.mul_add]; omega
      omega
  have h1 := key (a + k) (b + j) k j (by omega) (by omega) (by omega)
  rw [h1] at h
  have hk : k = j := by omega
  refine ⟨encL_inj ?_, hk⟩
  omega

/-- A string that is being gone through. -/
def IterAt (w : World) (blk base cap sz : Nat) (o : AObj) : Prop := o.es = [] ∧ base = 0 ∧ cap = 0 ∧ sz = 0 ∧ ∃ l k, o.sz = itc l k ∧ w.heap[blk]? = some (.stringIter ⟨l.toArray⟩ k)

def ObjAt (ρ : Rho) (w : World) : Info → AObj → Prop
  | .nil, o => o.es = []
  | .at blk base cap sz, o => IterAt w blk base cap sz o ∨ (o.es ≠ [] ∨ sz < 18446744073709551616) ∧ o.sz = sz ∧ ∃ cc elem fz, w.heap[blk]? = some (.cells cc elem fz) ∧ (o.ro = false → free fz cc.size) ∧
      base + cap * sz ≤ cc.size ∧ o.es.length ≤ cap ∧
      ∀ i e, o.es[i]? = some e → e.cells.length = sz ∧ ∀ j y, e.cells[j]? = some y → ∃ u, cc[base + i * sz + j]? = some u ∧ VRel ρ y u

structure Sat (ρ : Rho) (H : Heap) (w : World) : Prop where
  obj : ∀ a o, H a = some o → ∃ x, ρ a = some x ∧ ObjAt ρ w x o
  apart : ∀ a c oa oc x y p1 p2 p3 q1 q2 q3, a ≠ c → H a = some oa → H c = some oc → (oa.ro = false ∨ oc.ro = false) →
    ρ a = some (.at x p1 p2 p3) → ρ c = some (.at y q1 q2 q3) → x ≠ y

def Fresh (ρ : Rho) (n : Nat) : Prop := ∀ m, n ≤ m → ρ m = none

/-- A block that a name may write. -/
def Owns (ρ : Rho) (H : Heap) (blk : Nat) : Prop := ∃ a o p1 p2 p3, H a = some o ∧ o.ro = false ∧ ρ a = some (.at blk p1 p2 p3)

structure Frame (ρ : Rho) (H : Heap) (w : World) (ρ' : Rho) (H' : Heap) (w' : World) : Prop where
  le : Rho.le ρ ρ'
  os : w'.os = w.os
  tape : w'.tape = w.tape
  output : w'.output = w.output
  size : w.heap.size ≤ w'.heap.size
  block : ∀ k, k < w.heap.size → ¬ Owns ρ H k → w'.heap[k]? = w.heap[k]?
  owns : ∀ k, Owns ρ' H' k → Owns ρ H k ∨ w.heap.size ≤ k

theorem Frame.refl (ρ : Rho) (H : Heap) (w : World) : Frame ρ H w ρ H w :=
  ⟨.refl _, rfl, rfl, rfl, Nat.le_refl _, fun _ _ _ => rfl, fun _ h => .inl h⟩
theorem Frame.trans {ρ1 ρ2 ρ3 : Rho} {H1 H2 H3 : Heap} {w1 w2 w3 : World} (h : Frame ρ1 H1 w1 ρ2 H2 w2) (k : Frame ρ2 H2 w2 ρ3 H3 w3) :
    Frame ρ1 H1 w1 ρ3 H3 w3 := by
  refine ⟨h.le.trans k.le, k.os.trans h.os, k.tape.trans h.tape, k.output.trans h.output, Nat.le_trans h.size k.size, fun b hb hn => ?_, fun b hb => ?_⟩
  · rw [k.block b (Nat.lt_of_lt_of_le hb h.size) (fun ho => (h.owns b ho).elim hn (fun q => by omega)), h.block b hb hn]
  · rcases k.owns b hb with q | q
    · exact h.owns b q
    · exact .inr (Nat.le_trans h.size q)

/-- The objects of one memory stand in the other one. -/
def Heap.le (H H' : Heap) : Prop := ∀ a o, H a = some o → H' a = some o
theorem Heap.le.refl (H : Heap) : Heap.le H H := fun _ _ h => h
theorem Sat.drop {ρ : Rho} {H H' : Heap} {w : World} (h : Sat ρ H w) (k : Heap.le H' H) : Sat ρ H' w :=
  ⟨fun a o e => h.obj a o (k a o e), fun a c oa oc x y p1 p2 p3 q1 q2 q3 n e1 e2 => h.apart a c oa oc x y p1 p2 p3 q1 q2 q3 n (k _ _ e1) (k _ _ e2)⟩
theorem Owns.drop {ρ : Rho} {H H' : Heap} {b : Nat} (h : Owns ρ H' b) (k : Heap.le H' H) : Owns ρ H b := by
  obtain ⟨a, o, p1, p2, p3, e1, e2, e3⟩ := h
  exact ⟨a, o, p1, p2, p3, k _ _ e1, e2, e3⟩
theorem Frame.drop {ρ ρ' : Rho} {H H' H'' : Heap} {w w' : World} (h : Frame ρ H w ρ' H' w') (k : Heap.le H'' H') : Frame ρ H w ρ' H'' w' :=
  ⟨h.le, h.os, h.tape, h.output, h.size, h.block, fun b hb => h.owns b (hb.drop k)⟩

theorem ObjAt.mono {ρ ρ' : Rho} {w : World} {x : Info} {o : AObj} (h : ObjAt ρ w x o) (k : Rho.le ρ ρ') : ObjAt ρ' w x o := by
  cases x with
  | nil => exact h
  | «at» blk base cap sz =>
    rcases h with h | ⟨h0, h1, cc, elem, fz, h2, h3, h4, h5, h6⟩
    · exact .inl h
    refine .inr ⟨h0, h1, cc, elem, fz, h2, h3, h4, h5, fun i e he => ⟨(h6 i e he).1, fun j y hy => ?_⟩⟩
    obtain ⟨u, hu, hr⟩ := (h6 i e he).2 j y hy
    exact ⟨u, hu, VRel.mono k _ _ hr⟩

theorem ObjAt.world {ρ : Rho} {w w' : World} {blk base cap sz : Nat} {o : AObj} (h : ObjAt ρ w (.at blk base cap sz) o) (k : w'.heap[blk]? = w.heap[blk]?) :
    ObjAt ρ w' (.at blk base cap sz) o := by
  rcases h with ⟨h1, h2, h3, h4, l, m, h5, h6⟩ | ⟨h0, h1, cc, elem, fz, h2, h3⟩
  · exact .inl ⟨h1, h2, h3, h4, l, m, h5, k.trans h6⟩
  · exact .inr ⟨h0, h1, cc, elem, fz, k.trans h2, h3⟩

theorem ObjAt.lt {ρ : Rho} {w : World} {blk base cap sz : Nat} {o : AObj} (h : ObjAt ρ w (.at blk base cap sz) o) : blk < w.heap.size := by
  have : ∃ x, w.heap[blk]? = some x := by
    rcases h with ⟨h1, h2, h3, h4, l, m, h5, h6⟩ | ⟨h0, h1, cc, elem, fz, h2, h3⟩
    · exact ⟨_, h6⟩
    · exact ⟨_, h2⟩
  obtain ⟨x, h2⟩ := this
  rcases Nat.lt_or_ge blk w.heap.size with q | q
  · exact q
  · rw [Array.getElem?_eq_none q] at h2; exact absurd h2 (by simp)

def hset (H : Heap) (a : Nat) (o : Option AObj) : Heap := fun c => if c = a then o else H c
@[simp] theorem hset_same (H : Heap) (a : Nat) (o : Option AObj) : hset H a o a = o := by simp [hset]
theorem hset_ne (H : Heap) {a c : Nat} (o : Option AObj) (h : c ≠ a) : hset H a o c = H c := by simp [hset, h]

def rset (ρ : Rho) (a : Nat) (x : Info) : Rho := fun c => if c = a then some x else ρ c
@[simp] theorem rset_same (ρ : Rho) (a : Nat) (x : Info) : rset ρ a x a = some x := by simp [rset]
theorem rset_ne (ρ : Rho) {a c : Nat} (x : Info) (h : c ≠ a) : rset ρ a x c = ρ c := by simp [rset, h]
theorem rset_le {ρ : Rho} {a : Nat} (x : Info) (h : ρ a = none) : Rho.le ρ (rset ρ a x) := by
  intro c y hy
  have : c ≠ a := fun e => by subst e; rw [h] at hy; exact absurd hy (by simp)
  rw [rset_ne _ _ this]; exact hy

end Go.AM
/- AM, part 2: what the machine's loads and stores do to rows. -/
set_option linter.unusedVariables false
namespace Go.AM
variable {P : Program}

theorem add_mk (b o n : Nat) : (⟨b, o, none⟩ : Addr).add n = ⟨b, o + n, none⟩ := Addr.add_lit b o n

def wset (w : World) (g : Nat) (o : Obj) : World := { w with heap := w.heap.setIfInBounds g o }
@[simp] theorem wset_os (w : World) (g : Nat) (o : Obj) : (wset w g o).os = w.os := rfl
@[simp] theorem wset_tape (w : World) (g : Nat) (o : Obj) : (wset w g o).tape = w.tape := rfl
@[simp] theorem wset_output (w : World) (g : Nat) (o : Obj) : (wset w g o).output = w.output := rfl
@[simp] theorem wset_size (w : World) (g : Nat) (o : Obj) : (wset w g o).heap.size = w.heap.size := by simp [wset]
theorem wset_ne (w : World) {g k : Nat} (o : Obj) (h : k ≠ g) : (wset w g o).heap[k]? = w.heap[k]? := by
  simp [wset, Array.getElem?_setIfInBounds_ne (Ne.symm h)]
theorem wset_same (w : World) {g : Nat} (o : Obj) (h : g < w.heap.size) : (wset w g o).heap[g]? = some o := by
  simp [wset, h]

theorem lt_of_heap {w : World} {g : Nat} {o : Obj} (h : w.heap[g]? = some o) : g < w.heap.size := by
  rcases Nat.lt_or_ge g w.heap.size with q | q
  · exact q
  · rw [Array.getElem?_eq_none q] at h; exact absurd h (by simp)

theorem cell_of {w : World} {g : Nat} {cc : Array Value} {t : TypeId} {fz : Nat × Nat} (h : w.heap[g]? = some (.cells cc t fz)) (o : Nat) :
    w.cell? ⟨g, o, none⟩ = cc[o]? := by simp [World.cell?, h]

theorem frozen_of {w : World} {g : Nat} {cc : Array Value} {t : TypeId} {fz : Nat × Nat} (h : w.heap[g]? = some (.cells cc t fz)) (hf : free fz cc.size) {o : Nat} (ho : o < cc.size) :
    w.frozen? ⟨g, o, none⟩ = false := by
  obtain ⟨lo, hi⟩ := fz
  simp only [free] at hf
  simp only [World.frozen?, h]
  rcases hf with q | q <;> simp <;> omega

/-- `vs` written into `cc` from place `o` on. -/
def put (cc : Array Value) (o : Nat) : List Value → Array Value
  | [] => cc
  | v :: vs => put (cc.setIfInBounds o v) (o + 1) vs
theorem put_size (vs : List Value) : ∀ (cc : Array Value) (o : Nat), (put cc o vs).size = cc.size := by
  induction vs with
  | nil => intro cc o; rfl
  | cons v vs ih => intro cc o; simp [put, ih]
theorem put_out (vs : List Value) : ∀ (cc : Array Value) (o k : Nat), (k < o ∨ o + vs.length ≤ k) → (put cc o vs)[k]? = cc[k]? := by
  induction vs with
  | nil => intro cc o k _; rfl
  | cons v vs ih =>
    intro cc o k h
    simp only [put]
    simp only [List.length_cons] at h
    rw [ih _ _ _ (by omega)]
    rw [Array.getElem?_setIfInBounds_ne (by omega)]
theorem put_in (vs : List Value) : ∀ (cc : Array Value) (o k : Nat), o + vs.length ≤ cc.size → k < vs.length → (put cc o vs)[o + k]? = vs[k]? := by
  induction vs with
  | nil => intro cc o k _ h; simp at h
  | cons v vs ih =>
    intro cc o k h hk
    simp only [put]
    cases k with
    | zero =>
      rw [put_out _ _ _ _ (by omega)]
      have h3 : o < cc.size := by simp only [List.length_cons] at h; omega
      simp [h3]
    | succ k =>
      have := ih (cc.setIfInBounds o v) (o + 1) k (by simp at h ⊢; omega) (by simpa using hk)
      rw [show o + (k + 1) = o + 1 + k from by omega, this]
      simp

theorem run_storeCells {g : Nat} {t : TypeId} {fz : Nat × Nat} (o : Nat) : ∀ (vs : List Value) (i : Nat) (cc : Array Value) (w : World),
    w.heap[g]? = some (.cells cc t fz) → free fz cc.size → o + i + vs.length ≤ cc.size → (∀ v ∈ vs, v.oneCell' = true) →
    (storeCells ⟨g, o, none⟩ vs i).run P w = .ok () (wset w g (.cells (put cc (o + i) vs) t fz))
  | [], i, cc, w, hg, _, _, _ => by
    have hlt := lt_of_heap hg
    have : wset w g (.cells cc t fz) = w := by
      unfold wset
      have : w.heap.setIfInBounds g (.cells cc t fz) = w.heap := by
        apply Array.ext_getElem?
        intro j
        by_cases hj : g = j
        · subst hj; rw [hg]; simp [hlt]
        · rw [Array.getElem?_setIfInBounds_ne hj]
      rw [this]
    simp only [storeCells, put, this]
    rfl
  | v :: rest, i, cc, w, hg, hf, hl, h1 => by
    have hlt := lt_of_heap hg
    have hi : o + i < cc.size := by simp at hl; omega
    have hst : (store ((⟨g, o, none⟩ : Addr).add i) v).run P w = .ok () (wset w g (.cells (cc.setIfInBounds (o + i) v) t fz)) := by
      rw [add_mk, run_store P w _ v _ (h1 v (by simp)), cell_of hg]
      simp only [hi, Array.getElem?_eq_getElem]
      rw [if_neg (by rw [frozen_of hg hf hi]; simp)]
      congr 1
      simp only [World.setCell, wset]
      simp only [World.mk.injEq, and_true]
      apply Array.ext_getElem?
      intro j
      rw [Array.getElem?_modify]
      by_cases hj : g = j
      · subst hj
        rw [hg]
        simp [hlt]
      · rw [if_neg hj, Array.getElem?_setIfInBounds_ne hj]
    have hg' : (wset w g (.cells (cc.setIfInBounds (o + i) v) t fz)).heap[g]? = some (.cells (cc.setIfInBounds (o + i) v) t fz) := wset_same _ _ hlt
    have ih := run_storeCells o rest (i + 1) (cc.setIfInBounds (o + i) v) (wset w g (.cells (cc.setIfInBounds (o + i) v) t fz)) hg' (by simpa using hf)
      (by simp at hl ⊢; omega) (fun x hx => h1 x (by simp [hx]))
    simp only [storeCells, Sem.run_bind, hst, Result.andThen_ok, ih, put]
    congr 1
    simp only [wset, Array.setIfInBounds_setIfInBounds]
    rfl

/-- A new row. -/
theorem run_newRow' (t : TypeId) (cs : Array Value) (w : World) :
    (newRow t cs).run P w = .ok ⟨w.heap.size, 0, none⟩ { w with heap := w.heap.push (.cells cs t) } := by
  simp [newRow, newObj, Sem.run]

theorem run_underlying' {t : TypeId} {d : TypeDesc} (h : P.underlying t = some d) (w : World) : (underlying t).run P w = .ok d w := run_underlying h w
theorem run_typeInfo' {t : TypeId} {i : TypeInfo} (h : P.info? t = some i) (w : World) : (typeInfo t).run P w = .ok i w := by
  simp only [typeInfo, program, Sem.run_bind, Sem.run, Result.andThen_ok, h, Sem.run_pure]
theorem run_sizeOf' {t : TypeId} {i : TypeInfo} (h : P.info? t = some i) (w : World) : (sizeOf t).run P w = .ok i.size w := by
  simp [sizeOf, run_typeInfo' h]

def isAggD : TypeDesc → Bool
  | .struct _ | .array _ _ => true
  | _ => false
theorem run_isAgg' {t : TypeId} {d : TypeDesc} (h : P.underlying t = some d) (w : World) : (isAgg t).run P w = .ok (isAggD d) w := by
  unfold isAgg
  simp only [Sem.run_bind, run_underlying' h, Result.andThen_ok]
  cases d <;> rfl

end Go.AM
/- AM, part 3: new rows, rows written, rows that are appended to. -/
set_option linter.unusedVariables false
namespace Go.AM
variable {P : Program}

/-- The elements `es` stand in `cc` from `base` on. -/
def Holds (ρ : Rho) (cc : Array Value) (base sz : Nat) (es : List AVal) : Prop :=
  ∀ i e, es[i]? = some e → e.cells.length = sz ∧ ∀ j y, e.cells[j]? = some y → ∃ u, cc[base + i * sz + j]? = some u ∧ VRel ρ y u

theorem Holds.mono {ρ ρ' : Rho} {cc : Array Value} {base sz : Nat} {es : List AVal} (h : Holds ρ cc base sz es) (k : Rho.le ρ ρ') : Holds ρ' cc base sz es :=
  fun i e he => ⟨(h i e he).1, fun j y hy => let ⟨u, hu, hr⟩ := (h i e he).2 j y hy; ⟨u, hu, VRel.mono k _ _ hr⟩⟩

theorem Fresh.le {ρ : Rho} {n m : Nat} (h : Fresh ρ n) (k : n ≤ m) : Fresh ρ m := fun x hx => h x (Nat.le_trans k hx)
theorem Fresh.set {ρ : Rho} {n : Nat} (h : Fresh ρ n) (x : Info) : Fresh (rset ρ n x) (n + 1) := by
  intro m hm
  rw [rset_ne _ _ (by omega)]
  exact h m (by omega)
theorem Sat.dead {ρ : Rho} {H : Heap} {w : World} (h : Sat ρ H w) {a : Nat} (k : ρ a = none) : H a = none := by
  cases e : H a with
  | none => rfl
  | some o => obtain ⟨x, hx, _⟩ := h.obj a o e; rw [k] at hx; exact absurd hx (by simp)

structure After (ρ : Rho) (H : Heap) (w : World) (n : Nat) (ρ' : Rho) (H' : Heap) (w' : World) (n' : Nat) : Prop where
  sat : Sat ρ' H' w'
  fresh : Fresh ρ' n'
  le : n ≤ n'
  frame : Frame ρ H w ρ' H' w'

theorem After.refl {ρ : Rho} {H : Heap} {w : World} {n : Nat} (h : Sat ρ H w) (hf : Fresh ρ n) : After ρ H w n ρ H w n := ⟨h, hf, Nat.le_refl _, .refl _ _ _⟩
theorem After.trans {ρ1 ρ2 ρ3 : Rho} {H1 H2 H3 : Heap} {w1 w2 w3 : World} {n1 n2 n3 : Nat} (h : After ρ1 H1 w1 n1 ρ2 H2 w2 n2) (k : After ρ2 H2 w2 n2 ρ3 H3 w3 n3) :
    After ρ1 H1 w1 n1 ρ3 H3 w3 n3 := ⟨k.sat, k.fresh, Nat.le_trans h.le k.le, h.frame.trans k.frame⟩

/-- A new row. -/
theorem Sat.new {ρ : Rho} {H : Heap} {w : World} {n : Nat} (h : Sat ρ H w) (hf : Fresh ρ n) {cc : Array Value} {t : TypeId} {fz : Nat × Nat} {sz cap : Nat} {es : List AVal} (hni : es ≠ [] ∨ sz < 18446744073709551616)
    (hz : free fz cc.size) (hc : cap * sz ≤ cc.size) (hl : es.length ≤ cap) (hh : Holds ρ cc 0 sz es) :
    After ρ H w n (rset ρ n (.at w.heap.size 0 cap sz)) (hset H n (some ⟨false, sz, es⟩)) { w with heap := w.heap.push (.cells cc t fz) } (n + 1) := by
  have hle : Rho.le ρ (rset ρ n (.at w.heap.size 0 cap sz)) := rset_le _ (hf n (Nat.le_refl _))
  have hkeep : ∀ k, k < w.heap.size → (w.heap.push (Obj.cells cc t fz))[k]? = w.heap[k]? := fun k hk => by
    rw [Array.getElem?_push, if_neg (by omega)]
  have hinfo : ∀ c x, c ≠ n → rset ρ n (.at w.heap.size 0 cap sz) c = some x → ρ c = some x := fun c x hc e => by rwa [rset_ne _ _ hc] at e
  have hblk : ∀ c o x p1 p2 p3, H c = some o → ρ c = some (.at x p1 p2 p3) → x < w.heap.size := fun c o x p1 p2 p3 e1 e2 => by
    obtain ⟨y, hy, ho⟩ := h.obj c o e1
    rw [e2] at hy
    simp only [Option.some.injEq] at hy
    subst hy
    exact ho.lt
  refine ⟨⟨fun c o e => ?_, fun a c oa oc x y p1 p2 p3 q1 q2 q3 hac e1 e2 hro e3 e4 => ?_⟩, hf.set _, Nat.le_succ _, hle, rfl, rfl, rfl, by simp, fun k hk _ => hkeep k hk, fun k hk => ?_⟩
  · by_cases hcn : c = n
    · subst hcn
      rw [hset_same] at e
      simp only [Option.some.injEq] at e
      subst e
      refine ⟨_, rset_same _ _ _, .inr ⟨hni, rfl, cc, t, fz, by simp, fun _ => hz, by simpa using hc, hl, ?_⟩⟩
      exact hh.mono hle
    · rw [hset_ne _ _ hcn] at e
      obtain ⟨x, hx, ho⟩ := h.obj c o e
      refine ⟨x, hle _ _ hx, ?_⟩
      cases x with
      | nil => exact ho
      | «at» b1 b2 b3 b4 => exact (ho.mono hle).world (hkeep _ ho.lt)
  · by_cases han : a = n
    · subst han
      rw [rset_same] at e3
      simp only [Option.some.injEq, Info.at.injEq] at e3
      have hcn : c ≠ a := fun q => hac q.symm
      rw [hset_ne _ _ hcn] at e2
      have := hblk c oc y q1 q2 q3 e2 (hinfo c _ hcn e4)
      omega
    · by_cases hcn : c = n
      · subst hcn
        rw [rset_same] at e4
        simp only [Option.some.injEq, Info.at.injEq] at e4
        rw [hset_ne _ _ han] at e1
        have := hblk a oa x p1 p2 p3 e1 (hinfo a _ han e3)
        omega
      · rw [hset_ne _ _ han] at e1
        rw [hset_ne _ _ hcn] at e2
        exact h.apart a c oa oc x y p1 p2 p3 q1 q2 q3 hac e1 e2 hro (hinfo a _ han e3) (hinfo c _ hcn e4)
  · obtain ⟨a, o, p1, p2, p3, e1, e2, e3⟩ := hk
    by_cases han : a = n
    · subst han
      rw [rset_same] at e3
      simp only [Option.some.injEq, Info.at.injEq] at e3
      exact .inr (by omega)
    · rw [hset_ne _ _ han] at e1
      exact .inl ⟨a, o, p1, p2, p3, e1, e2, hinfo a _ han e3⟩

/-- A row that is written. -/
theorem Sat.write {ρ : Rho} {H : Heap} {w : World} {n : Nat} (h : Sat ρ H w) (hf : Fresh ρ n) {a : Nat} {o : AObj} (ha : H a = some o) (hro : o.ro = false)
    {es : List AVal} {blk base cap sz : Nat} (hni : es ≠ [] ∨ sz < 18446744073709551616) (hx : ρ a = some (.at blk base cap sz)) {cc cc' : Array Value} {t : TypeId} {fz : Nat × Nat} (hg : w.heap[blk]? = some (.cells cc t fz))
    (hsz : cc'.size = cc.size) (hl : es.length ≤ cap) (hh : Holds ρ cc' base sz es) :
    After ρ H w n ρ (hset H a (some ⟨false, sz, es⟩)) (wset w blk (.cells cc' t fz)) n := by
  have hlt := lt_of_heap hg
  have hoa : ObjAt ρ w (.at blk base cap sz) o := by
    obtain ⟨y, hy, ho⟩ := h.obj a o ha
    rw [hx] at hy; simp only [Option.some.injEq] at hy; subst hy; exact ho
  rcases hoa with ⟨_, _, _, _, _, _, _, hit⟩ | ⟨_, ho1, cc0, t0, fz0, ho2, ho3, ho4, ho5, _⟩
  · rw [hg] at hit; exact absurd hit (by simp)
  rw [hg] at ho2
  simp only [Option.some.injEq, Obj.cells.injEq] at ho2
  obtain ⟨rfl, rfl, rfl⟩ := ho2
  refine ⟨⟨fun c oc e => ?_, fun b c ob oc x y p1 p2 p3 q1 q2 q3 hbc e1 e2 hr e3 e4 => ?_⟩, hf, Nat.le_refl _, .refl _, rfl, rfl, rfl, by simp, fun k hk hn => ?_, fun k hk => ?_⟩
  · by_cases hca : c = a
    · subst hca
      rw [hset_same] at e
      simp only [Option.some.injEq] at e
      subst e
      exact ⟨_, hx, .inr ⟨hni, rfl, cc', t, fz, wset_same _ _ hlt, fun _ => by rw [hsz]; exact ho3 hro, by omega, hl, hh⟩⟩
    · rw [hset_ne _ _ hca] at e
      obtain ⟨x, hx', ho⟩ := h.obj c oc e
      refine ⟨x, hx', ?_⟩
      cases x with
      | nil => exact ho
      | «at» b1 b2 b3 b4 =>
        have hne : b1 ≠ blk := h.apart c a oc o b1 blk b2 b3 b4 base cap sz hca e ha (.inr hro) hx' hx
        exact ho.world (wset_ne _ _ hne)
  · have conv : ∀ d od, hset H a (some ⟨false, sz, es⟩) d = some od → ∃ od', H d = some od' ∧ (od.ro = false → od'.ro = false) := fun d od e => by
      by_cases hda : d = a
      · subst hda; exact ⟨o, ha, fun _ => hro⟩
      · rw [hset_ne _ _ hda] at e; exact ⟨od, e, id⟩
    obtain ⟨ob', e1', r1⟩ := conv b ob e1
    obtain ⟨oc', e2', r2⟩ := conv c oc e2
    exact h.apart b c ob' oc' x y p1 p2 p3 q1 q2 q3 hbc e1' e2' (hr.imp r1 r2) e3 e4
  · refine wset_ne _ _ (fun e => hn ?_)
    subst e
    exact ⟨a, o, base, cap, sz, ha, hro, hx⟩
  · obtain ⟨c, oc, p1, p2, p3, e1, e2, e3⟩ := hk
    by_cases hca : c = a
    · subst hca; exact .inl ⟨c, o, p1, p2, p3, ha, hro, e3⟩
    · rw [hset_ne _ _ hca] at e1; exact .inl ⟨c, oc, p1, p2, p3, e1, e2, e3⟩

/-- A row that is appended to in place: it dies, and lives on under a new name. -/
theorem Sat.grow {ρ : Rho} {H : Heap} {w : World} {n : Nat} (h : Sat ρ H w) (hf : Fresh ρ n) {a : Nat} {o : AObj} (ha : H a = some o) (hro : o.ro = false)
    {es : List AVal} {blk base cap sz : Nat} (hni : es ≠ [] ∨ sz < 18446744073709551616) (hx : ρ a = some (.at blk base cap sz)) {cc cc' : Array Value} {t : TypeId} {fz : Nat × Nat} (hg : w.heap[blk]? = some (.cells cc t fz))
    (hsz : cc'.size = cc.size) {base' cap' : Nat} (hb : base' + cap' * sz ≤ cc.size) (hl : es.length ≤ cap') (hh : Holds ρ cc' base' sz es) :
    After ρ H w n (rset ρ n (.at blk base' cap' sz)) (hset (hset H a none) n (some ⟨false, sz, es⟩)) (wset w blk (.cells cc' t fz)) (n + 1) := by
  have hlt := lt_of_heap hg
  have hle : Rho.le ρ (rset ρ n (.at blk base' cap' sz)) := rset_le _ (hf n (Nat.le_refl _))
  have hna : n ≠ a := fun e => by subst e; rw [hf n (Nat.le_refl _)] at hx; exact absurd hx (by simp)
  have hoa : ObjAt ρ w (.at blk base cap sz) o := by
    obtain ⟨y, hy, ho⟩ := h.obj a o ha
    rw [hx] at hy; simp only [Option.some.injEq] at hy; subst hy; exact ho
  rcases hoa with ⟨_, _, _, _, _, _, _, hit⟩ | ⟨_, ho1, cc0, t0, fz0, ho2, ho3, ho4, ho5, _⟩
  · rw [hg] at hit; exact absurd hit (by simp)
  rw [hg] at ho2
  simp only [Option.some.injEq, Obj.cells.injEq] at ho2
  obtain ⟨rfl, rfl, rfl⟩ := ho2
  have hinfo : ∀ c x, c ≠ n → rset ρ n (.at blk base' cap' sz) c = some x → ρ c = some x := fun c x hc e => by rwa [rset_ne _ _ hc] at e
  have hH : ∀ c oc, c ≠ n → hset (hset H a none) n (some ⟨false, sz, es⟩) c = some oc → c ≠ a ∧ H c = some oc := fun c oc hcn e => by
    rw [hset_ne _ _ hcn] at e
    by_cases hca : c = a
    · subst hca; rw [hset_same] at e; exact absurd e (by simp)
    · rw [hset_ne _ _ hca] at e; exact ⟨hca, e⟩
  refine ⟨⟨fun c oc e => ?_, fun b c ob oc x y p1 p2 p3 q1 q2 q3 hbc e1 e2 hr e3 e4 => ?_⟩, hf.set _, Nat.le_succ _, hle, rfl, rfl, rfl, by simp, fun k hk hn => ?_, fun k hk => ?_⟩
  · by_cases hcn : c = n
    · subst hcn
      rw [hset_same] at e
      simp only [Option.some.injEq] at e
      subst e
      exact ⟨_, rset_same _ _ _, .inr ⟨hni, rfl, cc', t, fz, wset_same _ _ hlt, fun _ => by rw [hsz]; exact ho3 hro, by omega, hl, hh.mono hle⟩⟩
    · obtain ⟨hca, e⟩ := hH c oc hcn e
      obtain ⟨x, hx', ho⟩ := h.obj c oc e
      refine ⟨x, hle _ _ hx', ?_⟩
      cases x with
      | nil => exact ho
      | «at» b1 b2 b3 b4 =>
        have hne : b1 ≠ blk := h.apart c a oc o b1 blk b2 b3 b4 base cap sz hca e ha (.inr hro) hx' hx
        exact (ho.mono hle).world (wset_ne _ _ hne)
  · by_cases hbn : b = n
    · subst hbn
      rw [rset_same] at e3
      simp only [Option.some.injEq, Info.at.injEq] at e3
      have hcn : c ≠ b := fun q => hbc q.symm
      obtain ⟨hca, k2⟩ := hH c oc hcn e2
      rw [← e3.1]
      exact fun q => h.apart c a oc o y blk q1 q2 q3 base cap sz hca k2 ha (.inr hro) (hinfo c _ hcn e4) hx q.symm
    · obtain ⟨hba, k1⟩ := hH b ob hbn e1
      by_cases hcn : c = n
      · subst hcn
        rw [rset_same] at e4
        simp only [Option.some.injEq, Info.at.injEq] at e4
        rw [← e4.1]
        exact h.apart b a ob o x blk p1 p2 p3 base cap sz hba k1 ha (.inr hro) (hinfo b _ hbn e3) hx
      · obtain ⟨hca, k2⟩ := hH c oc hcn e2
        exact h.apart b c ob oc x y p1 p2 p3 q1 q2 q3 hbc k1 k2 hr (hinfo b _ hbn e3) (hinfo c _ hcn e4)
  · refine wset_ne _ _ (fun e => hn ?_)
    subst e
    exact ⟨a, o, base, cap, sz, ha, hro, hx⟩
  · obtain ⟨c, oc, p1, p2, p3, e1, e2, e3⟩ := hk
    by_cases hcn : c = n
    · subst hcn
      rw [rset_same] at e3
      simp only [Option.some.injEq, Info.at.injEq] at e3
      rw [← e3.1]
      exact .inl ⟨a, o, base, cap, sz, ha, hro, hx⟩
    · obtain ⟨hca, e1⟩ := hH c oc hcn e1
      exact .inl ⟨c, oc, p1, p2, p3, e1, e2, hinfo c _ hcn e3⟩

/-- A row of no place at all: a nil slice, owned. -/
theorem Sat.newNil {ρ : Rho} {H : Heap} {w : World} {n : Nat} (h : Sat ρ H w) (hf : Fresh ρ n) (sz : Nat) :
    After ρ H w n (rset ρ n .nil) (hset H n (some ⟨false, sz, []⟩)) w (n + 1) := by
  have hle : Rho.le ρ (rset ρ n .nil) := rset_le _ (hf n (Nat.le_refl _))
  have hinfo : ∀ c x, c ≠ n → rset ρ n .nil c = some x → ρ c = some x := fun c x hc e => by rwa [rset_ne _ _ hc] at e
  refine ⟨⟨fun c o e => ?_, fun a c oa oc x y p1 p2 p3 q1 q2 q3 hac e1 e2 hro e3 e4 => ?_⟩, hf.set _, Nat.le_succ _, hle, rfl, rfl, rfl, Nat.le_refl _, fun _ _ _ => rfl, fun k hk => ?_⟩
  · by_cases hcn : c = n
    · subst hcn
      rw [hset_same] at e
      simp only [Option.some.injEq] at e
      subst e
      exact ⟨_, rset_same _ _ _, rfl⟩
    · rw [hset_ne _ _ hcn] at e
      obtain ⟨x, hx, ho⟩ := h.obj c o e
      exact ⟨x, hle _ _ hx, ho.mono hle⟩
  · have hn1 : a ≠ n := fun q => by subst q; rw [rset_same] at e3; exact absurd e3 (by simp)
    have hn2 : c ≠ n := fun q => by subst q; rw [rset_same] at e4; exact absurd e4 (by simp)
    rw [hset_ne _ _ hn1] at e1
    rw [hset_ne _ _ hn2] at e2
    exact h.apart a c oa oc x y p1 p2 p3 q1 q2 q3 hac e1 e2 hro (hinfo _ _ hn1 e3) (hinfo _ _ hn2 e4)
  · obtain ⟨c, oc, p1, p2, p3, e1, e2, e3⟩ := hk
    have hn1 : c ≠ n := fun q => by subst q; rw [rset_same] at e3; exact absurd e3 (by simp)
    rw [hset_ne _ _ hn1] at e1
    exact .inl ⟨c, oc, p1, p2, p3, e1, e2, hinfo _ _ hn1 e3⟩

theorem After.drop {ρ ρ' : Rho} {H H' H'' : Heap} {w w' : World} {n n' : Nat} (h : After ρ H w n ρ' H' w' n') (k : Heap.le H'' H') : After ρ H w n ρ' H'' w' n' :=
  ⟨h.sat.drop k, h.fresh, h.le, h.frame.drop k⟩

end Go.AM
/- AM, part 4: the operations that touch no memory, and those that read, write and make it. -/
set_option linter.unusedVariables false
namespace Go.AM
variable {P : Program}

abbrev Cont := AVal → Heap → Nat → Prop
abbrev Spec := List AVal → Heap → Nat → Cont → Prop

def Res (ρ : Rho) (H : Heap) (w : World) (n : Nat) (κ : Cont) (v' : Value) (w' : World) : Prop :=
  ∃ v ρ' H' n', κ v H' n' ∧ VRel ρ' v v' ∧ After ρ H w n ρ' H' w' n'

/-- What the operation `s` comes to is allowed by `κ`. -/
def Comes' (P : Program) (s : Sem Value) (ρ : Rho) (H : Heap) (w : World) (n : Nat) (κ : Cont) : Prop :=
  ∃ v' w', s.run P w = .ok v' w' ∧ Res ρ H w n κ v' w'

theorem Comes'.same {s : Sem Value} {ρ : Rho} {H : Heap} {w : World} {n : Nat} {κ : Cont} {v : AVal} {v' : Value} (hs : Sat ρ H w) (hf : Fresh ρ n)
    (hr : s.run P w = .ok v' w) (hk : κ v H n) (hv : VRel ρ v v') : Comes' P s ρ H w n κ :=
  ⟨v', w, hr, v, ρ, H, n, hk, hv, .refl hs hf⟩

/-! ### Bytes -/
def bytesA (l : List UInt8) : List AVal := l.map fun c => .i .u8 (c.toNat : Int)
@[simp] theorem bytesA_nil : bytesA [] = [] := rfl
theorem bytesA_cons (c : UInt8) (l : List UInt8) : bytesA (c :: l) = .i .u8 (c.toNat : Int) :: bytesA l := rfl
@[simp] theorem bytesA_append (l m : List UInt8) : bytesA (l ++ m) = bytesA l ++ bytesA m := by simp [bytesA]
@[simp] theorem bytesA_length (l : List UInt8) : (bytesA l).length = l.length := by simp [bytesA]
@[simp] theorem bytesA_take (l : List UInt8) (n : Nat) : (bytesA l).take n = bytesA (l.take n) := by simp [bytesA]
@[simp] theorem bytesA_drop (l : List UInt8) (n : Nat) : (bytesA l).drop n = bytesA (l.drop n) := by simp [bytesA]
theorem bytesA_get (l : List UInt8) (n : Nat) : (bytesA l)[n]? = (l[n]?).map fun c => .i .u8 (c.toNat : Int) := by simp [bytesA]
theorem bytesA_inj : ∀ (l m : List UInt8), bytesA l = bytesA m ↔ l = m
  | [], [] => by simp
  | [], c :: m => by simp [bytesA_cons]
  | c :: l, [] => by simp [bytesA_cons]
  | c :: l, d :: m => by
    rw [bytesA_cons, bytesA_cons, List.cons.injEq, List.cons.injEq, bytesA_inj l m]
    constructor
    · rintro ⟨h1, h2⟩
      simp only [AVal.i.injEq, true_and] at h1
      exact ⟨UInt8.toNat_inj.1 (by omega), h2⟩
    · rintro ⟨rfl, rfl⟩; exact ⟨rfl, rfl⟩

/-! ### Numbers, strings, bools -/
def ibits (op : BinOp) (k : IntKind) (x y : Int) : Int :=
  let a := BitVec.ofInt k.bits x
  let b := BitVec.ofInt k.bits y
  k.wrap (match op with
    | .and => (a &&& b).toNat
    | .or => (a ||| b).toNat
    | .xor => (a ^^^ b).toNat
    | _ => (a &&& ~~~b).toNat : Nat)

def intBin (op : BinOp) (k : IntKind) (x y : Int) (κ : AVal → Prop) : Prop :=
  match op with
  | .add => κ (.i k (k.wrap (x + y)))
  | .sub => κ (.i k (k.wrap (x - y)))
  | .mul => κ (.i k (k.wrap (x * y)))
  | .quo => y ≠ 0 ∧ κ (.i k (k.wrap (x.tdiv y)))
  | .rem => y ≠ 0 ∧ κ (.i k (x.tmod y))
  | .and => κ (.i k (ibits .and k x y))
  | .or => κ (.i k (ibits .or k x y))
  | .xor => κ (.i k (ibits .xor k x y))
  | .andNot => κ (.i k (ibits .andNot k x y))
  | .eql => κ (.b (x == y))
  | .neq => κ (.b (x != y))
  | .lss => κ (.b (decide (x < y)))
  | .leq => κ (.b (decide (x ≤ y)))
  | .gtr => κ (.b (decide (y < x)))
  | .geq => κ (.b (decide (y ≤ x)))
  | _ => False

def shiftBin (op : BinOp) (k : IntKind) (x y : Int) (κ : AVal → Prop) : Prop :=
  match op with
  | .shl => 0 ≤ y ∧ κ (.i k (k.wrap (x * 2 ^ (min y.toNat k.bits))))
  | .shr => 0 ≤ y ∧ κ (.i k (x.fdiv (2 ^ (min y.toNat k.bits))))
  | _ => False

def strBin (op : BinOp) (l m : List UInt8) (κ : AVal → Prop) : Prop :=
  match op with
  | .add => l.length + m.length ≤ 9223372036854775807 ∧ κ (.s (l ++ m))
  | .eql => κ (.b (l == m))
  | .neq => κ (.b (l != m))
  | _ => False

def opBin (op : BinOp) (vs : List AVal) (κ : AVal → Prop) : Prop :=
  (∃ k x y, vs = [.i k x, .i k y] ∧ intBin op k x y κ) ∨ (∃ k x j y, vs = [.i k x, .i j y] ∧ shiftBin op k x y κ) ∨
  (∃ l m, vs = [.s l, .s m] ∧ strBin op l m κ)

theorem run_pureV (v : Value) (w : World) : (pure v : Sem Value).run P w = .ok v w := rfl

theorem bin_ok (op : BinOp) (t : TypeId) {vs : List AVal} {xo yo : Operand} {x y : Value} {ρ : Rho} {κ : AVal → Prop} (h : opBin op vs κ) (hv : VRels ρ vs [x, y]) (w : World) :
    ∃ v', (do eqGuard op t xo yo x y; binOp op t x y : Sem Value).run P w = .ok v' w ∧ ∃ v, κ v ∧ VRel ρ v v' := by
  rcases h with ⟨k, a, b, rfl, h⟩ | ⟨k, a, j, b, rfl, h⟩ | ⟨l, m, rfl, h⟩
  · simp only [VRels, VRel] at hv
    obtain ⟨_, _, e1, rfl, _, _, e2, rfl, rfl⟩ := hv
    simp only [List.cons.injEq] at e1 e2
    obtain ⟨rfl, rfl⟩ := e1
    simp only [List.cons.injEq] at e2
    obtain ⟨rfl, _⟩ := e2
    cases op <;> simp only [intBin] at h
    all_goals first
      | exact h.elim
      | exact ⟨_, by simp [eqGuard, binOp, Op.intArith]; rfl, _, h, rfl⟩
      | exact ⟨_, by simp [eqGuard, binOp]; rfl, _, h, rfl⟩
      | exact ⟨_, by simp [eqGuard, binOp, Op.intCmp], _, h, rfl⟩
      | exact ⟨_, by simp [eqGuard, binOp, Op.intDiv, h.1], _, h.2, rfl⟩
  · simp only [VRels, VRel] at hv
    obtain ⟨_, _, e1, rfl, _, _, e2, rfl, rfl⟩ := hv
    simp only [List.cons.injEq] at e1 e2
    obtain ⟨rfl, rfl⟩ := e1
    simp only [List.cons.injEq] at e2
    obtain ⟨rfl, _⟩ := e2
    cases op <;> simp only [shiftBin] at h
    all_goals first
      | exact h.elim
      | exact ⟨_, by simp [eqGuard, binOp, Op.shift, Int.not_lt.2 h.1], _, h.2, rfl⟩
  · simp only [VRels, VRel] at hv
    obtain ⟨_, _, e1, rfl, _, _, e2, rfl, rfl⟩ := hv
    simp only [List.cons.injEq] at e1 e2
    obtain ⟨rfl, rfl⟩ := e1
    simp only [List.cons.injEq] at e2
    obtain ⟨rfl, _⟩ := e2
    cases op <;> simp only [strBin] at h
    all_goals first
      | exact h.elim
      | exact ⟨.bool (l == m), by simp [eqGuard, binOp, Op.stringOp, ByteArray.toList_eq], _, h, rfl⟩
      | exact ⟨.bool (!(l == m)), by simp [eqGuard, binOp, Op.stringOp, ByteArray.toList_eq], _, h, rfl⟩
      | skip
    refine ⟨.string (⟨l.toArray⟩ ++ ⟨m.toArray⟩), ?_, _, h.2, ?_⟩
    · have h1 := h.1
      simp [eqGuard, binOp, Op.stringOp, ByteArray.size, IntKind.max, IntKind.signed, IntKind.bits]
      omega
    · simp only [VRel, Value.string.injEq]
      apply ByteArray.ext
      simp

end Go.AM
/- AM, part 5: loads, stores, addresses, indexes, boxes, literals. -/
set_option linter.unusedVariables false
namespace Go.AM
variable {P : Program}

theorem rels1 {ρ : Rho} {a : AVal} {xs : List Value} (h : VRels ρ [a] xs) : ∃ x, xs = [x] ∧ VRel ρ a x := by
  simp only [VRels] at h
  obtain ⟨x, _, rfl, h1, rfl⟩ := h
  exact ⟨x, rfl, h1⟩
theorem rels2 {ρ : Rho} {a b : AVal} {xs : List Value} (h : VRels ρ [a, b] xs) : ∃ x y, xs = [x, y] ∧ VRel ρ a x ∧ VRel ρ b y := by
  simp only [VRels] at h
  obtain ⟨x, _, rfl, h1, y, _, rfl, h2, rfl⟩ := h
  exact ⟨x, y, rfl, h1, h2⟩
theorem rels3 {ρ : Rho} {a b c : AVal} {xs : List Value} (h : VRels ρ [a, b, c] xs) : ∃ x y z, xs = [x, y, z] ∧ VRel ρ a x ∧ VRel ρ b y ∧ VRel ρ c z := by
  simp only [VRels] at h
  obtain ⟨x, _, rfl, h1, y, _, rfl, h2, z, _, rfl, h3, rfl⟩ := h
  exact ⟨x, y, z, rfl, h1, h2, h3⟩

/-- A name that lives, and what it stands for. -/
theorem Sat.at {ρ : Rho} {H : Heap} {w : World} (h : Sat ρ H w) {a : Nat} {o : AObj} (ha : H a = some o) {blk base cap sz : Nat} (hx : ρ a = some (.at blk base cap sz)) (hni : o.es ≠ [] ∨ o.sz < 18446744073709551616) :
    o.sz = sz ∧ ∃ cc elem fz, w.heap[blk]? = some (.cells cc elem fz) ∧ (o.ro = false → free fz cc.size) ∧ base + cap * sz ≤ cc.size ∧ o.es.length ≤ cap ∧ Holds ρ cc base sz o.es := by
  obtain ⟨y, hy, ho⟩ := h.obj a o ha
  rw [hx] at hy; simp only [Option.some.injEq] at hy; subst hy
  rcases ho with ⟨h1, _, _, _, l, k, h2, _⟩ | ho
  · rcases hni with q | q
    · exact absurd h1 q
    · unfold itc at h2; omega
  · exact ho.2

/-! load -/
def opLoad (sz : Nat) (agg : Bool) (vs : List AVal) (H : Heap) (κ : AVal → Prop) : Prop :=
  ∃ a i j o e, vs = [.ptr a i j] ∧ H a = some o ∧ o.es[i]? = some e ∧
    if agg then j + sz ≤ e.cells.length ∧ κ (.agg ((e.cells.drop j).take sz)) else ∃ y, e.cells[j]? = some y ∧ κ y

theorem load_ok {t : TypeId} {d : TypeDesc} {ti : TypeInfo} (hu : P.underlying t = some d) (hi : P.info? t = some ti) {vs : List AVal} {x : Value} {ρ : Rho} {H : Heap} {w : World} {κ : AVal → Prop}
    (h : opLoad ti.size (isAggD d) vs H κ) (hv : VRels ρ vs [x]) (hs : Sat ρ H w) :
    ∃ v', (Instr.loadAt t x).run P w = .ok v' w ∧ ∃ v, κ v ∧ VRel ρ v v' := by
  obtain ⟨a, i, j, o, e, rfl, ha, hie, hk⟩ := h
  obtain ⟨x', hx', hr⟩ := rels1 hv
  simp only [List.cons.injEq, and_true] at hx'
  subst hx'
  simp only [VRel] at hr
  obtain ⟨blk, base, cap, sz, hρ, rfl⟩ := hr
  obtain ⟨hsz, cc, elem, fz, hg, _, _, _, hh⟩ := hs.at ha hρ (.inl (by rintro q; rw [q] at hie; simp at hie))
  obtain ⟨hlen, hcell⟩ := hh i e hie
  by_cases hagg : isAggD d = true
  · rw [if_pos hagg] at hk
    obtain ⟨hl, hκ⟩ := hk
    -- the cells, one by one
    have hex : ∀ m, m < ti.size → ∃ u, cc[base + i * sz + j + m]? = some u ∧ VRel ρ ((e.cells.drop j)[m]?.getD .junk) u := by
      intro m hm
      have hlt : j + m < e.cells.length := by omega
      obtain ⟨u, hu1, hu2⟩ := hcell (j + m) e.cells[j + m] (by simp [hlt])
      refine ⟨u, by rw [← hu1]; congr 1; omega, ?_⟩
      simpa [List.getElem?_drop, hlt] using hu2
    let us : List Value := (List.range ti.size).map fun m => (cc[base + i * sz + j + m]?).getD undef
    have hrun : (loadCells ⟨blk, base + i * sz + j, none⟩ ti.size).run P w = .ok us.toArray w := by
      have := run_loadCells_list (P := P) w ⟨blk, base + i * sz + j, none⟩ us (fun m v hm => by
        rw [add_mk, cell_of hg]
        have hm' : m < ti.size := by have := (List.getElem?_eq_some_iff.1 hm).1; simpa [us] using this
        obtain ⟨u, hu1, _⟩ := hex m hm'
        simp [us, hm', hu1] at hm
        rw [hu1, hm])
      simpa [us] using this
    refine ⟨.agg us.toArray, ?_, _, hκ, ?_⟩
    · simp [Instr.loadAt, Instr.sureAddr, loadVar, run_isAgg' hu, hagg, run_sizeOf' hi, hrun]
    · simp only [VRel, Value.agg.injEq]
      refine ⟨us.toArray, rfl, VRels.mk (by simp [us]; omega) (fun m y u h1 h2 => ?_)⟩
      have hm' : m < ti.size := by
        rcases Nat.lt_or_ge m ti.size with q | q
        · exact q
        · rw [List.getElem?_eq_none (by simp; omega)] at h1; exact absurd h1 (by simp)
      obtain ⟨u', hu1, hu2⟩ := hex m hm'
      rw [List.getElem?_take_of_lt hm'] at h1
      simp [us, hm', hu1] at h2
      subst h2
      rw [h1] at hu2
      exact hu2
  · rw [if_neg hagg] at hk
    obtain ⟨y, hy, hκ⟩ := hk
    obtain ⟨u, hu1, hu2⟩ := hcell j y hy
    refine ⟨u, ?_, y, hκ, hu2⟩
    have hagg' : isAggD d = false := by simpa using hagg
    simp [Instr.loadAt, Instr.sureAddr, loadVar, run_isAgg' hu, hagg', run_load, cell_of hg, hu1]

/-! store -/
def putE (osz : Nat) (e : AVal) (j : Nat) (v : AVal) : AVal :=
  if j = 0 ∧ v.cells.length = osz then v else .agg (e.cells.take j ++ v.cells ++ e.cells.drop (j + v.cells.length))

def opStore (sz : Nat) (vs : List AVal) (H : Heap) (κ : Heap → Prop) : Prop :=
  ∃ a i j v o e, vs = [.ptr a i j, v] ∧ H a = some o ∧ o.ro = false ∧ o.es[i]? = some e ∧ v.solid = true ∧ v.cells.length = sz ∧ j + sz ≤ o.sz ∧
    κ (hset H a (some ⟨false, o.sz, o.es.set i (putE o.sz e j v)⟩))

theorem putE_cells {osz j : Nat} {e v : AVal} (h1 : e.cells.length = osz) (h2 : j + v.cells.length ≤ osz) :
    (putE osz e j v).cells.length = osz ∧ ∀ m, (putE osz e j v).cells[m]? = if j ≤ m ∧ m < j + v.cells.length then v.cells[m - j]? else e.cells[m]? := by
  unfold putE
  split
  · rename_i hc
    obtain ⟨rfl, hc⟩ := hc
    refine ⟨hc, fun m => ?_⟩
    by_cases hm : m < osz
    · rw [if_pos ⟨Nat.zero_le _, by omega⟩]; simp
    · rw [if_neg (by omega), List.getElem?_eq_none (by omega), List.getElem?_eq_none (by omega)]
  · refine ⟨by simp; omega, fun m => ?_⟩
    simp only [cells_agg]
    by_cases h3 : m < j
    · rw [if_neg (by omega), List.append_assoc, List.getElem?_append_left (by simp; omega)]
      rw [List.getElem?_take_of_lt h3]
    · by_cases h4 : m < j + v.cells.length
      · rw [if_pos ⟨by omega, h4⟩, List.append_assoc, List.getElem?_append_right (by simp; omega), List.getElem?_append_left (by simp; omega)]
        congr 1
        simp
        omega
      · rw [if_neg (by omega), List.getElem?_append_right (by simp; omega), List.getElem?_drop]
        congr 1
        simp
        omega

theorem store_ok {t : TypeId} {ti : TypeInfo} (hi : P.info? t = some ti) {vs : List AVal} {x y : Value} {ρ : Rho} {H : Heap} {w : World} {n : Nat} {κ : Heap → Prop}
    (h : opStore ti.size vs H κ) (hv : VRels ρ vs [x, y]) (hs : Sat ρ H w) (hf : Fresh ρ n) :
    ∃ w', (Instr.storeAt t x y).run P w = .ok () w' ∧ ∃ H', κ H' ∧ After ρ H w n ρ H' w' n := by
  obtain ⟨a, i, j, v, o, e, rfl, ha, hro, hie, hsol, hlen, hj, hk⟩ := h
  obtain ⟨x', y', hx', hr, hry⟩ := rels2 hv
  simp only [List.cons.injEq, and_true] at hx'
  obtain ⟨rfl, rfl⟩ := hx'
  simp only [VRel] at hr
  obtain ⟨blk, base, cap, sz, hρ, rfl⟩ := hr
  obtain ⟨hsz, cc, elem, fz, hg, hfree, hcap, hcapl, hh⟩ := hs.at ha hρ (.inl (by rintro q; rw [q] at hie; simp at hie))
  subst hsz
  obtain ⟨hlene, hcell⟩ := hh i e hie
  obtain ⟨hyc, hyo⟩ := VRel.cells hry hsol
  have hyl : y.cells.toList.length = ti.size := by rw [← hyc.length, hlen]
  have hyl' : y.cells.size = ti.size := by simpa using hyl
  have hil : i < o.es.length := (List.getElem?_eq_some_iff.1 hie).1
  have hmul : (i + 1) * o.sz ≤ cap * o.sz := Nat.mul_le_mul_right _ (by omega)
  have hmul' : (i + 1) * o.sz = i * o.sz + o.sz := by rw [Nat.add_mul, Nat.one_mul]
  have hrun := run_storeCells (P := P) (base + i * o.sz + j) y.cells.toList 0 cc w hg (hfree hro) (by omega) hyo
  refine ⟨wset w blk (.cells (put cc (base + i * o.sz + j + 0) y.cells.toList) elem fz), ?_, _, hk, ?_⟩
  · simp only [Instr.storeAt, Instr.sureAddr, Sem.run_bind, Sem.run_pure, Result.andThen_ok, storeVar, run_sizeOf' hi, hyl']
    simpa using hrun
  · refine hs.write hf ha hro (.inl (by intro q; have := congrArg List.length q; simp at this; rw [this] at hie; simp at hie)) hρ hg (by rw [put_size]) (by simp; omega) ?_
    intro i' e' he'
    obtain ⟨hp1, hp2⟩ := putE_cells (j := j) (v := v) hlene (by omega)
    by_cases hii : i' = i
    · subst hii
      simp only [List.getElem?_set_self hil, Option.some.injEq] at he'
      subst he'
      refine ⟨hp1, fun m z hz => ?_⟩
      rw [hp2] at hz
      by_cases hm : j ≤ m ∧ m < j + v.cells.length
      · rw [if_pos hm] at hz
        obtain ⟨u, hu1, hu2⟩ := hyc.get hz
        refine ⟨u, ?_, hu2⟩
        rw [← hu1, ← put_in y.cells.toList cc (base + i' * o.sz + j + 0) (m - j) (by omega) (by omega)]
        congr 1
        omega
      · rw [if_neg hm] at hz
        obtain ⟨u, hu1, hu2⟩ := hcell m z hz
        refine ⟨u, ?_, hu2⟩
        rw [put_out _ _ _ _ (by omega)]
        exact hu1
    · rw [List.getElem?_set_ne (Ne.symm hii)] at he'
      obtain ⟨h1, h2⟩ := hh i' e' he'
      refine ⟨h1, fun m z hz => ?_⟩
      obtain ⟨u, hu1, hu2⟩ := h2 m z hz
      refine ⟨u, ?_, hu2⟩
      have hmlt : m < o.sz := by have := (List.getElem?_eq_some_iff.1 hz).1; omega
      rw [put_out _ _ _ _ ?_]
      · exact hu1
      · rcases Nat.lt_or_gt_of_ne hii with q | q
        · have : (i' + 1) * o.sz ≤ i * o.sz := Nat.mul_le_mul_right _ q
          rw [Nat.add_mul, Nat.one_mul] at this
          left; omega
        · have : (i + 1) * o.sz ≤ i' * o.sz := Nat.mul_le_mul_right _ q
          right; omega

end Go.AM
/- AM, part 6: addresses, indexes, parts, boxes, literals, lengths. -/
set_option linter.unusedVariables false
namespace Go.AM
variable {P : Program}

def opFadr (off : Nat) (vs : List AVal) (κ : AVal → Prop) : Prop := ∃ a i j, vs = [.ptr a i j] ∧ κ (.ptr a i (j + off))
theorem fadr_ok {s : TypeId} {fs : Array Field} {f : Field} {k : Nat} {ti : TypeInfo} (hu : P.underlying s = some (.struct fs)) (hf : fs[k]? = some f) (hi : P.info? f.type = some ti) (hz : ti.size ≠ 0)
    {vs : List AVal} {x : Value} {ρ : Rho} {w : World} {κ : AVal → Prop} (h : opFadr f.offset vs κ) (hv : VRels ρ vs [x]) :
    ∃ v', (Instr.fieldAt s x k).run P w = .ok v' w ∧ ∃ v, κ v ∧ VRel ρ v v' := by
  obtain ⟨a, i, j, rfl, hk⟩ := h
  obtain ⟨x', hx', hr⟩ := rels1 hv
  simp only [List.cons.injEq, and_true] at hx'
  subst hx'
  simp only [VRel] at hr
  obtain ⟨blk, base, cap, sz, hρ, rfl⟩ := hr
  refine ⟨.pointer (some ⟨blk, base + i * sz + (j + f.offset), none⟩), ?_, _, hk, ?_⟩
  · simp [Instr.fieldAt, run_underlying' hu, hf, Instr.sureAddr, fieldPlace, run_sizeOf' hi, hz, add_mk, Nat.add_assoc]
  · simp only [VRel]; exact ⟨blk, base, cap, sz, hρ, rfl⟩

def opIadrS (sz : Nat) (vs : List AVal) (H : Heap) (κ : AVal → Prop) : Prop :=
  ∃ a off len k x o, vs = [.sl a off len, .i k x] ∧ 0 ≤ x ∧ x < len ∧ H a = some o ∧ o.sz = sz ∧ κ (.ptr a (off + x.toNat) 0)
theorem iadrS_ok {t e : TypeId} {ti : TypeInfo} (hu : P.underlying t = some (.slice e)) (hi : P.info? e = some ti) (hlt : ti.size < 18446744073709551616) {vs : List AVal} {x y : Value} {ρ : Rho} {H : Heap} {w : World} {κ : AVal → Prop}
    (h : opIadrS ti.size vs H κ) (hv : VRels ρ vs [x, y]) (hs : Sat ρ H w) : ∃ v', (Instr.indexAt t x y).run P w = .ok v' w ∧ ∃ v, κ v ∧ VRel ρ v v' := by
  obtain ⟨a, off, len, k, n, o, rfl, h0, h1, ha, hsz, hk⟩ := h
  obtain ⟨x', y', hx', hr, hry⟩ := rels2 hv
  simp only [List.cons.injEq, and_true] at hx'
  obtain ⟨rfl, rfl⟩ := hx'
  simp only [VRel] at hr hry
  subst hry
  rcases hr with ⟨_, rfl, _⟩ | ⟨blk, base, cap, sz, ad, cp, hρ, rfl, hle, hcp⟩
  · simp at h1; omega
  · have hcp0 : cp ≠ 0 := by intro e0; omega
    obtain ⟨rfl, hoc⟩ := hcp.resolve_left hcp0
    obtain ⟨hsz', _⟩ := hs.at ha hρ (.inr (by omega))
    refine ⟨.pointer (some ⟨blk, base + (off + n.toNat) * sz + 0, none⟩), ?_, _, hk, ?_⟩
    · simp [Instr.indexAt, asIntOf, run_underlying' hu, run_sizeOf' hi, h0, h1, add_mk]
      rw [← hsz, hsz', Nat.add_mul, Nat.add_assoc]
    · simp only [VRel]; exact ⟨blk, base, cap, sz, hρ, rfl⟩

def opIadrA (alen sz : Nat) (vs : List AVal) (κ : AVal → Prop) : Prop :=
  ∃ a i j k x, vs = [.ptr a i j, .i k x] ∧ 0 ≤ x ∧ x < alen ∧ κ (.ptr a i (j + x.toNat * sz))
theorem iadrA_ok {t e : TypeId} {alen : Nat} {ti : TypeInfo} (hu : P.underlying t = some (.array alen e)) (hi : P.info? e = some ti) {vs : List AVal} {x y : Value} {ρ : Rho} {w : World} {κ : AVal → Prop}
    (h : opIadrA alen ti.size vs κ) (hv : VRels ρ vs [x, y]) : ∃ v', (Instr.indexAt t x y).run P w = .ok v' w ∧ ∃ v, κ v ∧ VRel ρ v v' := by
  obtain ⟨a, i, j, k, n, rfl, h0, h1, hk⟩ := h
  obtain ⟨x', y', hx', hr, hry⟩ := rels2 hv
  simp only [List.cons.injEq, and_true] at hx'
  obtain ⟨rfl, rfl⟩ := hx'
  simp only [VRel] at hr hry
  subst hry
  obtain ⟨blk, base, cap, sz, hρ, rfl⟩ := hr
  refine ⟨.pointer (some ⟨blk, base + i * sz + (j + n.toNat * ti.size), none⟩), ?_, _, hk, ?_⟩
  · simp [Instr.indexAt, asIntOf, run_underlying' hu, run_sizeOf' hi, h0, h1, add_mk, Instr.sureAddr, Nat.add_assoc]
  · simp only [VRel]; exact ⟨blk, base, cap, sz, hρ, rfl⟩

def opIdxS (vs : List AVal) (κ : AVal → Prop) : Prop := ∃ l k x c, vs = [.s l, .i k x] ∧ 0 ≤ x ∧ l[x.toNat]? = some c ∧ κ (.i .u8 (c.toNat : Int))
theorem idxS_ok {t : TypeId} (hu : P.underlying t = some .string) {vs : List AVal} {x y : Value} {ρ : Rho} {w : World} {κ : AVal → Prop}
    (h : opIdxS vs κ) (hv : VRels ρ vs [x, y]) : ∃ v', (Instr.index t x y).run P w = .ok v' w ∧ ∃ v, κ v ∧ VRel ρ v v' := by
  obtain ⟨l, k, n, c, rfl, h0, h1, hk⟩ := h
  obtain ⟨x', y', hx', hr, hry⟩ := rels2 hv
  simp only [List.cons.injEq, and_true] at hx'
  obtain ⟨rfl, rfl⟩ := hx'
  simp only [VRel] at hr hry
  subst hry; subst hr
  have hb : (⟨l.toArray⟩ : ByteArray)[n.toNat]? = some c := by
    have hlt : n.toNat < l.length := (List.getElem?_eq_some_iff.1 h1).1
    have hlt' : n.toNat < (⟨l.toArray⟩ : ByteArray).size := by simpa [ByteArray.size] using hlt
    rw [getElem?_pos (⟨l.toArray⟩ : ByteArray) n.toNat hlt']
    simp [ByteArray.getElem_eq_getElem_data]
    rw [List.getElem?_eq_getElem hlt] at h1
    simpa using h1
  refine ⟨.int .u8 c.toNat, ?_, _, hk, rfl⟩
  simp [Instr.index, asIntOf, run_underlying' hu, h0, hb]

theorem extract_list {α : Type} (cs : Array α) (o n : Nat) : (cs.extract o (o + n)).toList = (cs.toList.drop o).take n := by
  simp [Array.toList_extract, List.extract_eq_take_drop]

theorem part_ok {t : TypeId} {d : TypeDesc} {ti : TypeInfo} (hu : P.underlying t = some d) (hi : P.info? t = some ti) {cs : List AVal} {vs : Array Value} {ρ : Rho} {w : World} {κ : AVal → Prop} {off : Nat}
    (hr : VRels ρ cs vs.toList) (hk : if isAggD d then κ (.agg ((cs.drop off).take ti.size)) else ∃ y, cs[off]? = some y ∧ κ y) :
    ∃ v', (part t vs off).run P w = .ok v' w ∧ ∃ v, κ v ∧ VRel ρ v v' := by
  by_cases hagg : isAggD d = true
  · rw [if_pos hagg] at hk
    refine ⟨.agg (vs.extract off (off + ti.size)), by simp [part, run_isAgg' hu, hagg, run_sizeOf' hi], _, hk, ?_⟩
    simp only [VRel, Value.agg.injEq]
    exact ⟨_, rfl, by rw [extract_list]; exact (hr.drop off).take _⟩
  · rw [if_neg hagg] at hk
    obtain ⟨y, hy, hκ⟩ := hk
    obtain ⟨u, hu1, hu2⟩ := hr.get hy
    have hagg' : isAggD d = false := by simpa using hagg
    have hu1' : vs[off]? = some u := by simpa using hu1
    exact ⟨u, by simp [part, run_isAgg' hu, hagg', hu1'], y, hκ, hu2⟩

def opIdxA (alen sz : Nat) (agg : Bool) (vs : List AVal) (κ : AVal → Prop) : Prop :=
  ∃ cs k x, vs = [.agg cs, .i k x] ∧ 0 ≤ x ∧ x < alen ∧ if agg then κ (.agg ((cs.drop (x.toNat * sz)).take sz)) else ∃ y, cs[x.toNat * sz]? = some y ∧ κ y
theorem idxA_ok {t e : TypeId} {alen : Nat} {d : TypeDesc} {ti : TypeInfo} (hu : P.underlying t = some (.array alen e)) (he : P.underlying e = some d) (hi : P.info? e = some ti) {vs : List AVal} {x y : Value} {ρ : Rho} {w : World} {κ : AVal → Prop}
    (h : opIdxA alen ti.size (isAggD d) vs κ) (hv : VRels ρ vs [x, y]) : ∃ v', (Instr.index t x y).run P w = .ok v' w ∧ ∃ v, κ v ∧ VRel ρ v v' := by
  obtain ⟨cs, k, n, rfl, h0, h1, hk⟩ := h
  obtain ⟨x', y', hx', hr, hry⟩ := rels2 hv
  simp only [List.cons.injEq, and_true] at hx'
  obtain ⟨rfl, rfl⟩ := hx'
  simp only [VRel] at hr hry
  subst hry
  obtain ⟨us, rfl, hr⟩ := hr
  obtain ⟨v', hv', hres⟩ := part_ok (w := w) he hi (off := n.toNat * ti.size) hr hk
  exact ⟨v', by simp [Instr.index, asIntOf, run_underlying' hu, h0, h1, run_sizeOf' hi, hv'], hres⟩

def opField (off sz : Nat) (agg : Bool) (vs : List AVal) (κ : AVal → Prop) : Prop :=
  ∃ cs, vs = [.agg cs] ∧ if agg then κ (.agg ((cs.drop off).take sz)) else ∃ y, cs[off]? = some y ∧ κ y
theorem field_ok {s : TypeId} {fs : Array Field} {f : Field} {k : Nat} {d : TypeDesc} {ti : TypeInfo} (hu : P.underlying s = some (.struct fs)) (hf : fs[k]? = some f) (he : P.underlying f.type = some d) (hi : P.info? f.type = some ti)
    {vs : List AVal} {x : Value} {ρ : Rho} {w : World} {κ : AVal → Prop} (h : opField f.offset ti.size (isAggD d) vs κ) (hv : VRels ρ vs [x]) :
    ∃ v', (Instr.field s x k).run P w = .ok v' w ∧ ∃ v, κ v ∧ VRel ρ v v' := by
  obtain ⟨cs, rfl, hk⟩ := h
  obtain ⟨x', hx', hr⟩ := rels1 hv
  simp only [List.cons.injEq, and_true] at hx'
  subst hx'
  simp only [VRel] at hr
  obtain ⟨us, rfl, hr⟩ := hr
  obtain ⟨v', hv', hres⟩ := part_ok (w := w) he hi (off := f.offset) hr hk
  exact ⟨v', by simp [Instr.field, run_underlying' hu, hf, asAgg, hv'], hres⟩

def opExtract (k : Nat) (vs : List AVal) (κ : AVal → Prop) : Prop := ∃ us y, vs = [.tup us] ∧ us[k]? = some y ∧ κ y
theorem extract_ok {k : Nat} {vs : List AVal} {x : Value} {ρ : Rho} {w : World} {κ : AVal → Prop} (h : opExtract k vs κ) (hv : VRels ρ vs [x]) :
    ∃ v', (Instr.extract x k).run P w = .ok v' w ∧ ∃ v, κ v ∧ VRel ρ v v' := by
  obtain ⟨us, y, rfl, hy, hk⟩ := h
  obtain ⟨x', hx', hr⟩ := rels1 hv
  simp only [List.cons.injEq, and_true] at hx'
  subst hx'
  simp only [VRel] at hr
  obtain ⟨zs, rfl, hr⟩ := hr
  obtain ⟨u, hu1, hu2⟩ := hr.get hy
  have hu1' : zs[k]? = some u := by simpa using hu1
  exact ⟨u, by simp [Instr.extract, hu1'], y, hk, hu2⟩

/-! a new variable -/
def opBox (vs : List AVal) (H : Heap) (n : Nat) (κ : Cont) : Prop :=
  ∃ v, vs = [v] ∧ v.solid = true ∧ κ (.ptr n 0 0) (hset H n (some ⟨false, v.cells.length, [v]⟩)) (n + 1)

theorem free_zero (n : Nat) : free (0, 0) n := .inl rfl

theorem newVar_ok {t : TypeId} {v : AVal} {x : Value} {ρ : Rho} {H : Heap} {w : World} {n : Nat} (hsol : v.solid = true) (hr : VRel ρ v x) (hs : Sat ρ H w) (hf : Fresh ρ n) :
    (newVar t x).run P w = .ok ⟨w.heap.size, 0, none⟩ { w with heap := w.heap.push (.cells x.cells t) } ∧
    After ρ H w n (rset ρ n (.at w.heap.size 0 1 v.cells.length)) (hset H n (some ⟨false, v.cells.length, [v]⟩)) { w with heap := w.heap.push (.cells x.cells t) } (n + 1) := by
  obtain ⟨hc, ho⟩ := VRel.cells hr hsol
  have hl : v.cells.length = x.cells.size := by simpa using hc.length
  refine ⟨by simp only [newVar]; exact run_newRow' _ _ _, hs.new hf (.inl (by simp)) (free_zero _) (by omega) (by simp) ?_⟩
  intro i e he
  cases i with
  | succ i => simp at he
  | zero =>
    simp at he
    subst he
    refine ⟨rfl, fun j y hy => ?_⟩
    obtain ⟨u, hu1, hu2⟩ := hc.get hy
    exact ⟨u, by simpa using hu1, hu2⟩

theorem box_ok {t : TypeId} {vs : List AVal} {x : Value} {ρ : Rho} {H : Heap} {w : World} {n : Nat} {κ : Cont} (h : opBox vs H n κ) (hv : VRels ρ vs [x]) (hs : Sat ρ H w) (hf : Fresh ρ n) :
    Comes' P (Instr.box t x) ρ H w n κ := by
  obtain ⟨v, rfl, hsol, hk⟩ := h
  obtain ⟨x', hx', hr⟩ := rels1 hv
  simp only [List.cons.injEq, and_true] at hx'
  subst hx'
  obtain ⟨h1, h2⟩ := newVar_ok (P := P) (t := t) hsol hr hs hf
  refine ⟨.pointer (some ⟨w.heap.size, 0, none⟩), { w with heap := w.heap.push (.cells x.cells t) }, ?_, _, _, _, _, hk, ?_, h2⟩
  · simp [Instr.box, h1]
  · simp only [VRel]; exact ⟨w.heap.size, 0, 1, v.cells.length, rset_same _ _ _, by simp⟩

theorem alloc_ok {t : TypeId} {ti : TypeInfo} (hi : P.info? t = some ti) {z : Value} (hz : ti.zero = some z) {v : AVal} {ρ : Rho} (hr : VRel ρ v z) {H : Heap} {w : World} {n : Nat} {κ : Cont}
    (h : opBox [v] H n κ) (hs : Sat ρ H w) (hf : Fresh ρ n) : Comes' P (Instr.alloc t true (.tuple #[])) ρ H w n κ := by
  obtain ⟨v', hv', hsol, hk⟩ := h
  simp only [List.cons.injEq, and_true] at hv'
  subst hv'
  obtain ⟨h1, h2⟩ := newVar_ok (P := P) (t := t) hsol hr hs hf
  refine ⟨.pointer (some ⟨w.heap.size, 0, none⟩), { w with heap := w.heap.push (.cells z.cells t) }, ?_, _, _, _, _, hk, ?_, h2⟩
  · simp [Instr.alloc, zeroValue, run_typeInfo' hi, hz, h1]
  · simp only [VRel]; exact ⟨w.heap.size, 0, 1, v.cells.length, rset_same _ _ _, by simp⟩

/-! literals of structs and arrays -/
def fillA (cells : List AVal) : List ((Nat × Nat) × AVal) → Option (List AVal)
  | [] => some cells
  | ((off, size), v) :: rest =>
    if v.solid = true ∧ v.cells.length = size ∧ off + size ≤ cells.length then fillA (cells.take off ++ v.cells ++ cells.drop (off + size)) rest else none

theorem foldl_put (vs : List Value) : ∀ (cc : Array Value) (off i : Nat), (vs.zipIdx i).foldl (fun cs (x : Value × Nat) => cs.setIfInBounds (off + x.2) x.1) cc = put cc (off + i) vs := by
  induction vs with
  | nil => intro cc off i; rfl
  | cons v vs ih =>
    intro cc off i
    simp only [List.zipIdx_cons, List.foldl_cons, put]
    rw [ih]
    rfl

theorem put_toList (cc : Array Value) (off : Nat) (vs : List Value) (h : off + vs.length ≤ cc.size) :
    (put cc off vs).toList = cc.toList.take off ++ vs ++ cc.toList.drop (off + vs.length) := by
  apply List.ext_getElem?
  intro k
  rw [Array.getElem?_toList]
  by_cases h1 : k < off
  · rw [put_out _ _ _ _ (.inl h1), List.append_assoc, List.getElem?_append_left (by simp; omega), List.getElem?_take_of_lt h1, Array.getElem?_toList]
  · by_cases h2 : k < off + vs.length
    · have := put_in vs cc off (k - off) h (by omega)
      rw [show off + (k - off) = k from by omega] at this
      rw [this, List.append_assoc, List.getElem?_append_right (by simp; omega), List.getElem?_append_left (by simp; omega)]
      congr 1
      simp; omega
    · rw [put_out _ _ _ _ (.inr (by omega)), List.getElem?_append_right (by simp; omega), List.getElem?_drop, Array.getElem?_toList]
      congr 1
      simp; omega

theorem fill_ok {ρ : Rho} (place : Nat → Option (Nat × Nat)) : ∀ (parts : List ((Nat × Nat) × AVal)) (vparts : List (Nat × Value)) (cells : List AVal) (cc : Array Value) (out : List AVal),
    fillA cells parts = some out → VRels ρ cells cc.toList → parts.length = vparts.length →
    (∀ (m : Nat) (p : (Nat × Nat) × AVal) (q : Nat × Value), parts[m]? = some p → vparts[m]? = some q → place q.1 = some p.1 ∧ VRel ρ p.2 q.2) →
    ∃ cc', Instr.fill place cc vparts = some cc' ∧ VRels ρ out cc'.toList
  | [], [], cells, cc, out, h, hr, _, _ => by
    simp only [fillA, Option.some.injEq] at h
    subst h
    exact ⟨cc, rfl, hr⟩
  | [], _ :: _, _, _, _, _, _, hl, _ => by simp at hl
  | _ :: _, [], _, _, _, _, _, hl, _ => by simp at hl
  | ((off, size), v) :: rest, (q, x) :: vrest, cells, cc, out, h, hr, hl, hm => by
    simp only [fillA] at h
    split at h
    · rename_i hc
      obtain ⟨hsol, hvl, hoff⟩ := hc
      obtain ⟨hpl, hvr⟩ := hm 0 ((off, size), v) (q, x) (by simp) (by simp)
      simp only at hpl hvr
      obtain ⟨hcs, _⟩ := VRel.cells hvr hsol
      have hxl : x.cells.toList.length = size := by rw [← hcs.length, hvl]
      have hxl' : x.cells.size = size := by simpa using hxl
      have hccl : cells.length = cc.size := by simpa using hr.length
      have hput := put_toList cc off x.cells.toList (by omega)
      obtain ⟨cc', h1, h2⟩ := fill_ok place rest vrest (cells.take off ++ v.cells ++ cells.drop (off + size)) (put cc off x.cells.toList) out h
        (by rw [hput, hxl]; exact ((hr.take off).append hcs).append (hr.drop _)) (by simpa using hl)
        (fun m p q hp hq => hm (m + 1) p q (by simpa using hp) (by simpa using hq))
      refine ⟨cc', ?_, h2⟩
      simp only [Instr.fill, hpl, hxl']
      rw [if_neg (by simp; omega), ← h1]
      congr 1
      have := foldl_put x.cells.toList cc off 0
      simp only [Nat.add_zero] at this
      rw [← this, ← Array.foldl_toList]
      simp
    · exact absurd h (by simp)

end Go.AM
/- AM, part 7: literals, lengths, least and greatest, nil checks, slices. -/
set_option linter.unusedVariables false
namespace Go.AM
variable {P : Program}

/-- A literal of a struct or an array: where each part lies is known. -/
def opBuild (zero : List AVal) (places : List (Nat × Nat)) (vs : List AVal) (κ : AVal → Prop) : Prop :=
  vs.length = places.length ∧ ∃ out, fillA zero (places.zip vs) = some out ∧ κ (.agg out)

theorem zip_get {α β : Type} : ∀ (l : List α) (m : List β) (k : Nat) (p : α × β), (l.zip m)[k]? = some p → l[k]? = some p.1 ∧ m[k]? = some p.2
  | [], _, k, p, h => by simp at h
  | _ :: _, [], k, p, h => by simp at h
  | a :: l, b :: m, 0, p, h => by simp at h; subst h; simp
  | a :: l, b :: m, k + 1, p, h => by simpa using zip_get l m k p (by simpa using h)

/-- What the machine is told of a literal's parts: the index of each, and where that lies. -/
def placesOf (P : Program) (t : TypeId) (idx : List Nat) : Option (List (Nat × Nat)) :=
  match P.underlying t with
  | some (.struct fs) => (fs.toList.mapM fun f => (P.info? f.type).map fun ti => (f.offset, ti.size)).bind fun ps => idx.mapM fun i => ps[i]?
  | some (.array _ e) => (P.info? e).map fun ti => idx.map fun i => (i * ti.size, ti.size)
  | _ => none

theorem mapM_opt_get {α β : Type} (f : α → Option β) : ∀ (l : List α) (m : List β), l.mapM f = some m → m.length = l.length ∧ ∀ (k : Nat) (x : α), l[k]? = some x → ∃ y : β, m[k]? = some y ∧ f x = some y
  | [], m, h => by simp at h; subst h; simp
  | a :: l, m, h => by
    simp only [List.mapM_cons, Option.bind_eq_bind, Option.bind_eq_some_iff, Option.pure_def, Option.some.injEq] at h
    obtain ⟨b, hb, m', hm, rfl⟩ := h
    obtain ⟨h1, h2⟩ := mapM_opt_get f l m' hm
    refine ⟨by simp [h1], fun k x hx => ?_⟩
    cases k with
    | zero => simp at hx; subst hx; exact ⟨b, by simp, hb⟩
    | succ k => obtain ⟨y, hy, hf⟩ := h2 k x (by simpa using hx); exact ⟨y, by simpa using hy, hf⟩

theorem run_mapM {α β : Type} (w : World) (f : α → Sem β) (g : α → Option β) (hfg : ∀ a b, g a = some b → (f a).run P w = .ok b w) :
    ∀ (l : List α) (m : List β), l.mapM g = some m → (l.mapM f).run P w = .ok m w
  | [], m, h => by simp at h; subst h; rfl
  | a :: l, m, h => by
    simp only [List.mapM_cons, Option.bind_eq_bind, Option.bind_eq_some_iff, Option.pure_def, Option.some.injEq] at h
    obtain ⟨b, hb, m', hm, rfl⟩ := h
    simp only [List.mapM_cons, Sem.run_bind, hfg a b hb, Result.andThen_ok, run_mapM w f g hfg l m' hm, Sem.run_pure]

theorem build_ok {t : TypeId} {ti : TypeInfo} {z : Value} {zero : List AVal} {idx : List Nat} {places : List (Nat × Nat)} (hi : P.info? t = some ti) (hz : ti.zero = some z)
    (hp : placesOf P t idx = some places) {vs : List AVal} {xs : List Value} {ρ : Rho} {w : World} {κ : AVal → Prop}
    (hzr : VRels ρ zero z.cells.toList) (h : opBuild zero places vs κ) (hv : VRels ρ vs xs) (parts : Array (Nat × Value)) (hparts : parts.toList = idx.zip xs) (hlen : idx.length = xs.length) :
    ∃ v', (Instr.build t parts).run P w = .ok v' w ∧ ∃ v, κ v ∧ VRel ρ v v' := by
  obtain ⟨hl, out, hfill, hk⟩ := h
  have hxl := hv.length
  unfold placesOf at hp
  cases hu : P.underlying t with
  | none => rw [hu] at hp; exact absurd hp (by simp)
  | some d =>
    rw [hu] at hp
    cases d with
    | struct fs =>
      simp only [Option.bind_eq_some_iff] at hp
      obtain ⟨ps, hps, hidx⟩ := hp
      obtain ⟨hpl, hpg⟩ := mapM_opt_get _ _ _ hidx
      obtain ⟨cc', hf1, hf2⟩ := fill_ok (ρ := ρ) (fun i => ps[i]?) (places.zip vs) parts.toList zero z.cells out hfill hzr (by rw [hparts]; simp; omega)
        (fun m p q h1 h2 => by
          obtain ⟨a1, a2⟩ := zip_get _ _ _ _ h1
          rw [hparts] at h2
          obtain ⟨b1, b2⟩ := zip_get _ _ _ _ h2
          obtain ⟨y, hy, hpy⟩ := hpg m q.1 b1
          rw [a1] at hy
          simp only [Option.some.injEq] at hy
          obtain ⟨u, hu1, hu2⟩ := hv.get a2
          rw [b2] at hu1
          simp only [Option.some.injEq] at hu1
          subst hu1
          exact ⟨by rw [hpy, hy], hu2⟩)
      refine ⟨.agg cc', ?_, _, hk, by simp only [VRel, Value.agg.injEq]; exact ⟨cc', rfl, hf2⟩⟩
      have hrun : (fs.mapM fun f => Prod.mk f.offset <$> sizeOf f.type : Sem (Array (Nat × Nat))).run P w = .ok ps.toArray w := by
        have := run_mapM (P := P) w (fun f : Field => (Prod.mk f.offset <$> sizeOf f.type : Sem (Nat × Nat))) (fun f => (P.info? f.type).map fun ti => (f.offset, ti.size)) (fun f b hb => by
          simp only [Option.map_eq_some_iff] at hb
          obtain ⟨ti', h1, rfl⟩ := hb
          simp [run_sizeOf' h1]) fs.toList ps hps
        rw [Array.mapM_eq_mapM_toList]
        simp only [Sem.run_map, this, Result.andThen_ok]
      simp [Instr.build, zeroValue, run_typeInfo' hi, hz, run_underlying' hu, hrun, hf1]
    | array alen e =>
      simp only [Option.map_eq_some_iff] at hp
      obtain ⟨te, hte, rfl⟩ := hp
      obtain ⟨cc', hf1, hf2⟩ := fill_ok (ρ := ρ) (fun i => some (i * te.size, te.size)) _ parts.toList zero z.cells out hfill hzr (by rw [hparts]; simp; simp at hl; omega)
        (fun m p q h1 h2 => by
          obtain ⟨a1, a2⟩ := zip_get _ _ _ _ h1
          rw [hparts] at h2
          obtain ⟨b1, b2⟩ := zip_get _ _ _ _ h2
          simp [b1] at a1
          obtain ⟨u, hu1, hu2⟩ := hv.get a2
          rw [b2] at hu1
          simp only [Option.some.injEq] at hu1
          subst hu1
          exact ⟨by simpa using a1, hu2⟩)
      refine ⟨.agg cc', ?_, _, hk, by simp only [VRel, Value.agg.injEq]; exact ⟨cc', rfl, hf2⟩⟩
      simp [Instr.build, zeroValue, run_typeInfo' hi, hz, run_underlying' hu, run_sizeOf' hte, hf1]
    | _ => exact absurd hp (by simp)

/-! a literal of a slice, whole: one part for each element, in their order -/
def opBuildSlice (sz : Nat) (vs : List AVal) (H : Heap) (n : Nat) (κ : Cont) : Prop :=
  (∀ v ∈ vs, v.solid = true ∧ v.cells.length = sz) ∧ vs.length * sz ≤ 16777216 ∧ κ (.sl n 0 vs.length) (hset H n (some ⟨false, sz, vs⟩)) (n + 1)

theorem fill_all (sz : Nat) : ∀ (xs : List Value) (k : Nat) (cc : Array Value), (∀ x ∈ xs, x.cells.size = sz) → (k + xs.length) * sz ≤ cc.size →
    ∃ cc', Instr.fill (fun i => some (i * sz, sz)) cc ((List.range' k xs.length).zip xs) = some cc' ∧ cc'.size = cc.size ∧
      (∀ m, m < k * sz → cc'[m]? = cc[m]?) ∧ ∀ (i : Nat) (x : Value), xs[i]? = some x → ∀ j, j < sz → cc'[(k + i) * sz + j]? = x.cells[j]?
  | [], k, cc, _, _ => ⟨cc, rfl, rfl, fun _ _ => rfl, fun i x h => by simp at h⟩
  | x :: xs, k, cc, hx, hl => by
    have hxs := hx x (by simp)
    have e1 : (k + (xs.length + 1)) * sz = k * sz + (xs.length + 1) * sz := Nat.add_mul _ _ _
    have e2 : (xs.length + 1) * sz = xs.length * sz + sz := by rw [Nat.add_mul, Nat.one_mul]
    have e3 : (k + 1 + xs.length) * sz = k * sz + sz + xs.length * sz := by rw [Nat.add_mul, Nat.add_mul, Nat.one_mul]
    have e4 : (k + 1) * sz = k * sz + sz := by rw [Nat.add_mul, Nat.one_mul]
    simp only [List.length_cons] at hl
    obtain ⟨cc', h1, h2, h3, h4⟩ := fill_all sz xs (k + 1) (put cc (k * sz) x.cells.toList) (fun y hy => hx y (by simp [hy])) (by rw [put_size]; omega)
    refine ⟨cc', ?_, by rw [h2, put_size], fun m hm => ?_, fun i y hy j hj => ?_⟩
    · simp only [List.length_cons, List.range'_succ, List.zip_cons_cons, Instr.fill, hxs]
      rw [if_neg (by simp; omega), ← h1]
      congr 1
      have := foldl_put x.cells.toList cc (k * sz) 0
      simp only [Nat.add_zero] at this
      rw [← this, ← Array.foldl_toList]
      simp
    · rw [h3 m (by omega), put_out _ _ _ _ (.inl hm)]
    · cases i with
      | zero =>
        simp at hy
        subst hy
        have := put_in x.cells.toList cc (k * sz) j (by simp; omega) (by simp; omega)
        rw [Nat.add_zero, h3 _ (by omega), this]
        simp
      | succ i =>
        have := h4 i y (by simpa using hy) j hj
        rw [← this, show k + (i + 1) = k + 1 + i from by omega]

theorem buildSlice_ok {t e : TypeId} {ti : TypeInfo} {z : Value} (hu : P.underlying t = some (.slice e)) (hi : P.info? e = some ti) (hz : ti.zero = some z) (hlt : ti.size < 18446744073709551616) (hzs : ti.size = 0 ∨ z.cells.size = ti.size)
    {vs : List AVal} {xs : List Value} {ρ : Rho} {H : Heap} {w : World} {n : Nat} {κ : Cont} (h : opBuildSlice ti.size vs H n κ) (hv : VRels ρ vs xs) (hs : Sat ρ H w) (hf : Fresh ρ n)
    (parts : Array (Nat × Value)) (hparts : parts.toList = (List.range xs.length).zip xs) : Comes' P (Instr.buildSlice t xs.length parts) ρ H w n κ := by
  obtain ⟨hsol, hbig, hk⟩ := h
  have hxl := hv.length
  have hcells : ∀ x ∈ xs, x.cells.size = ti.size := by
    intro x hx
    obtain ⟨j, hj⟩ := List.mem_iff_getElem?.1 hx
    have hlt : j < xs.length := (List.getElem?_eq_some_iff.1 hj).1
    obtain ⟨u, hu1, hu2⟩ := hv.get (j := j) (y := vs[j]'(by rw [hxl]; exact hlt)) (by simp [hxl, hlt])
    rw [hj] at hu1
    simp only [Option.some.injEq] at hu1
    subst hu1
    obtain ⟨hso, hsl⟩ := hsol (vs[j]'(by rw [hxl]; exact hlt)) (List.getElem_mem _)
    have := (VRel.cells hu2 hso).1.length
    rw [hsl] at this
    simpa using this.symm
  let zero : Array Value := if xs.length * ti.size = 0 then #[] else z.cells
  let cc0 : Array Value := (Array.range (xs.length * ti.size)).map (zero[· % zero.size]!)
  obtain ⟨cc', hf1, hf2, _, hf4⟩ := fill_all ti.size xs 0 cc0 hcells (by simp [cc0])
  have hsize : cc'.size = xs.length * ti.size := by rw [hf2]; simp [cc0]
  have hnew := hs.new hf (.inr hlt) (cc := cc') (t := e) (fz := (0, 0)) (sz := ti.size) (cap := xs.length) (es := vs) (free_zero _) (by omega) (by omega) (by
    intro i y hy
    have hlt : i < vs.length := (List.getElem?_eq_some_iff.1 hy).1
    obtain ⟨u, hu1, hu2⟩ := hv.get hy
    obtain ⟨hso, hsl⟩ := hsol y (List.mem_of_getElem? hy)
    refine ⟨hsl, fun j q hq => ?_⟩
    have hj : j < ti.size := by have := (List.getElem?_eq_some_iff.1 hq).1; omega
    obtain ⟨r, hr1, hr2⟩ := (VRel.cells hu2 hso).1.get hq
    refine ⟨r, ?_, hr2⟩
    have := hf4 i u hu1 j hj
    rw [Nat.zero_add] at this ⊢
    rw [this]
    simpa using hr1)
  refine ⟨.slice (some ⟨w.heap.size, 0, none⟩) xs.length xs.length, { w with heap := w.heap.push (.cells cc' e) }, ?_, _, _, _, _, hk, ?_, hnew⟩
  · have hparts' : Instr.fill (fun i => some (i * ti.size, ti.size)) cc0 parts.toList = some cc' := by rw [hparts, List.range_eq_range']; exact hf1
    have hbig' : ¬ xs.length * ti.size > 2 ^ 24 := by rw [← hxl]; simp; omega
    have hgo : ∀ z0 : Array Value, z0 = zero → (match Instr.fill (fun i => some (i * ti.size, ti.size)) (Array.map (fun x => z0[x % z0.size]!) (Array.range (xs.length * ti.size))) parts.toList with
          | some cells => do
            let r ← newRow e cells
            pure (Value.slice (some r) xs.length xs.length)
          | x => stuck "buildSlice: a part of the wrong size" : Sem Value).run P w =
        .ok (Value.slice (some { block := w.heap.size, off := 0 }) xs.length xs.length) { w with heap := w.heap.push (Obj.cells cc' e) } := by
      rintro z0 rfl
      simp only [cc0] at hparts'
      simp only [hparts', Sem.run_bind, run_newRow', Result.andThen_ok, Sem.run_pure]
    unfold Instr.buildSlice
    simp only [Sem.run_bind, run_underlying' hu, Result.andThen_ok, run_sizeOf' hi, if_neg hbig']
    by_cases h0 : xs.length * ti.size = 0
    · rw [if_pos h0]
      simp only [Sem.run_bind, Sem.run_pure, Result.andThen_ok]
      exact hgo _ (by simp only [zero, if_pos h0])
    · rw [if_neg h0]
      simp only [Sem.run_bind, zeroValue, run_typeInfo' hi, Result.andThen_ok, hz, Sem.run_pure]
      exact hgo _ (by simp only [zero, if_neg h0])
  · simp only [VRel]
    exact .inr ⟨w.heap.size, 0, xs.length, ti.size, ⟨w.heap.size, 0, none⟩, xs.length, rset_same _ _ _, by rw [hxl], by omega, .inr ⟨by simp, by omega⟩⟩

/-! lengths -/
def opLen (vs : List AVal) (κ : AVal → Prop) : Prop :=
  (∃ l, vs = [.s l] ∧ κ (.i .i64 (l.length : Int))) ∨ (∃ a off len, vs = [.sl a off len] ∧ κ (.i .i64 (len : Int))) ∨
  (∃ len cap, vs = [.c (.slice none len cap)] ∧ κ (.i .i64 (len : Int)))
theorem len_ok {t : TypeId} {d : TypeDesc} (hu : P.underlying t = some d) (hd : (match d with | .string | .slice _ => true | _ => false) = true) {ty : TypeId} {ats : Array TypeId} (ha : ats[0]? = some t) {vs : List AVal} {x : Value} {ρ : Rho} {w : World} {κ : AVal → Prop}
    (hstr : d = .string → ∃ l, vs = [.s l]) (hsl : ∀ e, d = .slice e → ¬ ∃ l, vs = [.s l])
    (h : opLen vs κ) (hv : VRels ρ vs [x]) : ∃ v', (Builtin.len_ ats ty #[x]).run P w = .ok v' w ∧ ∃ v, κ v ∧ VRel ρ v v' := by
  rcases h with ⟨l, rfl, hk⟩ | ⟨a, off, len, rfl, hk⟩ | ⟨len, cap, rfl, hk⟩
  · obtain ⟨x', hx', hr⟩ := rels1 hv
    simp only [List.cons.injEq, and_true] at hx'
    subst hx'
    simp only [VRel] at hr
    subst hr
    cases d <;> simp at hd
    · have hsz : (⟨l.toArray⟩ : ByteArray).size = l.length := by show l.toArray.size = _; simp
      exact ⟨.int .i64 l.length, by simp [Builtin.len_, ha, run_underlying' hu, goInt, hsz], _, hk, rfl⟩
    · rename_i e
      exact absurd ⟨l, rfl⟩ (hsl e rfl)
  · obtain ⟨x', hx', hr⟩ := rels1 hv
    simp only [List.cons.injEq, and_true] at hx'
    subst hx'
    simp only [VRel] at hr
    cases d <;> simp at hd
    · obtain ⟨l, hl⟩ := hstr rfl; simp at hl
    · rcases hr with ⟨_, rfl, rfl⟩ | ⟨_, _, _, _, _, _, _, rfl, _⟩
      · exact ⟨_, by simp [Builtin.len_, ha, run_underlying' hu, goInt], _, hk, rfl⟩
      · exact ⟨_, by simp [Builtin.len_, ha, run_underlying' hu, goInt], _, hk, rfl⟩
  · obtain ⟨x', hx', hr⟩ := rels1 hv
    simp only [List.cons.injEq, and_true] at hx'
    subst hx'
    simp only [VRel] at hr
    subst hr
    cases d <;> simp at hd
    · obtain ⟨l, hl⟩ := hstr rfl; simp at hl
    · exact ⟨_, by simp [Builtin.len_, ha, run_underlying' hu, goInt], _, hk, rfl⟩

end Go.AM
