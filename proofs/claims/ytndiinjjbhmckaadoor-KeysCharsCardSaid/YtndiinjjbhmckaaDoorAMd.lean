/- AM, part 16: how the abstract machine is run by simp: no function stands behind an operation, only what is left of the code. -/
import Derived.Test.YtndiinjjbhmckaaDoorAMc
import Derived.Below
set_option linter.all false
set_option linter.unusedVariables false
namespace Go.AM

@[simp] theorem ev_t (e : Env) (n : Nat) : ev e (.t n) = e n := rfl
@[simp] theorem ev_k (e : Env) (v : AVal) : ev e (.k v) = v := rfl
@[simp] theorem eset_none (e : Env) (v : AVal) : eset e none v = e := rfl
@[simp] theorem eset_apply (e : Env) (d : Nat) (v : AVal) (x : Nat) : eset e (some d) v x = if x = d then v else e x := rfl
@[simp] theorem argE_nil (x : Nat) : argE [] x = .junk := rfl
@[simp] theorem argE_cons (v : AVal) (vs : List AVal) (x : Nat) : argE (v :: vs) x = if x = 0 then v else argE vs (x - 1) := rfl
@[simp] theorem mkE_nil (x : Nat) : mkE [] x = .junk := rfl
@[simp] theorem mkE_cons (k : Nat) (v : AVal) (r : List (Nat × AVal)) (x : Nat) : mkE ((k, v) :: r) x = if x = k then v else mkE r x := rfl

def evs (e : Env) : List Opd → List AVal
  | [] => []
  | x :: xs => ev e x :: evs e xs
theorem evs_eq (e : Env) : ∀ xs, evs e xs = xs.map (ev e)
  | [] => rfl
  | x :: xs => by simp [evs, evs_eq e xs]
@[simp] theorem evs_nil (e : Env) : evs e [] = [] := rfl
@[simp] theorem evs_cons (e : Env) (x : Opd) (xs : List Opd) : evs e (x :: xs) = ev e x :: evs e xs := rfl

def wr : Option Bool → AVal → AVal
  | none, v => v
  | some c, v => .when c v
@[simp] theorem wr_none (v : AVal) : wr none v = v := rfl
@[simp] theorem wr_some (c : Bool) (v : AVal) : wr (some c) v = .when c v := rfl

abbrev K3 := Env → Heap → Nat → Prop
section defs
variable (Γ : FuncId → Spec)
/-- An operation on values, and what is left of its region. -/
def opK (op : IOp) (vals : List AVal) (md : Option Bool) (d : Option Nat) (is : List Ins) (K : K3) (e : Env) (H : Heap) (n : Nat) : Prop :=
  istep Γ op vals H n fun v H' n' => match md with
    | none => WPs Γ is K (eset e d v) H' n'
    | some c => WPs Γ is K (eset e d (.when c v)) H n
/-- What is left, as what comes behind a call. -/
def contK (is : List Ins) (K : K3) (e : Env) (d : Option Nat) : Cont := fun v H' n' => WPs Γ is K (eset e d v) H' n'
@[simp] theorem contK_apply (is : List Ins) (K : K3) (e : Env) (d : Option Nat) (v : AVal) (H : Heap) (n : Nat) : contK Γ is K e d v H n = WPs Γ is K (eset e d v) H n := rfl

@[simp] theorem WPs_nil (K : K3) (e : Env) (H : Heap) (n : Nat) : WPs Γ [] K e H n = K e H n := rfl
@[simp] theorem WPs_cons (d : Option Nat) (op : IOp) (xs : List Opd) (is : List Ins) (K : K3) (e : Env) (H : Heap) (n : Nat) :
    WPs Γ (⟨d, op, xs, none⟩ :: is) K e H n = opK Γ op (evs e xs) none d is K e H n := by rw [evs_eq]; rfl

def unws : List AVal → List AVal
  | [] => []
  | x :: xs => unw x :: unws xs
def gofs : List AVal → Bool
  | [] => true
  | x :: xs => gof x && gofs xs
@[simp] theorem unws_nil : unws [] = [] := rfl
@[simp] theorem unws_cons (x : AVal) (xs : List AVal) : unws (x :: xs) = unw x :: unws xs := rfl
@[simp] theorem gofs_nil : gofs [] = true := rfl
@[simp] theorem gofs_cons (x : AVal) (xs : List AVal) : gofs (x :: xs) = (gof x && gofs xs) := rfl
theorem unws_eq : ∀ xs, unws xs = xs.map unw
  | [] => rfl
  | x :: xs => by simp [unws, unws_eq xs]
theorem unws_evs (e : Env) : ∀ xs, unws (evs e xs) = xs.map fun y => unw (ev e y)
  | [] => rfl
  | x :: xs => by simp [unws, evs, unws_evs e xs]
theorem gofs_evs (e : Env) : ∀ xs, gofs (evs e xs) = (xs.map fun y => gof (ev e y)).all id
  | [] => rfl
  | x :: xs => by simp [gofs, evs, gofs_evs e xs]

def gofP (g x y : AVal) : Bool := match g with | .b p => if p then gof x else gof y | _ => false
@[simp] theorem gofP_b (p : Bool) (x y : AVal) : gofP (.b p) x y = if p then gof x else gof y := rfl
theorem gofsOp_ne {op : IOp} {vs : List AVal} (h : (match op with | .pick => false | _ => true) = true) : gofsOp op vs = gofs vs := by
  have : vs.all gof = gofs vs := by
    clear h
    induction vs with
    | nil => rfl
    | cons v vs ih => simp only [List.all_cons, gofs, ih]
  unfold gofsOp
  split
  · simp at h
  · exact this
@[simp] theorem gofsOp_store (sz : Nat) (vs : List AVal) : gofsOp (.store sz) vs = gofs vs := gofsOp_ne rfl
@[simp] theorem gofsOp_iadrS (sz : Nat) (vs : List AVal) : gofsOp (.iadrS sz) vs = gofs vs := gofsOp_ne rfl
@[simp] theorem gofsOp_iadrA (l sz : Nat) (vs : List AVal) : gofsOp (.iadrA l sz) vs = gofs vs := gofsOp_ne rfl
@[simp] theorem gofsOp_idxS  (vs : List AVal) : gofsOp (.idxS) vs = gofs vs := gofsOp_ne rfl
@[simp] theorem gofsOp_box  (vs : List AVal) : gofsOp (.box) vs = gofs vs := gofsOp_ne rfl
@[simp] theorem gofsOp_alloc (z : AVal) (vs : List AVal) : gofsOp (.alloc z) vs = gofs vs := gofsOp_ne rfl
@[simp] theorem gofsOp_build (z : List AVal) (ps : List (Nat × Nat)) (vs : List AVal) : gofsOp (.build z ps) vs = gofs vs := gofsOp_ne rfl
@[simp] theorem gofsOp_buildSlice (sz : Nat) (vs : List AVal) : gofsOp (.buildSlice sz) vs = gofs vs := gofsOp_ne rfl
@[simp] theorem gofsOp_nilchk  (vs : List AVal) : gofsOp (.nilchk) vs = gofs vs := gofsOp_ne rfl
@[simp] theorem gofsOp_sliceStr (lo hi : Bool) (vs : List AVal) : gofsOp (.sliceStr lo hi) vs = gofs vs := gofsOp_ne rfl
@[simp] theorem gofsOp_sliceSl (sz : Nat) (lo hi : Bool) (vs : List AVal) : gofsOp (.sliceSl sz lo hi) vs = gofs vs := gofsOp_ne rfl
@[simp] theorem gofsOp_sliceArr (l sz : Nat) (vs : List AVal) : gofsOp (.sliceArr l sz) vs = gofs vs := gofsOp_ne rfl
@[simp] theorem gofsOp_append (sz b : Nat) (vs : List AVal) : gofsOp (.append sz b) vs = gofs vs := gofsOp_ne rfl
@[simp] theorem gofsOp_strOf  (vs : List AVal) : gofsOp (.strOf) vs = gofs vs := gofsOp_ne rfl
@[simp] theorem gofsOp_bytesOf  (vs : List AVal) : gofsOp (.bytesOf) vs = gofs vs := gofsOp_ne rfl
@[simp] theorem gofsOp_call (f : FuncId) (vs : List AVal) : gofsOp (.call f) vs = gofs vs := gofsOp_ne rfl
@[simp] theorem gofsOp_callv  (vs : List AVal) : gofsOp (.callv) vs = gofs vs := gofsOp_ne rfl
@[simp] theorem gofsOp_mkfn (f : Fn) (k : Nat) (vs : List AVal) : gofsOp (.mkfn f k) vs = gofs vs := gofsOp_ne rfl
@[simp] theorem gofsOp_never  (vs : List AVal) : gofsOp (.never) vs = gofs vs := gofsOp_ne rfl
@[simp] theorem gofsOp_seal  (vs : List AVal) : gofsOp (.sealB) vs = gofs vs := gofsOp_ne rfl
@[simp] theorem gofsOp_slnil (p : Bool) (vs : List AVal) : gofsOp (.slnil p) vs = gofs vs := gofsOp_ne rfl
@[simp] theorem gofsOp_range  (vs : List AVal) : gofsOp (.range) vs = gofs vs := gofsOp_ne rfl
@[simp] theorem gofsOp_next  (vs : List AVal) : gofsOp (.next) vs = gofs vs := gofsOp_ne rfl
@[simp] theorem gofsOp_make (sz b : Nat) (z : AVal) (vs : List AVal) : gofsOp (.make sz b z) vs = gofs vs := gofsOp_ne rfl
@[simp] theorem gofsOp_mv (vs : List AVal) : gofsOp .mv vs = gofs vs := gofsOp_ne rfl
@[simp] theorem gofsOp_bin (o : BinOp) (vs : List AVal) : gofsOp (.bin o) vs = gofs vs := gofsOp_ne rfl
@[simp] theorem gofsOp_not (vs : List AVal) : gofsOp .not vs = gofs vs := gofsOp_ne rfl
@[simp] theorem gofsOp_neg (vs : List AVal) : gofsOp .neg vs = gofs vs := gofsOp_ne rfl
@[simp] theorem gofsOp_conv (k : IntKind) (vs : List AVal) : gofsOp (.conv k) vs = gofs vs := gofsOp_ne rfl
@[simp] theorem gofsOp_beq (p : Bool) (vs : List AVal) : gofsOp (.beq p) vs = gofs vs := gofsOp_ne rfl
@[simp] theorem gofsOp_peq (p : Bool) (vs : List AVal) : gofsOp (.peq p) vs = gofs vs := gofsOp_ne rfl
@[simp] theorem gofsOp_load (s : Nat) (p : Bool) (vs : List AVal) : gofsOp (.load s p) vs = gofs vs := gofsOp_ne rfl
@[simp] theorem gofsOp_fadr (s : Nat) (vs : List AVal) : gofsOp (.fadr s) vs = gofs vs := gofsOp_ne rfl
@[simp] theorem gofsOp_field (o s : Nat) (p : Bool) (vs : List AVal) : gofsOp (.field o s p) vs = gofs vs := gofsOp_ne rfl
@[simp] theorem gofsOp_extract (s : Nat) (vs : List AVal) : gofsOp (.extract s) vs = gofs vs := gofsOp_ne rfl
@[simp] theorem gofsOp_lenStr (vs : List AVal) : gofsOp .lenStr vs = gofs vs := gofsOp_ne rfl
@[simp] theorem gofsOp_lenSl (vs : List AVal) : gofsOp .lenSl vs = gofs vs := gofsOp_ne rfl
@[simp] theorem gofsOp_min (vs : List AVal) : gofsOp .min vs = gofs vs := gofsOp_ne rfl
@[simp] theorem gofsOp_max (vs : List AVal) : gofsOp .max vs = gofs vs := gofsOp_ne rfl
@[simp] theorem gofsOp_idxA (l s : Nat) (p : Bool) (vs : List AVal) : gofsOp (.idxA l s p) vs = gofs vs := gofsOp_ne rfl
@[simp] theorem gofsOp_pick (g x y : AVal) : gofsOp .pick [g, x, y] = (gof g && gofP (unw g) x y) := by
  rfl
def specK (g : AVal) (want : Bool) (op : IOp) (vals : List AVal) (d : Option Nat) (is : List Ins) (K : K3) (e : Env) (H : Heap) (n : Nat) : Prop :=
  ∃ c, gcond g want = some c ∧ op.quiet = true ∧ (c = true → gofsOp op vals = true) ∧ opK Γ op (unws vals) (some c) d is K e H n
@[simp] theorem WPs_spec (d : Option Nat) (op : IOp) (xs : List Opd) (j : Nat) (want : Bool) (is : List Ins) (K : K3) (e : Env) (H : Heap) (n : Nat) :
    WPs Γ (⟨d, op, xs, some (j, want, true)⟩ :: is) K e H n = specK Γ (e j) want op (evs e xs) d is K e H n := by
  simp only [WPs, step, specK, evs_eq, unws_eq, opK, if_true, List.map_map, Function.comp_def]
@[simp] theorem specK_b (p want : Bool) (op : IOp) (vals : List AVal) (d : Option Nat) (is : List Ins) (K : K3) (e : Env) (H : Heap) (n : Nat) :
    specK Γ (.b p) want op vals d is K e H n = (op.quiet = true ∧ ((p == want) = true → gofsOp op vals = true) ∧ opK Γ op (unws vals) (some (p == want)) d is K e H n) := by
  simp [specK, gcond]
@[simp] theorem specK_when (g p want : Bool) (op : IOp) (vals : List AVal) (d : Option Nat) (is : List Ins) (K : K3) (e : Env) (H : Heap) (n : Nat) :
    specK Γ (.when g (.b p)) want op vals d is K e H n = (op.quiet = true ∧ ((g && (p == want)) = true → gofsOp op vals = true) ∧ opK Γ op (unws vals) (some (g && (p == want))) d is K e H n) := by
  simp only [specK, gcond, Option.some.injEq, exists_eq_left']

/-- A guarded operation that parts the way. -/
def splitK (g : AVal) (j : Nat) (want : Bool) (op : IOp) (xs : List Opd) (d : Option Nat) (is : List Ins) (K : K3) (e : Env) (H : Heap) (n : Nat) : Prop :=
  ∃ c, gcond g want = some c ∧
    (c = true → gofsOp op (evs (gfix e j want) xs) = true ∧ opK Γ op (unws (evs (gfix e j want) xs)) none d is K (gfix e j want) H n) ∧ (c = false → WPs Γ is K (eset (gfix e j (!want)) d (.when false .junk)) H n)
@[simp] theorem WPs_split (d : Option Nat) (op : IOp) (xs : List Opd) (j : Nat) (want : Bool) (is : List Ins) (K : K3) (e : Env) (H : Heap) (n : Nat) :
    WPs Γ (⟨d, op, xs, some (j, want, false)⟩ :: is) K e H n = splitK Γ (e j) j want op xs d is K e H n := by
  simp only [WPs, step, splitK, evs_eq, unws_eq, List.map_map, Function.comp_def, opK, Bool.false_eq_true, if_false]
/-- The two ways of a bool that isn't known. -/
theorem splitK_b {j : Nat} {p want : Bool} {op : IOp} {xs : List Opd} {d : Option Nat} {is : List Ins} {K : K3} {e : Env} {H : Heap} {n : Nat} (he : e j = .b p)
    (h1 : p = want → gofsOp op (evs (eset e (some j) (.b want)) xs) = true ∧ opK Γ op (unws (evs (eset e (some j) (.b want)) xs)) none d is K (eset e (some j) (.b want)) H n) (h2 : p = !want → WPs Γ is K (eset (eset e (some j) (.b !want)) d (.when false .junk)) H n) :
    splitK Γ (.b p) j want op xs d is K e H n := by
  have hg : ∀ q, gfix e j q = eset e (some j) (.b q) := fun q => by unfold gfix; rw [he]; rfl
  refine ⟨p == want, rfl, fun h => ?_, fun h => ?_⟩
  · rw [hg]; exact h1 (by simpa using h)
  · rw [hg]; exact h2 (by revert h; cases p <;> cases want <;> simp)
theorem splitK_when {j : Nat} {g p want : Bool} {op : IOp} {xs : List Opd} {d : Option Nat} {is : List Ins} {K : K3} {e : Env} {H : Heap} {n : Nat} (he : e j = .when g (.b p))
    (h1 : (g && (p == want)) = true → gofsOp op (evs e xs) = true ∧ opK Γ op (unws (evs e xs)) none d is K e H n) (h2 : (g && (p == want)) = false → WPs Γ is K (eset e d (.when false .junk)) H n) :
    splitK Γ (.when g (.b p)) j want op xs d is K e H n := by
  have hg : ∀ q, gfix e j q = e := fun q => by unfold gfix; rw [he]
  refine ⟨g && (p == want), rfl, fun h => ?_, fun h => ?_⟩
  · rw [hg]; exact h1 h
  · rw [hg]; exact h2 h

def fixv (v : AVal) (p : Bool) : AVal := match v with | .b _ => .b p | v => v
@[simp] theorem fixv_b (q p : Bool) : fixv (.b q) p = .b p := rfl
@[simp] theorem fixv_when (g : Bool) (v : AVal) (p : Bool) : fixv (.when g v) p = .when g v := rfl
@[simp] theorem gfix_apply (e : Env) (j : Nat) (p : Bool) (x : Nat) : gfix e j p x = if x = j then fixv (e j) p else e x := by
  by_cases hx : x = j
  · subst hx
    rw [if_pos rfl]
    unfold gfix fixv
    cases hv : e x <;> simp [hv]
  · rw [if_neg hx]
    unfold gfix
    cases e j <;> simp [hx]
@[simp] theorem splitK_tt (j : Nat) (op : IOp) (xs : List Opd) (d : Option Nat) (is : List Ins) (K : K3) (e : Env) (H : Heap) (n : Nat) :
    splitK Γ (.b true) j true op xs d is K e H n = (gofsOp op (evs (gfix e j true) xs) = true ∧ opK Γ op (unws (evs (gfix e j true) xs)) none d is K (gfix e j true) H n) := by simp [splitK, gcond]
@[simp] theorem splitK_ff (j : Nat) (op : IOp) (xs : List Opd) (d : Option Nat) (is : List Ins) (K : K3) (e : Env) (H : Heap) (n : Nat) :
    splitK Γ (.b false) j false op xs d is K e H n = (gofsOp op (evs (gfix e j false) xs) = true ∧ opK Γ op (unws (evs (gfix e j false) xs)) none d is K (gfix e j false) H n) := by simp [splitK, gcond]
@[simp] theorem splitK_tf (j : Nat) (op : IOp) (xs : List Opd) (d : Option Nat) (is : List Ins) (K : K3) (e : Env) (H : Heap) (n : Nat) :
    splitK Γ (.b true) j false op xs d is K e H n = WPs Γ is K (eset (gfix e j true) d (.when false .junk)) H n := by simp [splitK, gcond]
@[simp] theorem splitK_ft (j : Nat) (op : IOp) (xs : List Opd) (d : Option Nat) (is : List Ins) (K : K3) (e : Env) (H : Heap) (n : Nat) :
    splitK Γ (.b false) j true op xs d is K e H n = WPs Γ is K (eset (gfix e j false) d (.when false .junk)) H n := by simp [splitK, gcond]
@[simp] theorem thenQ_normal (K : K3) (Q : Post) : thenQ K Q .normal = K := rfl
@[simp] theorem thenQ_ret (K : K3) (Q : Post) : thenQ K Q .ret = Q .ret := rfl
@[simp] theorem thenQ_exit (K : K3) (Q : Post) (j : Nat) : thenQ K Q (.exit j) = Q (.exit j) := rfl
@[simp] theorem blockQ_normal (id : Nat) (Q : Post) : blockQ id Q .normal = Q .normal := rfl
@[simp] theorem blockQ_ret (id : Nat) (Q : Post) : blockQ id Q .ret = Q .ret := rfl
@[simp] theorem blockQ_exit (id : Nat) (Q : Post) (j : Nat) : blockQ id Q (.exit j) = if j = id then Q .normal else Q (.exit j) := rfl

/-- What a function hands back, being read. -/
def retK : List RV → List AVal → Heap → Nat → Cont → Env → Heap → Nat → Prop
  | rs, acc, H0, n0, κ, e, H, n => rvals rs e H fun vs => Fin H0 n0 κ (oneOrTup (acc ++ vs)) H n
@[simp] theorem retQ_normal (rs : List RV) (H0 : Heap) (n0 : Nat) (κ : Cont) (e : Env) (H : Heap) (n : Nat) : retQ rs H0 n0 κ .normal e H n = retK rs [] H0 n0 κ e H n := rfl
@[simp] theorem retQ_ret (rs : List RV) (H0 : Heap) (n0 : Nat) (κ : Cont) (e : Env) (H : Heap) (n : Nat) : retQ rs H0 n0 κ .ret e H n = retK rs [] H0 n0 κ e H n := rfl
@[simp] theorem retK_nil (acc : List AVal) (H0 : Heap) (n0 : Nat) (κ : Cont) (e : Env) (H : Heap) (n : Nat) : retK [] acc H0 n0 κ e H n = Fin H0 n0 κ (oneOrTup acc) H n := by
  simp [retK, rvals]
@[simp] theorem retK_t (s : Nat) (rs : List RV) (acc : List AVal) (H0 : Heap) (n0 : Nat) (κ : Cont) (e : Env) (H : Heap) (n : Nat) :
    retK (.t s :: rs) acc H0 n0 κ e H n = retK rs (acc ++ [e s]) H0 n0 κ e H n := by
  simp [retK, rvals]
def retC (o : Option AObj) (i j sz : Nat) (agg : Bool) (rs : List RV) (acc : List AVal) (H0 : Heap) (n0 : Nat) (κ : Cont) (e : Env) (H : Heap) (n : Nat) : Prop :=
  ∃ o', o = some o' ∧ ∃ el, o'.es[i]? = some el ∧ if agg then j + sz ≤ el.cells.length ∧ retK rs (acc ++ [.agg ((el.cells.drop j).take sz)]) H0 n0 κ e H n else ∃ y, el.cells[j]? = some y ∧ retK rs (acc ++ [y]) H0 n0 κ e H n
def retP (v : AVal) (sz : Nat) (agg : Bool) (rs : List RV) (acc : List AVal) (H0 : Heap) (n0 : Nat) (κ : Cont) (e : Env) (H : Heap) (n : Nat) : Prop :=
  opLoad sz agg [v] H fun v => retK rs (acc ++ [v]) H0 n0 κ e H n
@[simp] theorem retK_cell (s sz : Nat) (agg : Bool) (rs : List RV) (acc : List AVal) (H0 : Heap) (n0 : Nat) (κ : Cont) (e : Env) (H : Heap) (n : Nat) :
    retK (.cell s sz agg :: rs) acc H0 n0 κ e H n = retP (e s) sz agg rs acc H0 n0 κ e H n := by
  simp [retK, rvals, retP]
theorem opLoad_ptr (sz : Nat) (agg : Bool) (a i j : Nat) (H : Heap) (κ : AVal → Prop) : opLoad sz agg [.ptr a i j] H κ = ∃ o, H a = some o ∧ ∃ e, o.es[i]? = some e ∧
    if agg then j + sz ≤ e.cells.length ∧ κ (.agg ((e.cells.drop j).take sz)) else ∃ y, e.cells[j]? = some y ∧ κ y := by
  simp only [opLoad, List.cons.injEq, AVal.ptr.injEq, and_true, eq_iff_iff]
  constructor
  · rintro ⟨a', i', j', o, e, ⟨rfl, rfl, rfl⟩, h1, h2, h3⟩; exact ⟨o, h1, e, h2, h3⟩
  · rintro ⟨o, h1, e, h2, h3⟩; exact ⟨a, i, j, o, e, ⟨rfl, rfl, rfl⟩, h1, h2, h3⟩
@[simp] theorem retP_ptr (a i j sz : Nat) (agg : Bool) (rs : List RV) (acc : List AVal) (H0 : Heap) (n0 : Nat) (κ : Cont) (e : Env) (H : Heap) (n : Nat) :
    retP (.ptr a i j) sz agg rs acc H0 n0 κ e H n = retC (H a) i j sz agg rs acc H0 n0 κ e H n := by
  rw [retP, opLoad_ptr]; rfl
def retE (el : Option AVal) (j sz : Nat) (agg : Bool) (rs : List RV) (acc : List AVal) (H0 : Heap) (n0 : Nat) (κ : Cont) (e : Env) (H : Heap) (n : Nat) : Prop :=
  ∃ el', el = some el' ∧ if agg then j + sz ≤ el'.cells.length ∧ retK rs (acc ++ [.agg ((el'.cells.drop j).take sz)]) H0 n0 κ e H n else ∃ y, el'.cells[j]? = some y ∧ retK rs (acc ++ [y]) H0 n0 κ e H n
@[simp] theorem retC_some (o : AObj) (i j sz : Nat) (agg : Bool) (rs : List RV) (acc : List AVal) (H0 : Heap) (n0 : Nat) (κ : Cont) (e : Env) (H : Heap) (n : Nat) :
    retC (some o) i j sz agg rs acc H0 n0 κ e H n = retE (o.es[i]?) j sz agg rs acc H0 n0 κ e H n := by simp [retC, retE]
@[simp] theorem retE_agg (el : AVal) (j sz : Nat) (rs : List RV) (acc : List AVal) (H0 : Heap) (n0 : Nat) (κ : Cont) (e : Env) (H : Heap) (n : Nat) :
    retE (some el) j sz true rs acc H0 n0 κ e H n = (j + sz ≤ el.cells.length ∧ retK rs (acc ++ [.agg ((el.cells.drop j).take sz)]) H0 n0 κ e H n) := by simp [retE]
@[simp] theorem oneOrTup_one (v : AVal) : oneOrTup [v] = v := rfl
@[simp] theorem oneOrTup_nil : oneOrTup [] = .tup [] := rfl
@[simp] theorem oneOrTup_two (v u : AVal) (vs : List AVal) : oneOrTup (v :: u :: vs) = .tup (v :: u :: vs) := rfl

/-- A branch. -/
def brK (v : AVal) (a b : CC) (Q : Post) (e : Env) (H : Heap) (n : Nat) : Prop := ∃ p, v = .b p ∧ (p = true → WP Γ a Q e H n) ∧ (p = false → WP Γ b Q e H n)
@[simp] theorem brK_true (a b : CC) (Q : Post) (e : Env) (H : Heap) (n : Nat) : brK Γ (.b true) a b Q e H n = WP Γ a Q e H n := by
  simp only [brK, AVal.b.injEq, eq_iff_iff]
  constructor
  · rintro ⟨p, rfl, h, _⟩; exact h rfl
  · intro h; exact ⟨true, rfl, fun _ => h, fun q => absurd q (by simp)⟩
@[simp] theorem brK_false (a b : CC) (Q : Post) (e : Env) (H : Heap) (n : Nat) : brK Γ (.b false) a b Q e H n = WP Γ b Q e H n := by
  simp only [brK, AVal.b.injEq, eq_iff_iff]
  constructor
  · rintro ⟨p, rfl, _, h⟩; exact h rfl
  · intro h; exact ⟨false, rfl, fun q => absurd q (by simp), fun _ => h⟩
theorem brK_b {p : Bool} {a b : CC} {Q : Post} {e : Env} {H : Heap} {n : Nat} (h1 : p = true → WP Γ a Q e H n) (h2 : p = false → WP Γ b Q e H n) : brK Γ (.b p) a b Q e H n := ⟨p, rfl, h1, h2⟩

@[simp] theorem keepK_apply (ks : List Nat) (K : K3) (e : Env) (H : Heap) (n : Nat) : keepK ks K e H n = K (keepE ks e) H n := rfl
theorem keepE_eq (ks : List Nat) (e : Env) : keepE ks e = mkE (ks.map fun k => (k, e k)) := rfl
@[simp] theorem keepE_nil (e : Env) : keepE [] e = mkE [] := rfl
def consE (k : Nat) (v : AVal) (e : Env) : Env := fun x => if x = k then v else e x
@[simp] theorem consE_mkE (k : Nat) (v : AVal) (l : List (Nat × AVal)) : consE k v (mkE l) = mkE ((k, v) :: l) := by
  funext x; rfl
@[simp] theorem keepE_cons (k : Nat) (ks : List Nat) (e : Env) : keepE (k :: ks) e = consE k (e k) (keepE ks e) := by
  funext x; rfl

@[simp] theorem WP_skip (Q : Post) (e : Env) (H : Heap) (n : Nat) : WP Γ .skip Q e H n = Q .normal e H n := rfl
@[simp] theorem WP_ops (is : List Ins) (ks : List Nat) (Q : Post) (e : Env) (H : Heap) (n : Nat) : WP Γ (.ops is ks) Q e H n = WPs Γ is (keepK ks (Q .normal)) e H n := rfl
/-- What is left of a region whose order is open. -/
def parK (late : List Ins) (r : List (Ins × List Ins)) (K : K3) : K3 := fun e H n => recheck Γ late e H n ∧ WPP Γ r K e H n
@[simp] theorem parK_apply (late : List Ins) (r : List (Ins × List Ins)) (K : K3) (e : Env) (H : Heap) (n : Nat) : parK Γ late r K e H n = (recheck Γ late e H n ∧ WPP Γ r K e H n) := rfl
@[simp] theorem WPP_nil (K : K3) (e : Env) (H : Heap) (n : Nat) : WPP Γ [] K e H n = K e H n := rfl
@[simp] theorem WPP_cons (x : Ins) (late : List Ins) (r : List (Ins × List Ins)) (K : K3) (e : Env) (H : Heap) (n : Nat) : WPP Γ ((x, late) :: r) K e H n = WPs Γ [x] (parK Γ late r K) e H n := rfl
def chkK (d : Option Nat) (e : Env) : K3 := fun e' _ _ => ∀ d', d = some d' → e' d' = e d'
@[simp] theorem chkK_some (d : Nat) (e e' : Env) (H : Heap) (n : Nat) : chkK (some d) e e' H n = (e' d = e d) := by simp [chkK]
@[simp] theorem recheck_nil (e : Env) (H : Heap) (n : Nat) : recheck Γ [] e H n = True := rfl
@[simp] theorem recheck_cons (q : Ins) (qs : List Ins) (e : Env) (H : Heap) (n : Nat) : recheck Γ (q :: qs) e H n = (WPs Γ [q] (chkK q.d e) e H n ∧ recheck Γ qs e H n) := rfl
@[simp] theorem WP_par (is : List (Ins × List Ins)) (ks : List Nat) (Q : Post) (e : Env) (H : Heap) (n : Nat) : WP Γ (.par is ks) Q e H n = WPP Γ is (keepK ks (Q .normal)) e H n := rfl
@[simp] theorem WP_seq (a b : CC) (Q : Post) (e : Env) (H : Heap) (n : Nat) : WP Γ (.seq a b) Q e H n = WP Γ a (thenQ (WP Γ b Q) Q) e H n := rfl
@[simp] theorem WP_cond (x : Opd) (a b : CC) (Q : Post) (e : Env) (H : Heap) (n : Nat) : WP Γ (.cond x a b) Q e H n = brK Γ (ev e x) a b Q e H n := rfl
@[simp] theorem WP_block (id : Nat) (c : CC) (Q : Post) (e : Env) (H : Heap) (n : Nat) : WP Γ (.block id c) Q e H n = WP Γ c (blockQ id Q) e H n := rfl
@[simp] theorem WP_exit (id : Nat) (Q : Post) (e : Env) (H : Heap) (n : Nat) : WP Γ (.exit id) Q e H n = Q (.exit id) e H n := rfl
@[simp] theorem WP_ret (Q : Post) (e : Env) (H : Heap) (n : Nat) : WP Γ .ret Q e H n = Q .ret e H n := rfl
end defs

attribute [simp] IOp.quiet
@[simp] theorem gof_when (g : Bool) (v : AVal) : gof (.when g v) = g := rfl
@[simp] theorem gof_i (k : IntKind) (n : Int) : gof (.i k n) = true := rfl
@[simp] theorem gof_b (p : Bool) : gof (.b p) = true := rfl
@[simp] theorem gof_s (l : List UInt8) : gof (.s l) = true := rfl
@[simp] theorem gof_c (v : Value) : gof (.c v) = true := rfl
@[simp] theorem gof_ptr (a i j : Nat) : gof (.ptr a i j) = true := rfl
@[simp] theorem gof_sl (a i j : Nat) : gof (.sl a i j) = true := rfl
@[simp] theorem gof_agg (cs : List AVal) : gof (.agg cs) = true := rfl
@[simp] theorem gof_tup (cs : List AVal) : gof (.tup cs) = true := rfl
@[simp] theorem gof_fn (f : Fn) (x y : List AVal) : gof (.fn f x y) = true := rfl
@[simp] theorem gof_junk : gof .junk = true := rfl
@[simp] theorem unw_when (g : Bool) (v : AVal) : unw (.when g v) = v := rfl
@[simp] theorem unw_i (k : IntKind) (n : Int) : unw (.i k n) = .i k n := rfl
@[simp] theorem unw_b (p : Bool) : unw (.b p) = .b p := rfl
@[simp] theorem unw_s (l : List UInt8) : unw (.s l) = .s l := rfl
@[simp] theorem unw_c (v : Value) : unw (.c v) = .c v := rfl
@[simp] theorem unw_ptr (a i j : Nat) : unw (.ptr a i j) = .ptr a i j := rfl
@[simp] theorem unw_sl (a i j : Nat) : unw (.sl a i j) = .sl a i j := rfl
@[simp] theorem unw_agg (cs : List AVal) : unw (.agg cs) = .agg cs := rfl
@[simp] theorem unw_tup (cs : List AVal) : unw (.tup cs) = .tup cs := rfl
@[simp] theorem unw_fn (f : Fn) (x y : List AVal) : unw (.fn f x y) = .fn f x y := rfl
@[simp] theorem unw_junk : unw .junk = .junk := rfl

/-! operations -/
section ops
variable (Γ : FuncId → Spec) (md : Option Bool) (d : Option Nat) (is : List Ins) (K : K3) (e : Env) (H : Heap) (n : Nat)
@[simp] theorem opK_mv (v : AVal) : opK Γ .mv [v] md d is K e H n = WPs Γ is K (eset e d (wr md v)) H n := by
  cases md <;> simp [opK, istep]
/-- A pick among bools is a bool. -/
def pickK (g : AVal) (p : Bool) (x y : AVal) (md : Option Bool) (d : Option Nat) (is : List Ins) (K : K3) (e : Env) (H : Heap) (n : Nat) : Prop := opK Γ .pick [g, x, y] md d is K e H n
@[simp] theorem opK_pick_bb (p q r : Bool) : opK Γ .pick [.b p, .b q, .b r] md d is K e H n = WPs Γ is K (eset e d (wr md (.b (if p then q else r)))) H n := by
  cases md <;> simp only [opK, istep, opPick, List.cons.injEq, AVal.b.injEq, and_true, and_assoc, eq_iff_iff] <;> constructor
  all_goals first
    | (rintro ⟨p', x, y, rfl, rfl, rfl, _, _, h⟩; exact h)
    | (intro h; exact ⟨p, _, _, rfl, rfl, rfl, by simp, by simp, h⟩)
@[simp] theorem opK_pick_bw (p q r g : Bool) : opK Γ .pick [.b p, .b q, .when g (.b r)] md d is K e H n = ((p = false → g = true) ∧ WPs Γ is K (eset e d (wr md (.b (if p then q else r)))) H n) := by
  cases md <;> simp only [opK, istep, opPick, List.cons.injEq, AVal.b.injEq, and_true, and_assoc, eq_iff_iff] <;> constructor
  all_goals first
    | (rintro ⟨p', x, y, rfl, rfl, rfl, _, h1, h⟩; exact ⟨h1, h⟩)
    | (rintro ⟨h1, h⟩; exact ⟨p, _, _, rfl, rfl, rfl, by simp, h1, h⟩)
@[simp] theorem opK_pick_wb (p q r g : Bool) : opK Γ .pick [.b p, .when g (.b q), .b r] md d is K e H n = ((p = true → g = true) ∧ WPs Γ is K (eset e d (wr md (.b (if p then q else r)))) H n) := by
  cases md <;> simp only [opK, istep, opPick, List.cons.injEq, AVal.b.injEq, and_true, and_assoc, eq_iff_iff] <;> constructor
  all_goals first
    | (rintro ⟨p', x, y, rfl, rfl, rfl, h1, _, h⟩; exact ⟨h1, h⟩)
    | (rintro ⟨h1, h⟩; exact ⟨p, _, _, rfl, rfl, rfl, h1, by simp, h⟩)
theorem pickV_true_eq (x y : AVal) (κ : AVal → Prop) : pickV true x y κ = κ x := by
  unfold pickV
  split
  · rfl
  · simp
theorem pickV_false_eq (x y : AVal) (κ : AVal → Prop) : pickV false x y κ = κ y := by
  unfold pickV
  split
  · rfl
  · simp
@[simp] theorem opK_pick_true (x y : AVal) : opK Γ .pick [.b true, x, y] md d is K e H n = (gof x = true ∧ WPs Γ is K (eset e d (wr md (unw x))) H n) := by
  cases md <;> simp only [opK, istep, opPick, List.cons.injEq, AVal.b.injEq, and_true, and_assoc, eq_iff_iff] <;> constructor
  all_goals first
    | (rintro ⟨p', x', y', rfl, rfl, rfl, h1, _, h⟩; rw [pickV_true_eq] at h; exact ⟨h1 rfl, h⟩)
    | (rintro ⟨h1, h⟩; exact ⟨true, _, _, rfl, rfl, rfl, fun _ => h1, by simp, by rw [pickV_true_eq]; exact h⟩)
@[simp] theorem opK_pick_false (x y : AVal) : opK Γ .pick [.b false, x, y] md d is K e H n = (gof y = true ∧ WPs Γ is K (eset e d (wr md (unw y))) H n) := by
  cases md <;> simp only [opK, istep, opPick, List.cons.injEq, AVal.b.injEq, and_true, and_assoc, eq_iff_iff] <;> constructor
  all_goals first
    | (rintro ⟨p', x', y', rfl, rfl, rfl, _, h1, h⟩; rw [pickV_false_eq] at h; exact ⟨h1 rfl, h⟩)
    | (rintro ⟨h1, h⟩; exact ⟨false, _, _, rfl, rfl, rfl, by simp, fun _ => h1, by rw [pickV_false_eq]; exact h⟩)
end ops

end Go.AM
/- AM, part 17: the operations as simp runs them. -/
set_option linter.unusedVariables false
set_option linter.unusedSimpArgs false
namespace Go.AM
section
variable (Γ : FuncId → Spec) (md : Option Bool) (d : Option Nat) (is : List Ins) (K : K3) (e : Env) (H : Heap) (n : Nat)
@[simp] theorem opK_add (k : IntKind) (x y : Int) : opK Γ (.bin .add) [.i k x, .i k y] md d is K e H n = WPs Γ is K (eset e d (wr md (.i k (k.wrap (x + y))))) H n := by
  have h : ∀ κ : AVal → Prop, opBin .add [.i k x, .i k y] κ = intBin .add k x y κ := fun κ => by
    simp only [opBin, List.cons.injEq, AVal.i.injEq, and_true, reduceCtorEq, false_and, and_false, exists_false, or_false, and_assoc, eq_iff_iff, shiftBin]
    constructor
    · rintro ⟨k', x', y', rfl, rfl, _, rfl, h⟩; exact h
    · intro h; exact ⟨k, x, y, rfl, rfl, rfl, rfl, h⟩
  cases md <;> simp only [opK, istep, h, intBin] <;> rfl
@[simp] theorem opK_sub (k : IntKind) (x y : Int) : opK Γ (.bin .sub) [.i k x, .i k y] md d is K e H n = WPs Γ is K (eset e d (wr md (.i k (k.wrap (x - y))))) H n := by
  have h : ∀ κ : AVal → Prop, opBin .sub [.i k x, .i k y] κ = intBin .sub k x y κ := fun κ => by
    simp only [opBin, List.cons.injEq, AVal.i.injEq, and_true, reduceCtorEq, false_and, and_false, exists_false, or_false, and_assoc, eq_iff_iff, shiftBin]
    constructor
    · rintro ⟨k', x', y', rfl, rfl, _, rfl, h⟩; exact h
    · intro h; exact ⟨k, x, y, rfl, rfl, rfl, rfl, h⟩
  cases md <;> simp only [opK, istep, h, intBin] <;> rfl
@[simp] theorem opK_mul (k : IntKind) (x y : Int) : opK Γ (.bin .mul) [.i k x, .i k y] md d is K e H n = WPs Γ is K (eset e d (wr md (.i k (k.wrap (x * y))))) H n := by
  have h : ∀ κ : AVal → Prop, opBin .mul [.i k x, .i k y] κ = intBin .mul k x y κ := fun κ => by
    simp only [opBin, List.cons.injEq, AVal.i.injEq, and_true, reduceCtorEq, false_and, and_false, exists_false, or_false, and_assoc, eq_iff_iff, shiftBin]
    constructor
    · rintro ⟨k', x', y', rfl, rfl, _, rfl, h⟩; exact h
    · intro h; exact ⟨k, x, y, rfl, rfl, rfl, rfl, h⟩
  cases md <;> simp only [opK, istep, h, intBin] <;> rfl
@[simp] theorem opK_quo (k : IntKind) (x y : Int) : opK Γ (.bin .quo) [.i k x, .i k y] md d is K e H n = (y ≠ 0 ∧ WPs Γ is K (eset e d (wr md (.i k (k.wrap (x.tdiv y))))) H n) := by
  have h : ∀ κ : AVal → Prop, opBin .quo [.i k x, .i k y] κ = intBin .quo k x y κ := fun κ => by
    simp only [opBin, List.cons.injEq, AVal.i.injEq, and_true, reduceCtorEq, false_and, and_false, exists_false, or_false, and_assoc, eq_iff_iff, shiftBin]
    constructor
    · rintro ⟨k', x', y', rfl, rfl, _, rfl, h⟩; exact h
    · intro h; exact ⟨k, x, y, rfl, rfl, rfl, rfl, h⟩
  cases md <;> simp only [opK, istep, h, intBin] <;> rfl
@[simp] theorem opK_rem (k : IntKind) (x y : Int) : opK Γ (.bin .rem) [.i k x, .i k y] md d is K e H n = (y ≠ 0 ∧ WPs Γ is K (eset e d (wr md (.i k (x.tmod y)))) H n) := by
  have h : ∀ κ : AVal → Prop, opBin .rem [.i k x, .i k y] κ = intBin .rem k x y κ := fun κ => by
    simp only [opBin, List.cons.injEq, AVal.i.injEq, and_true, reduceCtorEq, false_and, and_false, exists_false, or_false, and_assoc, eq_iff_iff, shiftBin]
    constructor
    · rintro ⟨k', x', y', rfl, rfl, _, rfl, h⟩; exact h
    · intro h; exact ⟨k, x, y, rfl, rfl, rfl, rfl, h⟩
  cases md <;> simp only [opK, istep, h, intBin] <;> rfl
@[simp] theorem opK_and (k : IntKind) (x y : Int) : opK Γ (.bin .and) [.i k x, .i k y] md d is K e H n = WPs Γ is K (eset e d (wr md (.i k (ibits .and k x y)))) H n := by
  have h : ∀ κ : AVal → Prop, opBin .and [.i k x, .i k y] κ = intBin .and k x y κ := fun κ => by
    simp only [opBin, List.cons.injEq, AVal.i.injEq, and_true, reduceCtorEq, false_and, and_false, exists_false, or_false, and_assoc, eq_iff_iff, shiftBin]
    constructor
    · rintro ⟨k', x', y', rfl, rfl, _, rfl, h⟩; exact h
    · intro h; exact ⟨k, x, y, rfl, rfl, rfl, rfl, h⟩
  cases md <;> simp only [opK, istep, h, intBin] <;> rfl
@[simp] theorem opK_or (k : IntKind) (x y : Int) : opK Γ (.bin .or) [.i k x, .i k y] md d is K e H n = WPs Γ is K (eset e d (wr md (.i k (ibits .or k x y)))) H n := by
  have h : ∀ κ : AVal → Prop, opBin .or [.i k x, .i k y] κ = intBin .or k x y κ := fun κ => by
    simp only [opBin, List.cons.injEq, AVal.i.injEq, and_true, reduceCtorEq, false_and, and_false, exists_false, or_false, and_assoc, eq_iff_iff, shiftBin]
    constructor
    · rintro ⟨k', x', y', rfl, rfl, _, rfl, h⟩; exact h
    · intro h; exact ⟨k, x, y, rfl, rfl, rfl, rfl, h⟩
  cases md <;> simp only [opK, istep, h, intBin] <;> rfl
@[simp] theorem opK_xor (k : IntKind) (x y : Int) : opK Γ (.bin .xor) [.i k x, .i k y] md d is K e H n = WPs Γ is K (eset e d (wr md (.i k (ibits .xor k x y)))) H n := by
  have h : ∀ κ : AVal → Prop, opBin .xor [.i k x, .i k y] κ = intBin .xor k x y κ := fun κ => by
    simp only [opBin, List.cons.injEq, AVal.i.injEq, and_true, reduceCtorEq, false_and, and_false, exists_false, or_false, and_assoc, eq_iff_iff, shiftBin]
    constructor
    · rintro ⟨k', x', y', rfl, rfl, _, rfl, h⟩; exact h
    · intro h; exact ⟨k, x, y, rfl, rfl, rfl, rfl, h⟩
  cases md <;> simp only [opK, istep, h, intBin] <;> rfl
@[simp] theorem opK_andNot (k : IntKind) (x y : Int) : opK Γ (.bin .andNot) [.i k x, .i k y] md d is K e H n = WPs Γ is K (eset e d (wr md (.i k (ibits .andNot k x y)))) H n := by
  have h : ∀ κ : AVal → Prop, opBin .andNot [.i k x, .i k y] κ = intBin .andNot k x y κ := fun κ => by
    simp only [opBin, List.cons.injEq, AVal.i.injEq, and_true, reduceCtorEq, false_and, and_false, exists_false, or_false, and_assoc, eq_iff_iff, shiftBin]
    constructor
    · rintro ⟨k', x', y', rfl, rfl, _, rfl, h⟩; exact h
    · intro h; exact ⟨k, x, y, rfl, rfl, rfl, rfl, h⟩
  cases md <;> simp only [opK, istep, h, intBin] <;> rfl
@[simp] theorem opK_eql (k : IntKind) (x y : Int) : opK Γ (.bin .eql) [.i k x, .i k y] md d is K e H n = WPs Γ is K (eset e d (wr md (.b (decide (x = y))))) H n := by
  have h : ∀ κ : AVal → Prop, opBin .eql [.i k x, .i k y] κ = intBin .eql k x y κ := fun κ => by
    simp only [opBin, List.cons.injEq, AVal.i.injEq, and_true, reduceCtorEq, false_and, and_false, exists_false, or_false, and_assoc, eq_iff_iff, shiftBin]
    constructor
    · rintro ⟨k', x', y', rfl, rfl, _, rfl, h⟩; exact h
    · intro h; exact ⟨k, x, y, rfl, rfl, rfl, rfl, h⟩
  cases md <;> simp only [opK, istep, h, intBin] <;> rfl
@[simp] theorem opK_neq (k : IntKind) (x y : Int) : opK Γ (.bin .neq) [.i k x, .i k y] md d is K e H n = WPs Γ is K (eset e d (wr md (.b (!decide (x = y))))) H n := by
  have h : ∀ κ : AVal → Prop, opBin .neq [.i k x, .i k y] κ = intBin .neq k x y κ := fun κ => by
    simp only [opBin, List.cons.injEq, AVal.i.injEq, and_true, reduceCtorEq, false_and, and_false, exists_false, or_false, and_assoc, eq_iff_iff, shiftBin]
    constructor
    · rintro ⟨k', x', y', rfl, rfl, _, rfl, h⟩; exact h
    · intro h; exact ⟨k, x, y, rfl, rfl, rfl, rfl, h⟩
  cases md <;> simp only [opK, istep, h, intBin] <;> rfl
@[simp] theorem opK_lss (k : IntKind) (x y : Int) : opK Γ (.bin .lss) [.i k x, .i k y] md d is K e H n = WPs Γ is K (eset e d (wr md (.b (decide (x < y))))) H n := by
  have h : ∀ κ : AVal → Prop, opBin .lss [.i k x, .i k y] κ = intBin .lss k x y κ := fun κ => by
    simp only [opBin, List.cons.injEq, AVal.i.injEq, and_true, reduceCtorEq, false_and, and_false, exists_false, or_false, and_assoc, eq_iff_iff, shiftBin]
    constructor
    · rintro ⟨k', x', y', rfl, rfl, _, rfl, h⟩; exact h
    · intro h; exact ⟨k, x, y, rfl, rfl, rfl, rfl, h⟩
  cases md <;> simp only [opK, istep, h, intBin] <;> rfl
@[simp] theorem opK_leq (k : IntKind) (x y : Int) : opK Γ (.bin .leq) [.i k x, .i k y] md d is K e H n = WPs Γ is K (eset e d (wr md (.b (decide (x ≤ y))))) H n := by
  have h : ∀ κ : AVal → Prop, opBin .leq [.i k x, .i k y] κ = intBin .leq k x y κ := fun κ => by
    simp only [opBin, List.cons.injEq, AVal.i.injEq, and_true, reduceCtorEq, false_and, and_false, exists_false, or_false, and_assoc, eq_iff_iff, shiftBin]
    constructor
    · rintro ⟨k', x', y', rfl, rfl, _, rfl, h⟩; exact h
    · intro h; exact ⟨k, x, y, rfl, rfl, rfl, rfl, h⟩
  cases md <;> simp only [opK, istep, h, intBin] <;> rfl
@[simp] theorem opK_gtr (k : IntKind) (x y : Int) : opK Γ (.bin .gtr) [.i k x, .i k y] md d is K e H n = WPs Γ is K (eset e d (wr md (.b (decide (y < x))))) H n := by
  have h : ∀ κ : AVal → Prop, opBin .gtr [.i k x, .i k y] κ = intBin .gtr k x y κ := fun κ => by
    simp only [opBin, List.cons.injEq, AVal.i.injEq, and_true, reduceCtorEq, false_and, and_false, exists_false, or_false, and_assoc, eq_iff_iff, shiftBin]
    constructor
    · rintro ⟨k', x', y', rfl, rfl, _, rfl, h⟩; exact h
    · intro h; exact ⟨k, x, y, rfl, rfl, rfl, rfl, h⟩
  cases md <;> simp only [opK, istep, h, intBin] <;> rfl
@[simp] theorem opK_geq (k : IntKind) (x y : Int) : opK Γ (.bin .geq) [.i k x, .i k y] md d is K e H n = WPs Γ is K (eset e d (wr md (.b (decide (y ≤ x))))) H n := by
  have h : ∀ κ : AVal → Prop, opBin .geq [.i k x, .i k y] κ = intBin .geq k x y κ := fun κ => by
    simp only [opBin, List.cons.injEq, AVal.i.injEq, and_true, reduceCtorEq, false_and, and_false, exists_false, or_false, and_assoc, eq_iff_iff, shiftBin]
    constructor
    · rintro ⟨k', x', y', rfl, rfl, _, rfl, h⟩; exact h
    · intro h; exact ⟨k, x, y, rfl, rfl, rfl, rfl, h⟩
  cases md <;> simp only [opK, istep, h, intBin] <;> rfl
@[simp] theorem opK_shl (k j : IntKind) (x y : Int) : opK Γ (.bin .shl) [.i k x, .i j y] md d is K e H n = (0 ≤ y ∧ WPs Γ is K (eset e d (wr md (.i k (k.wrap (x * 2 ^ (min y.toNat k.bits)))))) H n) := by
  have h : ∀ κ : AVal → Prop, opBin .shl [.i k x, .i j y] κ = shiftBin .shl k x y κ := fun κ => by
    simp only [opBin, List.cons.injEq, AVal.i.injEq, and_true, reduceCtorEq, false_and, and_false, exists_false, or_false, false_or, and_assoc, eq_iff_iff, intBin]
    constructor
    · rintro ⟨k', x', j', y', rfl, rfl, rfl, rfl, h⟩; exact h
    · intro h; exact ⟨k, x, j, y, rfl, rfl, rfl, rfl, h⟩
  cases md <;> simp only [opK, istep, h, shiftBin] <;> rfl
@[simp] theorem opK_shr (k j : IntKind) (x y : Int) : opK Γ (.bin .shr) [.i k x, .i j y] md d is K e H n = (0 ≤ y ∧ WPs Γ is K (eset e d (wr md (.i k (x.fdiv (2 ^ (min y.toNat k.bits)))))) H n) := by
  have h : ∀ κ : AVal → Prop, opBin .shr [.i k x, .i j y] κ = shiftBin .shr k x y κ := fun κ => by
    simp only [opBin, List.cons.injEq, AVal.i.injEq, and_true, reduceCtorEq, false_and, and_false, exists_false, or_false, false_or, and_assoc, eq_iff_iff, intBin]
    constructor
    · rintro ⟨k', x', j', y', rfl, rfl, rfl, rfl, h⟩; exact h
    · intro h; exact ⟨k, x, j, y, rfl, rfl, rfl, rfl, h⟩
  cases md <;> simp only [opK, istep, h, shiftBin] <;> rfl
@[simp] theorem opK_sadd (l m : List UInt8) : opK Γ (.bin .add) [.s l, .s m] md d is K e H n = (l.length + m.length ≤ 9223372036854775807 ∧ WPs Γ is K (eset e d (wr md (.s (l ++ m)))) H n) := by
  have h : ∀ κ : AVal → Prop, opBin .add [.s l, .s m] κ = strBin .add l m κ := fun κ => by
    simp [opBin, and_assoc, exists_and_left]
  cases md <;> simp only [opK, istep, h, strBin] <;> rfl
@[simp] theorem opK_seql (l m : List UInt8) : opK Γ (.bin .eql) [.s l, .s m] md d is K e H n = WPs Γ is K (eset e d (wr md (.b (l == m)))) H n := by
  have h : ∀ κ : AVal → Prop, opBin .eql [.s l, .s m] κ = strBin .eql l m κ := fun κ => by
    simp [opBin, and_assoc, exists_and_left]
  cases md <;> simp only [opK, istep, h, strBin] <;> rfl
@[simp] theorem opK_sneq (l m : List UInt8) : opK Γ (.bin .neq) [.s l, .s m] md d is K e H n = WPs Γ is K (eset e d (wr md (.b (l != m)))) H n := by
  have h : ∀ κ : AVal → Prop, opBin .neq [.s l, .s m] κ = strBin .neq l m κ := fun κ => by
    simp [opBin, and_assoc, exists_and_left]
  cases md <;> simp only [opK, istep, h, strBin] <;> rfl
@[simp] theorem opK_not (p : Bool) : opK Γ (.not) [.b p] md d is K e H n = WPs Γ is K (eset e d (wr md (.b (!p)))) H n := by
  cases md <;> simp [opK, wr, istep]
@[simp] theorem opK_neg (k : IntKind) (x : Int) : opK Γ (.neg) [.i k x] md d is K e H n = WPs Γ is K (eset e d (wr md (.i k (k.wrap (0 - x))))) H n := by
  cases md <;> simp [opK, wr, istep, and_assoc, exists_and_left]
@[simp] theorem opK_conv (j k : IntKind) (x : Int) : opK Γ (.conv k) [.i j x] md d is K e H n = WPs Γ is K (eset e d (wr md (.i k (k.wrap x)))) H n := by
  cases md <;> simp [opK, wr, istep, and_assoc, exists_and_left]
@[simp] theorem opK_fadr (off a i j : Nat) : opK Γ (.fadr off) [.ptr a i j] md d is K e H n = WPs Γ is K (eset e d (wr md (.ptr a i (j + off)))) H n := by
  cases md <;> simp [opK, wr, istep, opFadr, and_assoc, exists_and_left]
@[simp] theorem opK_lenStr (l : List UInt8) : opK Γ (.lenStr) [.s l] md d is K e H n = WPs Γ is K (eset e d (wr md (.i .i64 (l.length : Int)))) H n := by
  cases md <;> simp [opK, wr, istep]
theorem opK_lenSl (a off len : Nat) : opK Γ (.lenSl) [.sl a off len] md d is K e H n = WPs Γ is K (eset e d (wr md (.i .i64 (len : Int)))) H n := by
  cases md <;> simp [opK, wr, istep, and_assoc, exists_and_left]
theorem opK_lenNil  : opK Γ (.lenSl) [.c (.slice none 0 0)] md d is K e H n = WPs Γ is K (eset e d (wr md (.i .i64 0))) H n := by
  cases md <;> simp [opK, wr, istep]
@[simp] theorem opK_min (k : IntKind) (x y : Int) : opK Γ (.min) [.i k x, .i k y] md d is K e H n = WPs Γ is K (eset e d (wr md (.i k (min x y)))) H n := by
  cases md <;> simp [opK, wr, istep, opMin, and_assoc, exists_and_left]
@[simp] theorem opK_max (k : IntKind) (x y : Int) : opK Γ (.max) [.i k x, .i k y] md d is K e H n = WPs Γ is K (eset e d (wr md (.i k (max x y)))) H n := by
  cases md <;> simp [opK, wr, istep, opMax, and_assoc, exists_and_left]
@[simp] theorem opK_beq (b p q : Bool) : opK Γ (.beq b) [.b p, .b q] md d is K e H n = WPs Γ is K (eset e d (wr md (.b (xor b (p == q))))) H n := by
  cases md <;> simp only [opK, istep, List.cons.injEq, AVal.b.injEq, and_true, and_assoc, eq_iff_iff] <;> constructor
  all_goals first
    | (rintro ⟨p', q', rfl, rfl, h⟩; exact h)
    | (intro h; exact ⟨p, q, rfl, rfl, h⟩)
@[simp] theorem opK_peq (b : Bool) (x y : AVal) : opK Γ (.peq b) [x, y] md d is K e H n = ∃ p q, isNilP x = some p ∧ isNilP y = some q ∧ (p || q) = true ∧ WPs Γ is K (eset e d (wr md (.b (xor b (p && q))))) H n := by
  cases md <;> simp only [opK, istep, opNil, List.cons.injEq, and_true, eq_iff_iff] <;> constructor
  all_goals first
    | (rintro ⟨x', y', p, q, ⟨rfl, rfl⟩, h⟩; exact ⟨p, q, h⟩)
    | (rintro ⟨p, q, h⟩; exact ⟨x, y, p, q, ⟨rfl, rfl⟩, h⟩)
@[simp] theorem isNilP_ptr (a i j : Nat) : isNilP (.ptr a i j) = some false := rfl
@[simp] theorem isNilP_nil : isNilP (.c (.pointer none)) = some true := rfl
/-- A load: the row, the element, the cell. -/
def ldK (o : Option AObj) (i j sz : Nat) (agg : Bool) (md : Option Bool) (d : Option Nat) (is : List Ins) (K : K3) (e : Env) (H : Heap) (n : Nat) : Prop :=
  ∃ o', o = some o' ∧ ∃ el, o'.es[i]? = some el ∧ if agg then j + sz ≤ el.cells.length ∧ WPs Γ is K (eset e d (wr md (.agg ((el.cells.drop j).take sz)))) H n else ∃ y, el.cells[j]? = some y ∧ WPs Γ is K (eset e d (wr md y)) H n
def ldE (el : Option AVal) (j sz : Nat) (agg : Bool) (md : Option Bool) (d : Option Nat) (is : List Ins) (K : K3) (e : Env) (H : Heap) (n : Nat) : Prop :=
  ∃ el', el = some el' ∧ if agg then j + sz ≤ el'.cells.length ∧ WPs Γ is K (eset e d (wr md (.agg ((el'.cells.drop j).take sz)))) H n else ∃ y, el'.cells[j]? = some y ∧ WPs Γ is K (eset e d (wr md y)) H n
def ldC (y : Option AVal) (md : Option Bool) (d : Option Nat) (is : List Ins) (K : K3) (e : Env) (H : Heap) (n : Nat) : Prop :=
  ∃ y', y = some y' ∧ WPs Γ is K (eset e d (wr md y')) H n
@[simp] theorem opK_load (sz : Nat) (agg : Bool) (a i j : Nat) : opK Γ (.load sz agg) [.ptr a i j] md d is K e H n = ldK Γ (H a) i j sz agg md d is K e H n := by
  cases md <;> simp only [opK, istep, opLoad_ptr, ldK, wr]
@[simp] theorem ldK_some (o : AObj) (i j sz : Nat) (agg : Bool) : ldK Γ (some o) i j sz agg md d is K e H n = ldE Γ (o.es[i]?) j sz agg md d is K e H n := by simp [ldK, ldE]
@[simp] theorem ldE_agg (el : AVal) (j sz : Nat) : ldE Γ (some el) j sz true md d is K e H n = (j + sz ≤ el.cells.length ∧ WPs Γ is K (eset e d (wr md (.agg ((el.cells.drop j).take sz)))) H n) := by simp [ldE]
@[simp] theorem ldE_one (el : AVal) (j sz : Nat) : ldE Γ (some el) j sz false md d is K e H n = ldC Γ (el.cells[j]?) md d is K e H n := by simp [ldE, ldC]
@[simp] theorem ldC_some (y : AVal) : ldC Γ (some y) md d is K e H n = WPs Γ is K (eset e d (wr md y)) H n := by simp [ldC]
/-- A part of a value. -/
@[simp] theorem opK_fieldA (off sz : Nat) (cs : List AVal) : opK Γ (.field off sz true) [.agg cs] md d is K e H n = WPs Γ is K (eset e d (wr md (.agg ((cs.drop off).take sz)))) H n := by
  cases md <;> simp [opK, istep, opField]
@[simp] theorem opK_field (off sz : Nat) (cs : List AVal) : opK Γ (.field off sz false) [.agg cs] md d is K e H n = ldC Γ (cs[off]?) md d is K e H n := by
  cases md <;> simp [opK, istep, opField, ldC]
@[simp] theorem opK_idxAA (len sz : Nat) (cs : List AVal) (k : IntKind) (x : Int) : opK Γ (.idxA len sz true) [.agg cs, .i k x] md d is K e H n = (0 ≤ x ∧ x < len ∧ WPs Γ is K (eset e d (wr md (.agg ((cs.drop (x.toNat * sz)).take sz)))) H n) := by
  cases md <;> simp [opK, istep, opIdxA, and_assoc, exists_and_left]
@[simp] theorem opK_idxA (len sz : Nat) (cs : List AVal) (k : IntKind) (x : Int) : opK Γ (.idxA len sz false) [.agg cs, .i k x] md d is K e H n = (0 ≤ x ∧ x < len ∧ ldC Γ (cs[x.toNat * sz]?) md d is K e H n) := by
  cases md <;> simp [opK, istep, opIdxA, and_assoc, exists_and_left, ldC]
@[simp] theorem opK_extract (k : Nat) (us : List AVal) : opK Γ (.extract k) [.tup us] md d is K e H n = ldC Γ (us[k]?) md d is K e H n := by
  cases md <;> simp [opK, istep, opExtract, ldC]
end
section
variable (Γ : FuncId → Spec) (d : Option Nat) (is : List Ins) (K : K3) (e : Env) (H : Heap) (n : Nat)
/-- A store. -/
def stK (o : Option AObj) (a i j sz : Nat) (v : AVal) (d : Option Nat) (is : List Ins) (K : K3) (e : Env) (H : Heap) (n : Nat) : Prop :=
  ∃ o', o = some o' ∧ o'.ro = false ∧ ∃ el, o'.es[i]? = some el ∧ v.solid = true ∧ v.cells.length = sz ∧ j + sz ≤ o'.sz ∧ WPs Γ is K (eset e d .junk) (hset H a (some ⟨false, o'.sz, o'.es.set i (putE o'.sz el j v)⟩)) n
def stE (el : Option AVal) (osz : Nat) (es : List AVal) (a i j sz : Nat) (v : AVal) (d : Option Nat) (is : List Ins) (K : K3) (e : Env) (H : Heap) (n : Nat) : Prop :=
  ∃ el', el = some el' ∧ v.solid = true ∧ v.cells.length = sz ∧ j + sz ≤ osz ∧ WPs Γ is K (eset e d .junk) (hset H a (some ⟨false, osz, es.set i (putE osz el' j v)⟩)) n
@[simp] theorem opK_store (sz a i j : Nat) (v : AVal) : opK Γ (.store sz) [.ptr a i j, v] none d is K e H n = stK Γ (H a) a i j sz v d is K e H n := by
  simp only [opK, istep, opStore, stK, List.cons.injEq, AVal.ptr.injEq, and_true, eq_iff_iff]
  constructor
  · rintro ⟨a', i', j', v', o, el, ⟨⟨rfl, rfl, rfl⟩, rfl⟩, h1, h2, h3, h4⟩; exact ⟨o, h1, h2, el, h3, h4⟩
  · rintro ⟨o, h1, h2, el, h3, h4⟩; exact ⟨a, i, j, v, o, el, ⟨⟨rfl, rfl, rfl⟩, rfl⟩, h1, h2, h3, h4⟩
@[simp] theorem stK_some (ro : Bool) (osz : Nat) (es : List AVal) (a i j sz : Nat) (v : AVal) : stK Γ (some ⟨ro, osz, es⟩) a i j sz v d is K e H n = (ro = false ∧ stE Γ (es[i]?) osz es a i j sz v d is K e H n) := by
  simp [stK, stE]
@[simp] theorem stE_some (el : AVal) (osz : Nat) (es : List AVal) (a i j sz : Nat) (v : AVal) : stE Γ (some el) osz es a i j sz v d is K e H n =
    (v.solid = true ∧ v.cells.length = sz ∧ j + sz ≤ osz ∧ WPs Γ is K (eset e d .junk) (hset H a (some ⟨false, osz, es.set i (putE osz el j v)⟩)) n) := by simp [stE]
/-- The address of an element. -/
def ixK (o : Option AObj) (a off len sz : Nat) (x : Int) (d : Option Nat) (is : List Ins) (K : K3) (e : Env) (H : Heap) (n : Nat) : Prop :=
  ∃ o', o = some o' ∧ o'.sz = sz ∧ 0 ≤ x ∧ x < len ∧ WPs Γ is K (eset e d (.ptr a (off + x.toNat) 0)) H n
@[simp] theorem opK_iadrS (sz a off len : Nat) (k : IntKind) (x : Int) : opK Γ (.iadrS sz) [.sl a off len, .i k x] none d is K e H n = ixK Γ (H a) a off len sz x d is K e H n := by
  simp only [opK, istep, opIadrS, ixK, List.cons.injEq, AVal.sl.injEq, AVal.i.injEq, and_true, eq_iff_iff]
  constructor
  · rintro ⟨a', off', len', k', x', o, ⟨⟨rfl, rfl, rfl⟩, rfl, rfl⟩, h1, h2, h3, h4, h5⟩; exact ⟨o, h3, h4, h1, h2, h5⟩
  · rintro ⟨o, h3, h4, h1, h2, h5⟩; exact ⟨a, off, len, k, x, o, ⟨⟨rfl, rfl, rfl⟩, rfl, rfl⟩, h1, h2, h3, h4, h5⟩
@[simp] theorem ixK_some (ro : Bool) (osz : Nat) (es : List AVal) (a off len sz : Nat) (x : Int) : ixK Γ (some ⟨ro, osz, es⟩) a off len sz x d is K e H n = (osz = sz ∧ 0 ≤ x ∧ x < len ∧ WPs Γ is K (eset e d (.ptr a (off + x.toNat) 0)) H n) := by
  simp [ixK]
@[simp] theorem opK_iadrA (alen sz a i j : Nat) (k : IntKind) (x : Int) : opK Γ (.iadrA alen sz) [.ptr a i j, .i k x] none d is K e H n = (0 ≤ x ∧ x < alen ∧ WPs Γ is K (eset e d (.ptr a i (j + x.toNat * sz))) H n) := by
  simp [opK, istep, opIadrA, and_assoc, exists_and_left]
/-- A byte of a string. -/
def byK (c : Option UInt8) (d : Option Nat) (is : List Ins) (K : K3) (e : Env) (H : Heap) (n : Nat) : Prop := ∃ c', c = some c' ∧ WPs Γ is K (eset e d (.i .u8 (c'.toNat : Int))) H n
@[simp] theorem opK_idxS (l : List UInt8) (k : IntKind) (x : Int) : opK Γ .idxS [.s l, .i k x] none d is K e H n = (0 ≤ x ∧ byK Γ (l[x.toNat]?) d is K e H n) := by
  simp only [opK, istep, opIdxS, byK, List.cons.injEq, AVal.s.injEq, AVal.i.injEq, and_true, eq_iff_iff]
  constructor
  · rintro ⟨l', k', x', c, ⟨rfl, rfl, rfl⟩, h1, h2, h3⟩; exact ⟨h1, c, h2, h3⟩
  · rintro ⟨h1, c, h2, h3⟩; exact ⟨l, k, x, c, ⟨rfl, rfl, rfl⟩, h1, h2, h3⟩
@[simp] theorem byK_some (c : UInt8) : byK Γ (some c) d is K e H n = WPs Γ is K (eset e d (.i .u8 (c.toNat : Int))) H n := by simp [byK]
@[simp] theorem opK_box (v : AVal) : opK Γ .box [v] none d is K e H n = (v.solid = true ∧ WPs Γ is K (eset e d (.ptr n 0 0)) (hset H n (some ⟨false, v.cells.length, [v]⟩)) (n + 1)) := by
  simp [opK, istep, opBox]
@[simp] theorem opK_alloc (z : AVal) : opK Γ (.alloc z) [] none d is K e H n = (z.solid = true ∧ WPs Γ is K (eset e d (.ptr n 0 0)) (hset H n (some ⟨false, z.cells.length, [z]⟩)) (n + 1)) := by
  simp [opK, istep, opBox]
/-- A literal's cells. -/
def fillK (o : Option (List AVal)) (d : Option Nat) (is : List Ins) (K : K3) (e : Env) (H : Heap) (n : Nat) : Prop := ∃ cs, o = some cs ∧ WPs Γ is K (eset e d (.agg cs)) H n
@[simp] theorem opK_build (z : List AVal) (ps : List (Nat × Nat)) (vs : List AVal) : opK Γ (.build z ps) vs none d is K e H n = (vs.length = ps.length ∧ fillK Γ (fillA z (ps.zip vs)) d is K e H n) := by
  simp [opK, istep, opBuild, fillK]
@[simp] theorem fillK_some (cs : List AVal) : fillK Γ (some cs) d is K e H n = WPs Γ is K (eset e d (.agg cs)) H n := by simp [fillK]
@[simp] theorem opK_buildSlice (sz : Nat) (vs : List AVal) : opK Γ (.buildSlice sz) vs none d is K e H n =
    ((∀ v ∈ vs, v.solid = true ∧ v.cells.length = sz) ∧ vs.length * sz ≤ 16777216 ∧ WPs Γ is K (eset e d (.sl n 0 vs.length)) (hset H n (some ⟨false, sz, vs⟩)) (n + 1)) := by
  simp only [opK, istep, opBuildSlice]
@[simp] theorem opK_nilchk_ptr (a i j : Nat) : opK Γ .nilchk [.ptr a i j] none d is K e H n = WPs Γ is K (eset e d (.ptr a i j)) H n := by simp [opK, istep, isNilV]
@[simp] theorem opK_nilchk_fn (f : FuncId) (x y : List AVal) : opK Γ .nilchk [.fn (.func f) x y] none d is K e H n = WPs Γ is K (eset e d (.fn (.func f) x y)) H n := by simp [opK, istep, isNilV]
@[simp] theorem opK_call (f : FuncId) (vs : List AVal) : opK Γ (.call f) vs none d is K e H n = Γ f vs H n (contK Γ is K e d) := rfl
@[simp] theorem opK_callv (g : FuncId) (x y rest : List AVal) : opK Γ .callv (.fn (.func g) x y :: rest) none d is K e H n = Γ g (x ++ rest ++ y) H n (contK Γ is K e d) := by
  simp only [opK, istep, List.cons.injEq, AVal.fn.injEq, Fn.func.injEq, and_assoc, eq_iff_iff]
  constructor
  · rintro ⟨g', f', c', r', rfl, rfl, rfl, rfl, h⟩; exact h
  · intro h; exact ⟨g, x, y, rest, rfl, rfl, rfl, rfl, h⟩
@[simp] theorem opK_mkfn (f : Fn) (k : Nat) (vs : List AVal) : opK Γ (.mkfn f k) vs none d is K e H n = WPs Γ is K (eset e d (.fn f (vs.take k) (vs.drop k))) H n := rfl
/-- Cuts. -/
@[simp] theorem opK_sliceStr_lo (l : List UInt8) (k : IntKind) (x : Int) : opK Γ (.sliceStr true false) [.s l, .i k x] none d is K e H n = ((0 ≤ x ∧ x ≤ l.length) ∧ WPs Γ is K (eset e d (.s (l.drop x.toNat))) H n) := by
  have h : ∀ (h0 : 0 ≤ x) (h1 : x ≤ l.length), (l.drop x.toNat).take ((l.length : Int) - x).toNat = l.drop x.toNat := fun h0 h1 => List.take_of_length_le (by simp; omega)
  simp only [opK, istep, opSliceStr, bounds, eq_iff_iff]
  constructor
  · rintro ⟨l', r', h1, k', x', rfl, ⟨h2, h3, _⟩, h4⟩
    simp only [List.cons.injEq, AVal.s.injEq, AVal.i.injEq, and_true] at h1
    obtain ⟨rfl, rfl, rfl⟩ := h1
    rw [h h2 h3] at h4
    exact ⟨⟨h2, h3⟩, h4⟩
  · rintro ⟨⟨h2, h3⟩, h4⟩
    exact ⟨l, [.i k x], rfl, k, x, rfl, ⟨h2, h3, Int.le_refl _⟩, by rw [h h2 h3]; exact h4⟩
@[simp] theorem opK_sliceStr_hi (l : List UInt8) (k : IntKind) (y : Int) : opK Γ (.sliceStr false true) [.s l, .i k y] none d is K e H n = ((0 ≤ y ∧ y ≤ l.length) ∧ WPs Γ is K (eset e d (.s (l.take y.toNat))) H n) := by
  simp only [opK, istep, opSliceStr, bounds, eq_iff_iff]
  constructor
  · rintro ⟨l', r', h1, k', x', rfl, ⟨_, h2, h3⟩, h4⟩
    simp only [List.cons.injEq, AVal.s.injEq, AVal.i.injEq, and_true] at h1
    obtain ⟨rfl, rfl, rfl⟩ := h1
    exact ⟨⟨h2, h3⟩, by simpa using h4⟩
  · rintro ⟨⟨h2, h3⟩, h4⟩
    exact ⟨l, [.i k y], rfl, k, y, rfl, ⟨Int.le_refl _, h2, h3⟩, by simpa using h4⟩
@[simp] theorem opK_sliceStr_both (l : List UInt8) (k j : IntKind) (x y : Int) : opK Γ (.sliceStr true true) [.s l, .i k x, .i j y] none d is K e H n =
    ((0 ≤ x ∧ x ≤ y ∧ y ≤ l.length) ∧ WPs Γ is K (eset e d (.s ((l.drop x.toNat).take (y - x).toNat))) H n) := by
  simp only [opK, istep, opSliceStr, bounds, eq_iff_iff]
  constructor
  · rintro ⟨l', r', h1, k', x', j', y', rfl, h2, h4⟩
    simp only [List.cons.injEq, AVal.s.injEq, AVal.i.injEq, and_true] at h1
    obtain ⟨rfl, ⟨rfl, rfl⟩, rfl, rfl⟩ := h1
    exact ⟨h2, h4⟩
  · rintro ⟨h2, h4⟩
    exact ⟨l, _, rfl, k, x, j, y, rfl, h2, h4⟩
def slK (o : Option AObj) (sz : Nat) (c : Prop) (v : AVal) (d : Option Nat) (is : List Ins) (K : K3) (e : Env) (H : Heap) (n : Nat) : Prop := ∃ o', o = some o' ∧ o'.sz = sz ∧ c ∧ WPs Γ is K (eset e d v) H n
@[simp] theorem slK_some (ro : Bool) (osz : Nat) (es : List AVal) (sz : Nat) (c : Prop) (v : AVal) : slK Γ (some ⟨ro, osz, es⟩) sz c v d is K e H n = (osz = sz ∧ c ∧ WPs Γ is K (eset e d v) H n) := by simp [slK]
@[simp] theorem opK_sliceSl_lo (sz a off len : Nat) (k : IntKind) (x : Int) : opK Γ (.sliceSl sz true false) [.sl a off len, .i k x] none d is K e H n =
    slK Γ (H a) sz (0 ≤ x ∧ x ≤ len) (.sl a (off + x.toNat) (len - x.toNat)) d is K e H n := by
  have h : ∀ (h0 : 0 ≤ x) (h1 : x ≤ len), ((len : Int) - x).toNat = len - x.toNat := fun h0 h1 => by omega
  simp only [opK, istep, opSliceSl', opSliceSl, bounds, slK, eq_iff_iff]
  constructor
  · rintro ⟨h0, ⟨a', off', len', r', h1, k', x', rfl, ⟨h2, h3, _⟩, h4⟩ | ⟨r', h1, _⟩⟩
    · simp only [List.cons.injEq, AVal.sl.injEq, AVal.i.injEq, and_true] at h1
      obtain ⟨⟨rfl, rfl, rfl⟩, rfl, rfl⟩ := h1
      obtain ⟨o, ho1, ho2⟩ := h0 _ _ _ _ rfl
      rw [h h2 h3] at h4
      exact ⟨o, ho1, ho2, ⟨h2, h3⟩, h4⟩
    · simp at h1
  · rintro ⟨o, ho1, ho2, ⟨h2, h3⟩, h4⟩
    refine ⟨fun a' off' len' r' h1 => ?_, .inl ⟨a, off, len, _, rfl, k, x, rfl, ⟨h2, h3, Int.le_refl _⟩, by rw [h h2 h3]; exact h4⟩⟩
    simp only [List.cons.injEq, AVal.sl.injEq] at h1
    obtain ⟨⟨rfl, _⟩, _⟩ := h1
    exact ⟨o, ho1, ho2⟩
@[simp] theorem opK_sliceSl_hi (sz a off len : Nat) (k : IntKind) (y : Int) : opK Γ (.sliceSl sz false true) [.sl a off len, .i k y] none d is K e H n =
    slK Γ (H a) sz (0 ≤ y ∧ y ≤ len) (.sl a off y.toNat) d is K e H n := by
  simp only [opK, istep, opSliceSl', opSliceSl, bounds, slK, eq_iff_iff]
  constructor
  · rintro ⟨h0, ⟨a', off', len', r', h1, k', x', rfl, ⟨_, h2, h3⟩, h4⟩ | ⟨r', h1, _⟩⟩
    · simp only [List.cons.injEq, AVal.sl.injEq, AVal.i.injEq, and_true] at h1
      obtain ⟨⟨rfl, rfl, rfl⟩, rfl, rfl⟩ := h1
      obtain ⟨o, ho1, ho2⟩ := h0 _ _ _ _ rfl
      exact ⟨o, ho1, ho2, ⟨h2, h3⟩, by simpa using h4⟩
    · simp at h1
  · rintro ⟨o, ho1, ho2, ⟨h2, h3⟩, h4⟩
    refine ⟨fun a' off' len' r' h1 => ?_, .inl ⟨a, off, len, _, rfl, k, y, rfl, ⟨Int.le_refl _, h2, h3⟩, by simpa using h4⟩⟩
    simp only [List.cons.injEq, AVal.sl.injEq] at h1
    obtain ⟨⟨rfl, _⟩, _⟩ := h1
    exact ⟨o, ho1, ho2⟩
@[simp] theorem opK_sliceSl_both (sz a off len : Nat) (k j : IntKind) (x y : Int) : opK Γ (.sliceSl sz true true) [.sl a off len, .i k x, .i j y] none d is K e H n =
    slK Γ (H a) sz (0 ≤ x ∧ x ≤ y ∧ y ≤ len) (.sl a (off + x.toNat) (y - x).toNat) d is K e H n := by
  simp only [opK, istep, opSliceSl', opSliceSl, bounds, slK, eq_iff_iff]
  constructor
  · rintro ⟨h0, ⟨a', off', len', r', h1, k', x', j', y', rfl, h2, h4⟩ | ⟨r', h1, _⟩⟩
    · simp only [List.cons.injEq, AVal.sl.injEq, AVal.i.injEq, and_true] at h1
      obtain ⟨⟨rfl, rfl, rfl⟩, ⟨rfl, rfl⟩, rfl, rfl⟩ := h1
      obtain ⟨o, ho1, ho2⟩ := h0 _ _ _ _ rfl
      exact ⟨o, ho1, ho2, h2, h4⟩
    · simp at h1
  · rintro ⟨o, ho1, ho2, h2, h4⟩
    refine ⟨fun a' off' len' r' h1 => ?_, .inl ⟨a, off, len, _, rfl, k, x, j, y, rfl, h2, h4⟩⟩
    simp only [List.cons.injEq, AVal.sl.injEq] at h1
    obtain ⟨⟨rfl, _⟩, _⟩ := h1
    exact ⟨o, ho1, ho2⟩
@[simp] theorem opK_sliceNil_hi (sz : Nat) (k : IntKind) (y : Int) : opK Γ (.sliceSl sz false true) [.c (.slice none 0 0), .i k y] none d is K e H n = (y = 0 ∧ WPs Γ is K (eset e d (.c (.slice none 0 0))) H n) := by
  simp only [opK, istep, opSliceSl', opSliceSl, bounds, eq_iff_iff]
  constructor
  · rintro ⟨_, ⟨a', off', len', r', h1, _⟩ | ⟨r', h1, k', y', rfl, h2, h4⟩⟩
    · simp at h1
    · simp only [List.cons.injEq, AVal.i.injEq, and_true, true_and] at h1
      obtain ⟨rfl, rfl⟩ := h1
      exact ⟨by omega, h4⟩
  · rintro ⟨rfl, h4⟩
    exact ⟨fun a' off' len' r' h1 => by simp at h1, .inr ⟨_, rfl, k, 0, rfl, by omega, h4⟩⟩
@[simp] theorem opK_sliceNil_lo (sz : Nat) (k : IntKind) (y : Int) : opK Γ (.sliceSl sz true false) [.c (.slice none 0 0), .i k y] none d is K e H n = (y = 0 ∧ WPs Γ is K (eset e d (.c (.slice none 0 0))) H n) := by
  simp only [opK, istep, opSliceSl', opSliceSl, bounds, eq_iff_iff]
  constructor
  · rintro ⟨_, ⟨a', off', len', r', h1, _⟩ | ⟨r', h1, k', y', rfl, h2, h4⟩⟩
    · simp at h1
    · simp only [List.cons.injEq, AVal.i.injEq, and_true, true_and] at h1
      obtain ⟨rfl, rfl⟩ := h1
      exact ⟨by omega, h4⟩
  · rintro ⟨rfl, h4⟩
    exact ⟨fun a' off' len' r' h1 => by simp at h1, .inr ⟨_, rfl, k, 0, rfl, by omega, h4⟩⟩
@[simp] theorem opK_sliceNil_both (sz : Nat) (k j : IntKind) (x y : Int) : opK Γ (.sliceSl sz true true) [.c (.slice none 0 0), .i k x, .i j y] none d is K e H n = ((x = 0 ∧ y = 0) ∧ WPs Γ is K (eset e d (.c (.slice none 0 0))) H n) := by
  simp only [opK, istep, opSliceSl', opSliceSl, bounds, eq_iff_iff]
  constructor
  · rintro ⟨_, ⟨a', off', len', r', h1, _⟩ | ⟨r', h1, k', x', j', y', rfl, h2, h4⟩⟩
    · simp at h1
    · simp only [List.cons.injEq, AVal.i.injEq, and_true, true_and] at h1
      obtain ⟨⟨rfl, rfl⟩, rfl, rfl⟩ := h1
      exact ⟨by omega, h4⟩
  · rintro ⟨⟨rfl, rfl⟩, h4⟩
    exact ⟨fun a' off' len' r' h1 => by simp at h1, .inr ⟨_, rfl, k, 0, j, 0, rfl, by omega, h4⟩⟩
@[simp] theorem opK_bytesOf (l : List UInt8) : opK Γ .bytesOf [.s l] none d is K e H n = WPs Γ is K (eset e d (.sl n 0 l.length)) (hset H n (some ⟨false, 1, bytesA l⟩)) (n + 1) := by
  simp [opK, istep, opBytesOf]
end

/-! bytes, read as a string -/
def rdB (es : List AVal) : Option (List UInt8) :=
  match es with
  | [] => some []
  | .i .u8 x :: r => if 0 ≤ x ∧ x < 256 then (rdB r).map (UInt8.ofNat x.toNat :: ·) else none
  | _ => none
theorem rdB_sound : ∀ (es : List AVal) (l : List UInt8), rdB es = some l → es = bytesA l
  | [], l, h => by simp [rdB] at h; subst h; rfl
  | x :: r, l, h => by
    unfold rdB at h
    split at h
    · rename_i e; simp at e
    · rename_i y r' e
      simp only [List.cons.injEq] at e
      obtain ⟨rfl, rfl⟩ := e
      split at h
      · rename_i hc
        simp only [Option.map_eq_some_iff] at h
        obtain ⟨m, hm, rfl⟩ := h
        rw [bytesA_cons, ← rdB_sound _ m hm]
        congr 2
        simp only [UInt8.toNat_ofNat']
        omega
      · exact absurd h (by simp)
    · exact absurd h (by simp)
@[simp] theorem rdB_nil : rdB [] = some [] := rfl
@[simp] theorem rdB_cons (x : Int) (r : List AVal) : rdB (.i .u8 x :: r) = if 0 ≤ x ∧ x < 256 then (rdB r).map (UInt8.ofNat x.toNat :: ·) else none := rfl
@[simp] theorem rdB_append (l : List UInt8) (r : List AVal) : rdB (bytesA l ++ r) = (rdB r).map (l ++ ·) := by
  induction l with
  | nil => simp
  | cons c l ih =>
    have h1 : (c.toNat : Int) < 256 := by have := c.toNat_lt; omega
    rw [bytesA_cons, List.cons_append, rdB_cons, if_pos ⟨by omega, h1⟩, ih]
    cases rdB r <;> simp
@[simp] theorem rdB_bytesA (l : List UInt8) : rdB (bytesA l) = some l := by
  have := rdB_append l []
  simpa using this

section
variable (Γ : FuncId → Spec) (d : Option Nat) (is : List Ins) (K : K3) (e : Env) (H : Heap) (n : Nat)
def strK (o : Option AObj) (off len : Nat) (d : Option Nat) (is : List Ins) (K : K3) (e : Env) (H : Heap) (n : Nat) : Prop :=
  ∃ o', o = some o' ∧ o'.sz = 1 ∧ ∃ l, rdB ((o'.es.drop off).take len) = some l ∧ l.length = len ∧ WPs Γ is K (eset e d (.s l)) H n
def strK2 (o : Option (List UInt8)) (len : Nat) (d : Option Nat) (is : List Ins) (K : K3) (e : Env) (H : Heap) (n : Nat) : Prop :=
  ∃ l, o = some l ∧ l.length = len ∧ WPs Γ is K (eset e d (.s l)) H n
theorem opK_strOf_of {a off len : Nat} (h : strK Γ (H a) off len d is K e H n) : opK Γ .strOf [.sl a off len] none d is K e H n := by
  obtain ⟨o, ho, hsz, l, hl, hlen, hw⟩ := h
  exact .inl ⟨a, off, len, o, l, rfl, ho, hsz, rdB_sound _ _ hl, hlen, hw⟩
@[simp] theorem rdB_of_bytesA {es : List AVal} {l : List UInt8} (h : es = bytesA l) : rdB es = some l := by rw [h, rdB_bytesA]
@[simp] theorem opK_strOf (a off len : Nat) : opK Γ .strOf [.sl a off len] none d is K e H n = strK Γ (H a) off len d is K e H n := by
  apply propext
  constructor
  · rintro (⟨a', off', len', o, l, h1, h2, h3, h4, h5, h6⟩ | ⟨_, _, h, _⟩)
    · simp only [List.cons.injEq, AVal.sl.injEq, and_true] at h1
      obtain ⟨rfl, rfl, rfl⟩ := h1
      exact ⟨o, h2, h3, l, rdB_of_bytesA h4, h5, h6⟩
    · simp at h
  · exact opK_strOf_of Γ d is K e H n
@[simp] theorem opK_strOf_nil : opK Γ .strOf [.c (.slice none 0 0)] none d is K e H n = WPs Γ is K (eset e d (.s [])) H n := by
  simp [opK, istep, opStrOf]
@[simp] theorem strK_some (ro : Bool) (osz : Nat) (es : List AVal) (off len : Nat) : strK Γ (some ⟨ro, osz, es⟩) off len d is K e H n = (osz = 1 ∧ strK2 Γ (rdB ((es.drop off).take len)) len d is K e H n) := by
  simp [strK, strK2]
@[simp] theorem strK2_some (l : List UInt8) (len : Nat) : strK2 Γ (some l) len d is K e H n = (l.length = len ∧ WPs Γ is K (eset e d (.s l)) H n) := by simp [strK2]

/-! append -/
def elO (sz : Nat) (o : Option AObj) (off len : Nat) : Option (List AVal) :=
  match o with
  | some o => if o.sz = sz ∧ off + len ≤ o.es.length then some ((o.es.drop off).take len) else none
  | none => none
@[simp] theorem elemsOf_sl (sz : Nat) (H : Heap) (a off len : Nat) : elemsOf sz H (.sl a off len) = elO sz (H a) off len := rfl
@[simp] theorem elemsOf_nil (sz : Nat) (H : Heap) : elemsOf sz H (.c (.slice none 0 0)) = some [] := rfl
@[simp] theorem elemsOf_s (sz : Nat) (H : Heap) (l : List UInt8) : elemsOf sz H (.s l) = if sz = 1 then some (bytesA l) else none := rfl
@[simp] theorem elO_some (sz : Nat) (ro : Bool) (osz : Nat) (es : List AVal) (off len : Nat) : elO sz (some ⟨ro, osz, es⟩) off len = if osz = sz ∧ off + len ≤ es.length then some ((es.drop off).take len) else none := rfl
def apK (o : Option AObj) (a off len sz bytes : Nat) (ys : Option (List AVal)) (d : Option Nat) (is : List Ins) (K : K3) (e : Env) (H : Heap) (n : Nat) : Prop :=
  ∃ o' y, o = some o' ∧ ys = some y ∧ (∀ z ∈ y, z.solid = true) ∧ o'.ro = false ∧ o'.sz = sz ∧ off + len ≤ o'.es.length ∧ (len + y.length) * bytes ≤ 1099511627776 ∧
    WPs Γ is K (eset e d (.sl n 0 (len + y.length))) (hset (hset H a none) n (some ⟨false, sz, (o'.es.drop off).take len ++ y⟩)) (n + 1)
def apN (sz bytes : Nat) (ys : Option (List AVal)) (d : Option Nat) (is : List Ins) (K : K3) (e : Env) (H : Heap) (n : Nat) : Prop :=
  ∃ y, ys = some y ∧ (∀ z ∈ y, z.solid = true) ∧ y.length * bytes ≤ 1099511627776 ∧ WPs Γ is K (eset e d (.sl n 0 y.length)) (hset H n (some ⟨false, sz, y⟩)) (n + 1)
theorem opK_append (sz bytes a off len : Nat) (y : AVal) : opK Γ (.append sz bytes) [.sl a off len, y] none d is K e H n = apK Γ (H a) a off len sz bytes (elemsOf sz H y) d is K e H n := by
  apply propext
  constructor
  · rintro ⟨x, y', ys, h1, h2, h3, ⟨a', off', len', o, h4, h5, h6, h7, h8, h9, h10⟩ | ⟨h4, _⟩⟩
    · simp only [List.cons.injEq, and_true] at h1
      obtain ⟨rfl, rfl⟩ := h1
      simp only [AVal.sl.injEq] at h4
      obtain ⟨rfl, rfl, rfl⟩ := h4
      exact ⟨o, ys, h5, h2, h3, h6, h7, h8, h9, h10⟩
    · simp only [List.cons.injEq, and_true] at h1
      rw [← h1.1] at h4
      simp at h4
  · rintro ⟨o, ys, h5, h2, h3, h6, h7, h8, h9, h10⟩
    exact ⟨_, _, ys, rfl, h2, h3, .inl ⟨a, off, len, o, rfl, h5, h6, h7, h8, h9, h10⟩⟩
theorem opK_append_nil (sz bytes : Nat) (y : AVal) : opK Γ (.append sz bytes) [.c (.slice none 0 0), y] none d is K e H n = apN Γ sz bytes (elemsOf sz H y) d is K e H n := by
  apply propext
  constructor
  · rintro ⟨x, y', ys, h1, h2, h3, ⟨a', off', len', o, h4, _⟩ | ⟨h4, h5, h6⟩⟩
    · simp only [List.cons.injEq, and_true] at h1
      rw [← h1.1] at h4
      simp at h4
    · simp only [List.cons.injEq, and_true] at h1
      obtain ⟨rfl, rfl⟩ := h1
      exact ⟨ys, h2, h3, h5, h6⟩
  · rintro ⟨ys, h2, h3, h5, h6⟩
    exact ⟨_, _, ys, rfl, h2, h3, .inr ⟨rfl, h5, h6⟩⟩
theorem apK_some (ro : Bool) (osz : Nat) (es : List AVal) (a off len sz bytes : Nat) (y : List AVal) : apK Γ (some ⟨ro, osz, es⟩) a off len sz bytes (some y) d is K e H n =
    ((∀ z ∈ y, z.solid = true) ∧ ro = false ∧ osz = sz ∧ off + len ≤ es.length ∧ (len + y.length) * bytes ≤ 1099511627776 ∧
    WPs Γ is K (eset e d (.sl n 0 (len + y.length))) (hset (hset H a none) n (some ⟨false, sz, (es.drop off).take len ++ y⟩)) (n + 1)) := by simp [apK]
theorem apN_some (sz bytes : Nat) (y : List AVal) : apN Γ sz bytes (some y) d is K e H n =
    ((∀ z ∈ y, z.solid = true) ∧ y.length * bytes ≤ 1099511627776 ∧ WPs Γ is K (eset e d (.sl n 0 y.length)) (hset H n (some ⟨false, sz, y⟩)) (n + 1)) := by simp [apN]
end

section
variable (Γ : FuncId → Spec) (d : Option Nat) (is : List Ins) (K : K3) (e : Env) (H : Heap) (n : Nat)
@[simp] theorem opK_never (vals : List AVal) (md : Option Bool) : opK Γ .never vals md d is K e H n = False := by
  simp only [opK, istep]
def sealK (o : Option AObj) (len : Nat) (v : AVal) (d : Option Nat) (is : List Ins) (K : K3) (e : Env) (H : Heap) (n : Nat) : Prop :=
  ∃ o', o = some o' ∧ o'.ro = false ∧ o'.sz = 1 ∧ 0 < len ∧ WPs Γ is K (eset e d v) H n
@[simp] theorem opK_seal (a off len : Nat) : opK Γ .sealB [.sl a off len] none d is K e H n = sealK Γ (H a) len (.sl a off len) d is K e H n := by
  apply propext
  constructor
  · rintro ⟨a', off', len', o, h1, h2, h3, h4, h5, h6⟩
    simp only [List.cons.injEq, AVal.sl.injEq, and_true] at h1
    obtain ⟨rfl, rfl, rfl⟩ := h1
    exact ⟨o, h2, h3, h4, h5, h6⟩
  · rintro ⟨o, h2, h3, h4, h5, h6⟩
    exact ⟨a, off, len, o, rfl, h2, h3, h4, h5, h6⟩
@[simp] theorem sealK_some (ro : Bool) (sz : Nat) (es : List AVal) (len : Nat) (v : AVal) : sealK Γ (some ⟨ro, sz, es⟩) len v d is K e H n = (ro = false ∧ sz = 1 ∧ 0 < len ∧ WPs Γ is K (eset e d v) H n) := by simp [sealK]
@[simp] theorem opK_slnil_sl (neg : Bool) (a off len : Nat) : opK Γ (.slnil neg) [.sl a off len, .c (.slice none 0 0)] none d is K e H n = (0 < len ∧ WPs Γ is K (eset e d (.b neg)) H n) := by
  apply propext
  constructor
  · rintro ⟨x, p, h1, h2, h3⟩
    simp only [List.cons.injEq, and_true] at h1
    subst h1
    simp only [isNilS] at h2
    split at h2
    · simp only [Option.some.injEq] at h2; subst h2; exact ⟨by assumption, by simpa using h3⟩
    · simp at h2
  · rintro ⟨h1, h2⟩
    exact ⟨_, false, rfl, by simp [isNilS, h1], by simpa using h2⟩
@[simp] theorem opK_slnil_nil (neg : Bool) : opK Γ (.slnil neg) [.c (.slice none 0 0), .c (.slice none 0 0)] none d is K e H n = WPs Γ is K (eset e d (.b (!neg))) H n := by
  apply propext
  constructor
  · rintro ⟨x, p, h1, h2, h3⟩
    simp only [List.cons.injEq, and_true] at h1
    subst h1
    simp only [isNilS, Option.some.injEq] at h2
    subst h2
    cases neg <;> simpa using h3
  · intro h
    exact ⟨_, true, rfl, rfl, by cases neg <;> simpa using h⟩
@[simp] theorem opK_range (l : List UInt8) : opK Γ .range [.s l] none d is K e H n = WPs Γ is K (eset e d (.ptr n 0 0)) (hset H n (some ⟨false, itc l 0, []⟩)) (n + 1) := by
  simp [opK, istep, opRange]
def nextK (o : Option AObj) (a : Nat) (d : Option Nat) (is : List Ins) (K : K3) (e : Env) (H : Heap) (n : Nat) : Prop :=
  ∃ l k, o = some ⟨false, itc l k, []⟩ ∧ (k < l.length → WPs Γ is K (eset e d (.tup [.b true, .i .i64 k, .i .i32 (Utf8.decode ⟨l.toArray⟩ k).1])) (hset H a (some ⟨false, itc l (k + (Utf8.decode ⟨l.toArray⟩ k).2), []⟩)) n) ∧
    (l.length ≤ k → WPs Γ is K (eset e d (.tup [.b false])) H n)
@[simp] theorem opK_next (a : Nat) : opK Γ .next [.ptr a 0 0] none d is K e H n = nextK Γ (H a) a d is K e H n := by
  apply propext
  constructor
  · rintro ⟨a', l, k, h1, h2, h3, h4⟩
    simp only [List.cons.injEq, AVal.ptr.injEq, and_true] at h1
    subst h1
    exact ⟨l, k, h2, h3, h4⟩
  · rintro ⟨l, k, h2, h3, h4⟩
    exact ⟨a, l, k, rfl, h2, h3, h4⟩
@[simp] theorem nextK_some (l : List UInt8) (k a : Nat) : nextK Γ (some ⟨false, itc l k, []⟩) a d is K e H n =
    ((k < l.length → WPs Γ is K (eset e d (.tup [.b true, .i .i64 k, .i .i32 (Utf8.decode ⟨l.toArray⟩ k).1])) (hset H a (some ⟨false, itc l (k + (Utf8.decode ⟨l.toArray⟩ k).2), []⟩)) n) ∧
    (l.length ≤ k → WPs Γ is K (eset e d (.tup [.b false])) H n)) := by
  apply propext
  constructor
  · rintro ⟨l', k', h1, h2⟩
    simp only [Option.some.injEq, AObj.mk.injEq, true_and, and_true] at h1
    obtain ⟨rfl, rfl⟩ := itc_inj h1
    exact h2
  · intro h; exact ⟨l, k, rfl, h⟩
@[simp] theorem opK_make (sz bytes : Nat) (z : AVal) (l c : Int) : opK Γ (.make sz bytes z) [.i .i64 l, .i .i64 c] none d is K e H n =
    (0 ≤ l ∧ l ≤ c ∧ c * bytes ≤ 1099511627776 ∧ c ≤ 1099511627776 ∧ WPs Γ is K (eset e d (.sl n 0 l.toNat)) (hset H n (some ⟨false, sz, List.replicate c.toNat z⟩)) (n + 1)) := by
  apply propext
  constructor
  · rintro ⟨l', c', h1, h2⟩
    simp only [List.cons.injEq, AVal.i.injEq, true_and, and_true] at h1
    obtain ⟨rfl, rfl⟩ := h1
    exact h2
  · intro h; exact ⟨l, c, rfl, h⟩
def saK (o : Option AObj) (i j len : Nat) (d : Option Nat) (is : List Ins) (K : K3) (e : Env) (H : Heap) (n : Nat) : Prop :=
  ∃ o' el, o = some o' ∧ o'.ro = true ∧ o'.es[i]? = some el ∧ j + len ≤ el.cells.length ∧ (∀ y ∈ (el.cells.drop j).take len, y.cells = [y]) ∧
    WPs Γ is K (eset e d (.sl n 0 len)) (hset H n (some ⟨true, 1, (el.cells.drop j).take len⟩)) (n + 1)
@[simp] theorem opK_sliceArr (len sz a i j : Nat) : opK Γ (.sliceArr len sz) [.ptr a i j] none d is K e H n = saK Γ (H a) i j len d is K e H n := by
  apply propext
  constructor
  · rintro ⟨a', i', j', o, el, h1, h2, h3, h4, h5, h6, h7⟩
    simp only [List.cons.injEq, AVal.ptr.injEq, and_true] at h1
    obtain ⟨rfl, rfl, rfl⟩ := h1
    exact ⟨o, el, h2, h3, h4, h5, h6, h7⟩
  · rintro ⟨o, el, h2, h3, h4, h5, h6, h7⟩
    exact ⟨a, i, j, o, el, rfl, h2, h3, h4, h5, h6, h7⟩
def saE (el : Option AVal) (j len : Nat) (d : Option Nat) (is : List Ins) (K : K3) (e : Env) (H : Heap) (n : Nat) : Prop :=
  ∃ el', el = some el' ∧ j + len ≤ el'.cells.length ∧ (∀ y ∈ (el'.cells.drop j).take len, y.cells = [y]) ∧
    WPs Γ is K (eset e d (.sl n 0 len)) (hset H n (some ⟨true, 1, (el'.cells.drop j).take len⟩)) (n + 1)
@[simp] theorem saK_some (ro : Bool) (sz : Nat) (es : List AVal) (i j len : Nat) : saK Γ (some ⟨ro, sz, es⟩) i j len d is K e H n = (ro = true ∧ saE Γ es[i]? j len d is K e H n) := by
  simp only [saK, saE, Option.some.injEq, exists_and_left, eq_iff_iff]
  constructor
  · rintro ⟨o, rfl, h1, el, h2, h3⟩; exact ⟨h1, el, h2, h3⟩
  · rintro ⟨h1, el, h2, h3⟩; exact ⟨_, rfl, h1, el, h2, h3⟩
@[simp] theorem saE_some (el : AVal) (j len : Nat) : saE Γ (some el) j len d is K e H n = (j + len ≤ el.cells.length ∧ (∀ y ∈ (el.cells.drop j).take len, y.cells = [y]) ∧
    WPs Γ is K (eset e d (.sl n 0 len)) (hset H n (some ⟨true, 1, (el.cells.drop j).take len⟩)) (n + 1)) := by simp [saE]
end

@[simp] theorem bytesA_solid (l : List UInt8) : (∀ z ∈ bytesA l, z.solid = true) ↔ True := by
  simp [bytesA, AVal.solid]
attribute [simp] AVal.solid fillA putE
/-! memory -/
theorem hset_apply (H : Heap) (a : Nat) (o : Option AObj) (c : Nat) : hset H a o c = if c = a then o else H c := rfl
@[simp] theorem hset_add (H : Heap) (n k m : Nat) (o : Option AObj) : hset H (n + k) o (n + m) = if m = k then o else H (n + m) := by
  simp [hset]
@[simp] theorem hset_add0 (H : Heap) (n m : Nat) (o : Option AObj) : hset H n o (n + m) = if m = 0 then o else H (n + m) := by
  simp [hset]
@[simp] theorem hset_0add (H : Heap) (n k : Nat) (o : Option AObj) : hset H (n + k) o n = if k = 0 then o else H n := by
  have : (n = n + k) = (k = 0) := by apply propext; omega
  simp [hset, this]
@[simp] theorem hset_app (H : Heap) (a : Nat) (o : Option AObj) (c : Nat) : hset H a o c = if c = a then o else H c := rfl
@[simp] theorem nf2 (n : Nat) : (n = n + 1 + 1) = False := by simp; omega
@[simp] theorem nb2 (n : Nat) : (n + 1 + 1 = n) = False := by simp; omega
@[simp] theorem nf3 (n : Nat) : (n = n + 1 + 1 + 1) = False := by simp; omega
@[simp] theorem nb3 (n : Nat) : (n + 1 + 1 + 1 = n) = False := by simp; omega
@[simp] theorem nf4 (n : Nat) : (n = n + 1 + 1 + 1 + 1) = False := by simp; omega
@[simp] theorem nb4 (n : Nat) : (n + 1 + 1 + 1 + 1 = n) = False := by simp; omega
@[simp] theorem nf5 (n : Nat) : (n = n + 1 + 1 + 1 + 1 + 1) = False := by simp; omega
@[simp] theorem nb5 (n : Nat) : (n + 1 + 1 + 1 + 1 + 1 = n) = False := by simp; omega
@[simp] theorem nf6 (n : Nat) : (n = n + 1 + 1 + 1 + 1 + 1 + 1) = False := by simp; omega
@[simp] theorem nb6 (n : Nat) : (n + 1 + 1 + 1 + 1 + 1 + 1 = n) = False := by simp; omega
@[simp] theorem nf7 (n : Nat) : (n = n + 1 + 1 + 1 + 1 + 1 + 1 + 1) = False := by simp; omega
@[simp] theorem nb7 (n : Nat) : (n + 1 + 1 + 1 + 1 + 1 + 1 + 1 = n) = False := by simp; omega
@[simp] theorem nf8 (n : Nat) : (n = n + 1 + 1 + 1 + 1 + 1 + 1 + 1 + 1) = False := by simp; omega
@[simp] theorem nb8 (n : Nat) : (n + 1 + 1 + 1 + 1 + 1 + 1 + 1 + 1 = n) = False := by simp; omega
@[simp] theorem oneCell_nilslice : (Value.slice none 0 0).oneCell' = true := rfl
@[simp] theorem oneCell_nilptr : (Value.pointer none).oneCell' = true := rfl
@[simp] theorem oneCell_nilmap : (Value.map none).oneCell' = true := rfl
@[simp] theorem oneCell_nilfunc : (Value.nilFunc).oneCell' = true := rfl
@[simp] theorem oneCell_niliface : (Value.nilIface).oneCell' = true := rfl
@[simp] theorem bne_cons_nil {α : Type} [BEq α] (a : α) (l : List α) : (a :: l != []) = true := rfl
@[simp] theorem beq_cons_nil {α : Type} [BEq α] (a : α) (l : List α) : (a :: l == []) = false := rfl
@[simp] theorem bne_nil_nil {α : Type} [BEq α] : (([] : List α) != []) = false := rfl
@[simp] theorem beq_nil_nil {α : Type} [BEq α] : (([] : List α) == []) = true := rfl
theorem frA {a n : Nat} (h : a < n) : (a = n) = False := by simp; omega
theorem frB {a n : Nat} (h : a < n) (k : Nat) : (a = n + k) = False := by simp; omega
@[simp] theorem hset_hset (H : Heap) (a : Nat) (o o' : Option AObj) : hset (hset H a o) a o' = hset H a o' := by
  funext c; simp only [hset]; split <;> rfl
/-- A name from before. -/
theorem hset_old {n a : Nat} (h : a < n) (H : Heap) (o : Option AObj) : hset H n o a = H a := by simp [hset]; omega
theorem hset_olds {n a : Nat} (h : a < n) (H : Heap) (k : Nat) (o : Option AObj) : hset H (n + k) o a = H a := by simp [hset]; omega
theorem hset_new {n a : Nat} (h : a < n) (H : Heap) (o : Option AObj) : hset H a o n = H n := by simp [hset]; omega
theorem hset_news {n a : Nat} (h : a < n) (H : Heap) (k : Nat) (o : Option AObj) : hset H a o (n + k) = H (n + k) := by simp [hset]; omega

/-! numbers -/
theorem wrap_i64 {x : Int} (h : -9223372036854775808 ≤ x) (h2 : x ≤ 9223372036854775807) : IntKind.i64.wrap x = x := by
  simp only [IntKind.wrap, IntKind.bits, IntKind.signed]
  simp
  omega
theorem wrap_u8 {x : Int} (h : 0 ≤ x) (h2 : x < 256) : IntKind.u8.wrap x = x := by
  simp only [IntKind.wrap, IntKind.bits, IntKind.signed]
  simp
  omega

/-! slices, by what they hold -/
/-- How long a slice is. -/
def slLen : AVal → Option Nat
  | .sl _ _ len => some len
  | .c (.slice none 0 0) => some 0
  | _ => none
@[simp] theorem slLen_sl (a o l : Nat) : slLen (.sl a o l) = some l := rfl
@[simp] theorem slLen_nil : slLen (.c (.slice none 0 0)) = some 0 := rfl
theorem slLen_cases {v : AVal} {k : Nat} (h : slLen v = some k) : (∃ a off, v = .sl a off k) ∨ (v = .c (.slice none 0 0) ∧ k = 0) := by
  unfold slLen at h
  split at h
  · simp only [Option.some.injEq] at h; subst h; exact .inl ⟨_, _, rfl⟩
  · simp only [Option.some.injEq] at h; exact .inr ⟨rfl, h.symm⟩
  · exact absurd h (by simp)
theorem slLen_one {v : AVal} {k : Nat} (h : slLen v = some k) : v.one = true := by
  rcases slLen_cases h with ⟨a, o, rfl⟩ | ⟨rfl, _⟩ <;> rfl
theorem slLen_cells {v : AVal} {k : Nat} (h : slLen v = some k) : v.cells = [v] := by
  rcases slLen_cases h with ⟨a, o, rfl⟩ | ⟨rfl, _⟩ <;> rfl
theorem slLen_gof {v : AVal} {k : Nat} (h : slLen v = some k) : gof v = true := by
  rcases slLen_cases h with ⟨a, o, rfl⟩ | ⟨rfl, _⟩ <;> rfl
theorem slLen_unw {v : AVal} {k : Nat} (h : slLen v = some k) : unw v = v := by
  rcases slLen_cases h with ⟨a, o, rfl⟩ | ⟨rfl, _⟩ <;> rfl
/-- What a slice holds that may be written, and appended to. -/
def ownO (sz : Nat) (o : Option AObj) (off len : Nat) : Option (List AVal) :=
  match o with
  | some o => if o.ro = false ∧ o.sz = sz ∧ off + len ≤ o.es.length then some ((o.es.drop off).take len) else none
  | none => none
def ownOf (sz : Nat) (H : Heap) : AVal → Option (List AVal)
  | .sl a off len => ownO sz (H a) off len
  | .c (.slice none 0 0) => some []
  | _ => none
@[simp] theorem ownO_some (sz : Nat) (ro : Bool) (osz : Nat) (es : List AVal) (off len : Nat) : ownO sz (some ⟨ro, osz, es⟩) off len = if ro = false ∧ osz = sz ∧ off + len ≤ es.length then some ((es.drop off).take len) else none := rfl
@[simp] theorem ownOf_sl (sz : Nat) (H : Heap) (a off len : Nat) : ownOf sz H (.sl a off len) = ownO sz (H a) off len := rfl
@[simp] theorem ownOf_nil (sz : Nat) (H : Heap) : ownOf sz H (.c (.slice none 0 0)) = some [] := rfl
/-- The memory without a slice's row. -/
def killV (H : Heap) : AVal → Heap
  | .sl a _ _ => hset H a none
  | _ => H
@[simp] theorem killV_sl (H : Heap) (a off len : Nat) : killV H (.sl a off len) = hset H a none := rfl
@[simp] theorem killV_nil (H : Heap) : killV H (.c (.slice none 0 0)) = H := rfl
section
variable (Γ : FuncId → Spec) (md : Option Bool) (d : Option Nat) (is : List Ins) (K : K3) (e : Env) (H : Heap) (n : Nat)
def lenK (o : Option Nat) (md : Option Bool) (d : Option Nat) (is : List Ins) (K : K3) (e : Env) (H : Heap) (n : Nat) : Prop := ∃ k : Nat, o = some k ∧ WPs Γ is K (eset e d (wr md (.i .i64 (k : Int)))) H n
@[simp] theorem lenK_some (k : Nat) : lenK Γ (some k) md d is K e H n = WPs Γ is K (eset e d (wr md (.i .i64 (k : Int)))) H n := by simp [lenK]
@[simp] theorem opK_len (v : AVal) : opK Γ .lenSl [v] md d is K e H n = lenK Γ (slLen v) md d is K e H n := by
  apply propext
  constructor
  · intro h
    have h' := h
    have : ∃ k, slLen v = some k := by
      cases md <;> simp only [opK, istep, List.cons.injEq, and_true] at h <;> rcases h with ⟨a, off, len, rfl, _⟩ | ⟨rfl, _⟩
      all_goals first | exact ⟨_, rfl⟩
    obtain ⟨k, hk⟩ := this
    refine ⟨k, hk, ?_⟩
    rcases slLen_cases hk with ⟨a, o, rfl⟩ | ⟨rfl, rfl⟩
    · rw [opK_lenSl] at h'; exact h'
    · rw [opK_lenNil] at h'; exact h'
  · rintro ⟨k, hk, h⟩
    rcases slLen_cases hk with ⟨a, o, rfl⟩ | ⟨rfl, rfl⟩
    · rw [opK_lenSl]; exact h
    · rw [opK_lenNil]; exact h
def appK (x : AVal) (sz bytes : Nat) (xs ys : Option (List AVal)) (d : Option Nat) (is : List Ins) (K : K3) (e : Env) (H : Heap) (n : Nat) : Prop :=
  ∃ u y, xs = some u ∧ ys = some y ∧ (∀ z ∈ y, z.solid = true) ∧ (u.length + y.length) * bytes ≤ 1099511627776 ∧
    WPs Γ is K (eset e d (.sl n 0 (u.length + y.length))) (hset (killV H x) n (some ⟨false, sz, u ++ y⟩)) (n + 1)
@[simp] theorem appK_some (x : AVal) (sz bytes : Nat) (u y : List AVal) : appK Γ x sz bytes (some u) (some y) d is K e H n = ((∀ z ∈ y, z.solid = true) ∧ (u.length + y.length) * bytes ≤ 1099511627776 ∧
    WPs Γ is K (eset e d (.sl n 0 (u.length + y.length))) (hset (killV H x) n (some ⟨false, sz, u ++ y⟩)) (n + 1)) := by simp [appK]
@[simp] theorem opK_app (sz bytes : Nat) (x y : AVal) : opK Γ (.append sz bytes) [x, y] none d is K e H n = appK Γ x sz bytes (ownOf sz H x) (elemsOf sz H y) d is K e H n := by
  apply propext
  constructor
  · rintro ⟨x', y', ys, h1, h2, h3, ⟨a, off, len, o, rfl, h5, h6, h7, h8, h9, h10⟩ | ⟨rfl, h5, h6⟩⟩
    · simp only [List.cons.injEq, and_true] at h1
      obtain ⟨rfl, rfl⟩ := h1
      have hl : ((o.es.drop off).take len).length = len := by rw [List.length_take, List.length_drop]; omega
      refine ⟨(o.es.drop off).take len, ys, ?_, h2, h3, by rw [hl]; exact h9, by rw [hl]; exact h10⟩
      simp [h5, ownO, h6, h7, h8]
    · simp only [List.cons.injEq, and_true] at h1
      obtain ⟨rfl, rfl⟩ := h1
      exact ⟨[], ys, rfl, h2, h3, by simpa using h5, by simpa using h6⟩
  · rintro ⟨u, ys, h1, h2, h3, h4, h5⟩
    unfold ownOf at h1
    split at h1
    · rename_i a off len
      unfold ownO at h1
      split at h1
      · rename_i o ho
        split at h1
        · rename_i hc
          simp only [Option.some.injEq] at h1
          subst h1
          have hl : ((o.es.drop off).take len).length = len := by rw [List.length_take, List.length_drop]; omega
          rw [hl] at h4 h5
          exact ⟨_, _, ys, rfl, h2, h3, .inl ⟨a, off, len, o, rfl, ho, hc.1, hc.2.1, hc.2.2, h4, h5⟩⟩
        · exact absurd h1 (by simp)
      · exact absurd h1 (by simp)
    · simp only [Option.some.injEq] at h1
      subst h1
      exact ⟨_, _, ys, rfl, h2, h3, .inr ⟨rfl, by simpa using h4, by simpa using h5⟩⟩
    · exact absurd h1 (by simp)
end

/-! the end of a function -/
/-- The objects of a memory, unturned in another one. -/
def Keep (H0 : Heap) (n0 : Nat) (H : Heap) : Prop := ∀ a o, a < n0 → H0 a = some o → H a = some o
theorem Keep.refl (H : Heap) (n : Nat) : Keep H n H := fun _ _ _ h => h
theorem Keep.new {H0 H : Heap} {n0 m : Nat} {o : Option AObj} (h : Keep H0 n0 H) (hm : n0 ≤ m) : Keep H0 n0 (hset H m o) := fun a o' h1 h2 => by
  rw [hset_ne _ _ (by omega)]; exact h a o' h1 h2

/-- No name of `n0` or beyond stands in it. -/
def below (n0 : Nat) : AVal → Prop
  | .ptr a _ _ => a < n0
  | .sl a _ _ => a < n0
  | .agg cs => rens (fun a => if a < n0 then a else a + 1) cs = cs
  | .tup cs => rens (fun a => if a < n0 then a else a + 1) cs = cs
  | .fn _ x y => rens (fun a => if a < n0 then a else a + 1) x = x ∧ rens (fun a => if a < n0 then a else a + 1) y = y
  | .ifc _ x => ren (fun a => if a < n0 then a else a + 1) x = x
  | .when _ x => ren (fun a => if a < n0 then a else a + 1) x = x
  | _ => True

/-- Nothing new is handed back, nothing old has turned. -/
theorem Fin.same {H0 : Heap} {n0 : Nat} {κ : Cont} {v : AVal} {H : Heap} {n : Nat} (hf : ∀ m, n0 ≤ m → H0 m = none) (hk : κ v H0 n0) (hv : ∀ f : Nat → Nat, (∀ a, a < n0 → f a = a) → ren f v = v) (hkeep : Keep H0 n0 H) :
    Fin H0 n0 κ v H n := by
  refine ⟨[], v, H0, by simpa using hk, by simp, by simp, (hv _ (fun a ha => by simp [renL, ha])).symm, fun a o e => .inl ?_⟩
  have ha : a < n0 := by
    rcases Nat.lt_or_ge a n0 with q | q
    · exact q
    · rw [hf a q] at e; exact absurd e (by simp)
  exact ⟨ha, e, hkeep a o ha e⟩

/-- One new row is handed back. -/
theorem Fin.new1 {H0 : Heap} {n0 : Nat} {κ : Cont} {H : Heap} {n m : Nat} {o : AObj} {v vs : AVal} (hf : ∀ m, n0 ≤ m → H0 m = none) (hk : κ vs (hset H0 n0 (some o)) (n0 + 1)) (hm : n0 ≤ m) (hH : H m = some o)
    (hv : ∀ f : Nat → Nat, (∀ a, a < n0 → f a = a) → f n0 = m → ren f vs = v) (ho : ∀ f : Nat → Nat, (∀ a, a < n0 → f a = a) → rens f o.es = o.es) (hkeep : Keep H0 n0 H) : Fin H0 n0 κ v H n := by
  have hold : ∀ a, a < n0 → renL n0 n [m] a = a := fun a ha => by simp [renL, ha]
  have hn0 : renL n0 n [m] n0 = m := by simp [renL]
  refine ⟨[m], vs, hset H0 n0 (some o), hk, by simp, by simpa using hm, (hv _ hold hn0).symm, fun a o' e => ?_⟩
  by_cases ha : a = n0
  · subst ha
    rw [hset_same] at e
    simp only [Option.some.injEq] at e
    subst e
    exact .inr ⟨by simp, o, by rw [hn0]; exact hH, rfl, rfl, (ho _ hold).symm⟩
  · rw [hset_ne _ _ ha] at e
    have hlt : a < n0 := by
      rcases Nat.lt_or_ge a n0 with q | q
      · exact q
      · rw [hf a q] at e; exact absurd e (by simp)
    exact .inl ⟨hlt, e, hkeep a o' hlt e⟩

@[simp] theorem ren_i (f : Nat → Nat) (k : IntKind) (x : Int) : ren f (.i k x) = .i k x := rfl
@[simp] theorem ren_b (f : Nat → Nat) (p : Bool) : ren f (.b p) = .b p := rfl
@[simp] theorem ren_s (f : Nat → Nat) (l : List UInt8) : ren f (.s l) = .s l := rfl
@[simp] theorem ren_c (f : Nat → Nat) (v : Value) : ren f (.c v) = .c v := rfl
@[simp] theorem ren_ptr (f : Nat → Nat) (a i j : Nat) : ren f (.ptr a i j) = .ptr (f a) i j := rfl
@[simp] theorem ren_sl (f : Nat → Nat) (a i j : Nat) : ren f (.sl a i j) = .sl (f a) i j := rfl
@[simp] theorem ren_agg (f : Nat → Nat) (cs : List AVal) : ren f (.agg cs) = .agg (rens f cs) := rfl
@[simp] theorem ren_tup (f : Nat → Nat) (cs : List AVal) : ren f (.tup cs) = .tup (rens f cs) := rfl
@[simp] theorem ren_fn (f : Nat → Nat) (g : Fn) (x y : List AVal) : ren f (.fn g x y) = .fn g (rens f x) (rens f y) := rfl
@[simp] theorem rens_nil (f : Nat → Nat) : rens f [] = [] := rfl
@[simp] theorem rens_cons (f : Nat → Nat) (x : AVal) (xs : List AVal) : rens f (x :: xs) = ren f x :: rens f xs := rfl
@[simp] theorem rens_bytesA (f : Nat → Nat) (l : List UInt8) : rens f (bytesA l) = bytesA l := by
  rw [rens_map]; simp [bytesA]
@[simp] theorem rens_append (f : Nat → Nat) (x y : List AVal) : rens f (x ++ y) = rens f x ++ rens f y := by simp [rens_map]

end Go.AM
/- AM, part 18: a function of a program. -/
set_option linter.unusedVariables false
namespace Go.AM
variable {P : Program}

def noflip : Nat → Nat → Bool := fun _ _ => false
/-- The slots that are read behind a region. -/
def live : List (Nat × List Nat) → Nat → List Nat
  | [], _ => []
  | (a, l) :: r, x => if x = a then l else live r x
/-- A function's code, its results, its slots. -/
def compF (P : Program) (f : FuncId) (ks : List (Nat × List Nat)) : Option (CC × List RV × Nat) :=
  match P.funcs[f]? with
  | none => none
  | some fn => if fn.name == "runtime.NumGoroutine" then none else
    match fn.body with
    | none => none
    | some c => match compC P fn.ntmps noflip (live ks) c, compRVs P fn.results.toList with
      | some cc, some rs => some (cc, rs, fn.ntmps)
      | _, _ => none

theorem compF_okC (hm : P.follows .mixedOrders = true) {Γ : FuncId → Spec} (hΓ : ∀ f, SpecOK P f (Γ f)) {f : FuncId} {ks : List (Nat × List Nat)} {cc : CC} {rs : List RV} {m : Nat} (h : compF P f ks = some (cc, rs, m)) {S : Spec}
    (hS : ∀ args H n κ, (∀ m, n ≤ m → H m = none) → S args H n κ → args.length ≤ m ∧ WPC Γ cc (retQ rs H n κ) (argE args) H n) : SpecOK P f S := by
  unfold compF at h
  split at h
  · exact absurd h (by simp)
  · rename_i fn hf
    split at h
    · exact absurd h (by simp)
    · rename_i hname
      split at h
      · exact absurd h (by simp)
      · rename_i c hb
        split at h
        · rename_i cc' rs' hc hr
          simp only [Option.some.injEq, Prod.mk.injEq] at h
          obtain ⟨rfl, rfl, rfl⟩ := h
          exact fn_ok hm hΓ hf (by simpa using hname) hb hc hr hS
        · exact absurd h (by simp)

theorem compF_ok (hm : P.follows .mixedOrders = true) {Γ : FuncId → Spec} (hΓ : ∀ f, SpecOK P f (Γ f)) {f : FuncId} {ks : List (Nat × List Nat)} {cc : CC} {rs : List RV} {m : Nat} (h : compF P f ks = some (cc, rs, m)) {S : Spec}
    (hS : ∀ args H n κ, (∀ m, n ≤ m → H m = none) → S args H n κ → args.length ≤ m ∧ WP Γ cc (retQ rs H n κ) (argE args) H n) : SpecOK P f S :=
  compF_okC hm hΓ h (fun args H n κ hf hs => ⟨(hS args H n κ hf hs).1, (hS args H n κ hf hs).2.toC⟩)


/-- What is known of a few functions. -/
def tbl : List (FuncId × Spec) → FuncId → Spec
  | [], _ => fun _ _ _ _ => False
  | (g, S) :: r, f => if f = g then S else tbl r f
@[simp] theorem tbl_cons (g : FuncId) (S : Spec) (r : List (FuncId × Spec)) (f : FuncId) : tbl ((g, S) :: r) f = if f = g then S else tbl r f := rfl
theorem tbl_nil_ok : ∀ f, SpecOK P f (tbl [] f) := fun f args H n κ h => h.elim
theorem tbl_cons_ok {g : FuncId} {S : Spec} {r : List (FuncId × Spec)} (h : SpecOK P g S) (k : ∀ f, SpecOK P f (tbl r f)) : ∀ f, SpecOK P f (tbl ((g, S) :: r) f) := fun f => by
  simp only [tbl]
  split
  · rename_i e; subst e; exact h
  · exact k f

/-- The objects of `Hs` below `n0` stand at the end: unturned, or turned and free of new names. -/
def Stay (H0 Hs : Heap) (n0 : Nat) (H : Heap) : Prop :=
  ∀ a o, Hs a = some o → a < n0 ∧ ((H0 a = some o ∧ H a = some o) ∨ (H a = some o ∧ ∀ f : Nat → Nat, (∀ a, a < n0 → f a = a) → rens f o.es = o.es))

theorem Fin.same' {H0 : Heap} {n0 : Nat} {κ : Cont} {v : AVal} {H : Heap} {n : Nat} {Hs : Heap} (hk : κ v Hs n0) (hv : ∀ f : Nat → Nat, (∀ a, a < n0 → f a = a) → ren f v = v) (hst : Stay H0 Hs n0 H) :
    Fin H0 n0 κ v H n := by
  have hold : ∀ a, a < n0 → renL n0 n [] a = a := fun a ha => by simp [renL, ha]
  refine ⟨[], v, Hs, by simpa using hk, by simp, by simp, (hv _ hold).symm, fun a o e => ?_⟩
  obtain ⟨h1, h2⟩ := hst a o e
  rcases h2 with ⟨h2, h3⟩ | ⟨h2, h3⟩
  · exact .inl ⟨h1, h2, h3⟩
  · exact .inr ⟨by simpa using h1, o, by rw [hold a h1]; exact h2, rfl, rfl, (h3 _ hold).symm⟩

theorem Fin.new1' {H0 : Heap} {n0 : Nat} {κ : Cont} {H : Heap} {n m : Nat} {o : AObj} {v vs : AVal} {Hs : Heap} (hk : κ vs (hset Hs n0 (some o)) (n0 + 1)) (hm : n0 ≤ m) (hH : H m = some o)
    (hv : ∀ f : Nat → Nat, (∀ a, a < n0 → f a = a) → f n0 = m → ren f vs = v) (ho : ∀ f : Nat → Nat, (∀ a, a < n0 → f a = a) → rens f o.es = o.es) (hst : Stay H0 Hs n0 H) : Fin H0 n0 κ v H n := by
  have hold : ∀ a, a < n0 → renL n0 n [m] a = a := fun a ha => by simp [renL, ha]
  have hn0 : renL n0 n [m] n0 = m := by simp [renL]
  refine ⟨[m], vs, hset Hs n0 (some o), hk, by simp, by simpa using hm, (hv _ hold hn0).symm, fun a o' e => ?_⟩
  by_cases ha : a = n0
  · subst ha
    rw [hset_same] at e
    simp only [Option.some.injEq] at e
    subst e
    exact .inr ⟨by simp, o, by rw [hn0]; exact hH, rfl, rfl, (ho _ hold).symm⟩
  · rw [hset_ne _ _ ha] at e
    obtain ⟨h1, h2⟩ := hst a o' e
    rcases h2 with ⟨h2, h3⟩ | ⟨h2, h3⟩
    · exact .inl ⟨h1, h2, h3⟩
    · exact .inr ⟨by simp; omega, o', by rw [hold a h1]; exact h2, rfl, rfl, (h3 _ hold).symm⟩

theorem Stay.refl {H : Heap} {n : Nat} (hf : ∀ m, n ≤ m → H m = none) : Stay H H n H := fun a o e => by
  refine ⟨?_, .inl ⟨e, e⟩⟩
  rcases Nat.lt_or_ge a n with q | q
  · exact q
  · rw [hf a q] at e; exact absurd e (by simp)
/-- What is made behind is of no matter. -/
theorem Stay.new {H0 Hs H : Heap} {n0 m : Nat} {o : Option AObj} (h : Stay H0 Hs n0 H) (hm : n0 ≤ m) : Stay H0 Hs n0 (hset H m o) := fun a o' e => by
  obtain ⟨h1, h2⟩ := h a o' e
  rw [hset_ne _ _ (by omega)]
  exact ⟨h1, h2⟩
/-- A row that is dead is of no matter. -/
theorem Stay.kill {H0 Hs H : Heap} {n0 a : Nat} {o : Option AObj} (h : Stay H0 Hs n0 H) : Stay H0 (hset Hs a none) n0 (hset H a o) := fun b o' e => by
  by_cases hb : b = a
  · subst hb; rw [hset_same] at e; exact absurd e (by simp)
  · rw [hset_ne _ _ hb] at e ⊢
    exact h b o' e
/-- A row that is turned. -/
theorem Stay.turn {H0 Hs H : Heap} {n0 a : Nat} {o : AObj} (h : Stay H0 Hs n0 H) (ha : a < n0) (ho : ∀ f : Nat → Nat, (∀ a, a < n0 → f a = a) → rens f o.es = o.es) : Stay H0 (hset Hs a (some o)) n0 (hset H a (some o)) := fun b o' e => by
  by_cases hb : b = a
  · subst hb
    rw [hset_same] at e ⊢
    simp only [Option.some.injEq] at e
    subst e
    exact ⟨ha, .inr ⟨rfl, ho⟩⟩
  · rw [hset_ne _ _ hb] at e ⊢
    exact h b o' e

/-- A loop's round is done: on to the next. -/
def goOn (I : Nat → Env → Heap → Nat → Prop) (k : Nat) : Env → Heap → Nat → Prop := fun e' H' n' => ∃ H'' k', Heap.le H'' H' ∧ k' < k ∧ I k' e' H'' n'
theorem goOn_of {I : Nat → Env → Heap → Nat → Prop} {k : Nat} {e : Env} {H : Heap} {n : Nat} (k' : Nat) (hk : k' < k) (h : I k' e H n) : goOn I k e H n := ⟨H, k', Heap.le.refl H, hk, h⟩
/-- A loop, by what holds ahead of each round. -/
theorem WP_loop_of {Γ : FuncId → Spec} {c : CC} {Q : Post} {e : Env} {H : Heap} {n : Nat} (I : Nat → Env → Heap → Nat → Prop) (k : Nat) (h0 : I k e H n)
    (hr : ∀ k e H n, (∀ m, n ≤ m → H m = none) → I k e H n → WP Γ c (thenQ (goOn I k) Q) e H n) : WP Γ (.loop c) Q e H n :=
  ⟨I, k, H, Heap.le.refl H, h0, hr⟩

/-- A loop whose rounds go from one state to another one. -/
theorem WP_loop_st {Γ : FuncId → Spec} {c : CC} {Q : Post} {e : Env} {H : Heap} {n : Nat} {S : Type} (E : S → Env) (Hp : S → Heap) (N : S → Nat) (inv : S → Prop) (m : S → Nat) (s0 : S)
    (he : e = E s0) (hH : Heap.le (Hp s0) H) (hn : n = N s0) (h0 : inv s0)
    (hr : ∀ s, inv s → (∀ k, N s ≤ k → Hp s k = none) → ∀ G : Env → Heap → Nat → Prop, (∀ s' {e H n}, e = E s' → Heap.le (Hp s') H → n = N s' → inv s' → m s' < m s → G e H n) →
      WP Γ c (thenQ G Q) (E s) (Hp s) (N s)) : WP Γ (.loop c) Q e H n := by
  subst he; subst hn
  refine ⟨fun k e H n => ∃ s, k = m s ∧ e = E s ∧ H = Hp s ∧ n = N s ∧ inv s, m s0, Hp s0, hH, ⟨s0, rfl, rfl, rfl, rfl, h0⟩, ?_⟩
  rintro k e H n hf ⟨s, rfl, rfl, rfl, rfl, hi⟩
  exact hr s hi hf _ (fun s' {e H n} h1 h2 h3 h4 h5 => ⟨_, _, h2, h5, s', rfl, h1, rfl, h3, h4⟩)

/-- The end of a function that hands back something that names nothing new, and turns nothing. -/
theorem fin_same {H : Heap} {n : Nat} {κ : Cont} {v v' : AVal} {H' : Heap} {n' : Nat} (hf : ∀ m, n ≤ m → H m = none) (hk : κ v H n) (e : v' = v) (hst : Stay H H n H')
    (hv : ∀ f : Nat → Nat, (∀ a, a < n → f a = a) → ren f v = v) : Fin H n κ v' H' n' := by
  subst e; exact Fin.same' hk hv hst
theorem fin_nameless {H : Heap} {n : Nat} {κ : Cont} {v v' : AVal} {H' : Heap} {n' : Nat} (hk : κ v H n) (e : v' = v) (hst : Stay H H n H')
    (hv : ∀ f : Nat → Nat, ren f v = v) : Fin H n κ v' H' n' := by
  subst e; exact Fin.same' hk (fun f _ => hv f) hst
end Go.AM
/- AM, part 19: data in the abstract memory. -/
set_option linter.unusedVariables false
set_option linter.unusedSimpArgs false
namespace Go.AM

theorem lt_of_live {H : Heap} {n a : Nat} {o : AObj} (hf : ∀ m, n ≤ m → H m = none) (h : H a = some o) : a < n := by
  rcases Nat.lt_or_ge a n with q | q
  · exact q
  · rw [hf a q] at h; exact absurd h (by simp)
theorem rens_id {es : List AVal} (h : ∀ y ∈ es, ∀ f, ren f y = y) (f : Nat → Nat) : rens f es = es := by
  rw [rens_map]
  conv => rhs; rw [← List.map_id es]
  exact List.map_congr_left (fun y hy => h y hy f)

/-- A slice that holds `es`. -/
def SlAt (sz : Nat) (H : Heap) (v : AVal) (es : List AVal) : Prop := elemsOf sz H v = some es ∧ slLen v = some es.length
theorem SlAt.len {sz : Nat} {H : Heap} {v : AVal} {es : List AVal} (h : SlAt sz H v es) : slLen v = some es.length := h.2
theorem SlAt.els {sz : Nat} {H : Heap} {v : AVal} {es : List AVal} (h : SlAt sz H v es) : elemsOf sz H v = some es := h.1
theorem SlAt.one {sz : Nat} {H : Heap} {v : AVal} {es : List AVal} (h : SlAt sz H v es) : v.one = true := slLen_one h.2
theorem SlAt.cells {sz : Nat} {H : Heap} {v : AVal} {es : List AVal} (h : SlAt sz H v es) : v.cells = [v] := slLen_cells h.2
theorem SlAt.nil (sz : Nat) (H : Heap) : SlAt sz H (.c (.slice none 0 0)) [] := ⟨rfl, rfl⟩
theorem SlAt.cases {sz : Nat} {H : Heap} {v : AVal} {es : List AVal} (h : SlAt sz H v es) : (v = .c (.slice none 0 0) ∧ es = []) ∨
    ∃ a off ro os, v = .sl a off es.length ∧ H a = some ⟨ro, sz, os⟩ ∧ off + es.length ≤ os.length ∧ (os.drop off).take es.length = es := by
  obtain ⟨h1, h2⟩ := h
  rcases slLen_cases h2 with ⟨a, off, rfl⟩ | ⟨rfl, hl⟩
  · right
    simp only [elemsOf] at h1
    split at h1
    · rename_i o ho
      split at h1
      · rename_i hc
        simp only [Option.some.injEq] at h1
        obtain ⟨hs, hl⟩ := hc
        obtain ⟨ro, osz, os⟩ := o
        simp only at hs hl h1
        subst hs
        exact ⟨a, off, ro, os, rfl, ho, hl, h1⟩
      · exact absurd h1 (by simp)
    · exact absurd h1 (by simp)
  · exact .inl ⟨rfl, List.length_eq_zero_iff.1 hl⟩
theorem SlAt.of {sz : Nat} {H : Heap} {a off len : Nat} {ro : Bool} {os es : List AVal} (ha : H a = some ⟨ro, sz, os⟩) (hl : off + len ≤ os.length) (he : (os.drop off).take len = es) : SlAt sz H (.sl a off len) es := by
  subst he
  refine ⟨by simp [ha, hl], ?_⟩
  simp only [slLen_sl, Option.some.injEq, List.length_take, List.length_drop]
  omega
theorem SlAt.mono {sz : Nat} {H H' : Heap} {v : AVal} {es : List AVal} (h : SlAt sz H v es) (hh : ∀ a o, H a = some o → H' a = some o) : SlAt sz H' v es := by
  rcases h.cases with ⟨rfl, rfl⟩ | ⟨a, off, ro, os, rfl, h1, h2, h3⟩
  · exact .nil _ _
  · exact .of (hh _ _ h1) h2 h3
theorem SlAt.keep {sz : Nat} {H H' : Heap} {n : Nat} {v : AVal} {es : List AVal} (h : SlAt sz H v es) (hf : ∀ m, n ≤ m → H m = none) (hk : Keep H n H') : SlAt sz H' v es :=
  h.mono (fun a o ha => hk a o (lt_of_live hf ha) ha)
theorem SlAt.new {sz : Nat} {H : Heap} {m : Nat} {o : Option AObj} {v : AVal} {es : List AVal} (h : SlAt sz H v es) (hf : H m = none) : SlAt sz (hset H m o) v es :=
  h.mono (fun a o' ha => by rw [hset_ne _ _ (fun e => by subst e; rw [hf] at ha; exact absurd ha (by simp))]; exact ha)
theorem SlAt.get {os es : List AVal} {off i : Nat} (h : (os.drop off).take es.length = es) (hi : i < es.length) : os[off + i]? = some es[i] := by
  have := congrArg (·[i]?) h
  simp only [List.getElem?_take_of_lt hi, List.getElem?_drop] at this
  rw [this]; simp [hi]
theorem SlAt.ren {sz : Nat} {H : Heap} {n : Nat} {v : AVal} {es : List AVal} (h : SlAt sz H v es) (hf : ∀ m, n ≤ m → H m = none) (f : Nat → Nat) (hid : ∀ a, a < n → f a = a) : ren f v = v := by
  rcases h.cases with ⟨rfl, rfl⟩ | ⟨a, off, ro, os, rfl, h1, h2, h3⟩
  · rfl
  · simp [hid a (lt_of_live hf h1)]

/-- A slice of its own, from its row's beginning: it may be appended to. -/
def OwnAt (sz : Nat) (H : Heap) (v : AVal) (es : List AVal) : Prop := (v = .c (.slice none 0 0) ∧ es = []) ∨ ∃ a, v = .sl a 0 es.length ∧ H a = some ⟨false, sz, es⟩
theorem OwnAt.nil (sz : Nat) (H : Heap) : OwnAt sz H (.c (.slice none 0 0)) [] := .inl ⟨rfl, rfl⟩
theorem OwnAt.own {sz : Nat} {H : Heap} {v : AVal} {es : List AVal} (h : OwnAt sz H v es) : ownOf sz H v = some es := by
  rcases h with ⟨rfl, rfl⟩ | ⟨a, rfl, ha⟩
  · rfl
  · simp [ha]
theorem OwnAt.len {sz : Nat} {H : Heap} {v : AVal} {es : List AVal} (h : OwnAt sz H v es) : slLen v = some es.length := by
  rcases h with ⟨rfl, rfl⟩ | ⟨a, rfl, ha⟩ <;> rfl
theorem OwnAt.sl {sz : Nat} {H : Heap} {v : AVal} {es : List AVal} (h : OwnAt sz H v es) : SlAt sz H v es := by
  rcases h with ⟨rfl, rfl⟩ | ⟨a, rfl, ha⟩
  · exact .nil _ _
  · exact .of ha (by omega) (by simp)

def intsA (ps : List Int) : List AVal := ps.map (.i .i64)
@[simp] theorem intsA_nil : intsA [] = [] := rfl
@[simp] theorem intsA_cons (p : Int) (ps : List Int) : intsA (p :: ps) = .i .i64 p :: intsA ps := rfl
@[simp] theorem intsA_length (ps : List Int) : (intsA ps).length = ps.length := by simp [intsA]
@[simp] theorem intsA_append (l m : List Int) : intsA (l ++ m) = intsA l ++ intsA m := by simp [intsA]
@[simp] theorem intsA_getElem (ps : List Int) (i : Nat) (h : i < (intsA ps).length) : (intsA ps)[i] = .i .i64 (ps[i]'(by simpa using h)) := by simp [intsA]
@[simp] theorem rens_intsA (f : Nat → Nat) (ps : List Int) : rens f (intsA ps) = intsA ps := by
  rw [rens_map]; simp [intsA]
theorem intsA_solid (ps : List Int) : ∀ y ∈ intsA ps, y.solid = true := by
  intro y hy
  obtain ⟨p, _, rfl⟩ := List.mem_map.1 hy
  rfl
@[simp] theorem bytesA_getElem (l : List UInt8) (i : Nat) (h : i < (bytesA l).length) : (bytesA l)[i] = .i .u8 (((l[i]'(by simpa using h)).toNat : Nat) : Int) := by simp [bytesA]
def strsA (ps : List (List UInt8)) : List AVal := ps.map .s
@[simp] theorem strsA_nil : strsA [] = [] := rfl
@[simp] theorem strsA_cons (p : List UInt8) (ps : List (List UInt8)) : strsA (p :: ps) = .s p :: strsA ps := rfl
@[simp] theorem strsA_length (ps : List (List UInt8)) : (strsA ps).length = ps.length := by simp [strsA]
@[simp] theorem strsA_append (l m : List (List UInt8)) : strsA (l ++ m) = strsA l ++ strsA m := by simp [strsA]
@[simp] theorem strsA_getElem (ps : List (List UInt8)) (i : Nat) (h : i < (strsA ps).length) : (strsA ps)[i] = .s (ps[i]'(by simpa using h)) := by simp [strsA]
@[simp] theorem rens_strsA (f : Nat → Nat) (ps : List (List UInt8)) : rens f (strsA ps) = strsA ps := by
  rw [rens_map]; simp [strsA]
theorem strsA_solid (ps : List (List UInt8)) : ∀ y ∈ strsA ps, y.solid = true := by
  intro y hy
  obtain ⟨p, _, rfl⟩ := List.mem_map.1 hy
  rfl
abbrev IntsAt (H : Heap) (v : AVal) (ps : List Int) : Prop := SlAt 1 H v (intsA ps)
abbrev BytesAt (H : Heap) (v : AVal) (l : List UInt8) : Prop := SlAt 1 H v (bytesA l)
abbrev StrsAt (H : Heap) (v : AVal) (l : List (List UInt8)) : Prop := SlAt 1 H v (strsA l)

theorem SlAt.at {sz : Nat} {H : Heap} {v : AVal} {es : List AVal} (h : SlAt sz H v es) {i : Nat} (hi : i < es.length) : ∃ a off ro os, v = .sl a off es.length ∧ H a = some ⟨ro, sz, os⟩ ∧ os[off + i]? = some es[i] := by
  rcases h.cases with ⟨rfl, rfl⟩ | ⟨a, off, ro, os, h1, h2, h3, h4⟩
  · exact absurd hi (by simp)
  · exact ⟨a, off, ro, os, h1, h2, SlAt.get h4 hi⟩
theorem ints_at {H : Heap} {v : AVal} {ps : List Int} (h : IntsAt H v ps) {i : Nat} (hi : i < ps.length) : ∃ a off ro os, v = .sl a off ps.length ∧ H a = some ⟨ro, 1, os⟩ ∧ os[off + i]? = some (.i .i64 ps[i]) := by
  obtain ⟨a, off, ro, os, h1, h2, h3⟩ := SlAt.at h (i := i) (by simpa using hi)
  exact ⟨a, off, ro, os, by simpa using h1, h2, by simpa using h3⟩
theorem bytes_at {H : Heap} {v : AVal} {l : List UInt8} (h : BytesAt H v l) {i : Nat} (hi : i < l.length) : ∃ a off ro os, v = .sl a off l.length ∧ H a = some ⟨ro, 1, os⟩ ∧ os[off + i]? = some (.i .u8 ((l[i].toNat : Nat) : Int)) := by
  obtain ⟨a, off, ro, os, h1, h2, h3⟩ := SlAt.at h (i := i) (by simpa using hi)
  exact ⟨a, off, ro, os, by simpa using h1, h2, by simpa using h3⟩
theorem strs_at {H : Heap} {v : AVal} {l : List (List UInt8)} (h : StrsAt H v l) {i : Nat} (hi : i < l.length) : ∃ a off ro os, v = .sl a off l.length ∧ H a = some ⟨ro, 1, os⟩ ∧ os[off + i]? = some (.s l[i]) := by
  obtain ⟨a, off, ro, os, h1, h2, h3⟩ := SlAt.at h (i := i) (by simpa using hi)
  exact ⟨a, off, ro, os, by simpa using h1, h2, by simpa using h3⟩
theorem ints_len {H : Heap} {v : AVal} {ps : List Int} (h : IntsAt H v ps) : slLen v = some ps.length := by simpa using h.len
theorem bytes_len {H : Heap} {v : AVal} {l : List UInt8} (h : BytesAt H v l) : slLen v = some l.length := by simpa using h.len
theorem strs_len {H : Heap} {v : AVal} {l : List (List UInt8)} (h : StrsAt H v l) : slLen v = some l.length := by simpa using h.len

/-- The ends: new bytes are handed back. -/
def newSl (sz : Nat) (es : List AVal) (H : Heap) (n : Nat) (κ : Cont) : Prop := κ (.sl n 0 es.length) (hset H n (some ⟨false, sz, es⟩)) (n + 1)
theorem fin_new {H : Heap} {n : Nat} {κ : Cont} {sz len m : Nat} {es : List AVal} {H' : Heap} {n' : Nat} (hf : ∀ m, n ≤ m → H m = none) (hk : newSl sz es H n κ) (hm : n ≤ m) (hH : H' m = some ⟨false, sz, es⟩) (hl : len = es.length)
    (he : ∀ f : Nat → Nat, (∀ a, a < n → f a = a) → rens f es = es) (hst : Stay H H n H') : Fin H n κ (.sl m 0 len) H' n' := by
  subst hl
  exact Fin.new1' (vs := .sl n 0 es.length) hk hm hH (fun f _ h2 => by simp [h2]) he hst
theorem Stay.killV {H0 Hs H : Heap} {n0 : Nat} {v : AVal} (h : Stay H0 Hs n0 H) : Stay H0 (killV Hs v) n0 (killV H v) := by
  unfold Go.AM.killV
  split
  · exact h.kill
  · exact h
theorem fin_new' {H Hs : Heap} {n : Nat} {κ : Cont} {sz len m : Nat} {es : List AVal} {H' : Heap} {n' : Nat} (hk : κ (.sl n 0 es.length) (hset Hs n (some ⟨false, sz, es⟩)) (n + 1)) (hm : n ≤ m) (hH : H' m = some ⟨false, sz, es⟩) (hl : len = es.length)
    (he : ∀ f : Nat → Nat, (∀ a, a < n → f a = a) → rens f es = es) (hst : Stay H Hs n H') : Fin H n κ (.sl m 0 len) H' n' := by
  subst hl
  exact Fin.new1' (vs := .sl n 0 es.length) hk hm hH (fun f _ h2 => by simp [h2]) he hst
theorem Stay.keep {H H' : Heap} {n : Nat} (hf : ∀ m, n ≤ m → H m = none) (hk : Keep H n H') : Stay H H n H' := fun a o e => ⟨lt_of_live hf e, .inl ⟨e, hk a o (lt_of_live hf e) e⟩⟩
theorem le_hset_self {H : Heap} {a : Nat} {o : AObj} (h : H a = some o) : Heap.le (hset H a (some o)) H := fun c o' e => by
  simp only [hset_app] at e
  split at e
  · rename_i q; subst q; rw [h]; exact e
  · exact e
/-- A slice that is none of the elder memory's. -/
def NewV (n : Nat) : AVal → Prop
  | .sl a _ _ => n ≤ a
  | _ => True
theorem killV_old {H : Heap} {n0 a : Nat} {v : AVal} (hv : NewV n0 v) (ha : a < n0) : Go.AM.killV H v a = H a := by
  unfold Go.AM.killV
  split
  · rw [hset_ne]; intro e; subst e; exact absurd (show n0 ≤ a from hv) (by omega)
  · rfl
theorem Keep.killV {H0 H : Heap} {n : Nat} {v : AVal} (h : Keep H0 n H) (hv : NewV n v) : Keep H0 n (Go.AM.killV H v) := by
  unfold Go.AM.killV
  split
  · exact h.new hv
  · exact h
theorem killV_new {H : Heap} {m : Nat} {o : Option AObj} {v : AVal} {sz : Nat} {es : List AVal} (h : OwnAt sz H v es) (hf : H m = none) : Go.AM.killV (hset H m o) v = hset (Go.AM.killV H v) m o := by
  rcases h with ⟨rfl, rfl⟩ | ⟨a, rfl, ha⟩
  · rfl
  · have hne : a ≠ m := fun e => by subst e; rw [hf] at ha; exact absurd ha (by simp)
    funext c
    simp only [killV_sl, hset]
    by_cases h1 : c = a
    · subst h1; simp [hne]
    · simp [h1]
theorem OwnAt.keep {sz : Nat} {H H' : Heap} {n : Nat} {v : AVal} {es : List AVal} (h : OwnAt sz H v es) (hf : ∀ m, n ≤ m → H m = none) (hk : Keep H n H') : OwnAt sz H' v es := by
  rcases h with ⟨rfl, rfl⟩ | ⟨a, rfl, ha⟩
  · exact .inl ⟨rfl, rfl⟩
  · exact .inr ⟨a, rfl, hk _ _ (lt_of_live hf ha) ha⟩
theorem OwnAt.new {sz : Nat} {H : Heap} {m : Nat} {o : Option AObj} {v : AVal} {es : List AVal} (h : OwnAt sz H v es) (hf : H m = none) : OwnAt sz (hset H m o) v es := by
  rcases h with ⟨rfl, rfl⟩ | ⟨a, rfl, ha⟩
  · exact .inl ⟨rfl, rfl⟩
  · exact .inr ⟨a, rfl, by rw [hset_ne _ _ (fun e => by subst e; rw [hf] at ha; exact absurd ha (by simp))]; exact ha⟩
theorem OwnAt.here {sz : Nat} {H : Heap} {a : Nat} {es : List AVal} {len : Nat} (h : len = es.length) : OwnAt sz (hset H a (some ⟨false, sz, es⟩)) (.sl a 0 len) es := .inr ⟨a, by rw [h], by simp⟩
/-- A slice that is being built, over a memory that stays. -/
structure Bld (sz : Nat) (H0 : Heap) (n0 : Nat) (es : List AVal) (out : AVal) (H : Heap) (n : Nat) : Prop where
  own : OwnAt sz H out es
  new : NewV n0 out
  keep : Keep H0 n0 H
  le : n0 ≤ n
  fresh : ∀ m, n ≤ m → H m = none
theorem Bld.nil {sz : Nat} {H : Heap} {n : Nat} (hf : ∀ m, n ≤ m → H m = none) : Bld sz H n [] (.c (.slice none 0 0)) H n := ⟨.nil _ _, trivial, .refl _ _, Nat.le_refl _, hf⟩
theorem Bld.ext {sz : Nat} {H0 H H' : Heap} {n0 n n' : Nat} {es : List AVal} {out : AVal} (h : Bld sz H0 n0 es out H n) (hx : Keep H n H') (hn : n ≤ n') (hf : ∀ m, n' ≤ m → H' m = none) : Bld sz H0 n0 es out H' n' :=
  ⟨h.own.keep h.fresh hx, h.new, fun a o ha e => hx a o (Nat.lt_of_lt_of_le ha h.le) (h.keep a o ha e), Nat.le_trans h.le hn, hf⟩
theorem Bld.app {sz : Nat} {H0 H : Heap} {n0 n : Nat} {es : List AVal} {out : AVal} (h : Bld sz H0 n0 es out H n) (ys : List AVal) : Bld sz H0 n0 (es ++ ys) (.sl n 0 (es.length + ys.length)) (hset (Go.AM.killV H out) n (some ⟨false, sz, es ++ ys⟩)) (n + 1) := by
  refine ⟨OwnAt.here (by simp), h.le, (h.keep.killV h.new).new h.le, Nat.le_succ_of_le h.le, fun m hm => ?_⟩
  rw [hset_ne _ _ (by omega)]
  unfold Go.AM.killV
  split
  · simp only [hset_app]
    split
    · rfl
    · exact h.fresh m (by omega)
  · exact h.fresh m (by omega)
theorem Bld.app' {sz : Nat} {H0 H H' : Heap} {n0 n n' : Nat} {es : List AVal} {out : AVal} (h : Bld sz H0 n0 es out H n) (ys : List AVal) (hx : Keep H n H') (hn : n ≤ n') (hf : ∀ m, n' ≤ m → H' m = none) :
    Bld sz H0 n0 (es ++ ys) (.sl n' 0 (es.length + ys.length)) (hset (Go.AM.killV H' out) n' (some ⟨false, sz, es ++ ys⟩)) (n' + 1) := (h.ext hx hn hf).app ys
theorem fresh_new {H : Heap} {n : Nat} {o : Option AObj} (h : ∀ m, n ≤ m → H m = none) : ∀ m, n + 1 ≤ m → hset H n o m = none := fun m hm => by
  rw [hset_ne _ _ (by omega)]; exact h m (by omega)
/-- What was built is handed back. -/
theorem Bld.fin {sz : Nat} {H0 H : Heap} {n0 n : Nat} {es : List AVal} {out : AVal} (h : Bld sz H0 n0 es out H n) (he : es ≠ []) : ∃ a, out = .sl a 0 es.length ∧ n0 ≤ a ∧ H a = some ⟨false, sz, es⟩ := by
  rcases h.own with ⟨rfl, h0⟩ | ⟨a, rfl, ha⟩
  · exact absurd h0 he
  · exact ⟨a, rfl, h.new, ha⟩
theorem Stay.at {H H' : Heap} {n u : Nat} {o : AObj} (hf : ∀ m, n ≤ m → H m = none) (hk : ∀ a o, a < n → a ≠ u → H a = some o → H' a = some o) (hu : H' u = some o) (hun : u < n) (ho : ∀ f : Nat → Nat, (∀ a, a < n → f a = a) → rens f o.es = o.es) :
    Stay H (hset H u (some o)) n H' := fun a o' e => by
  simp only [hset_app] at e
  split at e
  · rename_i q
    subst q
    simp only [Option.some.injEq] at e
    subst e
    exact ⟨hun, .inr ⟨hu, ho⟩⟩
  · rename_i q
    have ha := lt_of_live hf e
    exact ⟨ha, .inl ⟨e, hk a o' ha q e⟩⟩
end Go.AM
/- AM, part 20: contracts on calls, as specs. -/
set_option linter.unusedVariables false
set_option linter.unusedSimpArgs false
namespace Go.AM
open Go.RowKit
variable {P : Program}

theorem SpecOK.lift {f : FuncId} {fn : Func} (hf : P.funcs[f]? = some fn) (hname : (fn.name == "runtime.NumGoroutine") = false) (hb : fn.body.isNone = false) {S : Spec}
    (h : ∀ args H n κ, S args H n κ → ∀ ρ w (vs : Array Value), VRels ρ args vs.toList → Sat ρ H w → Fresh ρ n → Calls P f vs w fun e w' => ∃ v, e = .returned v ∧ Res ρ H w n κ v w') : SpecOK P f S := by
  intro args H n κ hs ρ w vs hv hsat hfr
  rw [run_callFunc hf hname hb]
  exact h args H n κ hs ρ w vs hv hsat hfr

theorem After.below {ρ : Rho} {H : Heap} {w w' : World} {n : Nat} (hs : Sat ρ H w) (hfr : Fresh ρ n) (hb : Below w.heap.size w w') : After ρ H w n ρ H w' n := by
  refine ⟨⟨fun a o e => ?_, fun a c oa oc x y p1 p2 p3 q1 q2 q3 hne e1 e2 hro r1 r2 => hs.apart a c oa oc x y p1 p2 p3 q1 q2 q3 hne e1 e2 hro r1 r2⟩, hfr, Nat.le_refl _, .refl _, hb.os, hb.tape, hb.output, hb.size, fun k hk _ => hb.block k hk, fun k hk => .inl hk⟩
  obtain ⟨x, hx, ho⟩ := hs.obj a o e
  refine ⟨x, hx, ?_⟩
  cases x with
  | nil => exact ho
  | «at» blk base cap sz => exact ho.world (hb.block blk ho.lt)

theorem Res.same {ρ : Rho} {H : Heap} {w : World} {n : Nat} {κ : Cont} {v : AVal} {v' : Value} {w' : World} (hs : Sat ρ H w) (hfr : Fresh ρ n) (hb : Below w.heap.size w w') (hk : κ v H n) (hv : VRel ρ v v') : Res ρ H w n κ v' w' :=
  ⟨v, ρ, H, n, hk, hv, .below hs hfr hb⟩

/-- A slice whose elements have one cell each, in the machine. -/
theorem slice_at {ρ : Rho} {H : Heap} {w : World} {v : AVal} {u : Value} {es : List AVal} (hv : VRel ρ v u) (h : SlAt 1 H v es) (hs : Sat ρ H w) (hone : ∀ e ∈ es, e.cells = [e]) :
    es = [] ∧ (∃ ad cp, u = .slice ad 0 cp) ∨ ∃ blk o cp, u = .slice (some ⟨blk, o, none⟩) es.length cp ∧ es.length ≤ cp ∧ blk < w.heap.size ∧ ∀ j e, es[j]? = some e → ∃ x, w.cell? ⟨blk, o + j, none⟩ = some x ∧ VRel ρ e x := by
  rcases h.cases with ⟨rfl, rfl⟩ | ⟨a, off, ro, os, rfl, ha, hl, he⟩
  · simp only [VRel] at hv
    exact .inl ⟨rfl, none, 0, hv⟩
  · cases es with
    | nil =>
      simp only [VRel, List.length_nil] at hv
      rcases hv with ⟨_, _, rfl⟩ | ⟨blk, base, cap, sz, ad, cp, _, rfl, _⟩
      · exact .inl ⟨rfl, _, _, rfl⟩
      · exact .inl ⟨rfl, _, _, rfl⟩
    | cons e es =>
      right
      simp only [VRel] at hv
      rcases hv with ⟨_, h0, _⟩ | ⟨blk, base, cap, sz, ad, cp, hr, rfl, hcp, hz⟩
      · simp at h0
      rcases hz with rfl | ⟨rfl, hc⟩
      · simp at hcp
      obtain ⟨x, hx, ho⟩ := hs.obj a _ ha
      rw [hr] at hx
      simp only [Option.some.injEq] at hx
      subst hx
      have hlt := ho.lt
      rcases ho with ⟨h1, _⟩ | ⟨_, hsz, cc, t, fz, hh, hfree, hcc, hol, hel⟩
      · simp only at h1
        subst h1
        simp at hl
      simp only at hsz hel hol
      subst hsz
      refine ⟨blk, base + off * 1, cp, by simp, hcp, hlt, fun j e' hj => ?_⟩
      have hjl : j < (e :: es).length := by
        rcases Nat.lt_or_ge j (e :: es).length with q | q
        · exact q
        · rw [List.getElem?_eq_none q] at hj; exact absurd hj (by simp)
      have hg := SlAt.get he hjl
      rw [List.getElem?_eq_getElem hjl] at hj
      simp only [Option.some.injEq] at hj
      subst hj
      obtain ⟨_, hx⟩ := hel _ _ hg
      rw [hone _ (List.getElem_mem hjl)] at hx
      obtain ⟨x, hx1, hx2⟩ := hx 0 _ rfl
      refine ⟨x, ?_, hx2⟩
      rw [cell_of hh, ← hx1]
      congr 1
      omega

theorem Ret.weaken {R R' : Value → World → Prop} {r : Result Next} (h : Ret P R r) (hr : ∀ v w, R v w → R' v w) : Ret P R' r := by
  cases r with
  | ok x w =>
    cases x <;> simp only [Ret] at h ⊢
    · exact hr _ _ h
    · refine Calls.mono h ?_
      rintro e w' ⟨v, rfl, hv⟩
      exact ⟨v, rfl, hr _ _ hv⟩
    · exact Rows.mono h (fun v w' hv => hr _ _ hv)
  | halt x w => exact h.elim
theorem rels_1 {ρ : Rho} {a : AVal} {vs : Array Value} (h : VRels ρ [a] vs.toList) : ∃ x, vs = #[x] ∧ VRel ρ a x := by
  obtain ⟨x, hx, hr⟩ := rels1 h
  exact ⟨x, Array.toList_inj.1 (by simpa using hx), hr⟩
theorem rels_2 {ρ : Rho} {a b : AVal} {vs : Array Value} (h : VRels ρ [a, b] vs.toList) : ∃ x y, vs = #[x, y] ∧ VRel ρ a x ∧ VRel ρ b y := by
  obtain ⟨x, y, hx, hr, hr2⟩ := rels2 h
  exact ⟨x, y, Array.toList_inj.1 (by simpa using hx), hr, hr2⟩
/-- A function that only reads, over a memory that may be written. -/
def roH (H : Heap) : Heap := fun a => (H a).map fun o => ⟨true, o.sz, o.es⟩
theorem roH_some {H : Heap} {a : Nat} {ro : Bool} {sz : Nat} {es : List AVal} (h : H a = some ⟨ro, sz, es⟩) : roH H a = some ⟨true, sz, es⟩ := by simp [roH, h]
/-- A value that names no memory. -/
def plainV : AVal → Bool
  | .i .. | .b _ | .s _ | .c _ => true
  | .tup vs => vs.all fun v => match v with | .i .. | .b _ | .s _ | .c _ => true | _ => false
  | _ => false
theorem plain_one {ρ ρ' : Rho} {v : AVal} {u : Value} (hp : (match v with | .i .. | .b _ | .s _ | .c _ => true | _ => false) = true) (h : VRel ρ v u) : VRel ρ' v u := by
  cases v <;> simp at hp <;> simpa [VRel] using h
theorem plain_list {ρ ρ' : Rho} : ∀ {vs : List AVal} {us : List Value}, (vs.all fun v => match v with | .i .. | .b _ | .s _ | .c _ => true | _ => false) = true → VRels ρ vs us → VRels ρ' vs us
  | [], us, _, h => by simpa [VRels] using h
  | v :: vs, us, hp, h => by
    simp only [List.all_cons, Bool.and_eq_true] at hp
    simp only [VRels] at h ⊢
    obtain ⟨u, us', h1, h2, h3⟩ := h
    exact ⟨u, us', h1, plain_one hp.1 h2, plain_list hp.2 h3⟩
theorem plain_rel {ρ ρ' : Rho} {v : AVal} {u : Value} (hp : plainV v = true) (h : VRel ρ v u) : VRel ρ' v u := by
  cases v with
  | tup vs =>
    simp only [VRel] at h ⊢
    obtain ⟨us, h1, h2⟩ := h
    exact ⟨us, h1, plain_list hp h2⟩
  | i _ _ => simpa [VRel] using h
  | b _ => simpa [VRel] using h
  | s _ => simpa [VRel] using h
  | c _ => simpa [VRel] using h
  | _ => simp [plainV] at hp
theorem Sat.ro {ρ : Rho} {H : Heap} {w : World} (h : Sat ρ H w) : Sat ρ (roH H) w := by
  refine ⟨fun a o e => ?_, fun a c oa oc x y p1 p2 p3 q1 q2 q3 _ e1 e2 hro _ _ => ?_⟩
  · simp only [roH, Option.map_eq_some_iff] at e
    obtain ⟨o', e', rfl⟩ := e
    obtain ⟨x, hx, ho⟩ := h.obj a o' e'
    refine ⟨x, hx, ?_⟩
    cases x with
    | nil => exact ho
    | «at» blk base cap sz =>
      rcases ho with ⟨h1, h2, h3, h4, l, k, h5, h6⟩ | ⟨h1, h2, cc, elem, fz, h3, h4, h5, h6, h7⟩
      · exact .inl ⟨h1, h2, h3, h4, l, k, h5, h6⟩
      · exact .inr ⟨h1, h2, cc, elem, fz, h3, fun q => absurd q (by simp), h5, h6, h7⟩
  · simp only [roH, Option.map_eq_some_iff] at e1 e2
    obtain ⟨_, _, rfl⟩ := e1
    obtain ⟨_, _, rfl⟩ := e2
    simp at hro
def borrowS (S : Spec) : Spec := fun args H n κ => S args (roH H) n (fun v _ _ => plainV v = true ∧ κ v H n)
theorem SpecOK.borrow {f : FuncId} {S : Spec} (h : SpecOK P f S) : SpecOK P f (borrowS S) := by
  intro args H n κ hs ρ w vs hv hsat hfr
  have := h args (roH H) n _ hs ρ w vs hv hsat.ro hfr
  refine Ret.weaken this ?_
  rintro v' w' ⟨v, ρ', H', n', ⟨hp, hk⟩, hr, ha⟩
  have hno : ∀ k, ¬ Owns ρ (roH H) k := by
    rintro k ⟨a, o, p1, p2, p3, e1, e2, _⟩
    simp only [roH, Option.map_eq_some_iff] at e1
    obtain ⟨_, _, rfl⟩ := e1
    simp at e2
  exact .same hsat hfr ⟨ha.frame.os, ha.frame.tape, ha.frame.output, ha.frame.size, fun k hk' => ha.frame.block k hk' (hno k)⟩ hk (plain_rel hp hr)
/-- What a spec says of a call, over a memory of which nothing may be written. -/
theorem SpecOK.calls {f : FuncId} {fn : Func} (hf : P.funcs[f]? = some fn) (hname : (fn.name == "runtime.NumGoroutine") = false) (hb : fn.body.isNone = false) {S : Spec} (h : SpecOK P f S) {args : List AVal} {H : Heap} {n : Nat} {R : Value → Prop}
    {ρ : Rho} {w : World} {vs : Array Value} (hs : S args H n (fun v _ _ => ∀ ρ' u, VRel ρ' v u → R u)) (hv : VRels ρ args vs.toList) (hsat : Sat ρ H w) (hfr : Fresh ρ n) (hro : ∀ a o, H a = some o → o.ro = true) :
    Calls P f vs w fun e w' => (∃ v, e = .returned v ∧ R v) ∧ Below w.heap.size w w' := by
  have := h args H n _ hs ρ w vs hv hsat hfr
  rw [run_callFunc hf hname hb] at this
  simp only [Ret] at this
  refine Calls.mono this ?_
  rintro e w' ⟨u, rfl, v, ρ', H', n', hR, hr, ha⟩
  have hno : ∀ k, ¬ Owns ρ H k := by
    rintro k ⟨a, o, p1, p2, p3, e1, e2, _⟩
    rw [hro a o e1] at e2
    exact absurd e2 (by simp)
  exact ⟨⟨u, rfl, hR ρ' u hr⟩, ha.frame.os, ha.frame.tape, ha.frame.output, ha.frame.size, fun k hk' => ha.frame.block k hk' (hno k)⟩
theorem Sat.none (w : World) : Sat (fun _ => none) (fun _ => none) w := ⟨fun a o e => absurd e (by simp), fun a c oa oc x y p1 p2 p3 q1 q2 q3 _ e1 => absurd e1 (by simp)⟩
theorem Fresh.none (n : Nat) : Fresh (fun _ => none) n := fun _ _ => rfl
/-- A slice of numbers that came in, as the only object of a memory that nobody writes. -/
theorem in_nums {k : IntKind} {w : World} {a : Addr} {len cap : Nat} {zs : List Int} (hspot : a.spot = none) (hsh : ∃ row c, w.shape? a.block = some (row, c)) (hl : len ≤ cap) (hz : zs.length = cap) (hcell : ∀ i, i < zs.length → w.cell? (a.add i) = some (.int k (zs.getD i 0))) :
    ∃ (ρ : Rho) (H : Heap), SlAt 1 H (.sl 0 0 len) ((zs.map (AVal.i k)).take len) ∧ Sat ρ H w ∧ Fresh ρ 1 ∧ (∀ b o, H b = some o → o.ro = true) ∧ VRel ρ (.sl 0 0 len) (.slice (some a) len cap) ∧ ∀ m, 1 ≤ m → H m = none := by
  obtain ⟨blk, off, spot⟩ := a
  simp only at hspot hsh
  subst hspot
  obtain ⟨row, c, hsh⟩ := hsh
  have hblk : ∃ cc t fz, w.heap[blk]? = some (.cells cc t fz) := by
    unfold World.shape? at hsh
    split at hsh
    · rename_i cc t fz hh; exact ⟨cc, t, fz, hh⟩
    · exact absurd hsh (by simp)
  obtain ⟨cc, t, fz, hh⟩ := hblk
  have hadd : ∀ i, (⟨blk, off, none⟩ : Addr).add i = ⟨blk, off + i, none⟩ := fun i => Addr.add_lit blk off i
  have hcc : ∀ i, i < cap → cc[off + i]? = some (.int k (zs.getD i 0)) := fun i hi => by
    have := hcell i (by omega)
    rw [hadd, cell_of hh] at this
    exact this
  have hsize : cap = 0 ∨ off + cap ≤ cc.size := by
    rcases Nat.eq_zero_or_pos cap with q | q
    · exact .inl q
    · right
      have h1 := hcc (cap - 1) (by omega)
      have : off + (cap - 1) < cc.size := by
        rcases Nat.lt_or_ge (off + (cap - 1)) cc.size with z | z
        · exact z
        · rw [Array.getElem?_eq_none z] at h1; exact absurd h1 (by simp)
      omega
  refine ⟨fun x => if x = 0 then some (.at blk (if cap = 0 then 0 else off) cap 1) else none, fun x => if x = 0 then some ⟨true, 1, zs.map (AVal.i k)⟩ else none, SlAt.of (ro := true) rfl (by simp; omega) rfl, ⟨fun b o e => ?_, fun b c oa oc x y p1 p2 p3 q1 q2 q3 hne e1 e2 hro _ _ => ?_⟩, fun m hm => ?_, fun b o e => ?_, ?_, fun m hm => ?_⟩
  · split at e
    · rename_i hb
      simp only [Option.some.injEq] at e
      subst hb; subst e
      refine ⟨_, rfl, .inr ⟨.inr (by simp), rfl, cc, t, fz, hh, fun q => absurd q (by simp), ?_, by simp [hz], fun i e he => ?_⟩⟩
      · rcases hsize with q | q
        · simp [q]
        · by_cases h0 : cap = 0
          · simp [h0]
          · simp only [h0, if_false]; omega
      · simp only [List.getElem?_map, Option.map_eq_some_iff] at he
        obtain ⟨z, hz', rfl⟩ := he
        refine ⟨rfl, fun j y hy => ?_⟩
        have hi : i < cap := by
          rcases Nat.lt_or_ge i zs.length with q | q
          · omega
          · rw [List.getElem?_eq_none q] at hz'; exact absurd hz' (by simp)
        have hj : j = 0 := by
          cases j with
          | zero => rfl
          | succ j => simp at hy
        subst hj
        simp at hy
        subst hy
        refine ⟨.int k z, ?_, by simp [VRel]⟩
        rw [if_neg (by omega)]
        have := hcc i hi
        rw [List.getD_eq_getElem?_getD, hz'] at this
        simpa using this
    · exact absurd e (by simp)
  · split at e1 <;> split at e2
    · omega
    · exact absurd e2 (by simp)
    · exact absurd e1 (by simp)
    · exact absurd e1 (by simp)
  · simp only; rw [if_neg (by omega)]
  · simp only at e
    split at e
    · simp only [Option.some.injEq] at e; subst e; rfl
    · exact absurd e (by simp)
  · simp only [VRel]
    refine .inr ⟨blk, _, cap, 1, ⟨blk, off, none⟩, cap, rfl, rfl, hl, ?_⟩
    by_cases h0 : cap = 0
    · exact .inl h0
    · rw [if_neg h0]; exact .inr ⟨by simp, by omega⟩
  · simp only; rw [if_neg (by omega)]
end Go.AM
