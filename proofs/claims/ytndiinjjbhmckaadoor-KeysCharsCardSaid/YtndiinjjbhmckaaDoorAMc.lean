/- AM, part 13: code. -/
import Derived.Test.YtndiinjjbhmckaaDoorAMb
import Derived.Orders
set_option linter.all false
set_option linter.unusedVariables false
namespace Go.AM
variable {P : Program}

def opdOf : Operand → Option Opd
  | .tmp t => some (.t t)
  | .const v => (toA v).map .k
  | .func f => some (.k (.fn (.func f) [] []))
  | .global _ => none

def EnvRel (ρ : Rho) (e : Env) (a : Act) : Prop := ∀ x, VRel ρ (e x) (a.tmps.getD x undef)

theorem opdOf_ok {x : Operand} {y : Opd} (h : opdOf x = some y) {ρ : Rho} {e : Env} {a : Act} (he : EnvRel ρ e a) : VRel ρ (ev e y) (a.eval x) := by
  cases x with
  | tmp t => simp only [opdOf, Option.some.injEq] at h; subst h; exact he t
  | const v =>
    simp only [opdOf, Option.map_eq_some_iff] at h
    obtain ⟨x, hx, rfl⟩ := h
    exact toA_ok hx ρ
  | func f => simp only [opdOf, Option.some.injEq] at h; subst h; simp [ev, VRel, VRels, Act.eval]
  | global g => exact absurd h (by simp [opdOf])

def opdsOf : List Operand → Option (List Opd)
  | [] => some []
  | x :: xs => match opdOf x, opdsOf xs with
    | some y, some ys => some (y :: ys)
    | _, _ => none

theorem opdsOf_rel {ρ : Rho} {a : Act} (f : Opd → AVal) : ∀ {xs : List Operand} {ys : List Opd}, opdsOf xs = some ys → (∀ x y, opdOf x = some y → y ∈ ys → VRel ρ (f y) (a.eval x)) → VRels ρ (ys.map f) (xs.map a.eval)
  | [], ys, h, _ => by simp [opdsOf] at h; subst h; exact VRels.nil'
  | x :: xs, ys, h, hf => by
    simp only [opdsOf] at h
    split at h
    · rename_i y ys' h1 h2
      simp only [Option.some.injEq] at h
      subst h
      exact VRels.cons' (hf x y h1 (by simp)) (opdsOf_rel f h2 (fun x y e m => hf x y e (by simp [m])))
    · exact absurd h (by simp)

/-- Is a guarded operation done ahead of its guard? A load through an address that is no element's. -/
def specMode (iop : IOp) : Bool := iop.quiet

def dstOf (N : Nat) : Option Nat → Option (Option Nat)
  | none => some none
  | some d => if d < N then some (some d) else none

/-- The operation and its operands; one that isn't known must never be reached. -/
def compX (P : Program) (o : Oper) : IOp × List Opd :=
  match compOp P o with
  | some (iop, os) => match opdsOf os with
    | some xs => (iop, xs)
    | none => (.never, [])
  | none => (.never, [])

theorem compX_ok {Γ : FuncId → Spec} (hΓ : ∀ f, SpecOK P f (Γ f)) {o : Oper} {iop : IOp} {xs : List Opd} (h : compX P o = (iop, xs)) : ∃ os, opdsOf os = some xs ∧ OpGoal P Γ o iop os := by
  have hnever : ∀ os, OpGoal P Γ o .never os := fun os vals ρ a w H n κ next Q hv hs hf hi hn => (show False from hi).elim
  unfold compX at h
  split at h
  · rename_i iop' os hop
    split at h
    · rename_i xs' hxs
      simp only [Prod.mk.injEq] at h
      obtain ⟨rfl, rfl⟩ := h
      exact ⟨os, hxs, compOp_ok hΓ hop⟩
    · simp only [Prod.mk.injEq] at h
      obtain ⟨rfl, rfl⟩ := h
      exact ⟨[], rfl, hnever _⟩
  · simp only [Prod.mk.injEq] at h
    obtain ⟨rfl, rfl⟩ := h
    exact ⟨[], rfl, hnever _⟩

/-- Has the way been parted at this guard before? -/
def parted (P : Program) (ops : Array Oper) (k j : Nat) : Bool :=
  (List.range k).any fun i => match ops[i]? with
    | some o => match o.guard with
      | some (j', _) => j' == j && !(compX P o).1.quiet
      | none => false
    | none => false

def compIns (P : Program) (N : Nat) (flip : Nat → Bool) (ops : Array Oper) (k : Nat) (o : Oper) : Option Ins := do
  let d ← dstOf N o.dst
  match o.guard with
  | none => some ⟨d, (compX P o).1, (compX P o).2, none⟩
  | some (j, want) => do
    let oj ← ops[j]?
    let s ← oj.dst
    some ⟨d, (compX P o).1, (compX P o).2, some (s, want, (compX P o).1.quiet && !flip k && !parted P ops k j)⟩

theorem getD_set {xs : Array Value} {d : Nat} {v : Value} (h : d < xs.size) (x : Nat) : (xs.setIfInBounds d v).getD x undef = if x = d then v else xs.getD x undef := by
  by_cases hx : x = d
  · subst hx; simp [h]
  · rw [if_neg hx]
    simp only [Array.getD_eq_getD_getElem?]
    rw [Array.getElem?_setIfInBounds_ne (Ne.symm hx)]

theorem EnvRel.put {ρ : Rho} {e : Env} {a : Act} (h : EnvRel ρ e a) {d : Option Nat} (hd : ∀ k, d = some k → k < a.tmps.size) {v : AVal} {v' : Value} (hv : VRel ρ v v') : EnvRel ρ (eset e d v) (a.put d v') := by
  cases d with
  | none => exact h
  | some d =>
    intro x
    simp only [Act.put, eset]
    rw [getD_set (hd d rfl)]
    split
    · exact hv
    · exact h x
theorem EnvRel.mono {ρ ρ' : Rho} {e : Env} {a : Act} (h : EnvRel ρ e a) (k : Rho.le ρ ρ') : EnvRel ρ' e a := fun x => VRel.mono k _ _ (h x)

structure St (N : Nat) (ρ0 : Rho) (H0 : Heap) (w0 : World) (n0 : Nat) (ρ : Rho) (e : Env) (H : Heap) (n : Nat) (a : Act) (w : World) : Prop where
  env : EnvRel ρ e a
  size : a.tmps.size = N
  defers : a.defers = []
  after : After ρ0 H0 w0 n0 ρ H w n

def Lift (N : Nat) (ρ0 : Rho) (H0 : Heap) (w0 : World) (n0 : Nat) (K : Env → Heap → Nat → Prop) (a : Act) (w : World) : Prop :=
  ∃ ρ e H n, K e H n ∧ St N ρ0 H0 w0 n0 ρ e H n a w

theorem act_size {a : Act} {d : Option Nat} {v : Value} : (a.put d v).tmps.size = a.tmps.size := by cases d <;> simp [Act.put]
theorem act_defers {a : Act} {d : Option Nat} {v : Value} : (a.put d v).defers = a.defers := by cases d <;> simp [Act.put]

theorem yielded_of {ops : Array Oper} {a : Act} {j s : Nat} {oj : Oper} (h1 : ops[j]? = some oj) (h2 : oj.dst = some s) {p : Bool} (h : a.tmps.getD s undef = .bool p) : yielded ops a.tmps j = some p := by
  simp only [yielded, h1, h2, Option.bind_some]
  simp only [Array.getD_eq_getD_getElem?] at h
  cases hs : a.tmps[s]? with
  | none => rw [hs] at h; simp [undef] at h
  | some v => rw [hs] at h; simp at h; subst h; rfl

theorem quiet_after {Γ : FuncId → Spec} {iop : IOp} (hq : iop.quiet = true) {vals : List AVal} {H : Heap} {n : Nat} {κ : AVal → Prop} (h : istep Γ iop vals H n fun v _ _ => κ v) :
    istep Γ iop vals H n (fun v H' n' => κ v ∧ H' = H ∧ n' = n) := by
  have hbin : ∀ op, opBin op vals κ → opBin op vals fun v => κ v ∧ H = H ∧ n = n := fun op hb => by simpa using hb
  cases iop <;> simp only [IOp.quiet, Bool.false_eq_true] at hq <;> simp only [istep] at h ⊢ <;> first
    | exact hbin _ h
    | simpa using h

theorem quiet_ex {Γ : FuncId → Spec} {iop : IOp} (hq : iop.quiet = true) {vals : List AVal} {H : Heap} {n : Nat} {κ : AVal → Prop} (h : istep Γ iop vals H n fun v _ _ => κ v) : ∃ v, κ v := by
  cases iop <;> simp only [IOp.quiet, Bool.false_eq_true] at hq <;> simp only [istep] at h
  case mv => obtain ⟨v, _, hk⟩ := h; exact ⟨_, hk⟩
  case pick =>
    obtain ⟨p, x, y, _, _, _, hk⟩ := h
    unfold pickV at hk
    split at hk
    · exact ⟨_, hk⟩
    · cases p
      · exact ⟨_, hk.2 rfl⟩
      · exact ⟨_, hk.1 rfl⟩
  case bin op =>
    rcases h with ⟨k, a, b, _, h⟩ | ⟨k, a, j, b, _, h⟩ | ⟨l, m, _, h⟩
    · cases op <;> simp only [intBin] at h <;> first | exact h.elim | exact ⟨_, h⟩ | exact ⟨_, h.2⟩
    · cases op <;> simp only [shiftBin] at h <;> first | exact h.elim | exact ⟨_, h.2⟩
    · cases op <;> simp only [strBin] at h <;> first | exact h.elim | exact ⟨_, h⟩ | exact ⟨_, h.2⟩
  case not => obtain ⟨_, _, hk⟩ := h; exact ⟨_, hk⟩
  case neg => obtain ⟨_, _, _, hk⟩ := h; exact ⟨_, hk⟩
  case conv => obtain ⟨_, _, _, hk⟩ := h; exact ⟨_, hk⟩
  case beq => obtain ⟨_, _, _, hk⟩ := h; exact ⟨_, hk⟩
  case peq => obtain ⟨_, _, _, _, _, _, _, _, hk⟩ := h; exact ⟨_, hk⟩
  case load =>
    obtain ⟨_, _, _, _, _, _, _, _, hk⟩ := h
    split at hk
    · exact ⟨_, hk.2⟩
    · obtain ⟨_, _, hk⟩ := hk; exact ⟨_, hk⟩
  case fadr => obtain ⟨_, _, _, _, hk⟩ := h; exact ⟨_, hk⟩
  case idxA =>
    obtain ⟨_, _, _, _, _, _, hk⟩ := h
    split at hk
    · exact ⟨_, hk⟩
    · obtain ⟨_, _, hk⟩ := hk; exact ⟨_, hk⟩
  case field =>
    obtain ⟨_, _, hk⟩ := h
    split at hk
    · exact ⟨_, hk⟩
    · obtain ⟨_, _, hk⟩ := hk; exact ⟨_, hk⟩
  case extract => obtain ⟨_, _, _, _, hk⟩ := h; exact ⟨_, hk⟩
  case lenStr => obtain ⟨_, _, hk⟩ := h; exact ⟨_, hk⟩
  case lenSl => rcases h with ⟨_, _, _, _, hk⟩ | ⟨_, hk⟩ <;> exact ⟨_, hk⟩
  case min => obtain ⟨_, _, _, _, hk⟩ := h; exact ⟨_, hk⟩
  case max => obtain ⟨_, _, _, _, hk⟩ := h; exact ⟨_, hk⟩

end Go.AM
/- AM, part 14: an operation, a region, code. -/
set_option linter.unusedVariables false
namespace Go.AM
variable {P : Program} {N : Nat} {ρ0 : Rho} {H0 : Heap} {w0 : World} {n0 : Nat}

theorem St.next {ρ : Rho} {e : Env} {H : Heap} {n : Nat} {a : Act} {w : World} (h : St N ρ0 H0 w0 n0 ρ e H n a w) {d : Option Nat} (hd : ∀ k, d = some k → k < N) {ρ' : Rho} {H' : Heap} {n' : Nat} {w' : World}
    (ha : After ρ H w n ρ' H' w' n') {v : AVal} {v' : Value} (hv : VRel ρ' v v') : St N ρ0 H0 w0 n0 ρ' (eset e d v) H' n' (a.put d v') w' :=
  ⟨(h.env.mono ha.frame.le).put (fun k hk => by rw [h.size]; exact hd k hk) hv, by rw [act_size]; exact h.size, by rw [act_defers]; exact h.defers, h.after.trans ha⟩

theorem St.skip {ρ : Rho} {e : Env} {H : Heap} {n : Nat} {a : Act} {w : World} (h : St N ρ0 H0 w0 n0 ρ e H n a w) {d : Option Nat} (hd : ∀ k, d = some k → k < N) {v : AVal} (hv : VRel ρ v undef) :
    St N ρ0 H0 w0 n0 ρ (eset e d v) H n (a.put d undef) w :=
  ⟨h.env.put (fun k hk => by rw [h.size]; exact hd k hk) hv, by rw [act_size]; exact h.size, by rw [act_defers]; exact h.defers, h.after⟩

theorem St.gfix {ρ : Rho} {e : Env} {H : Heap} {n : Nat} {a : Act} {w : World} (h : St N ρ0 H0 w0 n0 ρ e H n a w) {s : Nat} {p : Bool} (hp : ∀ q, e s = .b q → q = p) : St N ρ0 H0 w0 n0 ρ (gfix e s p) H n a w := by
  unfold AM.gfix
  split
  · rename_i q hq
    refine ⟨fun x => ?_, h.size, h.defers, h.after⟩
    split
    · rename_i hx
      subst hx
      have := h.env x
      rw [hq] at this
      rw [← hp q hq]
      exact this
    · exact h.env x
  · exact h

theorem gcond_cases {v : AVal} {want c : Bool} (h : gcond v want = some c) : (∃ p, v = .b p ∧ c = (p == want)) ∨ (∃ g p, v = .when g (.b p) ∧ c = (g && (p == want))) ∨ (∃ x, v = .when false x ∧ c = false) := by
  unfold gcond at h
  split at h
  · simp only [Option.some.injEq] at h; exact .inl ⟨_, rfl, h.symm⟩
  · split at h
    · simp only [Option.some.injEq] at h; exact .inr (.inl ⟨_, _, rfl, h.symm⟩)
    · split at h
      · exact absurd h (by simp)
      · rename_i hg
        simp only [Option.some.injEq] at h
        simp only [Bool.not_eq_true] at hg
        exact .inr (.inr ⟨_, by rw [hg], h.symm⟩)
  · exact absurd h (by simp)

theorem unw_rel {ρ : Rho} (v : AVal) (u : Value) (h1 : VRel ρ v u) (h2 : gof v = true) : VRel ρ (unw v) u := by
  cases v <;> simp only [unw, gof] at h2 ⊢ <;> first | exact h1 | (simp only [VRel] at h1; exact h1.1 h2)

theorem unw_rels {ρ : Rho} : ∀ (vs : List AVal) (us : List Value), VRels ρ vs us → vs.all gof = true → VRels ρ (vs.map unw) us
  | [], us, h, _ => h
  | v :: vs, us, h, hg => by
    simp only [VRels, List.map_cons, List.all_cons, Bool.and_eq_true] at h hg ⊢
    obtain ⟨u, us', e, h1, h2⟩ := h
    exact ⟨u, us', e, unw_rel v u h1 hg.1, unw_rels vs us' h2 hg.2⟩

theorem pickV_true {x y : AVal} {κ : AVal → Prop} (h : pickV true x y κ) : κ x := by
  unfold pickV at h
  split at h
  · exact h
  · exact h.1 rfl
theorem pickV_false {x y : AVal} {κ : AVal → Prop} (h : pickV false x y κ) : κ y := by
  unfold pickV at h
  split at h
  · exact h
  · exact h.2 rfl
theorem pickV_l {x : AVal} {κ : AVal → Prop} (h : κ x) : pickV true x .junk κ := by
  cases x <;> exact ⟨fun _ => h, fun q => by simp at q⟩
theorem pickV_r {x : AVal} {κ : AVal → Prop} (h : κ x) : pickV false .junk x κ := by
  cases x <;> exact ⟨fun q => by simp at q, fun _ => h⟩

/-- The operands that are looked at are there: then the operation may be done on them. -/
theorem gofs_ok {Γ : FuncId → Spec} {ρ : Rho} {e : Env} {op : IOp} {xs : List Opd} {H : Heap} {n : Nat} {κ : Cont} (h : istep Γ op (xs.map fun y => unw (ev e y)) H n κ)
    (hg : gofsOp op (xs.map (ev e)) = true) : ∃ vals', istep Γ op vals' H n κ ∧ ∀ us, VRels ρ (xs.map (ev e)) us → VRels ρ vals' us := by
  have hmap : (xs.map fun y => unw (ev e y)) = (xs.map (ev e)).map unw := by simp
  rw [hmap] at h
  generalize xs.map (ev e) = vs at h hg
  unfold gofsOp at hg
  split at hg
  · rename_i g x y
    simp only [Bool.and_eq_true] at hg
    obtain ⟨h1, h2⟩ := hg
    simp only [List.map_cons, List.map_nil, istep, opPick] at h
    obtain ⟨p, x', y', he, hx, hy, hk⟩ := h
    simp only [List.cons.injEq, and_true] at he
    obtain ⟨hgp, rfl, rfl⟩ := he
    rw [hgp] at h2
    simp only at h2
    cases p with
    | true =>
      simp only [if_true] at h2
      refine ⟨[unw g, unw x, .junk], ?_, ?_⟩
      · simp only [istep, opPick]
        refine ⟨true, unw x, .junk, by rw [hgp], hx, fun q => by simp at q, ?_⟩
        exact pickV_l (pickV_true hk)
      · intro us hv
        simp only [VRels] at hv ⊢
        obtain ⟨u1, r1, e1, a1, u2, r2, e2, a2, u3, r3, e3, a3, e4⟩ := hv
        exact ⟨u1, r1, e1, unw_rel _ _ a1 h1, u2, r2, e2, unw_rel _ _ a2 h2, u3, r3, e3, by simp [VRel], e4⟩
    | false =>
      simp only [Bool.false_eq_true, if_false] at h2
      refine ⟨[unw g, .junk, unw y], ?_, ?_⟩
      · simp only [istep, opPick]
        refine ⟨false, .junk, unw y, by rw [hgp], fun q => by simp at q, hy, ?_⟩
        exact pickV_r (pickV_false hk)
      · intro us hv
        simp only [VRels] at hv ⊢
        obtain ⟨u1, r1, e1, a1, u2, r2, e2, a2, u3, r3, e3, a3, e4⟩ := hv
        exact ⟨u1, r1, e1, unw_rel _ _ a1 h1, u2, r2, e2, by simp [VRel], u3, r3, e3, unw_rel _ _ a3 h2, e4⟩
  · exact ⟨_, h, fun us hv => unw_rels _ _ hv hg⟩

theorem step_ok {Γ : FuncId → Spec} (hΓ : ∀ f, SpecOK P f (Γ f)) {flip : Nat → Bool} {ops : Array Oper} {k : Nat} {o : Oper} {ins : Ins} (hc : compIns P N flip ops k o = some ins)
    {ρ : Rho} {e : Env} {H : Heap} {n : Nat} {a : Act} {w : World} (hst : St N ρ0 H0 w0 n0 ρ e H n a w) {K : Env → Heap → Nat → Prop} (h : step Γ ins e H n K)
    {next : Act → World → Prop} (hn : ∀ a' w', Lift N ρ0 H0 w0 n0 K a' w' → next a' w') (Q : Exit → Act → World → Prop) :
    if Region.wanted o (yielded ops a.tmps) then o.wp P a w next Q else next (a.put o.dst undef) w := by
  simp only [compIns, Option.bind_eq_bind, Option.bind_eq_some_iff] at hc
  obtain ⟨d, hd, hc⟩ := hc
  generalize hX : compX P o = X at hc
  obtain ⟨iop, xs⟩ := X
  obtain ⟨os, hxs, hok⟩ := compX_ok hΓ hX
  have hd' : d = o.dst ∧ ∀ k, d = some k → k < N := by
    unfold dstOf at hd
    split at hd
    · rename_i hnone
      simp only [Option.some.injEq] at hd
      subst hd
      exact ⟨hnone.symm, fun k hk => by simp at hk⟩
    · rename_i dd hsome
      split at hd
      · rename_i hlt
        simp only [Option.some.injEq] at hd
        subst hd
        exact ⟨hsome.symm, fun k hk => by simp at hk; omega⟩
      · exact absurd hd (by simp)
  obtain ⟨hdd, hdN⟩ := hd'
  have hsat := hst.after.sat
  have hfr := hst.after.fresh
  split at hc
  · -- no guard
    rename_i hg
    simp only [Option.some.injEq] at hc
    subst hc
    have hw : Region.wanted o (yielded ops a.tmps) = true := by simp [Region.wanted, hg]
    rw [if_pos hw]
    refine hok _ ρ a w H n _ next Q (opdsOf_rel (ev e) hxs (fun x y hxy _ => opdOf_ok hxy hst.env)) hsat hfr h ?_
    intro v' w' v ρ' H' n' hk hr ha
    refine hn _ _ ⟨ρ', _, H', n', hk, ?_⟩
    rw [← hdd]
    exact hst.next hdN ha hr
  · rename_i j want hg
    simp only [Option.bind_eq_some_iff, Option.some.injEq] at hc
    obtain ⟨oj, hoj, s, hs, hc⟩ := hc
    subst hc
    simp only [step] at h
    obtain ⟨c, hcond, h⟩ := h
    -- the guard's value decides
    have hwc : Region.wanted o (yielded ops a.tmps) = c := by
      have henv := hst.env s
      have habs : a.tmps.getD s undef = undef → yielded ops a.tmps j = none := fun hu => by
        simp only [yielded, hoj, hs, Option.bind_some]
        simp only [Array.getD_eq_getD_getElem?] at hu
        cases ht : a.tmps[s]? with
        | none => rfl
        | some v => rw [ht] at hu; simp at hu; subst hu; rfl
      rcases gcond_cases hcond with ⟨p, hp, rfl⟩ | ⟨g, p, hp, rfl⟩ | ⟨x, hp, rfl⟩
      · rw [hp] at henv
        simp only [VRel] at henv
        rw [Region.wanted, hg]
        simp only
        rw [yielded_of hoj hs henv]
        cases p <;> cases want <;> rfl
      · rw [hp] at henv
        simp only [VRel] at henv
        rw [Region.wanted, hg]
        simp only
        cases g with
        | true =>
          rw [yielded_of hoj hs (henv.1 rfl)]
          cases p <;> cases want <;> rfl
        | false =>
          rw [habs (henv.2 rfl)]
          cases want <;> rfl
      · rw [hp] at henv
        simp only [VRel] at henv
        rw [Region.wanted, hg]
        simp only
        rw [habs (by simpa using henv)]
        cases want <;> rfl
    split at h
    · -- done ahead of its guard
      obtain ⟨hq, hwhen, h⟩ := h
      cases c with
      | true =>
        rw [if_pos hwc]
        have hall := hwhen rfl
        obtain ⟨vals', hi', hv'⟩ := gofs_ok (ρ := ρ) h hall
        refine hok vals' ρ a w H n _ next Q (hv' _ (opdsOf_rel (ev e) hxs (fun x y hxy _ => opdOf_ok hxy hst.env))) hsat hfr (quiet_after hq hi') ?_
        rintro v' w' v ρ' H' n' ⟨hk, rfl, rfl⟩ hr ha
        refine hn _ _ ⟨ρ', _, _, _, hk, ?_⟩
        rw [← hdd]
        refine hst.next hdN ha ?_
        simp only [VRel]
        exact ⟨fun _ => hr, fun q => by simp at q⟩
      | false =>
        rw [if_neg (by rw [hwc]; simp)]
        obtain ⟨v, hk⟩ := quiet_ex hq h
        refine hn _ _ ⟨ρ, _, H, n, hk, ?_⟩
        rw [← hdd]
        refine hst.skip hdN ?_
        simp only [VRel]
        exact ⟨fun q => absurd q (by simp), fun _ => trivial⟩
    · -- split
      obtain ⟨h1, h2⟩ := h
      have hfix : ∀ q, e s = .b q → c = (q == want) := fun q hq => by
        unfold gcond at hcond
        rw [hq] at hcond
        simpa using hcond.symm
      cases c with
      | true =>
        rw [if_pos hwc]
        have hst' := hst.gfix (s := s) (p := want) (fun q hq => by have := hfix q hq; simpa using this.symm)
        obtain ⟨hg1, hi1⟩ := h1 rfl
        obtain ⟨vals', hi', hv'⟩ := gofs_ok (ρ := ρ) hi1 hg1
        refine hok vals' ρ a w H n _ next Q (hv' _ (opdsOf_rel (ev (gfix e s want)) hxs (fun x y hxy _ => opdOf_ok hxy hst'.env))) hsat hfr hi' ?_
        intro v' w' v ρ' H' n' hk hr ha
        refine hn _ _ ⟨ρ', _, H', n', hk, ?_⟩
        rw [← hdd]
        exact hst'.next hdN ha hr
      | false =>
        rw [if_neg (by rw [hwc]; simp)]
        have hst' := hst.gfix (s := s) (p := !want) (fun q hq => by have := hfix q hq; revert this; cases q <;> cases want <;> decide)
        refine hn _ _ ⟨ρ, _, H, n, h2 rfl, ?_⟩
        rw [← hdd]
        exact hst'.skip hdN (by simp [VRel])

/-! regions -/
def compList (P : Program) (N : Nat) (flip : Nat → Bool) (ops : Array Oper) : Nat → List Oper → Option (List Ins)
  | _, [] => some []
  | k, o :: os => match compIns P N flip ops k o, compList P N flip ops (k + 1) os with
    | some i, some is => some (i :: is)
    | _, _ => none

theorem list_ok {Γ : FuncId → Spec} (hΓ : ∀ f, SpecOK P f (Γ f)) {flip : Nat → Bool} {ops : Array Oper} {Q : Exit → Act → World → Prop} {K : Env → Heap → Nat → Prop}
    (hQ : ∀ a w, Lift N ρ0 H0 w0 n0 K a w → Q .normal a w) : ∀ (os : List Oper) (k : Nat) (is : List Ins), compList P N flip ops k os = some is → (∀ j, os[j]? = ops[k + j]?) →
    ∀ a w, Lift N ρ0 H0 w0 n0 (WPs Γ is K) a w → wpOps P ops Q (List.range' k os.length) a w
  | [], k, is, h, _, a, w, hl => by
    simp only [compList, Option.some.injEq] at h
    subst h
    exact hQ a w hl
  | o :: os, k, is, h, hops, a, w, hl => by
    simp only [compList] at h
    split at h
    · rename_i i is' hi his
      simp only [Option.some.injEq] at h
      subst h
      have hk : ops[k]? = some o := by have := hops 0; simpa using this.symm
      obtain ⟨ρ, e, H, n, hstep, hst⟩ := hl
      simp only [List.length_cons, List.range'_succ]
      rw [wpOps_cons]
      unfold wpOp
      simp only [hk]
      have := step_ok hΓ hi hst hstep (next := wpOps P ops Q (List.range' (k + 1) os.length)) (fun a' w' hl' => list_ok hΓ hQ os (k + 1) is' his (fun j => by
        have := hops (j + 1)
        simp only [List.getElem?_cons_succ] at this
        rw [this]; congr 1; omega) a' w' hl') Q
      split
      · rename_i hw; rw [if_pos hw] at this; exact .inl this
      · rename_i hw; rw [if_neg hw] at this; exact this
    · exact absurd h (by simp)

end Go.AM
/- AM, part 15a: a region whose order is open: its values. -/
set_option linter.unusedVariables false
namespace Go.AM

/-- Operations that change no memory and make no name. -/
def IOp.pure : IOp → Bool
  | .store _ | .sealB | .range | .next | .make .. | .sliceArr .. | .box | .alloc _ | .buildSlice _ | .append .. | .bytesOf | .call _ | .callv => false
  | _ => true

/-- Operations whose value hangs on memory. -/
def IOp.reads : IOp → Bool
  | .load .. | .strOf | .iadrS _ | .sliceSl .. => true
  | _ => false

theorem bounds_ex {lo hi : Bool} {rest : List AVal} {m : Int} {R : Int → Int → Prop} {κ : Int → Int → Prop} (h : bounds lo hi rest m fun x y => R x y ∧ κ x y) :
    ∃ x y, R x y ∧ κ x y ∧ ∀ κ' : Int → Int → Prop, κ' x y → bounds lo hi rest m fun x y => R x y ∧ κ' x y := by
  unfold bounds at h ⊢
  split at h
  all_goals first
    | (obtain ⟨a, b, c, d, h0, h1, h2⟩ := h; exact ⟨_, _, h1, h2, fun κ' h3 => ⟨a, b, c, d, h0, h1, h3⟩⟩)
    | (obtain ⟨a, b, h0, h1, h2⟩ := h; exact ⟨_, _, h1, h2, fun κ' h3 => ⟨a, b, h0, h1, h3⟩⟩)
    | (obtain ⟨h0, h1, h2⟩ := h; exact ⟨_, _, h1, h2, fun κ' h3 => ⟨h0, h1, h3⟩⟩)
    | (obtain ⟨h1, h2⟩ := h; exact ⟨_, _, h1, h2, fun κ' h3 => ⟨h1, h3⟩⟩)
    | exact h.elim

/-- A pure operation has one outcome, on any memory where it has it. -/
theorem pure_ex {Γ : FuncId → Spec} {iop : IOp} (hq : iop.pure = true) {vals : List AVal} {H : Heap} {n : Nat} {κ : Cont} (h : istep Γ iop vals H n κ) :
    ∃ v, κ v H n ∧ ∀ κ' : Cont, κ' v H n → istep Γ iop vals H n κ' := by
  cases iop <;> simp only [IOp.pure, Bool.false_eq_true] at hq <;> simp only [istep] at h ⊢
  case mv => obtain ⟨v, h1, hk⟩ := h; exact ⟨v, hk, fun κ' h' => ⟨v, h1, h'⟩⟩
  case pick =>
    obtain ⟨p, x, y, h1, h2, h3, hk⟩ := h
    unfold pickV at hk
    split at hk
    · rename_i a c e1 e2
      exact ⟨_, hk, fun κ' h' => ⟨p, x, y, h1, h2, h3, by rw [e1, e2]; exact h'⟩⟩
    · rename_i x' y' hne
      cases p
      · refine ⟨_, hk.2 rfl, fun κ' h' => ⟨false, x, y, h1, h2, h3, ?_⟩⟩
        unfold pickV
        split
        · rename_i a c e1 e2; exact absurd (⟨e1, e2⟩ : _ ∧ _) (fun q => hne _ _ q.1 q.2)
        · exact ⟨fun q => by simp at q, fun _ => h'⟩
      · refine ⟨_, hk.1 rfl, fun κ' h' => ⟨true, x, y, h1, h2, h3, ?_⟩⟩
        unfold pickV
        split
        · rename_i a c e1 e2; exact absurd (⟨e1, e2⟩ : _ ∧ _) (fun q => hne _ _ q.1 q.2)
        · exact ⟨fun _ => h', fun q => by simp at q⟩
  case bin op =>
    rcases h with ⟨k, a, b, h1, h⟩ | ⟨k, a, j, b, h1, h⟩ | ⟨l, m, h1, h⟩
    · cases op <;> simp only [intBin] at h <;> first
        | exact h.elim
        | exact ⟨_, h, fun κ' h' => .inl ⟨k, a, b, h1, h'⟩⟩
        | exact ⟨_, h.2, fun κ' h' => .inl ⟨k, a, b, h1, h.1, h'⟩⟩
    · cases op <;> simp only [shiftBin] at h <;> first
        | exact h.elim
        | exact ⟨_, h.2, fun κ' h' => .inr (.inl ⟨k, a, j, b, h1, h.1, h'⟩)⟩
    · cases op <;> simp only [strBin] at h <;> first
        | exact h.elim
        | exact ⟨_, h, fun κ' h' => .inr (.inr ⟨l, m, h1, h'⟩)⟩
        | exact ⟨_, h.2, fun κ' h' => .inr (.inr ⟨l, m, h1, h.1, h'⟩)⟩
  case not => obtain ⟨p, h1, hk⟩ := h; exact ⟨_, hk, fun κ' h' => ⟨p, h1, h'⟩⟩
  case neg => obtain ⟨k, x, h1, hk⟩ := h; exact ⟨_, hk, fun κ' h' => ⟨k, x, h1, h'⟩⟩
  case conv => obtain ⟨k, x, h1, hk⟩ := h; exact ⟨_, hk, fun κ' h' => ⟨k, x, h1, h'⟩⟩
  case beq => obtain ⟨k, x, h1, hk⟩ := h; exact ⟨_, hk, fun κ' h' => ⟨k, x, h1, h'⟩⟩
  case peq => obtain ⟨x, y, p, q, h1, h2, h3, h4, hk⟩ := h; exact ⟨_, hk, fun κ' h' => ⟨x, y, p, q, h1, h2, h3, h4, h'⟩⟩
  case load =>
    obtain ⟨a, i, j, o, el, h1, h2, h3, hk⟩ := h
    split at hk
    · rename_i hagg
      exact ⟨_, hk.2, fun κ' h' => ⟨a, i, j, o, el, h1, h2, h3, by rw [if_pos hagg]; exact ⟨hk.1, h'⟩⟩⟩
    · rename_i hagg
      obtain ⟨y, hy, hk⟩ := hk
      exact ⟨_, hk, fun κ' h' => ⟨a, i, j, o, el, h1, h2, h3, by rw [if_neg hagg]; exact ⟨y, hy, h'⟩⟩⟩
  case fadr => obtain ⟨a, i, j, h1, hk⟩ := h; exact ⟨_, hk, fun κ' h' => ⟨a, i, j, h1, h'⟩⟩
  case iadrS => obtain ⟨a, off, len, k, x, o, h1, h2, h3, h4, h5, hk⟩ := h; exact ⟨_, hk, fun κ' h' => ⟨a, off, len, k, x, o, h1, h2, h3, h4, h5, h'⟩⟩
  case iadrA => obtain ⟨a, i, j, k, x, h1, h2, h3, hk⟩ := h; exact ⟨_, hk, fun κ' h' => ⟨a, i, j, k, x, h1, h2, h3, h'⟩⟩
  case idxS => obtain ⟨l, k, x, c, h1, h2, h3, hk⟩ := h; exact ⟨_, hk, fun κ' h' => ⟨l, k, x, c, h1, h2, h3, h'⟩⟩
  case idxA =>
    obtain ⟨cs, k, x, h1, h2, h3, hk⟩ := h
    split at hk
    · rename_i hagg
      exact ⟨_, hk, fun κ' h' => ⟨cs, k, x, h1, h2, h3, by rw [if_pos hagg]; exact h'⟩⟩
    · rename_i hagg
      obtain ⟨y, hy, hk⟩ := hk
      exact ⟨_, hk, fun κ' h' => ⟨cs, k, x, h1, h2, h3, by rw [if_neg hagg]; exact ⟨y, hy, h'⟩⟩⟩
  case field =>
    obtain ⟨cs, h1, hk⟩ := h
    split at hk
    · rename_i hagg
      exact ⟨_, hk, fun κ' h' => ⟨cs, h1, by rw [if_pos hagg]; exact h'⟩⟩
    · rename_i hagg
      obtain ⟨y, hy, hk⟩ := hk
      exact ⟨_, hk, fun κ' h' => ⟨cs, h1, by rw [if_neg hagg]; exact ⟨y, hy, h'⟩⟩⟩
  case extract => obtain ⟨us, y, h1, h2, hk⟩ := h; exact ⟨_, hk, fun κ' h' => ⟨us, y, h1, h2, h'⟩⟩
  case build => obtain ⟨h1, out, h2, hk⟩ := h; exact ⟨_, hk, fun κ' h' => ⟨h1, out, h2, h'⟩⟩
  case lenStr => obtain ⟨l, h1, hk⟩ := h; exact ⟨_, hk, fun κ' h' => ⟨l, h1, h'⟩⟩
  case lenSl =>
    rcases h with ⟨a, off, len, h1, hk⟩ | ⟨h1, hk⟩
    · exact ⟨_, hk, fun κ' h' => .inl ⟨a, off, len, h1, h'⟩⟩
    · exact ⟨_, hk, fun κ' h' => .inr ⟨h1, h'⟩⟩
  case min => obtain ⟨k, x, y, h1, hk⟩ := h; exact ⟨_, hk, fun κ' h' => ⟨k, x, y, h1, h'⟩⟩
  case max => obtain ⟨k, x, y, h1, hk⟩ := h; exact ⟨_, hk, fun κ' h' => ⟨k, x, y, h1, h'⟩⟩
  case slnil => obtain ⟨x, p, h1, h2, hk⟩ := h; exact ⟨_, hk, fun κ' h' => ⟨x, p, h1, h2, h'⟩⟩
  case nilchk => obtain ⟨v, h1, h2, hk⟩ := h; exact ⟨_, hk, fun κ' h' => ⟨v, h1, h2, h'⟩⟩
  case sliceStr =>
    obtain ⟨l, rest, h1, h2⟩ := h
    obtain ⟨x, y, hR, hk, hb⟩ := bounds_ex h2
    exact ⟨_, hk, fun κ' h' => ⟨l, rest, h1, hb (fun x y => κ' (.s ((l.drop x.toNat).take (y - x).toNat)) H n) h'⟩⟩
  case sliceSl =>
    obtain ⟨h0, h⟩ := h
    rcases h with ⟨a, off, len, rest, h1, h2⟩ | ⟨rest, h1, h2⟩
    · obtain ⟨x, y, hR, hk, hb⟩ := bounds_ex h2
      exact ⟨_, hk, fun κ' h' => ⟨h0, .inl ⟨a, off, len, rest, h1, hb (fun x y => κ' (.sl a (off + x.toNat) (y - x).toNat) H n) h'⟩⟩⟩
    · obtain ⟨x, y, hR, hk, hb⟩ := bounds_ex h2
      exact ⟨_, hk, fun κ' h' => ⟨h0, .inr ⟨rest, h1, hb (fun x y => κ' (.c (.slice none 0 0)) H n) h'⟩⟩⟩
  case strOf =>
    rcases h with ⟨a, off, len, o, l, h1, h2, h3, h4, h5, hk⟩ | ⟨len, cap, h1, hk⟩
    · exact ⟨_, hk, fun κ' h' => .inl ⟨a, off, len, o, l, h1, h2, h3, h4, h5, h'⟩⟩
    · exact ⟨_, hk, fun κ' h' => .inr ⟨len, cap, h1, h'⟩⟩
  case mkfn => exact ⟨_, h, fun κ' h' => h'⟩

/-- Off memory, the outcome is the same on any one. -/
theorem noread {Γ : FuncId → Spec} {iop : IOp} (hq : iop.pure = true) (hr : iop.reads = false) {vals : List AVal} {H H' : Heap} {n n' : Nat} {κ : AVal → Prop} (h : istep Γ iop vals H n fun v _ _ => κ v) :
    istep Γ iop vals H' n' fun v _ _ => κ v := by
  cases iop <;> simp only [IOp.pure, IOp.reads, Bool.false_eq_true, reduceCtorEq] at hq hr <;> simp only [istep] at h ⊢ <;> exact h

end Go.AM
/- AM, part 15b: a region whose order is open: what each order comes to. -/
set_option linter.unusedVariables false
namespace Go.AM
variable {P : Program} {N : Nat} {ρ0 : Rho} {H0 : Heap} {w0 : World} {n0 : Nat}

/-- An operation at its guard, as its value. -/
def vstep (Γ : FuncId → Spec) (x : Ins) (e : Env) (H : Heap) (n : Nat) (κ : Cont) : Prop :=
  match x.g with
  | none => istep Γ x.op (x.xs.map (ev e)) H n κ
  | some (j, want, spec) => ∃ c, gcond (e j) want = some c ∧
      if spec then
        x.op.quiet = true ∧ (c = true → gofsOp x.op (x.xs.map (ev e)) = true) ∧ istep Γ x.op (x.xs.map fun y => unw (ev e y)) H n fun v _ _ => κ (.when c v) H n
      else (c = true → gofsOp x.op (x.xs.map (ev e)) = true ∧ istep Γ x.op (x.xs.map fun y => unw (ev e y)) H n κ) ∧ (c = false → κ (.when false .junk) H n)

theorem gfix_eq {e : Env} {j : Nat} {want c : Bool} (h : gcond (e j) want = some c) : gfix e j (if c then want else !want) = e := by
  unfold gfix
  split
  · rename_i p hp
    rw [hp] at h
    simp only [gcond, Option.some.injEq] at h
    subst h
    funext x
    by_cases hx : x = j
    · subst hx
      rw [if_pos rfl, hp]
      cases p <;> cases want <;> rfl
    · rw [if_neg hx]
  · rfl

theorem step_vstep {Γ : FuncId → Spec} {x : Ins} {e : Env} {H : Heap} {n : Nat} {K : Env → Heap → Nat → Prop} (h : step Γ x e H n K) : vstep Γ x e H n fun v H' n' => K (eset e x.d v) H' n' := by
  unfold step at h
  unfold vstep
  rcases hg : x.g with _ | ⟨j, want, spec⟩
  · simp only [hg] at h ⊢; exact h
  · simp only [hg] at h ⊢
    obtain ⟨c, hc, h⟩ := h
    refine ⟨c, hc, ?_⟩
    split at h
    · rename_i hs; rw [if_pos hs]; exact h
    · rename_i hs
      rw [if_neg hs]
      have h1 := gfix_eq hc
      cases c with
      | true =>
        simp only [if_true] at h1
        rw [h1] at h
        exact ⟨h.1, fun q => by simp at q⟩
      | false =>
        simp only [Bool.false_eq_true, if_false] at h1
        rw [h1] at h
        exact ⟨fun q => by simp at q, h.2⟩

theorem vstep_step {Γ : FuncId → Spec} {x : Ins} {e : Env} {H : Heap} {n : Nat} {K : Env → Heap → Nat → Prop} (h : vstep Γ x e H n fun v H' n' => K (eset e x.d v) H' n') : step Γ x e H n K := by
  unfold vstep at h
  unfold step
  rcases hg : x.g with _ | ⟨j, want, spec⟩
  · simp only [hg] at h ⊢; exact h
  · simp only [hg] at h ⊢
    obtain ⟨c, hc, h⟩ := h
    refine ⟨c, hc, ?_⟩
    split at h
    · rename_i hs; rw [if_pos hs]; exact h
    · rename_i hs
      rw [if_neg hs]
      have h1 := gfix_eq hc
      cases c with
      | true =>
        simp only [if_true] at h1
        rw [h1]
        exact ⟨h.1, fun q => by simp at q⟩
      | false =>
        simp only [Bool.false_eq_true, if_false] at h1
        rw [h1]
        exact ⟨fun q => by simp at q, h.2⟩

def rdO : List Opd → List Nat
  | [] => []
  | .t n :: r => n :: rdO r
  | .k _ :: r => rdO r
def Ins.rd (x : Ins) : List Nat := (match x.g with | some (j, _, _) => [j] | none => []) ++ rdO x.xs

theorem rdO_map {α : Type} (f g : Opd → α) : ∀ (xs : List Opd), (∀ n ∈ rdO xs, f (.t n) = g (.t n)) → (∀ v, f (.k v) = g (.k v)) → xs.map f = xs.map g
  | [], _, _ => rfl
  | .t n :: r, h, hk => by
    simp only [rdO, List.mem_cons] at h
    rw [List.map_cons, List.map_cons, h n (.inl rfl), rdO_map f g r (fun m hm => h m (.inr hm)) hk]
  | .k v :: r, h, hk => by
    simp only [rdO] at h
    rw [List.map_cons, List.map_cons, hk v, rdO_map f g r h hk]

theorem vstep_congr {Γ : FuncId → Spec} {x : Ins} {e e' : Env} {H : Heap} {n : Nat} {κ : Cont} (he : ∀ t ∈ x.rd, e t = e' t) (h : vstep Γ x e H n κ) : vstep Γ x e' H n κ := by
  unfold vstep at h ⊢
  have hx : ∀ t ∈ rdO x.xs, e t = e' t := fun t ht => he t (by simp [Ins.rd, ht])
  have h1 : x.xs.map (ev e) = x.xs.map (ev e') := rdO_map _ _ _ (fun t ht => hx t ht) (fun _ => rfl)
  have h2 : (x.xs.map fun y => unw (ev e y)) = x.xs.map fun y => unw (ev e' y) := rdO_map _ _ _ (fun t ht => by simp only [ev]; rw [hx t ht]) (fun _ => rfl)
  cases hg : x.g with
  | none => simp only [hg] at h ⊢; rw [← h1]; exact h
  | some g =>
    obtain ⟨j, want, spec⟩ := g
    simp only [hg] at h ⊢
    have hj : e j = e' j := he j (by simp [Ins.rd, hg])
    rw [← h1, ← h2, ← hj]
    exact h

/-- A pure operation that is still to be done: it comes to the value that is written already. -/
def Pend (Γ : FuncId → Spec) (x : Ins) (e : Env) (H : Heap) (n : Nat) : Prop := vstep Γ x e H n fun v H' n' => (∀ d, x.d = some d → v = e d) ∧ H' = H ∧ n' = n

theorem quiet_pure {op : IOp} (h : op.quiet = true) : op.pure = true := by cases op <;> simp [IOp.quiet, IOp.pure] at h ⊢

theorem vstep_ex {Γ : FuncId → Spec} {x : Ins} (hp : x.op.pure = true) {e : Env} {H : Heap} {n : Nat} {κ : Cont} (h : vstep Γ x e H n κ) : ∃ v, κ v H n ∧ ∀ κ' : Cont, κ' v H n → vstep Γ x e H n κ' := by
  unfold vstep at h
  split at h
  · rename_i hg
    obtain ⟨v, hk, hall⟩ := pure_ex hp h
    exact ⟨v, hk, fun κ' h' => by unfold vstep; rw [hg]; exact hall κ' h'⟩
  · rename_i j want spec hg
    obtain ⟨c, hc, h⟩ := h
    split at h
    · rename_i hspec
      obtain ⟨hq, hgof, h⟩ := h
      obtain ⟨v, hk, hall⟩ := pure_ex hp h
      refine ⟨.when c v, hk, fun κ' h' => ?_⟩
      unfold vstep
      simp only [hg]
      refine ⟨c, hc, ?_⟩
      rw [if_pos hspec]
      exact ⟨hq, hgof, hall (fun v _ _ => κ' (.when c v) H n) h'⟩
    · rename_i hspec
      cases c with
      | true =>
        obtain ⟨v, hk, hall⟩ := pure_ex hp (h.1 rfl).2
        refine ⟨v, hk, fun κ' h' => ?_⟩
        unfold vstep
        simp only [hg]
        refine ⟨true, hc, ?_⟩
        rw [if_neg hspec]
        exact ⟨fun _ => ⟨(h.1 rfl).1, hall κ' h'⟩, fun q => by simp at q⟩
      | false =>
        refine ⟨.when false .junk, h.2 rfl, fun κ' h' => ?_⟩
        unfold vstep
        simp only [hg]
        refine ⟨false, hc, ?_⟩
        rw [if_neg hspec]
        exact ⟨fun q => by simp at q, fun _ => h'⟩

theorem vstep_noread {Γ : FuncId → Spec} {x : Ins} (hp : x.op.pure = true) (hr : x.op.reads = false) {e : Env} {H H' : Heap} {n n' : Nat} {κ : AVal → Prop} (h : vstep Γ x e H n fun v _ _ => κ v) : vstep Γ x e H' n' fun v _ _ => κ v := by
  unfold vstep at h ⊢
  rcases hg : x.g with _ | ⟨j, want, spec⟩
  · simp only [hg] at h ⊢
    exact noread hp hr h
  · simp only [hg] at h ⊢
    obtain ⟨c, hc, h⟩ := h
    refine ⟨c, hc, ?_⟩
    split at h
    · rename_i hs
      rw [if_pos hs]
      exact ⟨h.1, h.2.1, noread hp hr (κ := fun v => κ (.when c v)) h.2.2⟩
    · rename_i hs
      rw [if_neg hs]
      exact ⟨fun hc' => ⟨(h.1 hc').1, noread hp hr (h.1 hc').2⟩, h.2⟩

theorem vstep_mono {Γ : FuncId → Spec} {x : Ins} (hp : x.op.pure = true) {e : Env} {H : Heap} {n : Nat} {κ κ' : Cont} (h : vstep Γ x e H n κ) (hk : ∀ v, κ v H n → κ' v H n) : vstep Γ x e H n κ' := by
  obtain ⟨v, h1, h2⟩ := vstep_ex hp h
  exact h2 κ' (hk v h1)

theorem recheck_mem {Γ : FuncId → Spec} : ∀ {qs : List Ins} {e : Env} {H : Heap} {n : Nat}, recheck Γ qs e H n → ∀ q ∈ qs, step Γ q e H n (fun e' _ _ => ∀ d, q.d = some d → e' d = e d)
  | [], _, _, _, _, q, hq => by simp at hq
  | x :: qs, e, H, n, h, q, hq => by
    rcases List.mem_cons.1 hq with rfl | hq
    · exact h.1
    · exact recheck_mem h.2 q hq

end Go.AM
/- AM, part 15c: a region whose order is open: each order comes to the same. -/
set_option linter.unusedVariables false
namespace Go.AM
variable {P : Program} {N : Nat} {ρ0 : Rho} {H0 : Heap} {w0 : World} {n0 : Nat}

def aft (ops : Array Oper) (i : Nat) : List Nat :=
  match ops[i]? with
  | some o => (o.after.toList.filter (Region.binds .any ·)).map (·.on)
  | none => []

/-- May the two stand so in the order of the abstract machine? `i` stands ahead of `j`. -/
def pairOK (ops : Array Oper) (I : Nat → Ins) (eff : Nat → Bool) (R : Nat → Nat → Bool) (late : Nat → List Nat) (i j : Nat) : Bool :=
  !(aft ops i).contains j && i != j &&
  (if eff i then R i j else
    (match (I i).d with | none => true | some d => (I j).d != some d && (!(I j).rd.contains d || R i j)) &&
    (if eff j then (match (I j).d with | none => true | some d => !(I i).rd.contains d || R i j) && (!(I i).op.reads || R i j || (late j).contains i)
     else (match (I j).d with | none => true | some d => !(I i).rd.contains d)))
def selfOK (ops : Array Oper) (I : Nat → Ins) (eff : Nat → Bool) (i : Nat) : Bool :=
  decide (i < ops.size) && !(aft ops i).contains i && (aft ops i).all (fun k => decide (k < ops.size)) &&
  (eff i || ((I i).op.pure && (match (I i).d with | none => true | some d => !(I i).rd.contains d)))

def dsts (I : Nat → Ins) (l : List Nat) : List Nat := l.filterMap fun i => (I i).d
def mask (e : Env) (D : List Nat) : Env := fun x => if x ∈ D then .junk else e x
theorem mem_dsts {I : Nat → Ins} {l : List Nat} {x : Nat} : x ∈ dsts I l ↔ ∃ i ∈ l, (I i).d = some x := by simp [dsts]

section
variable {ops : Array Oper} {I : Nat → Ins} {eff : Nat → Bool} {R : Nat → Nat → Bool} {late : Nat → List Nat} {Γ : FuncId → Spec} {K : Env → Heap → Nat → Prop}

theorem eset_ne {e : Env} {d : Option Nat} {v : AVal} {x : Nat} (h : d ≠ some x) : eset e d v x = e x := by
  cases d with
  | none => rfl
  | some d => simp only [eset]; rw [if_neg (fun q => h (by rw [q]))]
theorem eset_eq {e : Env} {d : Option Nat} {v : AVal} {x : Nat} (h : d = some x) : eset e d v x = v := by
  subst h; simp [eset]

theorem absorb : ∀ (r pend : List Nat) (e : Env) {H : Heap} {n : Nat}, (pend ++ r).Pairwise (fun i j => pairOK ops I eff R late i j = true) → (∀ i ∈ r, selfOK ops I eff i = true) → (∀ i ∈ pend, eff i = false) →
    (∀ i ∈ pend, Pend Γ (I i) e H n) → WPP Γ (r.map fun i => (I i, (late i).map I)) K e H n →
    ∃ p2 r2 e2, r = p2 ++ r2 ∧ (r2 = [] ∨ ∃ E r', r2 = E :: r' ∧ eff E = true) ∧ (∀ i ∈ p2, eff i = false) ∧ (∀ i ∈ pend ++ p2, Pend Γ (I i) e2 H n) ∧
      WPP Γ (r2.map fun i => (I i, (late i).map I)) K e2 H n ∧ ∀ x, x ∉ dsts I p2 → e2 x = e x
  | [], pend, e, H, n, hp, hs, he, hpd, hw => ⟨[], [], e, rfl, .inl rfl, by simp, by simpa using hpd, hw, fun _ _ => rfl⟩
  | i :: r, pend, e, H, n, hp, hs, he, hpd, hw => by
    cases hi : eff i with
    | true => exact ⟨[], i :: r, e, rfl, .inr ⟨i, r, rfl, hi⟩, by simp, by simpa using hpd, hw, fun _ _ => rfl⟩
    | false =>
      have hself := hs i (by simp)
      simp only [selfOK, hi, Bool.false_or, Bool.and_eq_true] at hself
      obtain ⟨_, hpure, hown⟩ := hself
      simp only [List.map_cons, WPP] at hw
      obtain ⟨v, ⟨_, hw1⟩, hall⟩ := vstep_ex hpure (step_vstep hw)
      have hq : ∀ q ∈ pend, pairOK ops I eff R late q i = true := fun q hq => (List.pairwise_append.1 hp).2.2 q hq i (by simp)
      have hone : Pend Γ (I i) (eset e (I i).d v) H n := by
        refine vstep_congr (e := e) (fun t ht => (eset_ne ?_).symm) (hall _ ⟨fun d hd => (eset_eq hd).symm, rfl, rfl⟩)
        intro hd
        rw [hd] at hown
        simp at hown
        exact hown ht
      have hold : ∀ q ∈ pend, Pend Γ (I q) (eset e (I i).d v) H n := fun q hqm => by
        have h1 := hq q hqm
        have h2 := he q hqm
        simp only [pairOK, h2, hi, Bool.false_eq_true, if_false, Bool.and_eq_true] at h1
        obtain ⟨_, h3, h4⟩ := h1
        have hpq : vstep Γ (I q) (eset e (I i).d v) H n fun v H' n' => (∀ d, (I q).d = some d → v = e d) ∧ H' = H ∧ n' = n := by
          refine vstep_congr (fun t ht => (eset_ne ?_).symm) (hpd q hqm)
          intro hd
          rw [hd] at h4
          simp at h4
          exact h4 ht
        have heq : (fun (v' : AVal) (H' : Heap) (n' : Nat) => (∀ d, (I q).d = some d → v' = eset e (I i).d v d) ∧ H' = H ∧ n' = n) = fun v' H' n' => (∀ d, (I q).d = some d → v' = e d) ∧ H' = H ∧ n' = n := by
          funext v' H' n'
          apply propext
          constructor
          · rintro ⟨a1, a2⟩
            refine ⟨fun d hd => ?_, a2⟩
            rw [a1 d hd]
            refine eset_ne ?_
            intro hd'
            rw [hd] at h3
            simp [hd'] at h3
          · rintro ⟨a1, a2⟩
            refine ⟨fun d hd => ?_, a2⟩
            rw [a1 d hd]
            refine (eset_ne ?_).symm
            intro hd'
            rw [hd] at h3
            simp [hd'] at h3
        unfold Pend
        rw [heq]
        exact hpq
      obtain ⟨p2, r2, e2, hr, hhead, hpp, hpo, hw2, hx⟩ := absorb r (pend ++ [i]) (eset e (I i).d v) (by simpa using hp) (fun j hj => hs j (by simp [hj])) (by
          intro j hj
          rcases List.mem_append.1 hj with hj | hj
          · exact he j hj
          · simp at hj; rw [hj]; exact hi) (by
          intro j hj
          rcases List.mem_append.1 hj with hj | hj
          · exact hold j hj
          · simp at hj; rw [hj]; exact hone) hw1
      refine ⟨i :: p2, r2, e2, by rw [hr]; rfl, hhead, ?_, ?_, hw2, ?_⟩
      · intro j hj
        rcases List.mem_cons.1 hj with rfl | hj
        · exact hi
        · exact hpp j hj
      · intro j hj
        exact hpo j (by simpa using hj)
      · intro x hxn
        rw [hx x (fun hm => hxn (by
          obtain ⟨j, hj, hd⟩ := mem_dsts.1 hm
          exact mem_dsts.2 ⟨j, by simp [hj], hd⟩))]
        exact eset_ne (fun hd => hxn (mem_dsts.2 ⟨i, by simp, hd⟩))

end
end Go.AM
/- AM, part 15d: a region whose order is open: all orders. -/
set_option linter.unusedVariables false
namespace Go.AM
variable {P : Program} {N : Nat} {ρ0 : Rho} {H0 : Heap} {w0 : World} {n0 : Nat}

theorem mask_ne {e : Env} {D : List Nat} {x : Nat} (h : x ∉ D) : mask e D x = e x := by simp only [mask]; rw [if_neg h]

theorem St.env' {ρ : Rho} {e e' : Env} {H : Heap} {n : Nat} {a : Act} {w : World} (h : St N ρ0 H0 w0 n0 ρ e H n a w) (he : ∀ x, e' x = .junk ∨ e' x = e x) : St N ρ0 H0 w0 n0 ρ e' H n a w :=
  ⟨fun x => by
    rcases he x with q | q
    · rw [q]; simp [VRel]
    · rw [q]; exact h.env x, h.size, h.defers, h.after⟩

section
variable (P N ρ0 H0 w0 n0) (ops : Array Oper) (I : Nat → Ins) (eff : Nat → Bool) (R : Nat → Nat → Bool) (late : Nat → List Nat) (Γ : FuncId → Spec) (K : Env → Heap → Nat → Prop)
structure Inv (pend rest : List Nat) (listed : Array Bool) (ρ : Rho) (e : Env) (H : Heap) (n : Nat) (a : Act) (w : World) : Prop where
  size : listed.size = ops.size
  un : ∀ i, i < ops.size → (listed.getD i false = false ↔ i ∈ pend ++ rest)
  pair : (pend ++ rest).Pairwise fun i j => pairOK ops I eff R late i j = true
  self : ∀ i ∈ pend ++ rest, selfOK ops I eff i = true
  closed : ∀ i, i < ops.size → listed.getD i false = true → ∀ k ∈ aft ops i, listed.getD k false = true
  head : rest = [] ∨ ∃ E r, rest = E :: r ∧ eff E = true
  pure : ∀ i ∈ pend, eff i = false
  pok : ∀ i ∈ pend, Pend Γ (I i) e H n
  run : WPP Γ (rest.map fun i => (I i, (late i).map I)) K e H n
  st : St N ρ0 H0 w0 n0 ρ (mask e (dsts I pend)) H n a w
end

section
variable {ops : Array Oper} {I : Nat → Ins} {eff : Nat → Bool} {R : Nat → Nat → Bool} {late : Nat → List Nat} {Γ : FuncId → Spec} {K : Env → Heap → Nat → Prop}

theorem getD_ft {l : Array Bool} {i : Nat} (h : i < l.size) (d d' : Bool) : l.getD i d = l.getD i d' := by simp [h]

theorem aft_mem {ops : Array Oper} {i k : Nat} {o : Oper} (ho : ops[i]? = some o) : k ∈ aft ops i ↔ ∃ e ∈ o.after, Region.binds .any e = true ∧ e.on = k := by
  simp only [aft, ho, List.mem_map, List.mem_filter, Array.mem_toList_iff]
  constructor
  · rintro ⟨e, ⟨h1, h2⟩, h3⟩; exact ⟨e, h1, h2, h3⟩
  · rintro ⟨e, h1, h2, h3⟩; exact ⟨e, ⟨h1, h2⟩, h3⟩

theorem self_lt {i : Nat} (h : selfOK ops I eff i = true) : i < ops.size := by
  simp only [selfOK, Bool.and_eq_true, decide_eq_true_eq] at h
  exact h.1.1.1

/-- The first of those that are left may be done. -/
theorem Inv.progress {pend rest : List Nat} {listed : Array Bool} {ρ : Rho} {e : Env} {H : Heap} {n : Nat} {a : Act} {w : World} (h : Inv N ρ0 H0 w0 n0 ops I eff R late Γ K pend rest listed ρ e H n a w)
    (hr : Region.ready .any ops listed = []) : pend ++ rest = [] := by
  cases hl : pend ++ rest with
  | nil => rfl
  | cons x l =>
    exfalso
    have hs := h.self x (by rw [hl]; simp)
    have hx := self_lt hs
    have hun : listed.getD x false = false := (h.un x hx).2 (by rw [hl]; simp)
    have : x ∈ Region.ready .any ops listed := by
      rw [mem_ready]
      refine ⟨by rw [getD_ft (by rw [h.size]; exact hx) true false]; exact hun, ops[x], by simp [hx], fun ed hed hb => ?_⟩
      have hk : ed.on ∈ aft ops x := (aft_mem (o := ops[x]) (by simp [hx])).2 ⟨ed, hed, hb, rfl⟩
      simp only [selfOK, Bool.and_eq_true, decide_eq_true_eq, List.all_eq_true, Bool.not_eq_true', List.contains_iff_mem, ← Bool.not_eq_true] at hs
      have hlt : ed.on < ops.size := hs.1.2 _ hk
      cases hc : listed.getD ed.on false with
      | true => rfl
      | false =>
        have hm := (h.un _ hlt).1 hc
        rw [hl] at hm
        rcases List.mem_cons.1 hm with q | q
        · exact absurd (q ▸ hk) hs.1.1.2
        · have hp := h.pair
          rw [hl, List.pairwise_cons] at hp
          have := hp.1 _ q
          simp only [pairOK, Bool.and_eq_true, Bool.not_eq_true', ← Bool.not_eq_true, List.contains_iff_mem] at this
          exact absurd hk this.1.1
    rw [hr] at this
    cases this

theorem set_un {listed : Array Bool} {i : Nat} {l l' : List Nat} (hs : listed.size = ops.size) (hi : i < ops.size) (h : ∀ k, k < ops.size → (listed.getD k false = false ↔ k ∈ l)) (hl : ∀ k, k ∈ l' ↔ k ∈ l ∧ k ≠ i) (k : Nat) (hk : k < ops.size) :
    (listed.setIfInBounds i true).getD k false = false ↔ k ∈ l' := by
  rw [hl]
  by_cases hik : i = k
  · subst hik
    have : i < listed.size := by rw [hs]; exact hi
    simp [this]
  · rw [getD_set_ne false hik, h k hk]
    exact ⟨fun q => ⟨q, fun q' => hik q'.symm⟩, fun q => q.1⟩

theorem Inv.closed' {pend rest : List Nat} {listed : Array Bool} {ρ : Rho} {e : Env} {H : Heap} {n : Nat} {a : Act} {w : World} (h : Inv N ρ0 H0 w0 n0 ops I eff R late Γ K pend rest listed ρ e H n a w)
    {j : Nat} (hj : j ∈ Region.ready .any ops listed) : ∀ i, i < ops.size → (listed.setIfInBounds j true).getD i false = true → ∀ k ∈ aft ops i, (listed.setIfInBounds j true).getD k false = true := by
  intro i hi hl k hk
  obtain ⟨hjun, oj, hoj, hall⟩ := mem_ready.1 hj
  refine getD_set_true ?_
  by_cases hij : j = i
  · subst hij
    obtain ⟨ed, h1, h2, h3⟩ := (aft_mem hoj).1 hk
    rw [← h3]; exact hall ed h1 h2
  · rw [getD_set_ne false hij] at hl
    exact h.closed i hi hl k hk

variable (hR : ∀ (L : Nat → Prop), (∀ i, i < ops.size → L i → ∀ k ∈ aft ops i, L k) → ∀ j, j < ops.size → (∀ k ∈ aft ops j, L k) → ∀ i, R i j = true → L i)
include hR

theorem Inv.reach {pend rest : List Nat} {listed : Array Bool} {ρ : Rho} {e : Env} {H : Heap} {n : Nat} {a : Act} {w : World} (h : Inv N ρ0 H0 w0 n0 ops I eff R late Γ K pend rest listed ρ e H n a w)
    {j : Nat} (hj : j ∈ Region.ready .any ops listed) {i : Nat} (hi : i ∈ pend ++ rest) : R i j = false := by
  cases hRij : R i j with
  | false => rfl
  | true =>
    exfalso
    obtain ⟨hjun, oj, hoj, hall⟩ := mem_ready.1 hj
    have := hR (fun k => listed.getD k false = true) h.closed j (Array.getElem?_eq_some_iff.1 hoj).1 (fun k hk => by
      obtain ⟨ed, h1, h2, h3⟩ := (aft_mem hoj).1 hk
      rw [← h3]; exact hall ed h1 h2) i hRij
    have h2 := (h.un i (self_lt (h.self i hi))).2 hi
    rw [h2] at this
    cases this


/-- One operation of any order. -/
theorem Inv.pureStep (hΓ : ∀ f, SpecOK P f (Γ f)) {flip : Nat → Bool} (hI : ∀ i o, ops[i]? = some o → compIns P N flip ops i o = some (I i)) {pend rest : List Nat} {listed : Array Bool} {ρ : Rho} {e : Env} {H : Heap} {n : Nat} {a : Act} {w : World} (h : Inv N ρ0 H0 w0 n0 ops I eff R late Γ K pend rest listed ρ e H n a w)
    {i : Nat} (hi : i ∈ pend) (hr : i ∈ Region.ready .any ops listed) {next : Act → World → Prop}
    (hn : ∀ a' w' ρ', Inv N ρ0 H0 w0 n0 ops I eff R late Γ K (pend.filter (· != i)) rest (listed.setIfInBounds i true) ρ' e H n a' w' → next a' w') (Q : Exit → Act → World → Prop) : wpOp P ops Q i next a w := by
  obtain ⟨_, o, ho, _⟩ := mem_ready.1 hr
  have hpair := List.pairwise_append.1 h.pair
  have hnd : ∀ j ∈ pend, ∀ k ∈ rest, j ≠ k := fun j hj k hk => by
    have := hpair.2.2 j hj k hk
    simp only [pairOK, Bool.and_eq_true, bne_iff_ne] at this
    exact this.1.2
  have hsi := h.self i (by simp [hi])
  have hpi := h.pure i hi
  -- what it looks at is there
  have hrd : ∀ t ∈ (I i).rd, t ∉ dsts I pend := fun t ht hm => by
    obtain ⟨q, hq, hd⟩ := mem_dsts.1 hm
    have hqp := h.pure q hq
    by_cases hqi : q = i
    · subst hqi
      simp only [selfOK, hqp, Bool.false_or, Bool.and_eq_true, hd] at hsi
      simp [ht] at hsi
    · have hno := h.reach hR hr (i := q) (by simp [hq])
      obtain ⟨l1, l2, hl⟩ := List.append_of_mem hi
      have hq' : q ∈ l1 ∨ q ∈ l2 := by
        rw [hl] at hq
        rcases List.mem_append.1 hq with q1 | q1
        · exact .inl q1
        · rcases List.mem_cons.1 q1 with q2 | q2
          · exact absurd q2 hqi
          · exact .inr q2
      have hp1 := hpair.1
      rw [hl] at hp1
      rcases hq' with q1 | q1
      · have := (List.pairwise_append.1 hp1).2.2 q q1 i (by simp)
        simp only [pairOK, hqp, hpi, hd, Bool.false_eq_true, if_false, Bool.and_eq_true, hno, Bool.or_false] at this
        simp [ht] at this
      · have := (List.pairwise_cons.1 (List.pairwise_append.1 hp1).2.1).1 q q1
        simp only [pairOK, hqp, hpi, hd, Bool.false_eq_true, if_false, Bool.and_eq_true] at this
        simp [ht] at this
  have hstep : step Γ (I i) (mask e (dsts I pend)) H n fun e' H' n' => (∃ v, (∀ d, (I i).d = some d → v = e d) ∧ e' = eset (mask e (dsts I pend)) (I i).d v) ∧ H' = H ∧ n' = n := by
    refine vstep_step (vstep_congr (e := e) (fun t ht => by simp only [mask]; rw [if_neg (hrd t ht)]) ?_)
    refine vstep_mono ?_ (h.pok i hi) (fun v hv => ⟨⟨v, hv.1, rfl⟩, hv.2⟩)
    simp only [selfOK, hpi, Bool.false_or, Bool.and_eq_true] at hsi
    exact hsi.2.1
  have hmain := step_ok hΓ (hI i o ho) h.st hstep (next := next) (fun a' w' hl => by
    obtain ⟨ρ', e', H', n', ⟨⟨v, hv, rfl⟩, rfl, rfl⟩, hst⟩ := hl
    refine hn a' w' ρ' ⟨by simp [h.size], ?_, ?_, ?_, h.closed' hr, h.head, fun j hj => h.pure j (List.mem_filter.1 hj).1, fun j hj => h.pok j (List.mem_filter.1 hj).1, h.run, ?_⟩
    · refine set_un h.size (self_lt hsi) h.un (fun k => ?_)
      simp only [List.mem_append, List.mem_filter, bne_iff_ne]
      constructor
      · rintro (⟨q1, q2⟩ | q1)
        · exact ⟨.inl q1, q2⟩
        · exact ⟨.inr q1, fun q => hnd i hi k q1 q.symm⟩
      · rintro ⟨q1 | q1, q2⟩
        · exact .inl ⟨q1, q2⟩
        · exact .inr q1
    · exact h.pair.sublist (List.Sublist.append List.filter_sublist (List.Sublist.refl _))
    · intro j hj
      refine h.self j ?_
      rcases List.mem_append.1 hj with q | q
      · simp [(List.mem_filter.1 q).1]
      · simp [q]
    · refine hst.env' (fun x => ?_)
      simp only [mask]
      split
      · exact .inl rfl
      · rename_i hx
        right
        by_cases hd : (I i).d = some x
        · rw [eset_eq hd, hv x hd]
        · rw [eset_ne hd]
          refine (mask_ne ?_).symm
          intro hm
          obtain ⟨q, hq, hdq⟩ := mem_dsts.1 hm
          refine hx (mem_dsts.2 ⟨q, List.mem_filter.2 ⟨hq, ?_⟩, hdq⟩)
          simp only [bne_iff_ne]
          rintro rfl
          exact hd hdq) Q
  unfold wpOp
  simp only [ho]
  split
  · rename_i hw; rw [if_pos hw] at hmain; exact .inl hmain
  · rename_i hw; rw [if_neg hw] at hmain; exact hmain

theorem Inv.effStep (hΓ : ∀ f, SpecOK P f (Γ f)) {flip : Nat → Bool} (hI : ∀ i o, ops[i]? = some o → compIns P N flip ops i o = some (I i)) {pend r : List Nat} {E : Nat} {listed : Array Bool} {ρ : Rho} {e : Env} {H : Heap} {n : Nat} {a : Act} {w : World} (h : Inv N ρ0 H0 w0 n0 ops I eff R late Γ K pend (E :: r) listed ρ e H n a w)
    (hE : eff E = true) (hr : E ∈ Region.ready .any ops listed) {next : Act → World → Prop}
    (hn : ∀ p2 r2 a' w' ρ' e' H' n', r = p2 ++ r2 → Inv N ρ0 H0 w0 n0 ops I eff R late Γ K (pend ++ p2) r2 (listed.setIfInBounds E true) ρ' e' H' n' a' w' → next a' w') (Q : Exit → Act → World → Prop) : wpOp P ops Q E next a w := by
  obtain ⟨_, o, ho, _⟩ := mem_ready.1 hr
  have hpair := List.pairwise_append.1 h.pair
  have hself := h.self E (by simp)
  have hqE : ∀ q ∈ pend, pairOK ops I eff R late q E = true := fun q hq => hpair.2.2 q hq E (by simp)
  have hno : ∀ q ∈ pend, R q E = false := fun q hq => h.reach hR hr (i := q) (by simp [hq])
  have hEr : ∀ k ∈ r, E ≠ k := fun k hk => by
    have := (List.pairwise_cons.1 hpair.2.1).1 k hk
    simp only [pairOK, Bool.and_eq_true, bne_iff_ne] at this
    exact this.1.2
  have hEp : ∀ q ∈ pend, q ≠ E := fun q hq => by
    have := hqE q hq
    simp only [pairOK, Bool.and_eq_true, bne_iff_ne] at this
    exact this.1.2
  have hrd : ∀ t ∈ (I E).rd, t ∉ dsts I pend := fun t ht hm => by
    obtain ⟨q, hq, hd⟩ := mem_dsts.1 hm
    have := hqE q hq
    simp only [pairOK, h.pure q hq, hE, hd, Bool.false_eq_true, if_false, if_true, Bool.and_eq_true, hno q hq, Bool.or_false] at this
    simp [ht] at this
  have hrun := h.run
  simp only [List.map_cons, WPP] at hrun
  have hstep : step Γ (I E) (mask e (dsts I pend)) H n fun e' H' n' => ∃ v, e' = eset (mask e (dsts I pend)) (I E).d v ∧ recheck Γ ((late E).map I) (eset e (I E).d v) H' n' ∧ WPP Γ (r.map fun i => (I i, (late i).map I)) K (eset e (I E).d v) H' n' := by
    refine vstep_step (vstep_congr (e := e) (fun t ht => by simp only [mask]; rw [if_neg (hrd t ht)]) ?_)
    have := step_vstep hrun
    revert this
    have hcont : (fun (v : AVal) (H' : Heap) (n' : Nat) => recheck Γ ((late E).map I) (eset e (I E).d v) H' n' ∧ WPP Γ (r.map fun i => (I i, (late i).map I)) K (eset e (I E).d v) H' n') =
        fun v H' n' => ∃ v', eset (mask e (dsts I pend)) (I E).d v = eset (mask e (dsts I pend)) (I E).d v' ∧ recheck Γ ((late E).map I) (eset e (I E).d v') H' n' ∧ WPP Γ (r.map fun i => (I i, (late i).map I)) K (eset e (I E).d v') H' n' := by
      funext v H' n'
      apply propext
      constructor
      · rintro ⟨a1, a2⟩; exact ⟨v, rfl, a1, a2⟩
      · rintro ⟨v', a0, a1, a2⟩
        have : eset e (I E).d v = eset e (I E).d v' := by
          cases hd : (I E).d with
          | none => rfl
          | some d =>
            have := congrFun a0 d
            rw [eset_eq hd, eset_eq hd] at this
            rw [this]
        rw [this]; exact ⟨a1, a2⟩
    rw [← hcont]
    exact id
  have hmain := step_ok hΓ (hI E o ho) h.st hstep (next := next) (fun a' w' hl => by
    obtain ⟨ρ', e', H', n', ⟨v, rfl, hre, hw⟩, hst⟩ := hl
    -- those that are still to be done
    have hpok : ∀ q ∈ pend, Pend Γ (I q) (eset e (I E).d v) H' n' := fun q hq => by
      have h1 := hqE q hq
      have hpq := h.pure q hq
      simp only [pairOK, hpq, hE, Bool.false_eq_true, if_false, if_true, Bool.and_eq_true, hno q hq, Bool.or_false] at h1
      obtain ⟨_, h2, h3, h4⟩ := h1
      have hpure : (I q).op.pure = true := by
        have := h.self q (by simp [hq])
        simp only [selfOK, hpq, Bool.false_or, Bool.and_eq_true] at this
        exact this.2.1
      have hval : vstep Γ (I q) (eset e (I E).d v) H' n' fun v' _ _ => ∀ d, (I q).d = some d → v' = eset e (I E).d v d := by
        cases hrq : (I q).op.reads with
        | false =>
          refine vstep_noread hpure hrq (H := H) (n := n) (κ := fun v' => ∀ d, (I q).d = some d → v' = eset e (I E).d v d) (vstep_congr (e := e) (fun t ht => (eset_ne ?_).symm) (vstep_mono hpure (h.pok q hq) (fun v' hv' d hd => ?_)))
          · intro hd
            rw [hd] at h3
            simp at h3
            exact h3 ht
          · rw [hv'.1 d hd]
            refine (eset_ne ?_).symm
            intro hd'
            rw [hd] at h2
            simp [hd'] at h2
        | true =>
          rw [hrq] at h4
          simp at h4
          have := recheck_mem hre (I q) (List.mem_map.2 ⟨q, h4, rfl⟩)
          refine vstep_mono hpure (step_vstep this) (fun v' hv' d hd => ?_)
          have := hv' d hd
          rw [eset_eq hd] at this
          exact this
      obtain ⟨v', hv', hall⟩ := vstep_ex hpure hval
      exact hall _ ⟨hv', rfl, rfl⟩
    have hsub : (pend ++ r).Sublist (pend ++ E :: r) := List.Sublist.append (List.Sublist.refl _) (List.sublist_cons_self _ _)
    obtain ⟨p2, r2, e2, hr2, hhead, hpp, hpo, hw2, hx⟩ := absorb r pend (eset e (I E).d v) (h.pair.sublist hsub) (fun j hj => h.self j (by simp [hj])) h.pure hpok hw
    refine hn p2 r2 a' w' ρ' e2 H' n' hr2 ⟨by simp [h.size], ?_, ?_, ?_, h.closed' hr, hhead, ?_, hpo, hw2, ?_⟩
    · refine set_un h.size (self_lt hself) h.un (fun k => ?_)
      rw [hr2]
      simp only [List.append_assoc, List.mem_append, List.mem_cons]
      rw [hr2] at hEr
      constructor
      · rintro (q1 | q1 | q1)
        · exact ⟨.inl q1, hEp k q1⟩
        · exact ⟨.inr (.inr (.inl q1)), fun q => hEr k (by simp [q1]) q.symm⟩
        · exact ⟨.inr (.inr (.inr q1)), fun q => hEr k (by simp [q1]) q.symm⟩
      · rintro ⟨q1 | q1 | q1 | q1, q2⟩
        · exact .inl q1
        · exact absurd q1 q2
        · exact .inr (.inl q1)
        · exact .inr (.inr q1)
    · rw [List.append_assoc, ← hr2]; exact h.pair.sublist hsub
    · intro j hj
      rw [List.append_assoc, ← hr2] at hj
      exact h.self j (hsub.subset hj)
    · intro j hj
      rcases List.mem_append.1 hj with q | q
      · exact h.pure j q
      · exact hpp j q
    · refine hst.env' (fun x => ?_)
      simp only [mask]
      split
      · exact .inl rfl
      · rename_i hxn
        right
        have h1 : x ∉ dsts I p2 := fun hm => hxn (by
          obtain ⟨j, hj, hd⟩ := mem_dsts.1 hm
          exact mem_dsts.2 ⟨j, by simp [hj], hd⟩)
        have h2 : x ∉ dsts I pend := fun hm => hxn (by
          obtain ⟨j, hj, hd⟩ := mem_dsts.1 hm
          exact mem_dsts.2 ⟨j, by simp [hj], hd⟩)
        rw [hx x h1]
        by_cases hd : (I E).d = some x
        · rw [eset_eq hd, eset_eq hd]
        · rw [eset_ne hd, eset_ne hd, mask_ne h2]) Q
  unfold wpOp
  simp only [ho]
  split
  · rename_i hw; rw [if_pos hw] at hmain; exact .inl hmain
  · rename_i hw; rw [if_neg hw] at hmain; exact hmain

/-- All orders. -/
theorem Inv.any (hΓ : ∀ f, SpecOK P f (Γ f)) {flip : Nat → Bool} (hI : ∀ i o, ops[i]? = some o → compIns P N flip ops i o = some (I i)) {Q : Exit → Act → World → Prop} (hQ : ∀ a w, Lift N ρ0 H0 w0 n0 K a w → Q .normal a w) :
    ∀ (fuel : Nat) (pend rest : List Nat) (listed : Array Bool) (ρ : Rho) (e : Env) (H : Heap) (n : Nat) (a : Act) (w : World), (pend ++ rest).length ≤ fuel →
      Inv N ρ0 H0 w0 n0 ops I eff R late Γ K pend rest listed ρ e H n a w → wpAny P .any ops Q fuel listed a w := by
  have hdone : ∀ (pend rest : List Nat) (listed : Array Bool) (ρ : Rho) (e : Env) (H : Heap) (n : Nat) (a : Act) (w : World), pend ++ rest = [] → Inv N ρ0 H0 w0 n0 ops I eff R late Γ K pend rest listed ρ e H n a w → Q .normal a w := by
    intro pend rest listed ρ e H n a w hl h
    obtain ⟨rfl, rfl⟩ := List.append_eq_nil_iff.1 hl
    refine hQ a w ⟨ρ, e, H, n, h.run, h.st.env' (fun x => .inr ?_)⟩
    simp [mask, dsts]
  intro fuel
  induction fuel with
  | zero =>
    intro pend rest listed ρ e H n a w hl h
    have hnil : pend ++ rest = [] := List.length_eq_zero_iff.1 (Nat.le_zero.1 hl)
    refine ⟨?_, hdone _ _ _ _ _ _ _ _ _ hnil h⟩
    rw [List.eq_nil_iff_forall_not_mem]
    intro j hj
    obtain ⟨h1, o, ho, _⟩ := mem_ready.1 hj
    have hlt : j < ops.size := (Array.getElem?_eq_some_iff.1 ho).1
    rw [getD_ft (by rw [h.size]; exact hlt) true false] at h1
    have := (h.un j hlt).1 h1
    rw [hnil] at this
    cases this
  | succ fuel ih =>
    intro pend rest listed ρ e H n a w hl h
    refine ⟨fun hr => hdone _ _ _ _ _ _ _ _ _ (h.progress hr) h, fun j hj => ?_⟩
    obtain ⟨h1, o, ho, _⟩ := mem_ready.1 hj
    have hlt : j < ops.size := (Array.getElem?_eq_some_iff.1 ho).1
    rw [getD_ft (by rw [h.size]; exact hlt) true false] at h1
    have hmem := (h.un j hlt).1 h1
    rcases List.mem_append.1 hmem with hp | hp
    · refine h.pureStep hR hΓ hI hp hj (fun a' w' ρ' h' => ih _ _ _ _ _ _ _ _ _ ?_ h') Q
      have : (pend.filter (· != j)).length < pend.length := List.length_filter_lt_length_iff_exists.2 ⟨j, hp, by simp⟩
      simp only [List.length_append] at hl ⊢
      omega
    · rcases h.head with rfl | ⟨E, r, rfl, hE⟩
      · cases hp
      · rcases List.mem_cons.1 hp with rfl | hp
        · refine h.effStep hR hΓ hI hE hj (fun p2 r2 a' w' ρ' e' H' n' hr2 h' => ih _ _ _ _ _ _ _ _ _ ?_ h') Q
          rw [List.append_assoc, ← hr2]
          simp only [List.length_append, List.length_cons] at hl ⊢
          omega
        · exfalso
          have hno := h.reach hR hj (i := E) (by simp)
          have hpair := (List.pairwise_cons.1 (List.pairwise_append.1 h.pair).2.1).1 j hp
          simp only [pairOK, hE, if_true, Bool.and_eq_true, hno] at hpair
          exact absurd hpair.2 (by simp)

end
end Go.AM
/- AM, part 15e: a region whose order is open, as code of the abstract machine. -/
set_option linter.unusedVariables false
namespace Go.AM
variable {P : Program} {N : Nat} {ρ0 : Rho} {H0 : Heap} {w0 : World} {n0 : Nat}

/-- The machine's exits out of the abstract machine's. -/
def PostOf (N : Nat) (ρ0 : Rho) (H0 : Heap) (w0 : World) (n0 : Nat) (Q : Post) : Exit → Act → World → Prop
  | .panic _, _, _ => False
  | .outgrown, _, _ => False
  | .goto _, _, _ => False
  | x, a, w => Lift N ρ0 H0 w0 n0 (Q x) a w

theorem mkE_rel {ρ : Rho} {e : Env} {a : Act} (h : EnvRel ρ e a) : ∀ (ks : List Nat), EnvRel ρ (mkE (ks.map fun k => (k, e k))) a
  | [] => fun x => by simp [mkE, VRel]
  | k :: ks => fun x => by
    simp only [List.map_cons, mkE]
    split
    · rename_i hx; rw [hx]; exact h k
    · exact mkE_rel h ks x


/-- The operations in an order in which all is done as soon as it can be. -/
def asap (af : List (List Nat)) (eff : List Bool) (m : Nat) : Nat → Nat → List Nat
  | 0, _ => []
  | fuel + 1, done =>
    let rd := fun i => !done.testBit i && (af.getD i []).all fun k => done.testBit k
    match (List.range m).find? fun i => !(eff.getD i true) && rd i with
    | some i => i :: asap af eff m fuel (done ||| 2 ^ i)
    | none => match (List.range m).find? rd with
      | some i => i :: asap af eff m fuel (done ||| 2 ^ i)
      | none => []

/-- What must be done ahead, as bits. -/
def mkT (af : List (List Nat)) : List Nat → List (List Nat) → List Nat
  | T, [] => T
  | T, a :: r => mkT af (T ++ [a.foldl (fun m k => m ||| (2 ^ k ||| T.getD k 0)) 0]) r
def okT (af : List (List Nat)) (T : List Nat) : Bool :=
  (List.range af.length).all fun i => T.getD i 0 == (af.getD i []).foldl (fun m k => m ||| (2 ^ k ||| (if k < i then T.getD k 0 else 0))) 0

def pairsB (f : Nat → Nat → Bool) : List Nat → Bool
  | [] => true
  | i :: r => r.all (f i) && pairsB f r
theorem pairsB_ok {f : Nat → Nat → Bool} : ∀ {l : List Nat}, pairsB f l = true → l.Pairwise fun i j => f i j = true
  | [], _ => .nil
  | i :: r, h => by
    simp only [pairsB, Bool.and_eq_true, List.all_eq_true] at h
    exact .cons h.1 (pairsB_ok h.2)

def ofList (l : List Ins) (i : Nat) : Ins := l.getD i default
def effOf (ops : Array Oper) (l : List Ins) (i : Nat) : Bool :=
  match ops[i]? with
  | some o => match o.op with
    | .assign _ => true
    | _ => !(ofList l i).op.pure
  | none => true
def relT (T : List Nat) (i j : Nat) : Bool := (T.getD j 0).testBit i
def lateOf (T : List Nat) (eff : List Bool) (l : List Ins) (ord : List Nat) (j : Nat) : List Nat :=
  if eff.getD j true then (ord.takeWhile (· != j)).filter fun i => !(eff.getD i true) && (ofList l i).op.reads && !relT T i j else []

def compPar (P : Program) (N : Nat) (flip : Nat → Bool) (ops : Array Oper) (ks : List Nat) : Option CC := do
  let l ← compList P N flip ops 0 ops.toList
  let af := (List.range ops.size).map (aft ops)
  let effs := (List.range ops.size).map (effOf ops l)
  let T := mkT af [] af
  let ord := asap af effs ops.size ops.size 0
  if okT af T && (List.range ops.size).all (fun i => ord.contains i) && ord.all (selfOK ops (ofList l) fun i => effs.getD i true) &&
      pairsB (pairOK ops (ofList l) (fun i => effs.getD i true) (relT T) (lateOf T effs l ord)) ord then
    some (.par (ord.map fun i => (ofList l i, (lateOf T effs l ord i).map (ofList l))) ks)
  else none

theorem testBit_fold (f : Nat → Nat) (k : Nat) : ∀ (a : List Nat) (m : Nat), (a.foldl (fun m k => m ||| (2 ^ k ||| f k)) m).testBit k = true → m.testBit k = true ∨ ∃ x ∈ a, x = k ∨ (f x).testBit k = true
  | [], m, h => .inl h
  | x :: a, m, h => by
    rw [List.foldl_cons] at h
    rcases testBit_fold f k a _ h with q | ⟨y, hy, q⟩
    · simp only [Nat.testBit_or, Bool.or_eq_true, Nat.testBit_two_pow, decide_eq_true_eq] at q
      rcases q with q | q | q
      · exact .inl q
      · exact .inr ⟨x, by simp, .inl q⟩
      · exact .inr ⟨x, by simp, .inr q⟩
    · exact .inr ⟨y, by simp [hy], q⟩

theorem okT_ok {ops : Array Oper} {T : List Nat} (h : okT ((List.range ops.size).map (aft ops)) T = true) (hs : ∀ i, i < ops.size → ∀ k ∈ aft ops i, k < ops.size) (L : Nat → Prop) (hc : ∀ i, i < ops.size → L i → ∀ k ∈ aft ops i, L k) :
    ∀ j, j < ops.size → (∀ k ∈ aft ops j, L k) → ∀ i, relT T i j = true → L i := by
  intro j
  induction j using Nat.strongRecOn with
  | _ j ih =>
    intro hj hall i hi
    simp only [okT, List.all_eq_true, List.mem_range, List.length_map, List.length_range, beq_iff_eq] at h
    have h1 := h j hj
    have haf : ((List.range ops.size).map (aft ops)).getD j [] = aft ops j := by simp [hj]
    rw [haf] at h1
    rw [relT, h1] at hi
    rcases testBit_fold (fun k => if k < j then T.getD k 0 else 0) i (aft ops j) 0 hi with q | ⟨x, hx, q⟩
    · simp at q
    · rcases q with rfl | q
      · exact hall x hx
      · split at q
        · rename_i hlt
          have hxs := hs j hj x hx
          exact ih x hlt hxs (fun k hk => hc x hxs (hall x hx) k hk) i q
        · simp at q

theorem compList_get {flip : Nat → Bool} {ops : Array Oper} : ∀ (os : List Oper) (k : Nat) (is : List Ins), compList P N flip ops k os = some is → ∀ i o, os[i]? = some o → ∃ x, is[i]? = some x ∧ compIns P N flip ops (k + i) o = some x
  | [], k, is, h, i, o, ho => by simp at ho
  | o' :: os, k, is, h, i, o, ho => by
    simp only [compList] at h
    split at h
    · rename_i x is' hx his
      simp only [Option.some.injEq] at h
      subst h
      cases i with
      | zero => simp at ho; subst ho; exact ⟨x, by simp, hx⟩
      | succ i =>
        obtain ⟨y, h1, h2⟩ := compList_get os (k + 1) is' his i o (by simpa using ho)
        exact ⟨y, by simpa using h1, by rw [show k + (i + 1) = k + 1 + i by omega]; exact h2⟩
    · exact absurd h (by simp)

theorem nodup_len : ∀ (m : Nat) (l : List Nat), l.Nodup → (∀ i ∈ l, i < m) → l.length ≤ m
  | 0, l, _, h => by
    cases l with
    | nil => simp
    | cons x l => exact absurd (h x (by simp)) (by omega)
  | m + 1, l, hn, h => by
    have h1 := nodup_len m (l.filter (· != m)) (hn.sublist List.filter_sublist) (fun i hi => by
      have h2 := h i (List.mem_filter.1 hi).1
      have h3 := (List.mem_filter.1 hi).2
      simp only [bne_iff_ne] at h3
      omega)
    have h4 : l.length ≤ (l.filter (· != m)).length + 1 := by
      clear h h1
      induction l with
      | nil => simp
      | cons x l ih =>
        have hn' := List.nodup_cons.1 hn
        by_cases hx : x = m
        · subst hx
          have : (x :: l).filter (· != x) = l := by
            rw [List.filter_cons]
            simp only [bne_self_eq_false, Bool.false_eq_true, if_false]
            refine List.filter_eq_self.2 (fun a ha => ?_)
            simp only [bne_iff_ne]
            rintro rfl
            exact hn'.1 ha
          rw [this]
          simp
        · rw [List.filter_cons]
          simp only [bne_iff_ne, ne_eq, hx, not_false_eq_true, if_true, List.length_cons]
          have := ih hn'.2
          omega
    omega

theorem St.drawn {ρ : Rho} {e : Env} {H : Heap} {n : Nat} {a : Act} {w : World} (h : St N ρ0 H0 w0 n0 ρ e H n a w) (k : Nat) : St N ρ0 H0 w0 n0 ρ e H n a { w with drawn := k } :=
  ⟨h.env, h.size, h.defers, ⟨⟨h.after.sat.obj, h.after.sat.apart⟩, h.after.fresh, h.after.le, ⟨h.after.frame.le, h.after.frame.os, h.after.frame.tape, h.after.frame.output, h.after.frame.size, h.after.frame.block, h.after.frame.owns⟩⟩⟩

theorem par_ok (hm : P.follows .mixedOrders = true) {Γ : FuncId → Spec} (hΓ : ∀ f, SpecOK P f (Γ f)) {flip : Nat → Bool} {ks : List Nat} {id : Nat} {ops : Array Oper} {cc : CC} (hc : compPar P N flip ops ks = some cc) {Q : Post} {a : Act} {w : World}
    (hl : Lift N ρ0 H0 w0 n0 (WPC Γ cc Q) a w) : (Code.region id ops true).wp P (PostOf N ρ0 H0 w0 n0 Q) a w := by
  simp only [compPar, Option.bind_eq_bind, Option.bind_eq_some_iff] at hc
  obtain ⟨l, hcl, hc⟩ := hc
  generalize hT : mkT ((List.range ops.size).map (aft ops)) [] ((List.range ops.size).map (aft ops)) = T at hc
  generalize hE : (List.range ops.size).map (effOf ops l) = effs at hc
  generalize hO : asap ((List.range ops.size).map (aft ops)) effs ops.size ops.size 0 = ord at hc
  split at hc
  · rename_i hchk
    simp only [Option.some.injEq] at hc
    subst hc
    simp only [Bool.and_eq_true, List.all_eq_true, List.mem_range] at hchk
    obtain ⟨⟨⟨hokT, hall⟩, hself⟩, hpairs⟩ := hchk
    have hpw := pairsB_ok hpairs
    have hlt : ∀ i, i < ops.size → ∀ k ∈ aft ops i, k < ops.size := fun i hi k hk => by
      have hm := hall i hi
      have := hself i (by simpa using hm)
      simp only [selfOK, Bool.and_eq_true, decide_eq_true_eq, List.all_eq_true] at this
      exact this.1.2 k hk
    obtain ⟨ρ, e, H, n, hw, hst⟩ := hl
    simp only [WPC] at hw
    obtain ⟨p2, r2, e2, hr, hhead, hpp, hpo, hw2, hx⟩ := absorb (ops := ops) (I := ofList l) (eff := fun i => effs.getD i true) (R := relT T) (late := lateOf T effs l ord) ord [] e (by simpa using hpw) (fun i hi => hself i hi) (by simp) (by simp) hw
    refine wp_region_any hm ?_
    have hR : ∀ (L : Nat → Prop), (∀ i, i < ops.size → L i → ∀ k ∈ aft ops i, L k) → ∀ j, j < ops.size → (∀ k ∈ aft ops j, L k) → ∀ i, relT T i j = true → L i := fun L hcl j hj haf i hij => okT_ok hokT hlt L hcl j hj haf i hij
    have hnd : (p2 ++ r2).Nodup := by
      rw [← hr]
      refine hpw.imp ?_
      intro i j hij
      simp only [pairOK, Bool.and_eq_true, bne_iff_ne] at hij
      exact hij.1.2
    refine Inv.any (N := N) (ρ0 := ρ0) (H0 := H0) (w0 := w0) (n0 := n0) (K := keepK ks (Q .normal)) (I := ofList l) (eff := fun i => effs.getD i true) (R := relT T) (late := lateOf T effs l ord) hR hΓ (flip := flip) ?_ ?_ ops.size p2 r2 _ ρ e2 H n a _ ?_ ⟨by simp, ?_, ?_, ?_, ?_, hhead, hpp, ?_, hw2, ?_⟩
    · intro i o ho
      obtain ⟨x, h1, h2⟩ := compList_get ops.toList 0 l hcl i o (by simpa using ho)
      simp only [Nat.zero_add] at h2
      rw [h2]
      simp [ofList, h1]
    · intro a w hl
      obtain ⟨ρ, e, H, n, hk, hst⟩ := hl
      exact ⟨ρ, _, H, n, hk, mkE_rel hst.env ks, hst.size, hst.defers, hst.after⟩
    · -- as many as there are
      have hsub : (p2 ++ r2) ⊆ List.range ops.size := fun i hi => by
        rw [← hr] at hi
        have := hself i hi
        simp only [selfOK, Bool.and_eq_true, decide_eq_true_eq] at this
        simp only [List.mem_range]
        exact this.1.1.1
      have h2 := nodup_len ops.size (p2 ++ r2) hnd (fun i hi => by simpa using hsub hi)
      simpa using h2
    · intro i hi
      simp only [← hr]
      have hm := hall i hi
      simp only [List.contains_iff_mem] at hm
      simp [hi, hm]
    · rw [← hr]; exact hpw
    · intro i hi; rw [← hr] at hi; exact hself i hi
    · intro i hi hli
      simp [hi] at hli
    · intro i hi; exact hpo i (by simpa using hi)
    · refine (hst.drawn _).env' (fun x => ?_)
      simp only [mask]
      split
      · exact .inl rfl
      · rename_i hxn; exact .inr (hx x hxn)
  · exact absurd hc (by simp)

end Go.AM
/- AM, part 15: code, functions. -/
set_option linter.unusedVariables false
namespace Go.AM
variable {P : Program} {N : Nat} {ρ0 : Rho} {H0 : Heap} {w0 : World} {n0 : Nat}

theorem wp_loop' {c : Code} {Q : Exit → Act → World → Prop} {a : Act} {w : World} (I : Nat → Act → World → Prop) (m : Nat) (h₀ : I m a w)
    (round : ∀ m a w, I m a w → c.wp P (Exit.then (fun a' w' => ∃ m', m' < m ∧ I m' a' w') Q) a w) : (Code.loop c).wp P Q a w := by
  intro b k cs
  have key : ∀ m a w, I m a w → ∃ e a' w', Q e a' w' ∧ Arrives P (lone (b.at a (.code c :: .inLoop c :: k)) cs w) b k cs e a' w' := by
    intro m
    induction m using Nat.strongRecOn with
    | _ m ih =>
      intro a w hI
      obtain ⟨e, a₁, w₁, hq, harr⟩ := round m a w hI b (.inLoop c :: k) cs
      cases e with
      | normal =>
        obtain ⟨m', hlt, hI₁⟩ := hq
        obtain ⟨e₂, a₂, w₂, hq₂, harr₂⟩ := ih m' hlt a₁ w₁ hI₁
        exact ⟨e₂, a₂, w₂, hq₂, .of_steps (Steps.trans harr (.one step_inLoop)) harr₂⟩
      | exit id => exact ⟨_, a₁, w₁, hq, .pass (x := .inLoop c) rfl (fun _ _ => .inl (by simp)) harr⟩
      | goto l => exact ⟨_, a₁, w₁, hq, .pass (x := .inLoop c) rfl (fun _ _ => .inl (by simp)) harr⟩
      | ret => exact ⟨_, a₁, w₁, hq, .pass (x := .inLoop c) rfl (fun _ _ => .inl (by simp)) harr⟩
      | panic ch => exact ⟨_, a₁, w₁, hq, .pass (x := .inLoop c) rfl (fun _ _ => .inl (by simp)) harr⟩
      | outgrown => exact ⟨_, a₁, w₁, hq, .pass (x := .inLoop c) rfl (fun _ _ => .inl (by simp)) harr⟩
  obtain ⟨e, a', w', hq, harr⟩ := key m a w h₀
  exact ⟨e, a', w', hq, .of_steps (.one step_loop) harr⟩

def compC (P : Program) (N : Nat) (flip : Nat → Nat → Bool) (ks : Nat → List Nat) : Code → Option CC
  | .skip => some .skip
  | .region id ops draw => if draw then some ((compPar P N (flip id) ops (ks id)).getD .never) else (compList P N (flip id) ops 0 ops.toList).map fun is => .ops is (ks id)
  | .seq a b => do let x ← compC P N flip ks a; let y ← compC P N flip ks b; some (.seq x y)
  | .cond c a b => do let o ← opdOf c; let x ← compC P N flip ks a; let y ← compC P N flip ks b; some (.cond o x y)
  | .block id c => do let x ← compC P N flip ks c; some (.block id x)
  | .loop c => do let x ← compC P N flip ks c; some (.loop x)
  | .exit id => some (.exit id)
  | .ret => some .ret
  | _ => some .never

theorem compC_ok (hm : P.follows .mixedOrders = true) {Γ : FuncId → Spec} (hΓ : ∀ f, SpecOK P f (Γ f)) {flip : Nat → Nat → Bool} {ks : Nat → List Nat} : ∀ (c : Code) (cc : CC), compC P N flip ks c = some cc → ∀ (Q : Post) (a : Act) (w : World),
    Lift N ρ0 H0 w0 n0 (WPC Γ cc Q) a w → c.wp P (PostOf N ρ0 H0 w0 n0 Q) a w := by
  intro c
  induction c with
  | skip =>
    intro cc h Q a w hl
    simp only [compC, Option.some.injEq] at h
    subst h
    exact wp_skip hl
  | region id ops draw =>
    intro cc h Q a w hl
    simp only [compC] at h
    split at h
    · rename_i hd
      subst hd
      simp only [Option.some.injEq] at h
      cases hp : compPar P N (flip id) ops (ks id) with
      | none =>
        rw [hp] at h
        subst h
        obtain ⟨_, _, _, _, hf, _⟩ := hl
        exact (show False from hf).elim
      | some cp =>
        rw [hp] at h
        subst h
        exact par_ok hm hΓ hp hl
    · rename_i hd
      simp only [Option.map_eq_some_iff] at h
      obtain ⟨is, his, rfl⟩ := h
      have hd' : draw = false := by simpa using hd
      subst hd'
      refine wp_region ?_
      have := list_ok (P := P) (Q := PostOf N ρ0 H0 w0 n0 Q) hΓ (K := keepK (ks id) (Q .normal)) (fun a w hl => by
        obtain ⟨ρ, e, H, n, hk, hst⟩ := hl
        exact ⟨ρ, _, H, n, hk, mkE_rel hst.env (ks id), hst.size, hst.defers, hst.after⟩) ops.toList 0 is his (fun j => by simp) a w hl
      rw [List.range_eq_range']
      simpa using this
  | seq x y ihx ihy =>
    intro cc h Q a w hl
    simp only [compC, Option.bind_eq_bind, Option.bind_eq_some_iff, Option.some.injEq] at h
    obtain ⟨cx, hx, cy, hy, rfl⟩ := h
    obtain ⟨ρ, e, H, n, ⟨R, h1, h2⟩, hst⟩ := hl
    refine wp_seq (wp_mono (ihx cx hx (thenQ R Q) a w ⟨ρ, e, H, n, h1, hst⟩) ?_)
    intro e a w hq
    cases e with
    | normal =>
      obtain ⟨ρ', e', H', n', hr, hst'⟩ := hq
      exact ihy cy hy Q a w ⟨ρ', e', H', n', h2 e' H' n' (fun m hm => hst'.after.sat.dead (hst'.after.fresh m hm)) hr, hst'⟩
    | _ => exact hq
  | cond x a b iha ihb =>
    intro cc h Q ac w hl
    simp only [compC, Option.bind_eq_bind, Option.bind_eq_some_iff, Option.some.injEq] at h
    obtain ⟨o, ho, ca, ha, cb, hb, rfl⟩ := h
    obtain ⟨ρ, e, H, n, ⟨p, hp, h1, h2⟩, hst⟩ := hl
    have hv := opdOf_ok ho hst.env
    rw [hp] at hv
    simp only [VRel] at hv
    refine wp_cond_split hv (fun e1 => iha ca ha Q ac w ⟨ρ, e, H, n, h1 e1, hst⟩) (fun e1 => ihb cb hb Q ac w ⟨ρ, e, H, n, h2 e1, hst⟩)
  | block id c ih =>
    intro cc h Q a w hl
    simp only [compC, Option.bind_eq_bind, Option.bind_eq_some_iff, Option.some.injEq] at h
    obtain ⟨cx, hx, rfl⟩ := h
    refine wp_block (wp_mono (ih cx hx (blockQ id Q) a w hl) ?_)
    intro e a w hq
    cases e with
    | exit j =>
      simp only [Exit.inBlock]
      simp only [PostOf, blockQ] at hq
      split
      · rename_i hj; subst hj; rw [if_pos rfl] at hq; exact hq
      · rename_i hj; rw [if_neg hj] at hq; exact hq
    | _ => exact hq
  | loop c ih =>
    intro cc h Q a w hl
    simp only [compC, Option.bind_eq_bind, Option.bind_eq_some_iff, Option.some.injEq] at h
    obtain ⟨cx, hx, rfl⟩ := h
    obtain ⟨ρ, e, H, n, ⟨I, k, H1, hle, h0, hr⟩, hst⟩ := hl
    refine wp_loop' (fun m => Lift N ρ0 H0 w0 n0 (I m)) k ⟨ρ, e, H1, n, h0, hst.env, hst.size, hst.defers, hst.after.drop hle⟩ ?_
    intro m a w hl
    obtain ⟨ρ, e, H, n, hI, hst⟩ := hl
    refine wp_mono (ih cx hx _ a w ⟨ρ, e, H, n, hr m e H n (fun q hq => hst.after.sat.dead (hst.after.fresh q hq)) hI, hst⟩) ?_
    intro x a w hq
    cases x with
    | normal =>
      obtain ⟨ρ', e', H', n', ⟨H'', k', hle', hlt, hI'⟩, hst'⟩ := hq
      exact ⟨k', hlt, ρ', e', H'', n', hI', hst'.env, hst'.size, hst'.defers, hst'.after.drop hle'⟩
    | _ => exact hq
  | exit id =>
    intro cc h Q a w hl
    simp only [compC, Option.some.injEq] at h
    subst h
    exact wp_exit hl
  | ret =>
    intro cc h Q a w hl
    simp only [compC, Option.some.injEq] at h
    subst h
    exact wp_ret hl
  | _ =>
    intro cc h Q a w hl
    simp only [compC, Option.some.injEq] at h
    subst h
    obtain ⟨_, _, _, _, hf, _⟩ := hl
    exact (show False from hf).elim

/-! renaming -/
mutual
def ren (f : Nat → Nat) : AVal → AVal
  | .ptr a i j => .ptr (f a) i j
  | .sl a o l => .sl (f a) o l
  | .agg cs => .agg (rens f cs)
  | .tup cs => .tup (rens f cs)
  | .fn g x y => .fn g (rens f x) (rens f y)
  | .ifc t x => .ifc t (ren f x)
  | .when g x => .when g (ren f x)
  | v => v
def rens (f : Nat → Nat) : List AVal → List AVal
  | [] => []
  | x :: xs => ren f x :: rens f xs
end
theorem rens_map (f : Nat → Nat) : ∀ xs, rens f xs = xs.map (ren f)
  | [] => rfl
  | x :: xs => by simp [rens, rens_map f xs]

mutual
theorem ren_rel {ρ : Rho} (f : Nat → Nat) : ∀ (x : AVal) (v : Value), VRel ρ (ren f x) v → VRel (fun a => ρ (f a)) x v
  | .i _ _, _, e | .b _, _, e | .s _, _, e | .c _, _, e => by simpa [VRel, ren] using e
  | .ptr a i j, v, e => by simpa only [VRel, ren] using e
  | .sl a o l, v, e => by simpa only [VRel, ren] using e
  | .agg cs, v, e => by
    simp only [VRel, ren] at e ⊢
    obtain ⟨vs, e1, e2⟩ := e
    exact ⟨vs, e1, rens_rel f cs _ e2⟩
  | .tup cs, v, e => by
    simp only [VRel, ren] at e ⊢
    obtain ⟨vs, e1, e2⟩ := e
    exact ⟨vs, e1, rens_rel f cs _ e2⟩
  | .fn g x y, v, e => by
    simp only [VRel, ren] at e ⊢
    obtain ⟨xs, ys, e1, e2, e3⟩ := e
    exact ⟨xs, ys, e1, rens_rel f x _ e2, rens_rel f y _ e3⟩
  | .ifc t x, v, e => by
    simp only [VRel, ren] at e ⊢
    obtain ⟨y, e1, e2⟩ := e
    exact ⟨y, e1, ren_rel f x _ e2⟩
  | .when g x, v, e => by
    simp only [VRel, ren] at e ⊢
    exact ⟨fun hg => ren_rel f x _ (e.1 hg), e.2⟩
  | .junk, _, _ => by simp [VRel]
theorem rens_rel {ρ : Rho} (f : Nat → Nat) : ∀ (x : List AVal) (v : List Value), VRels ρ (rens f x) v → VRels (fun a => ρ (f a)) x v
  | [], _, e => by simpa [VRels, rens] using e
  | x :: xs, vs, e => by
    simp only [VRels, rens] at e ⊢
    obtain ⟨v, vs', e1, e2, e3⟩ := e
    exact ⟨v, vs', e1, ren_rel f x _ e2, rens_rel f xs _ e3⟩
end
theorem ren_cells (f : Nat → Nat) (x : AVal) : (ren f x).cells = rens f x.cells := by
  cases x <;> simp [ren, rens, AVal.cells]

mutual
theorem VRel.agree {ρ0 ρ ρ' : Rho} (h : ∀ a x, ρ0 a = some x → ρ' a = ρ a) : ∀ (x : AVal) (u v : Value), VRel ρ0 x u → VRel ρ x v → VRel ρ' x v
  | .i _ _, _, _, _, e | .b _, _, _, _, e | .s _, _, _, _, e | .c _, _, _, _, e => by simpa [VRel] using e
  | .ptr a i j, u, v, d, e => by
    simp only [VRel] at d e ⊢
    obtain ⟨_, _, _, _, h1, _⟩ := d
    rw [h a _ h1]; exact e
  | .sl a o l, u, v, d, e => by
    simp only [VRel] at d e ⊢
    rcases d with ⟨h1, _⟩ | ⟨_, _, _, _, _, _, h1, _⟩ <;> (rw [h a _ h1]; exact e)
  | .agg cs, u, v, d, e => by
    simp only [VRel] at d e ⊢
    obtain ⟨us, _, d⟩ := d
    obtain ⟨vs, e1, e2⟩ := e
    exact ⟨vs, e1, VRels.agree h cs _ _ d e2⟩
  | .tup cs, u, v, d, e => by
    simp only [VRel] at d e ⊢
    obtain ⟨us, _, d⟩ := d
    obtain ⟨vs, e1, e2⟩ := e
    exact ⟨vs, e1, VRels.agree h cs _ _ d e2⟩
  | .fn g x y, u, v, d, e => by
    simp only [VRel] at d e ⊢
    obtain ⟨_, _, _, d1, d2⟩ := d
    obtain ⟨xs, ys, e1, e2, e3⟩ := e
    exact ⟨xs, ys, e1, VRels.agree h x _ _ d1 e2, VRels.agree h y _ _ d2 e3⟩
  | .ifc t x, u, v, d, e => by
    simp only [VRel] at d e ⊢
    obtain ⟨_, _, d⟩ := d
    obtain ⟨y, e1, e2⟩ := e
    exact ⟨y, e1, VRel.agree h x _ _ d e2⟩
  | .when g x, u, v, d, e => by
    simp only [VRel] at d e ⊢
    exact ⟨fun hg => VRel.agree h x _ _ (d.1 hg) (e.1 hg), e.2⟩
  | .junk, _, _, _, _ => by simp [VRel]
theorem VRels.agree {ρ0 ρ ρ' : Rho} (h : ∀ a x, ρ0 a = some x → ρ' a = ρ a) : ∀ (x : List AVal) (u v : List Value), VRels ρ0 x u → VRels ρ x v → VRels ρ' x v
  | [], _, _, _, e => by simpa [VRels] using e
  | x :: xs, us, vs, d, e => by
    simp only [VRels] at d e ⊢
    obtain ⟨u, us', _, d1, d2⟩ := d
    obtain ⟨v, vs', e1, e2, e3⟩ := e
    exact ⟨v, vs', e1, VRel.agree h x _ _ d1 e2, VRels.agree h xs _ _ d2 e3⟩
end

theorem ObjAt.agree {ρ0 ρ ρ' : Rho} (h : ∀ a x, ρ0 a = some x → ρ' a = ρ a) {w0 w : World} {x : Info} {o : AObj} (h0 : ObjAt ρ0 w0 x o) (h1 : ObjAt ρ w x o) : ObjAt ρ' w x o := by
  cases x with
  | nil => exact h1
  | «at» b1 b2 b3 b4 =>
    rcases h1 with h1 | ⟨e0, e1, cc, el, fz, e2, e3, e4, e5, k1⟩
    · exact .inl h1
    rcases h0 with ⟨h0, _⟩ | ⟨_, _, cc0, _, _, _, _, _, _, k0⟩
    · exact .inr ⟨e0, e1, cc, el, fz, e2, e3, e4, e5, fun i e he => by rw [h0] at he; simp at he⟩
    refine .inr ⟨e0, e1, cc, el, fz, e2, e3, e4, e5, fun i e he => ⟨(k1 i e he).1, fun j y hy => ?_⟩⟩
    obtain ⟨u0, _, d⟩ := (k0 i e he).2 j y hy
    obtain ⟨u, hu, q⟩ := (k1 i e he).2 j y hy
    exact ⟨u, hu, VRel.agree h _ _ _ d q⟩

theorem ObjAt.ren {ρ : Rho} (f : Nat → Nat) {w : World} {x : Info} {o o' : AObj} (h : ObjAt ρ w x o') (h1 : o'.ro = o.ro) (h2 : o'.sz = o.sz) (h3 : o'.es = rens f o.es) : ObjAt (fun a => ρ (f a)) w x o := by
  rw [rens_map] at h3
  cases x with
  | nil =>
    simp only [ObjAt] at h ⊢
    rw [h] at h3
    simpa using h3.symm
  | «at» b1 b2 b3 b4 =>
    rcases h with ⟨g1, g2, g3, g4, l, k, g5, g6⟩ | ⟨e0, e1, cc, el, fz, e2, e3, e4, e5, k1⟩
    · exact .inl ⟨by rw [g1] at h3; simpa using h3.symm, g2, g3, g4, l, k, by rw [← h2]; exact g5, g6⟩
    refine .inr ⟨e0.imp (fun q => by rw [h3] at q; intro q'; rw [q'] at q; simp at q) id, h2 ▸ e1, cc, el, fz, e2, fun q => e3 (h1 ▸ q), e4, by rw [h3] at e5; simpa using e5, fun i e he => ?_⟩
    obtain ⟨q1, q2⟩ := k1 i (AM.ren f e) (by rw [h3]; simp [he])
    rw [ren_cells, rens_map] at q1 q2
    refine ⟨by simpa using q1, fun j y hy => ?_⟩
    obtain ⟨u, hu, q⟩ := q2 j (AM.ren f y) (by simp [hy])
    exact ⟨u, hu, ren_rel f _ _ q⟩

/-- Old names stay; those from `n0` on are `ms`. -/
def renL (n0 n : Nat) (ms : List Nat) (a : Nat) : Nat := if a < n0 then a else (ms[a - n0]?).getD (a + n)

theorem renL_inj {n0 n : Nat} {ms : List Nat} (hnd : ms.Nodup) (hge : ∀ m ∈ ms, n0 ≤ m) {a c : Nat} (ha : a < n0 + ms.length) (hc : c < n0 + ms.length) (hne : a ≠ c) : renL n0 n ms a ≠ renL n0 n ms c := by
  unfold renL
  by_cases h1 : a < n0 <;> by_cases h2 : c < n0
  · simp [h1, h2, hne]
  · have hl : c - n0 < ms.length := by omega
    have := hge _ (List.getElem_mem hl)
    simp [h1, h2, hl]
    omega
  · have hl : a - n0 < ms.length := by omega
    have := hge _ (List.getElem_mem hl)
    simp [h1, h2, hl]
    omega
  · have hl : a - n0 < ms.length := by omega
    have hl' : c - n0 < ms.length := by omega
    simp [h1, h2, hl, hl']
    intro e
    have hp := (List.pairwise_iff_getElem (R := (· ≠ ·))).1 hnd
    rcases Nat.lt_or_gt_of_ne (show a - n0 ≠ c - n0 by omega) with q | q
    · exact hp _ _ hl hl' q e
    · exact hp _ _ hl' hl q e.symm

def Fin (H0 : Heap) (n0 : Nat) (κ : Cont) (v : AVal) (H : Heap) (n : Nat) : Prop :=
  ∃ ms vs Hs, κ vs Hs (n0 + ms.length) ∧ ms.Nodup ∧ (∀ m ∈ ms, n0 ≤ m) ∧ v = ren (renL n0 n ms) vs ∧
    ∀ a o, Hs a = some o → (a < n0 ∧ H0 a = some o ∧ H a = some o) ∨
      (a < n0 + ms.length ∧ ∃ o', H (renL n0 n ms a) = some o' ∧ o'.ro = o.ro ∧ o'.sz = o.sz ∧ o'.es = rens (renL n0 n ms) o.es)

theorem Fin.res {κ : Cont} {v : AVal} {ρ : Rho} {H : Heap} {w : World} {n : Nat} (h : Fin H0 n0 κ v H n) (hs0 : Sat ρ0 H0 w0) (hf0 : Fresh ρ0 n0) (ha : After ρ0 H0 w0 n0 ρ H w n) {v' : Value} (hv : VRel ρ v v') :
    Res ρ0 H0 w0 n0 κ v' w := by
  obtain ⟨ms, vs, Hs, hk, hnd, hge, rfl, hobj⟩ := h
  let f := renL n0 n ms
  have hold : ∀ a, a < n0 → f a = a := fun a h => by simp [f, renL, h]
  have hlt0 : ∀ a x, ρ0 a = some x → a < n0 := fun a x e => by
    rcases Nat.lt_or_ge a n0 with q | q
    · exact q
    · rw [hf0 a q] at e; exact absurd e (by simp)
  have hag : ∀ a x, ρ0 a = some x → ρ (f a) = ρ a := fun a x e => by rw [hold a (hlt0 a x e)]
  -- what an object of the end was, and that its name is one of the few
  have hbase : ∀ a o, Hs a = some o → a < n0 + ms.length ∧ ∃ o', H (f a) = some o' ∧ o'.ro = o.ro := fun a o e => by
    rcases hobj a o e with ⟨h1, h2, h3⟩ | ⟨h1, o', h2, h3, _⟩
    · exact ⟨by omega, o, by rw [hold a h1]; exact h3, rfl⟩
    · exact ⟨h1, o', h2, h3⟩
  refine ⟨vs, fun a => ρ (f a), Hs, n0 + ms.length, hk, ren_rel f _ _ hv, ⟨⟨fun a o e => ?_, fun a c oa oc x y p1 p2 p3 q1 q2 q3 hac e1 e2 hro e3 e4 => ?_⟩, fun m hm => ?_, Nat.le_add_right _ _, ?_⟩⟩
  · rcases hobj a o e with ⟨h1, h2, h3⟩ | ⟨h1, o', h2, h3, h4, h5⟩
    · obtain ⟨x, hx, ho⟩ := hs0.obj a o h2
      have hx' := ha.frame.le a x hx
      obtain ⟨x', hx'', ho'⟩ := ha.sat.obj a o h3
      rw [hx'] at hx''
      simp only [Option.some.injEq] at hx''
      subst hx''
      exact ⟨x, by rw [hold a h1]; exact hx', ObjAt.agree hag ho ho'⟩
    · obtain ⟨x, hx, ho⟩ := ha.sat.obj _ o' h2
      exact ⟨x, hx, ho.ren f h3 h4 h5⟩
  · obtain ⟨l1, oa', k1, r1⟩ := hbase a oa e1
    obtain ⟨l2, oc', k2, r2⟩ := hbase c oc e2
    exact ha.sat.apart (f a) (f c) oa' oc' x y p1 p2 p3 q1 q2 q3 (renL_inj hnd hge l1 l2 hac) k1 k2 (by rw [r1, r2]; exact hro) e3 e4
  · have : f m = m + n := by
      simp only [f, renL]
      rw [if_neg (by omega), List.getElem?_eq_none (by omega)]
      rfl
    rw [this]
    exact ha.fresh _ (by omega)
  · refine ⟨fun a x e => ?_, ha.frame.os, ha.frame.tape, ha.frame.output, ha.frame.size, ha.frame.block, fun k hk' => ?_⟩
    · rw [hold a (hlt0 a x e)]; exact ha.frame.le a x e
    · obtain ⟨a, o, p1, p2, p3, e1, e2, e3⟩ := hk'
      obtain ⟨_, o', k1, r1⟩ := hbase a o e1
      exact ha.frame.owns k ⟨f a, o', p1, p2, p3, k1, by rw [r1]; exact e2, e3⟩

/-! functions -/
inductive RV where
  | t (n : Nat)
  | cell (n sz : Nat) (agg : Bool)

def compRV (P : Program) : ResultVar → Option RV
  | .tmp t => some (.t t)
  | .cell a t => do
    let d ← P.underlying t
    let ti ← P.info? t
    some (.cell a ti.size (isAggD d))

def compRVs (P : Program) : List ResultVar → Option (List RV)
  | [] => some []
  | r :: rs => match compRV P r, compRVs P rs with
    | some x, some xs => some (x :: xs)
    | _, _ => none

def rvals : List RV → Env → Heap → (List AVal → Prop) → Prop
  | [], e, H, κ => κ []
  | .t n :: rs, e, H, κ => rvals rs e H fun vs => κ (e n :: vs)
  | .cell n sz agg :: rs, e, H, κ => opLoad sz agg [e n] H fun v => rvals rs e H fun vs => κ (v :: vs)

def oneOrTup : List AVal → AVal
  | [v] => v
  | vs => .tup vs

def retQ (rs : List RV) (H0 : Heap) (n0 : Nat) (κ : Cont) : Post
  | .normal, e, H, n => rvals rs e H fun vs => Fin H0 n0 κ (oneOrTup vs) H n
  | .ret, e, H, n => rvals rs e H fun vs => Fin H0 n0 κ (oneOrTup vs) H n
  | _, _, _, _ => False

/-- How the machine reads its results. -/
structure Reads (a : Act) (g : ResultVar → Sem Value) : Prop where
  tmp : ∀ t, g (.tmp t) = pure (a.tmps.getD t undef)
  cell : ∀ x t, g (.cell x t) = (do loadVar t (← asAddr (a.tmps.getD x undef)))

theorem rvals_ok {ρ : Rho} {e : Env} {H : Heap} {n : Nat} {a : Act} {w : World} (hst : St N ρ0 H0 w0 n0 ρ e H n a w) : ∀ (rvs : List ResultVar) (rs : List RV), compRVs P rvs = some rs → ∀ κ : List AVal → Prop, rvals rs e H κ →
    ∃ vs, (∀ g, Reads a g → (rvs.mapM g).run P w = .ok vs w) ∧ ∃ as, κ as ∧ VRels ρ as vs
  | [], rs, h, κ, hk => by
    simp only [compRVs, Option.some.injEq] at h
    subst h
    exact ⟨[], fun _ _ => rfl, [], hk, VRels.nil'⟩
  | .tmp t :: rvs, rs, h, κ, hk => by
    simp only [compRVs, compRV] at h
    split at h
    · rename_i x xs h1 h2
      simp only [Option.some.injEq] at h h1
      subst h; subst h1
      obtain ⟨vs, hr, as, hk', hv⟩ := rvals_ok hst rvs xs h2 _ hk
      refine ⟨a.tmps.getD t undef :: vs, fun g hg => ?_, e t :: as, hk', VRels.cons' (hst.env t) hv⟩
      simp only [List.mapM_cons, Sem.run_bind, hg.tmp, Sem.run_pure, Result.andThen_ok, hr g hg]
    · exact absurd h (by simp)
  | .cell a' t :: rvs, rs, h, κ, hk => by
    simp only [compRVs] at h
    split at h
    · rename_i x xs h1 h2
      simp only [Option.some.injEq] at h
      subst h
      simp only [compRV, Option.bind_eq_bind, Option.bind_eq_some_iff, Option.some.injEq] at h1
      obtain ⟨d, hu, ti, hti, rfl⟩ := h1
      have hld := load_ok (P := P) (x := a.tmps.getD a' undef) hu hti hk (VRels.cons' (hst.env a') VRels.nil') hst.after.sat
      obtain ⟨v', hrun, v, hk2, hv⟩ := hld
      obtain ⟨vs, hr, as, hk', hvs⟩ := rvals_ok hst rvs xs h2 _ hk2
      have hptr : ∃ ad, a.tmps.getD a' undef = .pointer (some ad) := by
        obtain ⟨aa, i, j, o, el, he, _⟩ := hk
        simp only [List.cons.injEq, and_true] at he
        have := hst.env a'
        rw [he] at this
        simp only [VRel] at this
        obtain ⟨_, _, _, _, _, h⟩ := this
        exact ⟨_, h⟩
      obtain ⟨ad, had⟩ := hptr
      rw [had] at hrun
      simp only [Instr.loadAt, Instr.sureAddr, Sem.run_bind, Sem.run_pure, Result.andThen_ok] at hrun
      refine ⟨v' :: vs, fun g hg => ?_, v :: as, hk', VRels.cons' hv hvs⟩
      have has : (asAddr (.pointer (some ad)) : Sem Addr) = pure ad := rfl
      simp only [List.mapM_cons, Sem.run_bind, hg.cell, had, has, Sem.run_pure, Result.andThen_ok, hrun, hr g hg]
    · exact absurd h (by simp)

/-- The slots as a function begins. -/
def argE : List AVal → Env
  | [], _ => .junk
  | v :: vs, x => if x = 0 then v else argE vs (x - 1)
theorem argE_eq : ∀ (args : List AVal) (x : Nat), argE args x = args.getD x .junk
  | [], x => by simp [argE]
  | v :: vs, 0 => by simp [argE]
  | v :: vs, x + 1 => by simp [argE, argE_eq vs x]

theorem fn_ok (hm : P.follows .mixedOrders = true) {Γ : FuncId → Spec} (hΓ : ∀ f, SpecOK P f (Γ f)) {f : FuncId} {fn : Func} {c : Code} {flip : Nat → Nat → Bool} {ks : Nat → List Nat} {cc : CC} {rs : List RV} (hf : P.funcs[f]? = some fn) (hname : (fn.name == "runtime.NumGoroutine") = false)
    (hb : fn.body = some c) (hc : compC P fn.ntmps flip ks c = some cc) (hr : compRVs P fn.results.toList = some rs) {S : Spec}
    (hS : ∀ args H n κ, (∀ m, n ≤ m → H m = none) → S args H n κ → args.length ≤ fn.ntmps ∧ WPC Γ cc (retQ rs H n κ) (argE args) H n) : SpecOK P f S := by
  intro args H n κ hs ρ w vs hv hsat hfr
  rw [run_callFunc hf hname (by rw [hb]; rfl)]
  show Calls P f vs w fun e w' => ∃ v, e = .returned v ∧ Res ρ H w n κ v w'
  obtain ⟨hlen, hwp⟩ := hS args H n κ (fun m hm => hsat.dead (hfr m hm)) hs
  have hvl : args.length = vs.size := by simpa using hv.length
  refine calls_of_wp hf hb (wp_mono (compC_ok (N := fn.ntmps) (ρ0 := ρ) (H0 := H) (w0 := w) (n0 := n) hm hΓ c cc hc (retQ rs H n κ) _ w ⟨ρ, _, H, n, hwp, ⟨fun x => ?_, by simp; omega, rfl, .refl hsat hfr⟩⟩) ?_)
  · rw [argE_eq]
    by_cases hx : x < args.length
    · obtain ⟨u, hu1, hu2⟩ := hv.get (j := x) (y := args[x]) (by simp [hx])
      have hu1' : vs[x]? = some u := by simpa using hu1
      simp only [List.getD_eq_getElem?_getD, List.getElem?_eq_getElem hx, Option.getD_some, Array.getD_eq_getD_getElem?]
      rw [Array.getElem?_append_left (by omega), hu1']
      exact hu2
    · simp only [List.getD_eq_getElem?_getD]
      rw [List.getElem?_eq_none (by omega)]
      simp [VRel]
  · have key : ∀ (a : Act) (w' : World), Lift fn.ntmps ρ H w n (fun e H' n' => rvals rs e H' fun vs => Fin H n κ (oneOrTup vs) H' n') a w' →
        a.defers = [] ∧ ∃ v, (results fn a.tmps).run P w' = .ok v w' ∧ ∃ v', Ending.returned v = .returned v' ∧ Res ρ H w n κ v' w' := by
      intro a w' hl
      obtain ⟨ρ', e, H', n', hk, hst⟩ := hl
      obtain ⟨vs, hrun, as, hfin, hvs⟩ := rvals_ok hst fn.results.toList rs hr _ hk
      refine ⟨hst.defers, ?_⟩
      have hrun2 : (results fn a.tmps).run P w' = .ok (if h : vs.toArray.size = 1 then vs.toArray[0] else .tuple vs.toArray) w' := by
        unfold results
        rw [Array.mapM_eq_mapM_toList]
        simp only [Sem.run_bind, Sem.run_map]
        rw [hrun]
        · rfl
        · exact ⟨fun _ => rfl, fun _ _ => rfl⟩
      refine ⟨_, hrun2, _, rfl, hfin.res hsat hfr hst.after ?_⟩
      have hl := hvs.length
      match as, vs, hvs, hl with
      | [x], [y], hvs, _ => simpa [oneOrTup] using (rels1 hvs).elim fun z hz => by obtain ⟨h1, h2⟩ := hz; simp only [List.cons.injEq, and_true] at h1; subst h1; exact h2
      | [], [], hvs, _ => simp [oneOrTup, VRel, VRels]
      | x1 :: x2 :: xs, y1 :: y2 :: ys, hvs, _ =>
        simp only [oneOrTup, VRel]
        exact ⟨(y1 :: y2 :: ys).toArray, by simp, by simpa using hvs⟩
    intro x a w' hq
    cases x with
    | normal => exact key a w' hq
    | ret => exact key a w' hq
    | exit id => obtain ⟨_, _, _, _, hk, _⟩ := hq; exact hk.elim
    | goto l => exact hq.elim
    | panic c => exact hq.elim
    | outgrown => exact hq.elim

end Go.AM
