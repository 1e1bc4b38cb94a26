/- KeysChars: the row and its card. What is typed is sent as it is, but for controls: for every text and every board the law answers true. -/
import Derived.Test.YtndiinjjbhmckaaDoorKb
import Derived.Test.YtndiinjjbhmckaaDoorTie
import Derived.Test.YtndiinjjbhmckaaDoorCards
import Derived.ProofKit
import Derived.Carry
import Derived.Lay
import Derived.LaidOnce
import Derived.SevenTiedAt
import Derived.Lib.SmallJoins
set_option linter.all false
set_option linter.unusedVariables false
set_option linter.unusedSimpArgs false
namespace Go.Proofs.YtndiinjjbhmckaaDoor
open Go Go.RowKit Go.ChangeShapes Go.WideShapes Go.ChangeAt Go.Joins
set_option maxRecDepth 100000

theorem keysChars_call {tv : AM.AVal} {l : List UInt8} {ρ : AM.Rho} {H : AM.Heap} {u : Value} (m lev : Int) (ei : Bool) (s : ByteArray) (w : World) (hm0 : 0 ≤ m) (hm1 : m < 4294967296)
    (hb : AM.BytesAt H tv l) (hs : AM.Sat ρ H w) (hf : AM.Fresh ρ 1) (hro : ∀ b o, H b = some o → o.ro = true) (hv : AM.VRel ρ tv u) :
    Calls Tryd.prog 4 #[u, .agg #[.int .u32 m, .int .i64 lev, .bool ei, .string s]] w fun e w' => e = .returned (.bool true) ∧ Below w.heap.size w w' := by
  refine (AM.SpecOK.calls (fn := Tryd.f4) (by kernel_rfl) (by kernel_rfl) (by kernel_rfl) AM.K.ok4 (R := fun u => u = .bool true)
    (args := [tv, .agg [.i .u32 m, .i .i64 lev, .b ei, .s s.data.toList]]) (H := H) (n := 1) (ρ := ρ) ?_ ?_ hs hf hro).mono ?_
  · exact ⟨l, hb, hm0, hm1, fun ρ' u hu => hu⟩
  · exact AM.VRels.cons' hv (AM.VRels.cons' (by simp only [AM.VRel]; exact ⟨_, rfl, by simp [AM.VRels, AM.VRel]⟩) (by simp [AM.VRels]))
  · rintro e w' ⟨⟨v, rfl, rfl⟩, hb⟩
    exact ⟨rfl, hb⟩
theorem keysChars_walk {r : Reach} {base : Nat} {H : Type} {enc : TypeId × Value → H} {held : Bool} (m lev : Int) (ei : Bool) (s : ByteArray) (w : World) (hm0 : 0 ≤ m) (hm1 : m < 4294967296) {u : Value} {d : DataW H} {p : List MemPlace}
    (hval : Value.okWide Tryd.prog w r base 35 u) (h : DataW.Trod enc Tryd.prog w 0 (fun _ => true) held 35 u d p) :
    Calls Tryd.prog 4 #[u, .agg #[.int .u32 m, .int .i64 lev, .bool ei, .string s]] w fun e w' => e = .returned (.bool true) ∧ Below w.heap.size w w' := by
  obtain ⟨a0, len0, cap0, rfl⟩ := okWide_slice Tryd.underlying35 hval
  obtain ⟨fuel, hf⟩ := h
  rcases open_ints Tryd.underlying35 Tryd.underlying5 (by kernel_rfl) hf with ⟨hcs, _⟩ | ⟨a, len, cap, zs, hcs, _, hl, _, hz, _, hcell, hwf⟩
  · simp only [Value.cells, List.cons.injEq, and_true] at hcs
    rw [hcs]
    exact keysChars_call (tv := .c (.slice none 0 0)) (l := []) m lev ei s w hm0 hm1 (AM.SlAt.nil _ _) (AM.Sat.none w) (AM.Fresh.none 1) (fun b o e => by cases e) rfl
  · simp only [Value.cells, List.cons.injEq, and_true] at hcs
    rw [hcs] at hval ⊢
    simp only [if_true] at hz
    have hh : a.spot = none ∧ ∃ row c, w.shape? a.block = some (row, c) := by
      simp only [Value.okWide, Tryd.underlying35, Cell.okWide, Cell.ok] at hval
      obtain ⟨_, _, _, h1, row, c, h2, _⟩ := hval
      exact ⟨h1, row, c, h2⟩
    obtain ⟨ρ, Hp, h1, h2, h3, h4, h5, h6⟩ := AM.in_nums hh.1 hh.2 hl hz hcell
    have hby : (zs.map (AM.AVal.i .u8)).take len = AM.bytesA ((zs.take len).map fun z => UInt8.ofNat z.toNat) := by
      rw [← List.map_take, AM.bytesA, List.map_map]
      refine List.map_congr_left (fun z hz' => ?_)
      have := hwf z (List.mem_of_mem_take hz')
      have hr : 0 ≤ z ∧ z ≤ 255 := by simpa [Lit.wf, IntKind.min, IntKind.max, IntKind.signed, IntKind.bits] using this
      simp
      omega
    rw [hby] at h1
    exact keysChars_call m lev ei s w hm0 hm1 h1 h2 h3 h4 h5

theorem own : ownKnob Tryd.prog.godebug = none := by kernel_rfl
theorem laidOut : laidOutB Tryd.prog = true := by kernel_rfl
theorem keysChars_lifted (os : Os) (started : os.Started) (H : Type) (enc : TypeId × Value → H) :
    ReturnsInHanded {} Tryd.checked os 4 .any (fun w args => (Rows.keysCharsSpec.pre enc Tryd.prog Tryd.f4 [] false w args ∧ laidMetH Tryd.prog Rows.keysCharsRow.laid w) ∧ sizedMet enc Tryd.prog Tryd.f4 (OpenSpec.ofChange Rows.keysCharsSpec) false w args)
      (Rows.keysCharsSpec.post enc Tryd.prog Tryd.f4 false true false false) := by
  refine returnsInHanded_of_change_and (C := Tryd.checked) (X := fun w _ => laidMetH Tryd.prog Rows.keysCharsRow.laid w) (fun _ _ _ hh h => h.of_heap hh) own started (by kernel_rfl) Tryd.func4
    (ChangeSpec.witness_shaped (enc := enc) (C := Tryd.checked) (os := os) (X := fun w _ => laidMetH Tryd.prog Rows.keysCharsRow.laid w) false (World.laidAll Tryd.prog os Rows.keysCharsRow.laid)
      #[.slice none 0 0, .agg #[.int .u32 0, .int .i64 0, .bool false, .string ⟨#[]⟩]] 8 (World.laidAll_os _ _ _)
      (World.shaped_of_ZipB (by kernel_rfl) (by kernel_rfl)) (by kernel_rfl) (by kernel_rfl) (by kernel_rfl)
      (by rw [MakeChecks.laidMetH_plain _ _ _ (by kernel_rfl)]; exact laidMet_laidAll _ (by kernel_rfl) (by kernel_rfl))) ?_
  intro W base args ds gs before hval0 hW _ _ hL _
  have hval : ∀ (j : Nat) t v, Tryd.f4.params[j]? = some t → args[j]? = some v → Value.okWide Tryd.prog W .any base t v := hval0
  have hW' := hW
  obtain ⟨p, q, hA0, hV, rfl, _, _⟩ := hW
  have hA : DataW.TrodAll enc Tryd.prog W 0 (fun _ => true) true Tryd.f4.params.toList args.toList ds p := hA0
  rw [Tryd.params4] at hA hval
  obtain ⟨v0, v1, d0, d1, p0, p1, rfl, rfl, rfl, h0, h1⟩ := trodAll_two hA
  obtain ⟨rfl, rfl⟩ := trodVars_none hV
  have h1k := h1
  obtain ⟨b0, b1, b2, b3, z0, z1, z2, z3, n1, rfl, hd1, hp1, g0, g1, g2, g3⟩ := open_agg4 Tryd.underlying27 (by kernel_rfl) (by kernel_rfl) (hval 1 27 v1 rfl rfl) h1
  obtain ⟨m, hm, rfl, wm⟩ := DataW.trod_int Tryd.underlying25 g0
  obtain ⟨lev, hlev, rfl, _⟩ := DataW.trod_int Tryd.underlying3 g1
  obtain ⟨ei, hei, rfl⟩ := DataW.trod_bool Tryd.underlying4 g2
  obtain ⟨s, hs, rfl, _⟩ := DataW.trod_string Tryd.underlying9 g3
  simp only [List.cons.injEq, and_true] at hm hlev hei hs
  subst hm; subst hlev; subst hei; subst hs
  have hmr : 0 ≤ m ∧ m ≤ 4294967295 := by simpa [Lit.wf, IntKind.min, IntKind.max, IntKind.signed, IntKind.bits] using wm
  simp only [List.append_nil] at hW'
  refine (keysChars_walk m lev ei s W hmr.1 (by omega) (hval 0 35 v0 rfl rfl) h0).mono fun e W' ⟨he, hb⟩ => ?_
  subst he
  have hlt : ∀ y ∈ p0 ++ p1, y.block < W.heap.size := fun y hy => by simpa using hW'.lt y hy
  exact ⟨_, rfl, _, _, _, [], _, [], hW', trodAll_mk1 (shut_bool Tryd.underlying4 _),
    trodAll_mk2 (Below.trod laidOut (by kernel_rfl) (of_decide_eq_true (by kernel_rfl)) h0 hb (fun y hy => hlt y (by simp [hy]))) (Below.trod laidOut (by kernel_rfl) (of_decide_eq_true (by kernel_rfl)) h1k hb (fun y hy => hlt y (by simp [hy]))),
    rfl, hb.frame _, fun h => by cases h⟩
theorem keysChars_holds : Rows.KeysCharsSaid :=
  OpenClaim.holds_of_wide 4 Tryd.f4 rfl rfl rfl rfl rfl rfl rfl ⟨rfl, rfl, rfl, rfl, rfl⟩ rfl rfl rfl rfl rfl (by kernel_rfl) Tryd.func4 (by kernel_rfl)
    (of_decide_eq_true (by kernel_rfl)) (by unfold Func.isWrapper; first | (rw [if_pos (by decide +kernel)]; kernel_rfl) | (rw [if_neg (by decide +kernel)]; exact ⟨rfl, rfl⟩))
    (fun os started H enc _ => keysChars_lifted os started H enc)
theorem keysChars_card : Rows.KeysCharsCardSaid :=
  Claim7.holds_tied_plain_at .later [] [.data, .data, .data, .data, .pinned] true (true, "c577d78db600ecd452620821f4cd68c18933ae3e428b8df3f83038cf18177e7c") false keysChars_holds (fun _ h => by cases h) (by kernel_rfl) (fun _ h => by cases h) keysChars_row_tie rfl ⟨rfl, rfl⟩ (by kernel_rfl) rfl
    (fun f fn hf hfn => by
      obtain rfl : f = 4 := Option.some.inj ((show Tryd.prog.funcNamed "phosphor/phosphorlaw22.KeysChars" = some 4 by kernel_rfl).symm.trans hf) |>.symm
      obtain rfl : fn = Tryd.f4 := (Option.some.inj (Tryd.func4.symm.trans hfn)).symm
      exact ⟨by kernel_rfl, fun j t ht => by
        rw [Tryd.params4] at ht
        have hm : t ∈ [35, 27] := by simpa using Array.mem_of_getElem? ht
        have hall : ([35, 27].all fun u => !Tryd.prog.wantsStandIn u) = true := by kernel_rfl
        exact (show Tryd.prog.wantsStandIn t = false by simpa using List.all_eq_true.1 hall t hm)⟩)
    (by kernel_rfl)
#print axioms keysChars_card
end Go.Proofs.YtndiinjjbhmckaaDoor
