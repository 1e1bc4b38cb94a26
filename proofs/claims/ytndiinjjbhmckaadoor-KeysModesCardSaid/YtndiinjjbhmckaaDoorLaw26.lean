/- KeysModes: the row and its card. What a key sends hangs on five modes alone: for every key, every board and all other modes the law answers true. -/
import Derived.Test.YtndiinjjbhmckaaDoorKb
import Derived.Test.YtndiinjjbhmckaaDoorTie
import Derived.Test.YtndiinjjbhmckaaDoorCards
import Derived.ProofKit
import Derived.Carry
import Derived.Lay
import Derived.LaidOnce
import Derived.SevenTiedAt
import Derived.Lib.SmallJoins
set_option linter.all false
set_option linter.unusedVariables false
set_option linter.unusedSimpArgs false
namespace Go.Proofs.YtndiinjjbhmckaaDoor
open Go Go.RowKit Go.ChangeShapes Go.WideShapes Go.ChangeAt Go.Joins
set_option maxRecDepth 100000

theorem keysModes_walk (kind c m lev o : Int) (sh ct ei : Bool) (s : ByteArray) (w : World) (hc0 : 0 ≤ c) (hc1 : c < 256) (hm0 : 0 ≤ m) (hm1 : m < 4294967296) (ho0 : 0 ≤ o) (ho1 : o < 4294967296) :
    Calls Tryd.prog 3 #[.agg #[.int .i64 kind, .int .u8 c, .bool sh, .bool ct], .agg #[.int .u32 m, .int .i64 lev, .bool ei, .string s], .int .u32 o] w fun e w' => e = .returned (.bool true) ∧ Below w.heap.size w w' := by
  refine (AM.SpecOK.calls (fn := Tryd.f3) (by kernel_rfl) (by kernel_rfl) (by kernel_rfl) AM.K.ok3 (R := fun u => u = .bool true)
    (args := [.agg [.i .i64 kind, .i .u8 c, .b sh, .b ct], .agg [.i .u32 m, .i .i64 lev, .b ei, .s s.data.toList], .i .u32 o]) (H := fun _ => none) (n := 0) (ρ := fun _ => none) ?_ ?_ (AM.Sat.none w) (AM.Fresh.none 0) (fun a o' h => by cases h)).mono ?_
  · exact ⟨hc0, hc1, hm0, hm1, ho0, ho1, fun ρ' u hu => hu⟩
  · refine AM.VRels.cons' (by simp only [AM.VRel]; exact ⟨_, rfl, by simp [AM.VRels, AM.VRel]⟩) (AM.VRels.cons' (by simp only [AM.VRel]; exact ⟨_, rfl, by simp [AM.VRels, AM.VRel]⟩) (by simp [AM.VRels, AM.VRel]))
  · rintro e w' ⟨⟨v, rfl, rfl⟩, hb⟩
    exact ⟨rfl, hb⟩

theorem own : ownKnob Tryd.prog.godebug = none := by kernel_rfl
theorem laidOut : laidOutB Tryd.prog = true := by kernel_rfl
theorem keysModes_lifted (os : Os) (started : os.Started) (H : Type) (enc : TypeId × Value → H) :
    ReturnsInHanded {} Tryd.checked os 3 .any (fun w args => (Rows.keysModesSpec.pre enc Tryd.prog Tryd.f3 [] false w args ∧ laidMetH Tryd.prog Rows.keysModesRow.laid w) ∧ sizedMet enc Tryd.prog Tryd.f3 (OpenSpec.ofChange Rows.keysModesSpec) false w args)
      (Rows.keysModesSpec.post enc Tryd.prog Tryd.f3 false true false false) := by
  refine returnsInHanded_of_change_and (C := Tryd.checked) (X := fun w _ => laidMetH Tryd.prog Rows.keysModesRow.laid w) (fun _ _ _ hh h => h.of_heap hh) own started (by kernel_rfl) Tryd.func3
    (ChangeSpec.witness_shaped (enc := enc) (C := Tryd.checked) (os := os) (X := fun w _ => laidMetH Tryd.prog Rows.keysModesRow.laid w) false (World.laidAll Tryd.prog os Rows.keysModesRow.laid)
      #[.agg #[.int .i64 0, .int .u8 0, .bool false, .bool false], .agg #[.int .u32 0, .int .i64 0, .bool false, .string ⟨#[]⟩], .int .u32 0] 8 (World.laidAll_os _ _ _)
      (World.shaped_of_ZipB (by kernel_rfl) (by kernel_rfl)) (by kernel_rfl) (by kernel_rfl) (by kernel_rfl)
      (by rw [MakeChecks.laidMetH_plain _ _ _ (by kernel_rfl)]; exact laidMet_laidAll _ (by kernel_rfl) (by kernel_rfl))) ?_
  intro W base args ds gs before hval0 hW _ _ hL _
  have hval : ∀ (j : Nat) t v, Tryd.f3.params[j]? = some t → args[j]? = some v → Value.okWide Tryd.prog W .any base t v := hval0
  have hW' := hW
  obtain ⟨p, q, hA0, hV, rfl, _, _⟩ := hW
  have hA : DataW.TrodAll enc Tryd.prog W 0 (fun _ => true) true Tryd.f3.params.toList args.toList ds p := hA0
  rw [Tryd.params3] at hA hval
  obtain ⟨v0, v1, v2, d0, d1, d2, p0, p1, p2, rfl, rfl, rfl, h0, h1, h2⟩ := trodAll_three hA
  obtain ⟨rfl, rfl⟩ := trodVars_none hV
  have h0k := h0
  have h1k := h1
  obtain ⟨x, rfl, rfl, rfl, wx⟩ := open_int Tryd.underlying25 (hval 2 25 v2 rfl rfl) h2
  obtain ⟨a0, a1, a2, a3, y0, y1, y2, y3, n0, rfl, hd0, hp0, e0, e1, e2, e3⟩ := open_agg4 Tryd.underlying23 (by kernel_rfl) (by kernel_rfl) (hval 0 23 v0 rfl rfl) h0
  obtain ⟨b0, b1, b2, b3, z0, z1, z2, z3, n1, rfl, hd1, hp1, g0, g1, g2, g3⟩ := open_agg4 Tryd.underlying27 (by kernel_rfl) (by kernel_rfl) (hval 1 27 v1 rfl rfl) h1
  obtain ⟨kind, hk, rfl, _⟩ := DataW.trod_int Tryd.underlying3 e0
  obtain ⟨c, hc, rfl, wc⟩ := DataW.trod_int Tryd.underlying5 e1
  obtain ⟨sh, hsh, rfl⟩ := DataW.trod_bool Tryd.underlying4 e2
  obtain ⟨ct, hct, rfl⟩ := DataW.trod_bool Tryd.underlying4 e3
  obtain ⟨m, hm, rfl, wm⟩ := DataW.trod_int Tryd.underlying25 g0
  obtain ⟨lev, hlev, rfl, _⟩ := DataW.trod_int Tryd.underlying3 g1
  obtain ⟨ei, hei, rfl⟩ := DataW.trod_bool Tryd.underlying4 g2
  obtain ⟨s, hs, rfl, _⟩ := DataW.trod_string Tryd.underlying9 g3
  simp only [List.cons.injEq, and_true] at hk hc hsh hct hm hlev hei hs
  subst hk; subst hc; subst hsh; subst hct; subst hm; subst hlev; subst hei; subst hs
  have hcr : 0 ≤ c ∧ c ≤ 255 := by simpa [Lit.wf, IntKind.min, IntKind.max, IntKind.signed, IntKind.bits] using wc
  have hmr : 0 ≤ m ∧ m ≤ 4294967295 := by simpa [Lit.wf, IntKind.min, IntKind.max, IntKind.signed, IntKind.bits] using wm
  have hor : 0 ≤ x ∧ x ≤ 4294967295 := by simpa [Lit.wf, IntKind.min, IntKind.max, IntKind.signed, IntKind.bits] using wx
  simp only [List.append_nil] at hW'
  refine (keysModes_walk kind c m lev x sh ct ei s W hcr.1 (by omega) hmr.1 (by omega) hor.1 (by omega)).mono fun e W' ⟨he, hb⟩ => ?_
  subst he
  have hlt : ∀ y ∈ p0 ++ p1, y.block < W.heap.size := fun y hy => by simpa using hW'.lt y hy
  exact ⟨_, rfl, _, _, _, [], _, [], hW', trodAll_mk1 (shut_bool Tryd.underlying4 _),
    trodAll_mk3 (Below.trod laidOut (by kernel_rfl) (of_decide_eq_true (by kernel_rfl)) h0k hb (fun y hy => hlt y (by simp [hy]))) (Below.trod laidOut (by kernel_rfl) (of_decide_eq_true (by kernel_rfl)) h1k hb (fun y hy => hlt y (by simp [hy]))) (shut_int Tryd.underlying25 wx),
    rfl, hb.frame _, fun h => by cases h⟩

theorem keysModes_holds : Rows.KeysModesSaid :=
  OpenClaim.holds_of_wide 3 Tryd.f3 rfl rfl rfl rfl rfl rfl rfl ⟨rfl, rfl, rfl, rfl, rfl⟩ rfl rfl rfl rfl rfl (by kernel_rfl) Tryd.func3 (by kernel_rfl)
    (of_decide_eq_true (by kernel_rfl)) (by unfold Func.isWrapper; first | (rw [if_pos (by decide +kernel)]; kernel_rfl) | (rw [if_neg (by decide +kernel)]; exact ⟨rfl, rfl⟩))
    (fun os started H enc _ => keysModes_lifted os started H enc)
theorem keysModes_card : Rows.KeysModesCardSaid :=
  Claim7.holds_tied_plain_at .later [] [.data, .data, .data, .data, .pinned] true (true, "c577d78db600ecd452620821f4cd68c18933ae3e428b8df3f83038cf18177e7c") false keysModes_holds (fun _ h => by cases h) (by kernel_rfl) (fun _ h => by cases h) keysModes_row_tie rfl ⟨rfl, rfl⟩ (by kernel_rfl) rfl
    (fun f fn hf hfn => by
      obtain rfl : f = 3 := Option.some.inj ((show Tryd.prog.funcNamed "phosphor/phosphorlaw22.KeysModes" = some 3 by kernel_rfl).symm.trans hf) |>.symm
      obtain rfl : fn = Tryd.f3 := (Option.some.inj (Tryd.func3.symm.trans hfn)).symm
      exact ⟨by kernel_rfl, fun j t ht => by
        rw [Tryd.params3] at ht
        have hm : t ∈ [23, 27, 25] := by simpa using Array.mem_of_getElem? ht
        have hall : ([23, 27, 25].all fun u => !Tryd.prog.wantsStandIn u) = true := by kernel_rfl
        exact (show Tryd.prog.wantsStandIn t = false by simpa using List.all_eq_true.1 hall t hm)⟩)
    (by kernel_rfl)
#print axioms keysModes_card
end Go.Proofs.YtndiinjjbhmckaaDoor
