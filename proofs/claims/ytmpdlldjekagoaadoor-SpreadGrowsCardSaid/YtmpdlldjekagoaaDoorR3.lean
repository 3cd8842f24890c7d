/- The law SpreadGrows: for all inputs it answers true (row and card). -/
import Derived.Test.YtmpdlldjekagoaaDoorD4
import Derived.Test.YtmpdlldjekagoaaDoorR0
set_option linter.unusedSimpArgs false
set_option linter.unusedVariables false
set_option maxRecDepth 100000
namespace Go.Proofs.YtmpdlldjekagoaaDoor
open Go Go.Ev Go.ChangeShapes Go.WideShapes Go.RowKit

theorem spreadGrows_laid (os : Os) (args : Array Value) : laidMetH Tryd.prog Rows.spreadGrowsRow.laid ((laidWorld os).forCall (fun _ _ => 0) ⟨#[], args, []⟩).memory :=
  laidMetH_of_parts (laidMet_of_run' 8 (by kernel_rfl) (by kernel_rfl)) (by kernel_rfl)

theorem spreadGrows_lifted (os : Os) (started : os.Started) (H : Type) (enc : TypeId × Value → H) :
    ReturnsInHanded {} Tryd.checked os 5 .any (fun w args => (Rows.spreadGrowsSpec.pre enc Tryd.prog Tryd.f5 Rows.spreadGrowsRow.domain Rows.spreadGrowsRow.apart w args ∧ laidMetH Tryd.prog Rows.spreadGrowsRow.laid w) ∧ sizedMet enc Tryd.prog Tryd.f5 (OpenSpec.ofChange Rows.spreadGrowsSpec) Rows.spreadGrowsRow.apart w args)
      (Rows.spreadGrowsSpec.post enc Tryd.prog Tryd.f5 Rows.spreadGrowsRow.apart Rows.spreadGrowsRow.fresh Rows.spreadGrowsRow.handsOn Rows.spreadGrowsRow.again) := by
  refine returnsInHanded_of_change_and (C := Tryd.checked) (X := fun w _ => laidMetH Tryd.prog Rows.spreadGrowsRow.laid w) (fun _ _ _ hh h => h.of_heap hh) own started (by kernel_rfl) Tryd.func5
    (ChangeSpec.witness_at (enc := enc) (C := Tryd.checked) (os := os) (X := fun w _ => laidMetH Tryd.prog Rows.spreadGrowsRow.laid w) false (laidWorld os) #[.agg #[.int .i64 0, .int .i64 0, .int .i64 0], .agg #[.int .i64 0, .int .i64 0, .int .i64 0]] 8 rfl (by kernel_rfl) (by kernel_rfl) (by kernel_rfl) (by kernel_rfl) (by kernel_rfl) (spreadGrows_laid os _)) ?_
  intro W base args ds gs before hval0 hW _ _ hL _
  have hval : ∀ (j : Nat) t v, Tryd.f5.params[j]? = some t → args[j]? = some v → Value.okWide Tryd.prog W .any base t v := hval0
  have hW' := hW
  obtain ⟨p, q, hA0, hV0, rfl, hfz, hnd⟩ := hW
  have hA : DataW.TrodAll enc Tryd.prog W 0 (fun _ => true) true Tryd.f5.params.toList args.toList ds p := hA0
  have hV : DataW.TrodVars enc Tryd.prog W (fun _ => true) [] gs q := hV0
  rw [Tryd.params5] at hA hval
  obtain ⟨v0, v1, d0, d1, p0, p1, rfl, rfl, rfl, h0, h1⟩ := trodAll_two hA
  obtain ⟨o0, rfl, s0⟩ := valOk_of kV (hval 0 _ v0 rfl rfl) h0
  obtain ⟨x0, rfl, w0⟩ := valV3 o0 (by kernel_rfl)
  obtain ⟨o1, rfl, s1⟩ := valOk_of kV (hval 1 _ v1 rfl rfl) h1
  obtain ⟨x1, rfl, w1⟩ := valV3 o1 (by kernel_rfl)
  obtain ⟨rfl, rfl⟩ := trodVars_none hV
  have hL' : laidMet Tryd.prog Rows.spreadGrowsRow.laid W := by
    have := hL
    rw [MakeChecks.laidMetH_plain _ _ _ (by kernel_rfl)] at this
    exact this
  obtain ⟨hG, him⟩ := gokD hL' (by simp [Rows.spreadGrowsRow]) (by simp [Rows.spreadGrowsRow]) (by simp [Rows.spreadGrowsRow])
  refine ((V_SpreadGrows x0 x1 ).law (vs := [.agg #[.int .i64 x0.x, .int .i64 x0.y, .int .i64 x0.z], .agg #[.int .i64 x1.x, .int .i64 x1.y, .int .i64 x1.z]]) (by kernel_rfl) hG him (by simp only [VRs]; exact ⟨VR_V3 x0, VR_V3 x1, trivial⟩)).mono fun e W' ⟨he, hw⟩ => ?_
  subst he
  refine ⟨_, rfl, _, _, _, [], [], [], hW', ?_, ?_, ?_, hw.but _, fun h => by cases h⟩
  · exact trodAll_mk1 (shut_bool Tryd.underlying4 true)
  · exact trodAll_mk2 (s0 _ _) (s1 _ _)
  · rfl

theorem spreadGrows_holds : Rows.SpreadGrowsSaid :=
  OpenClaim.holds_of_wide 5 Tryd.f5 rfl rfl rfl rfl rfl rfl rfl ⟨rfl, rfl, rfl, rfl, rfl⟩ rfl rfl rfl rfl rfl (by kernel_rfl) Tryd.func5 (by kernel_rfl)
    (of_decide_eq_true (by kernel_rfl)) (by unfold Func.isWrapper; rw [if_neg (of_decide_eq_false (by kernel_rfl))]; exact ⟨rfl, rfl⟩)
    (fun os started H enc _ => spreadGrows_lifted os started H enc)

theorem spreadGrows_card : Rows.SpreadGrowsCardSaid :=
  Claim7.holds_tied_plain_at .later [] [.data, .data, .data] true Rows.spreadGrowsCard.stood.harness true
    spreadGrows_holds (fun _ h => by cases h) (by kernel_rfl) (fun _ h => by cases h) spreadGrows_row_tie rfl ⟨rfl, rfl⟩ (by kernel_rfl) rfl
    (fun f fn hf hfn => by
      obtain rfl : f = 5 := Option.some.inj ((show Tryd.prog.funcNamed "aneroid/aneroidlaw08.SpreadGrows" = some 5 by kernel_rfl).symm.trans hf) |>.symm
      obtain rfl : fn = Tryd.f5 := (Option.some.inj (Tryd.func5.symm.trans hfn)).symm
      exact ⟨by kernel_rfl, fun j t ht => by
        rw [Tryd.params5] at ht
        have h3 : t = 25 := by
          rcases j with _ | _ | j
          · exact (by simpa using ht.symm)
          · exact (by simpa using ht.symm)
          · simp at ht
        rcases h3 with rfl
        · exact (show Tryd.prog.wantsStandIn 25 = false by kernel_rfl)
      ⟩)
    (by kernel_rfl)
#print axioms spreadGrows_card
end Go.Proofs.YtmpdlldjekagoaaDoor
