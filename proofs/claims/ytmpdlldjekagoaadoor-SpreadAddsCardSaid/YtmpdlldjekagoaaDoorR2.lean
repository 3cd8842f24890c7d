/- The law SpreadAdds: for all inputs it answers true (row and card). -/
import Derived.Test.YtmpdlldjekagoaaDoorD4
import Derived.Test.YtmpdlldjekagoaaDoorR0
set_option linter.unusedSimpArgs false
set_option linter.unusedVariables false
set_option maxRecDepth 100000
namespace Go.Proofs.YtmpdlldjekagoaaDoor
open Go Go.Ev Go.ChangeShapes Go.WideShapes Go.RowKit

theorem spreadAdds_laid (os : Os) (args : Array Value) : laidMetH Tryd.prog Rows.spreadAddsRow.laid ((laidWorld os).forCall (fun _ _ => 0) ⟨#[], args, []⟩).memory :=
  laidMetH_of_parts (laidMet_of_run' 8 (by kernel_rfl) (by kernel_rfl)) (by kernel_rfl)

theorem spreadAdds_lifted (os : Os) (started : os.Started) (H : Type) (enc : TypeId × Value → H) :
    ReturnsInHanded {} Tryd.checked os 4 .any (fun w args => (Rows.spreadAddsSpec.pre enc Tryd.prog Tryd.f4 Rows.spreadAddsRow.domain Rows.spreadAddsRow.apart w args ∧ laidMetH Tryd.prog Rows.spreadAddsRow.laid w) ∧ sizedMet enc Tryd.prog Tryd.f4 (OpenSpec.ofChange Rows.spreadAddsSpec) Rows.spreadAddsRow.apart w args)
      (Rows.spreadAddsSpec.post enc Tryd.prog Tryd.f4 Rows.spreadAddsRow.apart Rows.spreadAddsRow.fresh Rows.spreadAddsRow.handsOn Rows.spreadAddsRow.again) := by
  refine returnsInHanded_of_change_and (C := Tryd.checked) (X := fun w _ => laidMetH Tryd.prog Rows.spreadAddsRow.laid w) (fun _ _ _ hh h => h.of_heap hh) own started (by kernel_rfl) Tryd.func4
    (ChangeSpec.witness_at (enc := enc) (C := Tryd.checked) (os := os) (X := fun w _ => laidMetH Tryd.prog Rows.spreadAddsRow.laid w) false (laidWorld os) #[.agg #[.int .i64 0, .int .i64 0, .int .i64 0, .int .i64 0, .int .i64 0, .int .i64 0], .agg #[.int .i64 0, .int .i64 0, .int .i64 0], .agg #[.int .i64 0, .int .i64 0, .int .i64 0]] 8 rfl (by kernel_rfl) (by kernel_rfl) (by kernel_rfl) (by kernel_rfl) (by kernel_rfl) (spreadAdds_laid os _)) ?_
  intro W base args ds gs before hval0 hW _ _ hL _
  have hval : ∀ (j : Nat) t v, Tryd.f4.params[j]? = some t → args[j]? = some v → Value.okWide Tryd.prog W .any base t v := hval0
  have hW' := hW
  obtain ⟨p, q, hA0, hV0, rfl, hfz, hnd⟩ := hW
  have hA : DataW.TrodAll enc Tryd.prog W 0 (fun _ => true) true Tryd.f4.params.toList args.toList ds p := hA0
  have hV : DataW.TrodVars enc Tryd.prog W (fun _ => true) [] gs q := hV0
  rw [Tryd.params4] at hA hval
  obtain ⟨v0, v1, v2, d0, d1, d2, p0, p1, p2, rfl, rfl, rfl, h0, h1, h2⟩ := trodAll_three hA
  obtain ⟨o0, rfl, s0⟩ := valOk_of kS (hval 0 _ v0 rfl rfl) h0
  obtain ⟨x0, rfl, w0⟩ := valS6 o0 (by kernel_rfl)
  obtain ⟨o1, rfl, s1⟩ := valOk_of kV (hval 1 _ v1 rfl rfl) h1
  obtain ⟨x1, rfl, w1⟩ := valV3 o1 (by kernel_rfl)
  obtain ⟨o2, rfl, s2⟩ := valOk_of kV (hval 2 _ v2 rfl rfl) h2
  obtain ⟨x2, rfl, w2⟩ := valV3 o2 (by kernel_rfl)
  obtain ⟨rfl, rfl⟩ := trodVars_none hV
  have hL' : laidMet Tryd.prog Rows.spreadAddsRow.laid W := by
    have := hL
    rw [MakeChecks.laidMetH_plain _ _ _ (by kernel_rfl)] at this
    exact this
  obtain ⟨hG, him⟩ := gokD hL' (by simp [Rows.spreadAddsRow]) (by simp [Rows.spreadAddsRow]) (by simp [Rows.spreadAddsRow])
  refine ((V_SpreadAdds x0 x1 x2 w1 w2).law (vs := [.agg #[.int .i64 x0.a, .int .i64 x0.b, .int .i64 x0.c, .int .i64 x0.d, .int .i64 x0.e, .int .i64 x0.f], .agg #[.int .i64 x1.x, .int .i64 x1.y, .int .i64 x1.z], .agg #[.int .i64 x2.x, .int .i64 x2.y, .int .i64 x2.z]]) (by kernel_rfl) hG him (by simp only [VRs]; exact ⟨VR_S6 x0, VR_V3 x1, VR_V3 x2, trivial⟩)).mono fun e W' ⟨he, hw⟩ => ?_
  subst he
  refine ⟨_, rfl, _, _, _, [], [], [], hW', ?_, ?_, ?_, hw.but _, fun h => by cases h⟩
  · exact trodAll_mk1 (shut_bool Tryd.underlying4 true)
  · exact trodAll_mk3 (s0 _ _) (s1 _ _) (s2 _ _)
  · rfl

theorem spreadAdds_holds : Rows.SpreadAddsSaid :=
  OpenClaim.holds_of_wide 4 Tryd.f4 rfl rfl rfl rfl rfl rfl rfl ⟨rfl, rfl, rfl, rfl, rfl⟩ rfl rfl rfl rfl rfl (by kernel_rfl) Tryd.func4 (by kernel_rfl)
    (of_decide_eq_true (by kernel_rfl)) (by unfold Func.isWrapper; rw [if_neg (of_decide_eq_false (by kernel_rfl))]; exact ⟨rfl, rfl⟩)
    (fun os started H enc _ => spreadAdds_lifted os started H enc)

theorem spreadAdds_card : Rows.SpreadAddsCardSaid :=
  Claim7.holds_tied_plain_at .later [] [.data, .data, .data] true Rows.spreadAddsCard.stood.harness true
    spreadAdds_holds (fun _ h => by cases h) (by kernel_rfl) (fun _ h => by cases h) spreadAdds_row_tie rfl ⟨rfl, rfl⟩ (by kernel_rfl) rfl
    (fun f fn hf hfn => by
      obtain rfl : f = 4 := Option.some.inj ((show Tryd.prog.funcNamed "aneroid/aneroidlaw08.SpreadAdds" = some 4 by kernel_rfl).symm.trans hf) |>.symm
      obtain rfl : fn = Tryd.f4 := (Option.some.inj (Tryd.func4.symm.trans hfn)).symm
      exact ⟨by kernel_rfl, fun j t ht => by
        rw [Tryd.params4] at ht
        have h3 : t = 23 ∨ t = 25 := by
          rcases j with _ | _ | _ | j
          · exact .inl (by simpa using ht.symm)
          · exact .inr (by simpa using ht.symm)
          · exact .inr (by simpa using ht.symm)
          · simp at ht
        rcases h3 with rfl | rfl
        · exact (show Tryd.prog.wantsStandIn 23 = false by kernel_rfl)
        · exact (show Tryd.prog.wantsStandIn 25 = false by kernel_rfl)
      ⟩)
    (by kernel_rfl)
#print axioms spreadAdds_card
end Go.Proofs.YtmpdlldjekagoaaDoor
