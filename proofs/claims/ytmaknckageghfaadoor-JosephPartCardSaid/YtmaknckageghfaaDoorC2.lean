/- The law JosephPart: for all whole numbers it answers true (row and card). -/
import Derived.Test.YtmaknckageghfaaDoorC1
import Derived.Test.YtmaknckageghfaaDoorA9
set_option linter.unusedSimpArgs false
set_option linter.unusedVariables false
set_option maxRecDepth 100000
namespace Go.Proofs.YtmaknckageghfaaDoor
open Go Go.Ev Go.ChangeShapes Go.WideShapes Go.RowKit

theorem josephPart_lifted (os : Os) (started : os.Started) (H : Type) (enc : TypeId × Value → H) :
    ReturnsInHanded {} Tryd.checked os 6 .any (fun w args => (Rows.josephPartSpec.pre enc Tryd.prog Tryd.f6 Rows.josephPartRow.domain Rows.josephPartRow.apart w args ∧ laidMetH Tryd.prog Rows.josephPartRow.laid w) ∧ sizedMet enc Tryd.prog Tryd.f6 (OpenSpec.ofChange Rows.josephPartSpec) Rows.josephPartRow.apart w args)
      (Rows.josephPartSpec.post enc Tryd.prog Tryd.f6 Rows.josephPartRow.apart Rows.josephPartRow.fresh Rows.josephPartRow.handsOn Rows.josephPartRow.again) := by
  refine returnsInHanded_of_change_and (C := Tryd.checked) (X := fun w _ => laidMetH Tryd.prog Rows.josephPartRow.laid w) (fun _ _ _ hh h => h.of_heap hh) own started (by kernel_rfl) Tryd.func6
    (ChangeSpec.witness_at (enc := enc) (C := Tryd.checked) (os := os) (X := fun w _ => laidMetH Tryd.prog Rows.josephPartRow.laid w) false (laidWorld os) #[.int .i64 0, .int .i64 0, .int .i64 0] 8 rfl (by kernel_rfl) (by kernel_rfl) (by kernel_rfl) (by kernel_rfl) (by kernel_rfl) (laidWorld_met os _)) ?_
  intro W base args ds gs before hval0 hW _ _ hL _
  have hval : ∀ (j : Nat) t v, Tryd.f6.params[j]? = some t → args[j]? = some v → Value.okWide Tryd.prog W .any base t v := hval0
  have hW' := hW
  obtain ⟨p, q, hA0, hV0, rfl, hfz, hnd⟩ := hW
  have hA : DataW.TrodAll enc Tryd.prog W 0 (fun _ => true) true Tryd.f6.params.toList args.toList ds p := hA0
  have hV : DataW.TrodVars enc Tryd.prog W (fun _ => true) [] gs q := hV0
  rw [Tryd.params6] at hA hval
  obtain ⟨v0, v1, v2, d0, d1, d2, p0, p1, p2, rfl, rfl, rfl, h0, h1, h2⟩ := trodAll_three hA
  obtain ⟨o0, rfl, s0⟩ := valOk_of k2 (hval 0 _ v0 rfl rfl) h0
  obtain ⟨o1, rfl, s1⟩ := valOk_of k2 (hval 1 _ v1 rfl rfl) h1
  obtain ⟨o2, rfl, s2⟩ := valOk_of k2 (hval 2 _ v2 rfl rfl) h2
  obtain ⟨x, rfl, hx⟩ := valInt o0 (by kernel_rfl)
  obtain ⟨y, rfl, hy⟩ := valInt o1 (by kernel_rfl)
  obtain ⟨z, rfl, hz⟩ := valInt o2 (by kernel_rfl)
  obtain ⟨rfl, rfl⟩ := trodVars_none hV
  have hL' : laidMet Tryd.prog Rows.josephPartRow.laid W := by
    have := hL
    rw [MakeChecks.laidMetH_plain _ _ _ (by kernel_rfl)] at this
    exact this
  obtain ⟨hG, him⟩ := gokD hL' (by simp [Rows.josephPartRow]) (by simp [Rows.josephPartRow])
  refine ((V_JosephPart x y z).law (vs := [.int .i64 x, .int .i64 y, .int .i64 z]) (by kernel_rfl) hG him (by simp [VRs, VR])).mono fun e W' ⟨he, hw⟩ => ?_
  subst he
  refine ⟨_, rfl, _, _, _, [], [], [], hW', ?_, ?_, ?_, hw.but _, fun h => by cases h⟩
  · exact trodAll_mk1 (shut_bool Tryd.underlying4 true)
  · exact trodAll_mk3 (s0 _ _) (s1 _ _) (s2 _ _)
  · rfl

theorem josephPart_holds : Rows.JosephPartSaid :=
  OpenClaim.holds_of_wide 6 Tryd.f6 rfl rfl rfl rfl rfl rfl rfl ⟨rfl, rfl, rfl, rfl, rfl⟩ rfl rfl rfl rfl rfl (by kernel_rfl) Tryd.func6 (by kernel_rfl)
    (of_decide_eq_true (by kernel_rfl)) (by unfold Func.isWrapper; rw [if_neg (of_decide_eq_false (by kernel_rfl))]; exact ⟨rfl, rfl⟩)
    (fun os started H enc _ => josephPart_lifted os started H enc)
theorem josephPart_card : Rows.JosephPartCardSaid :=
  Claim7.holds_tied_plain_at .later [] [.data, .data] true Rows.josephPartCard.stood.harness true
    josephPart_holds (fun _ h => by cases h) (by kernel_rfl) (fun _ h => by cases h) josephPart_row_tie rfl ⟨rfl, rfl⟩ (by kernel_rfl) rfl
    (fun f fn hf hfn => by
      obtain rfl : f = 6 := Option.some.inj ((show Tryd.prog.funcNamed "aneroid/aneroidlaw12.JosephPart" = some 6 by kernel_rfl).symm.trans hf) |>.symm
      obtain rfl : fn = Tryd.f6 := (Option.some.inj (Tryd.func6.symm.trans hfn)).symm
      exact ⟨by kernel_rfl, fun j t ht => by
        rw [Tryd.params6] at ht
        have h3 : t = 2 := by
          rcases j with _ | _ | _ | j
          · simpa using ht.symm
          · simpa using ht.symm
          · simpa using ht.symm
          · simp at ht
        subst h3
        exact (show Tryd.prog.wantsStandIn 2 = false by kernel_rfl)⟩)
    (by kernel_rfl)
#print axioms josephPart_card
end Go.Proofs.YtmaknckageghfaaDoor
