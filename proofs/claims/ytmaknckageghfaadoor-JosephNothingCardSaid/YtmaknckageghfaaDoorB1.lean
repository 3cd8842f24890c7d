/- The card of JosephNothing. -/
import Derived.Test.YtmaknckageghfaaDoorA9
set_option linter.unusedVariables false
set_option linter.unusedSimpArgs false
set_option maxRecDepth 100000
namespace Go.Proofs.YtmaknckageghfaaDoor
open Go

theorem josephNothing_card : Rows.JosephNothingCardSaid :=
  Claim7.holds_tied_plain_at .later [] [.data, .data] true Rows.josephNothingCard.stood.harness true
    josephNothing_holds (fun _ h => by cases h) (by kernel_rfl) (fun _ h => by cases h) josephNothing_row_tie rfl ⟨rfl, rfl⟩ (by kernel_rfl) rfl
    (fun f fn hf hfn => by
      obtain rfl : f = 7 := Option.some.inj ((show Tryd.prog.funcNamed "aneroid/aneroidlaw12.JosephNothing" = some 7 by kernel_rfl).symm.trans hf) |>.symm
      obtain rfl : fn = Tryd.f7 := (Option.some.inj (Tryd.func7.symm.trans hfn)).symm
      exact ⟨by kernel_rfl, fun j t ht => by
        rw [Tryd.params7] at ht
        have h3 : t = 25 ∨ t = 23 := by
          rcases j with _ | _ | _ | j
          · exact .inl (by simpa using ht.symm)
          · exact .inl (by simpa using ht.symm)
          · exact .inr (by simpa using ht.symm)
          · simp at ht
        rcases h3 with rfl | rfl
        · exact (show Tryd.prog.wantsStandIn 25 = false by kernel_rfl)
        · exact (show Tryd.prog.wantsStandIn 23 = false by kernel_rfl)⟩)
    (by kernel_rfl)
#print axioms josephNothing_card
end Go.Proofs.YtmaknckageghfaaDoor
