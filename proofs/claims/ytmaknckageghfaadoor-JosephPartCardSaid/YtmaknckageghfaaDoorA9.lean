/- The law JosephNothing: its row and its card. -/
import Derived.Test.YtmaknckageghfaaDoorA8
import Derived.Test.YtmaknckageghfaaDoorEvR
import Derived.Test.YtmaknckageghfaaDoorRows
import Derived.Test.YtmaknckageghfaaDoorTie
import Derived.Test.YtmaknckageghfaaDoorCards
import Derived.JoinedOf
import Derived.LaidLaws
import Derived.LaidHandle
import Derived.SevenTiedAt
set_option linter.unusedSimpArgs false
set_option linter.unusedVariables false
set_option maxRecDepth 100000
namespace Go.Proofs.YtmaknckageghfaaDoor
open Go.Ev Go.ChangeShapes Go.WideShapes Go.RowKit

theorem own : ownKnob Tryd.prog.godebug = none := by kernel_rfl
theorem k25 : kindsT Tryd.prog 4 25 = some [.int .i64, .int .i64, .int .i64] := by kernel_rfl
theorem k23 : kindsT Tryd.prog 4 23 = some [.int .i64, .int .i64, .int .i64, .int .i64, .int .i64, .int .i64] := by kernel_rfl
theorem k2 : kindsT Tryd.prog 4 2 = some [.int .i64] := by kernel_rfl
theorem kNone : kindsT Tryd.prog 4 33 = some [.int .i64, .int .u64] := by kernel_rfl
theorem kPlaces : kindsT Tryd.prog 4 164 = some [.int .i64, .int .i64, .int .i64, .int .i64, .int .i64, .int .i64, .int .i64, .int .i64, .int .i64] := by kernel_rfl

def imD (r : Nat) : Prop := r = 0 ∨ r = 2
theorem gokD {W : World} {l : List (String × DataW Unit)} (hL : laidMet Tryd.prog l W) (h1 : ("aneroid/wide.none", Rows.laid_aneroid_wide_none) ∈ l) (h2 : ("aneroid/sym.places", Rows.laid_aneroid_sym_places) ∈ l) :
    GOK GD W imD ∧ ∀ r, imD r → r < W.heap.size := by
  have r1 := laid_row (g := 0) (t := 33) hL h1 (by kernel_rfl) (by kernel_rfl) kNone
  have r2 := laid_row (g := 2) (t := 164) hL h2 (by kernel_rfl) (by kernel_rfl) kPlaces
  refine ⟨fun g cs hg => ?_, fun r hr => ?_⟩
  · unfold GD at hg
    split at hg
    · rename_i e
      subst e
      cases hg
      exact ⟨.inl rfl, [.int .i64 0, .int .u64 0], by simp [VRs, VR], r1⟩
    · split at hg
      · rename_i e
        subst e
        cases hg
        exact ⟨.inr rfl, [.int .i64 0, .int .i64 1, .int .i64 2, .int .i64 1, .int .i64 3, .int .i64 4, .int .i64 2, .int .i64 4, .int .i64 5], by simp [VRs, VR], r2⟩
      · cases hg
  · rcases hr with rfl | rfl
    · exact r1.lt
    · exact r2.lt

/-- The settled world, the listed variables as their initialisers lay them. -/
noncomputable def laidWorld (os : Os) : World :=
  { World.holding Tryd.prog os ⟨#[], #[], []⟩ with heap := (World.holding Tryd.prog os ⟨#[], #[], []⟩).heap.modify 2 fun
      | .cells _ t frozen => .cells #[.int .i64 0, .int .i64 1, .int .i64 2, .int .i64 1, .int .i64 3, .int .i64 4, .int .i64 2, .int .i64 4, .int .i64 5] t frozen
      | o => o }
theorem laidWorld_met (os : Os) (args : Array Value) : laidMetH Tryd.prog Rows.josephNothingRow.laid ((laidWorld os).forCall (fun _ _ => 0) ⟨#[], args, []⟩).memory :=
  laidMetH_of_parts (laidMet_of_run' 8 (by kernel_rfl) (by kernel_rfl)) (by kernel_rfl)

theorem josephNothing_lifted (os : Os) (started : os.Started) (H : Type) (enc : TypeId × Value → H) :
    ReturnsInHanded {} Tryd.checked os 7 .any (fun w args => (Rows.josephNothingSpec.pre enc Tryd.prog Tryd.f7 Rows.josephNothingRow.domain Rows.josephNothingRow.apart w args ∧ laidMetH Tryd.prog Rows.josephNothingRow.laid w) ∧ sizedMet enc Tryd.prog Tryd.f7 (OpenSpec.ofChange Rows.josephNothingSpec) Rows.josephNothingRow.apart w args)
      (Rows.josephNothingSpec.post enc Tryd.prog Tryd.f7 Rows.josephNothingRow.apart Rows.josephNothingRow.fresh Rows.josephNothingRow.handsOn Rows.josephNothingRow.again) := by
  refine returnsInHanded_of_change_and (C := Tryd.checked) (X := fun w _ => laidMetH Tryd.prog Rows.josephNothingRow.laid w) (fun _ _ _ hh h => h.of_heap hh) own started (by kernel_rfl) Tryd.func7
    (ChangeSpec.witness_at (enc := enc) (C := Tryd.checked) (os := os) (X := fun w _ => laidMetH Tryd.prog Rows.josephNothingRow.laid w) false (laidWorld os) #[.agg #[.int .i64 0, .int .i64 0, .int .i64 0], .agg #[.int .i64 0, .int .i64 0, .int .i64 0], .agg #[.int .i64 0, .int .i64 0, .int .i64 0, .int .i64 0, .int .i64 0, .int .i64 0]] 8 rfl (by kernel_rfl) (by kernel_rfl) (by kernel_rfl) (by kernel_rfl) (by kernel_rfl) (laidWorld_met os _)) ?_
  intro W base args ds gs before hval0 hW _ _ hL _
  have hval : ∀ (j : Nat) t v, Tryd.f7.params[j]? = some t → args[j]? = some v → Value.okWide Tryd.prog W .any base t v := hval0
  have hW' := hW
  obtain ⟨p, q, hA0, hV0, rfl, hfz, hnd⟩ := hW
  have hA : DataW.TrodAll enc Tryd.prog W 0 (fun _ => true) true Tryd.f7.params.toList args.toList ds p := hA0
  have hV : DataW.TrodVars enc Tryd.prog W (fun _ => true) [] gs q := hV0
  rw [Tryd.params7] at hA hval
  obtain ⟨v0, v1, v2, d0, d1, d2, p0, p1, p2, rfl, rfl, rfl, h0, h1, h2⟩ := trodAll_three hA
  obtain ⟨o0, rfl, s0⟩ := valOk_of k25 (hval 0 _ v0 rfl rfl) h0
  obtain ⟨o1, rfl, s1⟩ := valOk_of k25 (hval 1 _ v1 rfl rfl) h1
  obtain ⟨o2, rfl, s2⟩ := valOk_of k23 (hval 2 _ v2 rfl rfl) h2
  obtain ⟨x, rfl, hx⟩ := valV3 o0 (by kernel_rfl)
  obtain ⟨k, rfl, hk⟩ := valV3 o1 (by kernel_rfl)
  obtain ⟨p, rfl, hp⟩ := valS6 o2 (by kernel_rfl)
  obtain ⟨rfl, rfl⟩ := trodVars_none hV
  have hL' : laidMet Tryd.prog Rows.josephNothingRow.laid W := by
    have := hL
    rw [MakeChecks.laidMetH_plain _ _ _ (by kernel_rfl)] at this
    exact this
  obtain ⟨hG, him⟩ := gokD hL' (by simp [Rows.josephNothingRow]) (by simp [Rows.josephNothingRow])
  refine ((V_JosephNothing x k p hx hk).law (vs := [.agg #[.int .i64 x.x, .int .i64 x.y, .int .i64 x.z], .agg #[.int .i64 k.x, .int .i64 k.y, .int .i64 k.z], .agg #[.int .i64 p.a, .int .i64 p.b, .int .i64 p.c, .int .i64 p.d, .int .i64 p.e, .int .i64 p.f]]) (by kernel_rfl) hG him (by simp only [VRs]; exact ⟨VR_V3 x, VR_V3 k, VR_S6 p, trivial⟩)).mono fun e W' ⟨he, hw⟩ => ?_
  subst he
  refine ⟨_, rfl, _, _, _, [], [], [], hW', ?_, ?_, ?_, hw.but _, fun h => by cases h⟩
  · exact trodAll_mk1 (shut_bool Tryd.underlying4 true)
  · exact trodAll_mk3 (s0 _ _) (s1 _ _) (s2 _ _)
  · rfl

theorem josephNothing_holds : Rows.JosephNothingSaid :=
  OpenClaim.holds_of_wide 7 Tryd.f7 rfl rfl rfl rfl rfl rfl rfl ⟨rfl, rfl, rfl, rfl, rfl⟩ rfl rfl rfl rfl rfl (by kernel_rfl) Tryd.func7 (by kernel_rfl)
    (of_decide_eq_true (by kernel_rfl)) (by unfold Func.isWrapper; rw [if_neg (of_decide_eq_false (by kernel_rfl))]; exact ⟨rfl, rfl⟩)
    (fun os started H enc _ => josephNothing_lifted os started H enc)
#print axioms josephNothing_holds
end Go.Proofs.YtmaknckageghfaaDoor
