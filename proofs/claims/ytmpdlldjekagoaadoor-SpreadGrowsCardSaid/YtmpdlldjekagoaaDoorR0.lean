/- What the rows of layer 8 share: types, listed variables, a world to begin with. -/
import Derived.Test.YtmpdlldjekagoaaDoorA1
import Derived.Test.YtmpdlldjekagoaaDoorEvR
import Derived.Test.YtmpdlldjekagoaaDoorRows
import Derived.Test.YtmpdlldjekagoaaDoorTie
import Derived.Test.YtmpdlldjekagoaaDoorCards
import Derived.JoinedOf
import Derived.LaidLaws
import Derived.LaidHandle
import Derived.SevenTiedAt
set_option linter.unusedSimpArgs false
set_option linter.unusedVariables false
set_option maxRecDepth 100000
namespace Go.Proofs.YtmpdlldjekagoaaDoor
open Go Go.Ev Go.ChangeShapes Go.WideShapes Go.RowKit

theorem own : ownKnob Tryd.prog.godebug = none := by kernel_rfl
theorem kV : kindsT Tryd.prog 4 25 = some [.int .i64, .int .i64, .int .i64] := by kernel_rfl
theorem kS : kindsT Tryd.prog 4 23 = some [.int .i64, .int .i64, .int .i64, .int .i64, .int .i64, .int .i64] := by kernel_rfl
theorem kI : kindsT Tryd.prog 4 2 = some [.int .i64] := by kernel_rfl
theorem k_none : kindsT Tryd.prog 4 33 = some [.int .i64, .int .u64] := by kernel_rfl
theorem k_places : kindsT Tryd.prog 4 164 = some [.int .i64, .int .i64, .int .i64, .int .i64, .int .i64, .int .i64, .int .i64, .int .i64, .int .i64] := by kernel_rfl
theorem k_rows : kindsT Tryd.prog 4 137 = some [.int .i64, .int .i64, .int .i64, .int .i64, .int .i64, .int .i64, .int .i64, .int .i64, .int .i64] := by kernel_rfl

def imD (r : Nat) : Prop := r = 0 ∨ r = 2 ∨ r = 1
theorem gokD {W : World} {l : List (String × DataW Unit)} (hL : laidMet Tryd.prog l W) (h0 : ("aneroid/wide.none", Rows.laid_aneroid_wide_none) ∈ l) (h1 : ("aneroid/sym.places", Rows.laid_aneroid_sym_places) ∈ l) (h2 : ("aneroid/spread.rows", Rows.laid_aneroid_spread_rows) ∈ l) :
    GOK GD W imD ∧ ∀ r, imD r → r < W.heap.size := by
  have r0 := laid_row (g := 0) (t := 33) hL h0 (by kernel_rfl) (by kernel_rfl) k_none
  have r1 := laid_row (g := 2) (t := 164) hL h1 (by kernel_rfl) (by kernel_rfl) k_places
  have r2 := laid_row (g := 1) (t := 137) hL h2 (by kernel_rfl) (by kernel_rfl) k_rows
  refine ⟨fun g cs hg => ?_, fun r hr => ?_⟩
  · unfold GD at hg
    split at hg
    · rename_i e
      subst e
      cases hg
      exact ⟨.inl rfl, [.int .i64 0, .int .u64 0], by simp [VRs, VR], r0⟩
    split at hg
    · rename_i e
      subst e
      cases hg
      exact ⟨.inr (.inl rfl), [.int .i64 0, .int .i64 1, .int .i64 2, .int .i64 1, .int .i64 3, .int .i64 4, .int .i64 2, .int .i64 4, .int .i64 5], by simp [VRs, VR], r1⟩
    split at hg
    · rename_i e
      subst e
      cases hg
      exact ⟨.inr (.inr rfl), [.int .i64 32768, .int .i64 256, .int .i64 (-1), .int .i64 0, .int .i64 32768, .int .i64 (-256), .int .i64 0, .int .i64 0, .int .i64 32768], by simp [VRs, VR], r2⟩
    cases hg
  · rcases hr with rfl | rfl | rfl
    · exact r0.lt
    · exact r1.lt
    · exact r2.lt

/-- A settled world, the listed variables as their initialisers lay them. -/
noncomputable def lay (w : World) (g : Nat) (cs : Array Value) : World :=
  { w with heap := w.heap.modify g fun
      | .cells _ t frozen => .cells cs t frozen
      | o => o }
noncomputable def laidWorld (os : Os) : World :=
  lay (lay (World.holding Tryd.prog os ⟨#[], #[], []⟩) 2 #[.int .i64 0, .int .i64 1, .int .i64 2, .int .i64 1, .int .i64 3, .int .i64 4, .int .i64 2, .int .i64 4, .int .i64 5]) 1 #[.int .i64 32768, .int .i64 256, .int .i64 (-1), .int .i64 0, .int .i64 32768, .int .i64 (-256), .int .i64 0, .int .i64 0, .int .i64 32768]
end Go.Proofs.YtmpdlldjekagoaaDoor
