/- Means, the ground: plain. -/
import Derived.Test.YtakcibjjfkgadaaGreatDoorEvMo
set_option linter.unusedVariables false
set_option linter.unusedSimpArgs false
namespace Go.Ev
def sumW (l : List Int) : Int := l.foldl (fun a x => IntKind.i64.wrap (a + x)) 0
def meanL (l : List Int) : Int × Int := if l.length = 0 then (0, 4) else if l.all good = true then (IntKind.i64.wrap ((sumW l).tdiv l.length), 0) else (0, 2)
theorem sumW_take (l : List Int) (i : Nat) (h : i < l.length) : sumW (l.take (i + 1)) = IntKind.i64.wrap (sumW (l.take i) + l[i]) := by
  unfold sumW
  rw [← List.take_append_getElem h, List.foldl_append]
  rfl
structure Gnd where
  band : Int
  noise : Int
  rough : Int
  count : Int
  known : Bool
deriving DecidableEq
def Gnd.cells (g : Gnd) : List AV := [I g.band, I g.noise, I g.rough, I g.count, .bool g.known]
attribute [go_sem] Gnd.cells
def nearF (g : Gnd) (c : Int) : Bool := good c && (g.known && decide (IntKind.i64.wrap (g.count - c) ≤ g.band))
structure Lv where
  alt : Int
  noise : Int
  near : Bool
  e : Int
def levelF (g : Gnd) (c : Int) : Lv :=
  if (altF c).2 ≠ 0 then ⟨0, 0, false, (altF c).2⟩
  else if nearF g c = true then ⟨if (altF g.count).1 > (altF c).1 then (altF g.count).1 else (altF c).1, g.rough, true, 0⟩
  else ⟨(altF c).1, g.noise, false, 0⟩
def setF (g : Gnd) (c : Int) : Gnd := if good c = true ∧ g.known = false then { g with count := c, known := true } else g
section
variable {P : Program} {G : Glob} {vf : List FuncId} {Kt : FuncId → List AV → AV → Prop}
/-- A call that only looks at the memory. -/
theorem dcall_R0 {f : FuncId} {args : List AV} {dst : Option Tmp} {all : List Oper} {l : List (Nat × List Tmp)} {t : List AV} {h : List Blk} {d : List Dfr} {F : St → Prop} {u : AV} (hv : vf.contains f = false)
    (hs : HSem P G f args h (fun ao h' => ao = .ret u ∧ h' = h)) (hk : DRun P G vf Kt all l ⟨putT t dst u, h, d⟩ F) (hr2 : stF vf f = false := by rfl) : DCall P G vf Kt f args dst all l ⟨t, h, d⟩ F :=
  ⟨fun hc => (by rw [hv] at hc; cases hc), fun _ => ⟨_, hs, fun _ => ⟨⟨.ret u, h, rfl, rfl⟩, fun ao h' ⟨_, he⟩ => ⟨[], by simp [he]⟩⟩, fun h => (by rw [hr2] at h; cases h), fun ao h' ⟨e, he⟩ => ⟨u, e, by rw [he]; exact hk⟩⟩⟩
end
end Go.Ev
