/- Configurations, plain. -/
import Derived.Test.YtakcibjjfkgadaaGreatDoorEvU
set_option linter.unusedVariables false
set_option linter.unusedSimpArgs false
namespace Go.Ev
structure Cf where
  q : V3
  loose : V3
  r : Int
  rg : Int
  start : V3
  floor : V3
  ceil : V3
  bound : V3
  gate : Int
  table : V3
  scale : Int
  rest : Int
  clip : Int
  hold : Int
  coast : Int
  out : Int
  band : Int
deriving DecidableEq
def Cf.cells (c : Cf) : List AV := [I c.q.x, I c.q.y, I c.q.z, I c.loose.x, I c.loose.y, I c.loose.z, I c.r, I c.rg, I c.start.x, I c.start.y, I c.start.z, I c.floor.x, I c.floor.y, I c.floor.z, I c.ceil.x, I c.ceil.y, I c.ceil.z,
  I c.bound.x, I c.bound.y, I c.bound.z, I c.gate, I c.table.x, I c.table.y, I c.table.z, I c.scale, I c.rest, I c.clip, I c.hold, I c.coast, I c.out, I c.band]
def Cf.av (c : Cf) : AV := .agg c.cells
attribute [go_sem] Cf.av Cf.cells
structure Cf.In64 (c : Cf) : Prop where
  q : c.q.In64
  loose : c.loose.In64
  r : Ev.In64 c.r
  rg : Ev.In64 c.rg
  start : c.start.In64
  floor : c.floor.In64
  ceil : c.ceil.In64
  bound : c.bound.In64
  gate : Ev.In64 c.gate
  table : c.table.In64
  scale : Ev.In64 c.scale
  rest : Ev.In64 c.rest
  clip : Ev.In64 c.clip
  hold : Ev.In64 c.hold
  coast : Ev.In64 c.coast
  out : Ev.In64 c.out
  band : Ev.In64 c.band
/-- Whether a number is from one to another one. -/
def wth (x lo hi : Int) : Bool := decide (lo ≤ x) && decide (x ≤ hi)
theorem wth_iff {x lo hi : Int} : wth x lo hi = true ↔ lo ≤ x ∧ x ≤ hi := by simp [wth]
def all3 (v : V3) (f : Nat → Int → Bool) : Bool := f 0 v.x && (f 1 v.y && f 2 v.z)
def may1 (f c : Int) : Bool := decide (0 ≤ f) && decide (f ≤ c) && decide (Fit c)
def may (f c : V3) : Bool := may1 f.x c.x && (may1 f.y c.y && may1 f.z c.z)
def rule1 (c : Cf) : Bool := all3 c.q fun _ x => wth x 0 1125899906842624
def rule2 (c : Cf) : Bool := all3 c.loose fun i x => wth x (c.q.get i) 1125899906842624
def rule3 (c : Cf) : Bool := wth c.r 274877906944 1125899906842624
def rule4 (c : Cf) : Bool := wth c.rg c.r 1125899906842624
def rule5 (c : Cf) : Bool := may c.floor c.ceil && all3 c.ceil fun _ x => decide (x ≤ 72057594037927936)
def rule6 (c : Cf) : Bool := all3 c.start fun i x => wth x (c.floor.get i) (c.ceil.get i)
def rule7 (c : Cf) : Bool := (all3 c.bound fun _ x => wth x 0 72057594037927936) && decide (18014398509481984 ≤ c.bound.x)
def rule8 (c : Cf) : Bool := wth c.gate 1 1000
def rule9 (c : Cf) : Bool := (all3 c.table fun _ x => wth x (-4398046511104) 4398046511104) && wth c.table.x 0 1099511627776
def rule10 (c : Cf) : Bool := wth c.scale 1 1099511627776
def rule11 (c : Cf) : Bool := wth c.clip 1 131072 && (decide (-c.clip < c.rest) && decide (c.rest < c.clip))
def rule12 (c : Cf) : Bool := wth c.hold 0 1000
def rule13 (c : Cf) : Bool := wth c.coast 1 c.out && decide (c.out ≤ 100000)
def rule14 (c : Cf) : Bool := wth c.band 0 400000
/-- The first rule that isn't kept. -/
def checkF (c : Cf) : Int :=
  if rule1 c = false then 1 else if rule2 c = false then 2 else if rule3 c = false then 3 else if rule4 c = false then 4 else if rule5 c = false then 5 else if rule6 c = false then 6 else if rule7 c = false then 7
  else if rule8 c = false then 8 else if rule9 c = false then 9 else if rule10 c = false then 10 else if rule11 c = false then 11 else if rule12 c = false then 12 else if rule13 c = false then 13 else if rule14 c = false then 14 else 0
end Go.Ev
