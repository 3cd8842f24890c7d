/- Heights, ticks, clocks, feeds: plain. -/
import Derived.Test.YtakcibjjfkgadaaGreatDoorEvCf
set_option linter.unusedVariables false
set_option linter.unusedSimpArgs false
namespace Go.Ev
/-- The counts of all heights. -/
def tableL : List Int := [430515, 417754, 405300, 393149, 381294, 369731, 358453, 347455, 336732, 326279, 316090, 306161, 296485, 287058, 277876, 268933, 260224, 251746, 243492, 235459, 227641, 220036, 212637, 205441, 198444, 191640, 185027, 178600, 172355, 166288, 160395, 154672, 149116, 143723, 138488, 133409, 128482, 123703, 119069, 114577, 110223, 106004, 101917, 97958, 94125, 90414, 86822]
def tbl (k : Nat) : Int := tableL.getD k 0
def good (c : Int) : Bool := decide (90528 ≤ c) && decide (c ≤ 430515)
theorem good_iff {c : Int} : good c = true ↔ 90528 ≤ c ∧ c ≤ 430515 := by simp [good]
/-- The number of heights whose count isn't below one. -/
def hgt (c : Int) : Nat := tableL.findIdx fun x => decide (x < c)
def altF (c : Int) : Int × Int :=
  if good c = true then
    (IntKind.i64.wrap (IntKind.i64.wrap (-562949953421312 + IntKind.i64.wrap (((hgt c - 1 : Nat) : Int) * 281474976710656)) +
      IntKind.i64.wrap ((IntKind.i64.wrap (281474976710656 * IntKind.i64.wrap (tbl (hgt c - 1) - c))).tdiv (IntKind.i64.wrap (tbl (hgt c - 1) - tbl (hgt c - 1 + 1))))), 0)
  else (0, 2)
theorem hgt_in {c : Int} (h : good c = true) : 1 ≤ hgt c ∧ hgt c ≤ 46 := by
  obtain ⟨h1, h2⟩ := good_iff.1 h
  constructor
  · unfold hgt tableL
    rw [List.findIdx_cons, decide_eq_false (show ¬ 430515 < c by omega), cond_false]
    omega
  · have : tableL.findIdx (fun x => decide (x < c)) < tableL.length := List.findIdx_lt_length.2 ⟨86822, by decide, by simp; omega⟩
    have hl : tableL.length = 47 := by decide
    unfold hgt
    omega
theorem tbl_down (k : Nat) (h : k < 46) : 0 < tbl k - tbl (k + 1) ∧ tbl k - tbl (k + 1) ≤ 20000 := by
  have : ∀ k : Fin 46, 0 < tbl k.val - tbl (k.val + 1) ∧ tbl k.val - tbl (k.val + 1) ≤ 20000 := by decide
  exact this ⟨k, h⟩
theorem altF_ex : altF 405300 = (0, 0) := by decide

structure Tk where
  accel : Int
  has : Bool
  press : Int
  short : Bool
deriving DecidableEq
def Tk.cells (t : Tk) : List AV := [I t.accel, .bool t.has, I t.press, .bool t.short]
def Tk.av (t : Tk) : AV := .agg t.cells
structure Td where
  mode : Int
  valid : Bool
  accepted : Bool
  refused : Bool
  held : Bool
  ground : Bool
  alt : Int
  speed : Int
  bias : Int
deriving DecidableEq
def Td.cells (t : Td) : List AV := [I t.mode, .bool t.valid, .bool t.accepted, .bool t.refused, .bool t.held, .bool t.ground, I t.alt, I t.speed, I t.bias]
def Td.av (t : Td) : AV := .agg t.cells
attribute [go_sem] Tk.av Tk.cells Td.av Td.cells
/-- The count that a tick brings. -/
def brings (t : Tk) : Int × Bool := if t.has = true ∧ good t.press = true then (t.press, true) else (0, false)

structure Ck where
  m : Int
  s : Int
deriving DecidableEq
def Ck.av (c : Ck) : AV := .agg [I c.m, I c.s]
attribute [go_sem] Ck.av
def Ck.ok (c : Ck) : Prop := c.m = 0 ∨ c.m = 1 ∨ c.m = 2 ∨ c.m = 3
def vld (m : Int) : Bool := decide (m = 1) || decide (m = 2)
def sks (m : Int) : Bool := decide (m = 0) || decide (m = 3)
def missedF (c : Ck) (coast out : Int) : Ck :=
  if out < IntKind.i64.wrap (c.s + 1) then ⟨3, 0⟩ else if coast ≤ IntKind.i64.wrap (c.s + 1) then ⟨2, IntKind.i64.wrap (c.s + 1)⟩ else ⟨1, IntKind.i64.wrap (c.s + 1)⟩
def onF (c : Ck) (ev coast out : Int) : Ck :=
  if ev = 3 then ⟨3, 0⟩ else if ev = 0 ∨ (vld c.m = true ∧ ev = 1) then ⟨1, 0⟩ else if vld c.m = true ∧ ev = 2 then missedF c coast out else c
theorem onF_ok {c : Ck} (h : c.ok) (ev coast out : Int) : (onF c ev coast out).ok := by
  unfold onF missedF Ck.ok
  repeat' split
  all_goals first | exact h | simp
/-- A count's thrust. -/
def thrustF (c : Cf) (x : Int) : Int × Int :=
  if checkF c ≠ 0 then (0, 1) else if x ≤ IntKind.i64.wrap (0 - c.clip) ∨ c.clip ≤ x then (0, 2) else (IntKind.i64.wrap (IntKind.i64.wrap (x - c.rest) * c.scale), 0)
/-- The last thrust, and how many in a row were clipped. -/
structure Fed where
  last : Int
  run : Int
deriving DecidableEq
def Fed.cells (f : Fed) (c : Cf) : List AV := I f.last :: I f.run :: c.cells
attribute [go_sem] Fed.cells
def inF (c : Cf) (f : Fed) (x : Int) : Fed × (Int × Bool × Bool) :=
  if (thrustF c x).2 = 0 then (⟨(thrustF c x).1, 0⟩, (thrustF c x).1, false, false)
  else (⟨f.last, IntKind.i64.wrap (f.run + 1)⟩, f.last, true, decide (c.hold < IntKind.i64.wrap (f.run + 1)))
def defaultC : Cf := { q := ⟨1024, 65536, 256⟩, loose := ⟨16384, 4194304, 4096⟩, r := 274877906944, rg := 4398046511104, start := ⟨4398046511104, 1099511627776, 68719476736⟩, floor := ⟨256, 256, 256⟩, ceil := ⟨1125899906842624, 281474976710656, 17592186044416⟩, bound := ⟨18014398509481984, 562949953421312, 8796093022208⟩, gate := 9, table := ⟨34359738368, 17179869184, -1073741824⟩, scale := 536870912, rest := 2048, clip := 32768, hold := 32, coast := 64, out := 1280, band := 240 }
theorem check_default : checkF defaultC = 0 := by decide
end Go.Ev
