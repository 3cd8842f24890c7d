/- Motion, gates, gains, roots, bounds of doubt: plain, as the code does it. -/
import Derived.Test.YtakcibjjfkgadaaGreatDoorEvDv
set_option linter.unusedVariables false
set_option linter.unusedSimpArgs false
namespace Go.Ev
def motionF (x : V3) (t : Int) : V3 × Int :=
  if x.Fit ∧ Fit t then if (fSub t x.z).2 ≠ 0 then (⟨0, 0, 0⟩, (fSub t x.z).2) else vAdd x ⟨evn (x.y * 256 + (fSub t x.z).1) (2 ^ 15), evn (fSub t x.z).1 (2 ^ 7), 0⟩
  else (⟨0, 0, 0⟩, 1)
structure Lk where
  y : Int
  s : Int
  e : Int
def lookF (x : V3) (p : S6) (z noise : Int) : Lk :=
  if p.Fit ∧ x.Fit ∧ Fit z ∧ Fit noise ∧ 1 ≤ noise ∧ 0 ≤ p.a then
    if (fSub z x.x).2 ≠ 0 then ⟨0, 0, (fSub z x.x).2⟩ else if (fAdd p.a noise).2 ≠ 0 then ⟨0, 0, (fAdd p.a noise).2⟩ else ⟨(fSub z x.x).1, (fAdd p.a noise).1, 0⟩
  else ⟨0, 0, 1⟩
def rightF (y s : Int) : Bool := decide (Fit y) && (decide (Fit s) && decide (1 ≤ s))
def passF (y s g : Int) : Bool := rightF y s && (decide (0 ≤ g) && (decide (g ≤ 1000) && decide (y * y ≤ g * s * 2 ^ 40)))
def bestF (p : S6) (s : Int) : V3 × Int := if p.Fit ∧ Fit s ∧ 1 ≤ s then each3 (fDiv p.a s) (fDiv p.b s) (fDiv p.c s) else (⟨0, 0, 0⟩, 1)
def gainF (p : S6) (s : Int) (short : Bool) (t : V3) : V3 × Int := if short = true then vAdd t ⟨0, 0, 0⟩ else bestF p s
/-- One try: the bit i. -/
def rbit (out i : Int) : Int := ibits .or .u64 out (IntKind.u64.wrap (1 * 2 ^ (if i.toNat ≤ 64 then i.toNat else 64)))
def rtry (hi lo out i : Int) : Int :=
  if IntKind.u64.wrap hi < rbit out i * rbit out i / 18446744073709551616 ∨ (rbit out i * rbit out i / 18446744073709551616 = IntKind.u64.wrap hi ∧ lo < rbit out i * rbit out i % 18446744073709551616) then out else rbit out i
def riter (hi lo : Int) : Nat → Int → Int
  | 0, out => out
  | n + 1, out => riter hi lo n (rtry hi lo out n)
def rootF (a : Int) : Int := riter (a / 18446744073709551616) (a % 18446744073709551616) 64 0
def meanF (x y : Int) : Int := if x < 0 ∨ y < 0 then 0 else IntKind.i64.wrap (rootF (x * y))
theorem meanF_in (x y : Int) : In64 (meanF x y) := by
  unfold meanF
  split
  · exact ⟨by decide, by decide⟩
  · rw [IntKind.wrap_i64]; exact ⟨by omega, by omega⟩
def mm (x lo hi : Int) : Int := if hi < (if lo > x then lo else x) then hi else if lo > x then lo else x
def dg (f c x : Int) : Int := mm x f c
def tameF (p : S6) (f c : V3) : S6 × Int :=
  if may f c = true then
    (⟨mm p.a f.x c.x, clamp p.b (meanF (IntKind.i64.wrap (mm p.d f.y c.y - f.y)) (IntKind.i64.wrap (mm p.a f.x c.x - f.x))), clamp p.c (meanF (IntKind.i64.wrap (mm p.f f.z c.z - f.z)) (IntKind.i64.wrap (mm p.a f.x c.x - f.x))),
      mm p.d f.y c.y, clamp p.e (meanF (IntKind.i64.wrap (mm p.f f.z c.z - f.z)) (IntKind.i64.wrap (mm p.d f.y c.y - f.y))), mm p.f f.z c.z⟩, 0)
  else (⟨0, 0, 0, 0, 0, 0⟩, 1)
theorem ibits_u64 (op : BinOp) (x y : Int) : InU (ibits op .u64 x y) := by
  unfold ibits
  rw [IntKind.wrap_u64]
  exact ⟨by omega, by omega⟩
def outF (x : Int) : Int := evn x (2 ^ 24)
end Go.Ev
