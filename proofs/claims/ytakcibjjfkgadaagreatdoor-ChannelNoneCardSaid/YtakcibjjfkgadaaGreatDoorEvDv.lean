/- Division of wide numbers, as the code does it: plain. -/
import Derived.Test.YtakcibjjfkgadaaGreatDoorEvCk
set_option linter.unusedVariables false
set_option linter.unusedSimpArgs false
namespace Go.Ev
theorem w128_in (n : Int) : In128 (w128 n) := by unfold w128 In128; omega
/-- What is kept while parts are taken: the parts, what is left, the number's two words. -/
structure PS4 where
  q : Int
  rest : Int
  hi : Int
  lo : Int
def pstep (b : Int) (s : PS4) : PS4 :=
  let rest := ibits .or .u64 (IntKind.u64.wrap (s.rest * 2 ^ 1)) (s.hi.fdiv (2 ^ 63))
  let hi := ibits .or .u64 (IntKind.u64.wrap (s.hi * 2 ^ 1)) (s.lo.fdiv (2 ^ 63))
  let lo := IntKind.u64.wrap (s.lo * 2 ^ 1)
  if b ≤ rest then ⟨w128 (w128 (s.q + s.q) + 1), IntKind.u64.wrap (rest - b), hi, lo⟩ else ⟨w128 (s.q + s.q), rest, hi, lo⟩
def piter (b : Int) : Nat → PS4 → PS4
  | 0, s => s
  | n + 1, s => piter b n (pstep b s)
def pstart (a : Int) : PS4 :=
  if a / 18446744073709551616 < 0 then ⟨0, 0, IntKind.u64.wrap (w128 (0 - a) / 18446744073709551616), w128 (0 - a) % 18446744073709551616⟩
  else ⟨0, 0, IntKind.u64.wrap (a / 18446744073709551616), a % 18446744073709551616⟩
def partsF (a b : Int) : PS4 := piter b 128 (pstart a)
theorem piter_in (b : Int) : ∀ (n : Nat) (s : PS4), In128 s.q → In128 (piter b n s).q
  | 0, _, h => h
  | n + 1, s, h => piter_in b n _ (by unfold pstep; simp only; split <;> exact w128_in _)
theorem in0 : In128 0 := ⟨by decide, by decide⟩
theorem partsF_in (a b : Int) : In128 (partsF a b).q := by
  refine piter_in b 128 _ ?_
  unfold pstart; split <;> exact in0
structure SP3 where
  q : Int
  rest : Int
  e : Int
def splitF (a b : Int) : SP3 :=
  if b = 0 then ⟨0, 0, 4⟩
  else if (a / 18446744073709551616 = -9223372036854775808 ∧ a % 18446744073709551616 = 0) ∧ b = -1 then ⟨0, 0, 3⟩
  else if decide (a / 18446744073709551616 < 0) = decide (b < 0) then ⟨(partsF a b.natAbs).q, (partsF a b.natAbs).rest, 0⟩
  else if 0 < (partsF a b.natAbs).rest then ⟨w128 (w128 (0 - (partsF a b.natAbs).q) - 1), IntKind.u64.wrap (b.natAbs - (partsF a b.natAbs).rest), 0⟩
  else ⟨w128 (0 - (partsF a b.natAbs).q), (partsF a b.natAbs).rest, 0⟩
theorem splitF_in (a b : Int) : In128 (splitF a b).q := by
  unfold splitF
  repeat' split
  all_goals first | exact in0 | exact partsF_in _ _ | exact w128_in _
def evenF (a b : Int) : Int × Int :=
  if (splitF a b).e ≠ 0 then (0, (splitF a b).e)
  else if IntKind.u64.wrap (b.natAbs - (splitF a b).rest) < (splitF a b).rest then (w128 ((splitF a b).q + 1), 0)
  else if (splitF a b).rest = IntKind.u64.wrap (b.natAbs - (splitF a b).rest) ∧ ibits .and .u64 ((splitF a b).q % 18446744073709551616) 1 = 1 then (w128 ((splitF a b).q + 1), 0)
  else ((splitF a b).q, 0)
theorem evenF_in (a b : Int) : In128 (evenF a b).1 := by
  unfold evenF
  repeat' split
  all_goals first | exact in0 | exact w128_in _ | exact splitF_in _ _
def fDiv (a b : Int) : Int × Int :=
  if Fit a ∧ Fit b then if (evenF (a * 2 ^ 40) b).2 = 0 then if In64 (evenF (a * 2 ^ 40) b).1 ∧ Fit (evenF (a * 2 ^ 40) b).1 then ((evenF (a * 2 ^ 40) b).1, 0) else (0, 3) else (0, (evenF (a * 2 ^ 40) b).2) else (0, 1)
def cmp3 (x y : Int) : Int := if x < y then -1 else if y < x then 1 else 0
def cmpF (a b : Int) : Int := if cmp3 (a / 18446744073709551616) (b / 18446744073709551616) ≠ 0 then cmp3 (a / 18446744073709551616) (b / 18446744073709551616) else cmp3 (a % 18446744073709551616) (b % 18446744073709551616)
theorem cmpF_eq (a b : Int) : cmpF a b = cmp3 a b := by
  unfold cmpF cmp3
  repeat' split
  all_goals first | rfl | omega

section
variable {r : Option Nat} {P : Program} {G : Glob}
/-- From a label on, by a measure. -/
theorem jump_ind {n0 : Nat} {c rest : Code} {k : List Fr} {st0 : St} {R : AX → St → Prop} (Inv : Nat → St → Prop) (j0 : Nat) (h0 : Inv j0 st0)
    (step : ∀ j st, Inv j st → (∀ j' st', j' < j → Inv j' st' → StopSem r P G n0 (.jump c rest k st') R) → CfgSem r P G n0 ⟨.code rest, .scp c :: k, st⟩ R) : StopSem r P G n0 (.jump c rest k st0) R := by
  have : ∀ j st, Inv j st → CfgSem r P G n0 ⟨.code rest, .scp c :: k, st⟩ R := by
    intro j
    induction j using Nat.strongRecOn with
    | ind j ih => exact fun st h => step j st h fun j' st' hj h' => ih j' hj st' h'
  exact this j0 st0 h0
end
end Go.Ev
