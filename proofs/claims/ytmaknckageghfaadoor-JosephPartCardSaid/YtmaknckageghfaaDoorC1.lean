/- Layer 12: the law JosephPart, walked. -/
import Derived.Test.YtmaknckageghfaaDoorA8
import Derived.Test.YtmaknckageghfaaDoorEvP
set_option linter.unusedSimpArgs false
set_option linter.unusedVariables false
set_option maxRecDepth 100000
set_option pp.maxSteps 400
set_option maxHeartbeats 4000000
namespace Go.Proofs.YtmaknckageghfaaDoor
open Go.Ev

theorem V_JosephPart (x y z : Int) : VSem Tryd.prog GD 6 [I x, I y, I z] (· = .bool true) := by
  refine VSem.of_body Tryd.func6 rfl (by kernel_rfl) ?_
  refine run_sound 4000 _ ?_
  simp -implicitDefEqProofs only [Tryd.f6, go_sem, Nat.reduceSub, Nat.reduceAdd, Nat.reduceMul, Nat.reduceDiv, Nat.reduceMod, Nat.reducePow, Nat.reduceLeDiff, Nat.reduceLT, Nat.reduceGT, Nat.reduceEqDiff, Nat.reduceBEq, Nat.reduceSubDiff, Nat.reduceBeqDiff, Int.reduceLE, Int.reduceLT, Int.reduceEq, Int.reduceToNat, Int.reduceAdd, Int.reduceSub, Int.reduceMul, Int.reduceNeg, Int.reduceGE, Int.reduceGT, Int.reduceNegSucc]
  obtain ⟨a, ha, ha1, ha2⟩ : ∃ a, (if 0 > if 36028797018963968 < x then 36028797018963968 else x then 0 else if 36028797018963968 < x then 36028797018963968 else x) = a ∧ 0 ≤ a ∧ a ≤ 36028797018963968 :=
    ⟨_, rfl, by repeat' split <;> omega, by repeat' split <;> omega⟩
  obtain ⟨n, hn, hn1, hn2⟩ : ∃ a, (if 0 > if 36028797018963968 < y then 36028797018963968 else y then 0 else if 36028797018963968 < y then 36028797018963968 else y) = a ∧ 0 ≤ a ∧ a ≤ 36028797018963968 :=
    ⟨_, rfl, by repeat' split <;> omega, by repeat' split <;> omega⟩
  obtain ⟨k, hk, hk1, hk2⟩ : ∃ a, (if 0 > if 1099511627776 < z then 1099511627776 else z then 0 else if 1099511627776 < z then 1099511627776 else z) = a ∧ 0 ≤ a ∧ a ≤ 1099511627776 :=
    ⟨_, rfl, by repeat' split <;> omega, by repeat' split <;> omega⟩
  have hw : IntKind.i64.wrap (a + n) = a + n := by rw [IntKind.wrap_i64]; omega
  simp only [ha, hn, hk, hw]
  obtain ⟨v, hv, hv1, hv2⟩ := jDoubt_part a n k ha1 ha2 hn1 hn2 hk1 hk2
  refine call_E (V_Doubt ⟨a, 0, 0, 0, 0, 0⟩ ⟨k, 0, 0⟩ (a + n) (show V3.In64 ⟨k, 0, 0⟩ from ⟨show In64 k from ⟨by omega, by omega⟩, show In64 0 by decide, show In64 0 by decide⟩)) rfl ?_
  rw [hv]
  refine run_sound 4000 _ ?_
  simp -implicitDefEqProofs only [go_sem, Nat.reduceSub, Nat.reduceAdd, Nat.reduceMul, Nat.reduceDiv, Nat.reduceMod, Nat.reducePow, Nat.reduceLeDiff, Nat.reduceLT, Nat.reduceGT, Nat.reduceEqDiff, Nat.reduceBEq, Nat.reduceSubDiff, Nat.reduceBeqDiff, Int.reduceLE, Int.reduceLT, Int.reduceEq, Int.reduceToNat, Int.reduceAdd, Int.reduceSub, Int.reduceMul, Int.reduceNeg, Int.reduceGE, Int.reduceGT, Int.reduceNegSucc, hw]
  refine call_E V_fixed12 rfl ?_
  have hs : (a + n).fdiv (2 ^ 40) = (a + n) / 1099511627776 := by rw [pos_fdiv _ _ (by decide)]; rfl
  have hs2 : IntKind.i64.wrap ((a + n) / 1099511627776 + 3) = (a + n) / 1099511627776 + 3 := by rw [IntKind.wrap_i64]; omega
  have hs3 : IntKind.i64.wrap (0 - ((a + n) / 1099511627776 + 3)) = -((a + n) / 1099511627776 + 3) := by rw [IntKind.wrap_i64]; omega
  have hm : (if n > a then n else a) = max a n := by split <;> omega
  have hs4 : IntKind.i64.wrap (max a n + ((a + n) / 1099511627776 + 3)) = max a n + ((a + n) / 1099511627776 + 3) := by rw [IntKind.wrap_i64]; omega
  have d1 := decide_eq_true hv1
  have d2 := decide_eq_true hv2
  refine run_sound 4000 _ ?_
  simp -implicitDefEqProofs only [go_sem, Nat.reduceSub, Nat.reduceAdd, Nat.reduceMul, Nat.reduceDiv, Nat.reduceMod, Nat.reducePow, Nat.reduceLeDiff, Nat.reduceLT, Nat.reduceGT, Nat.reduceEqDiff, Nat.reduceBEq, Nat.reduceSubDiff, Nat.reduceBeqDiff, Int.reduceLE, Int.reduceLT, Int.reduceEq, Int.reduceToNat, Int.reduceAdd, Int.reduceSub, Int.reduceMul, Int.reduceNeg, Int.reduceGE, Int.reduceGT, Int.reduceNegSucc, hs, hs2, hs3, hm, hs4, d1, d2]
  refine done_ret ?_
  simp -implicitDefEqProofs only [go_sem, Nat.reduceSub, Nat.reduceAdd, Nat.reduceMul, Nat.reduceDiv, Nat.reduceMod, Nat.reducePow, Nat.reduceLeDiff, Nat.reduceLT, Nat.reduceGT, Nat.reduceEqDiff, Nat.reduceBEq, Nat.reduceSubDiff, Nat.reduceBeqDiff, Int.reduceLE, Int.reduceLT, Int.reduceEq, Int.reduceToNat, Int.reduceAdd, Int.reduceSub, Int.reduceMul, Int.reduceNeg, Int.reduceGE, Int.reduceGT, Int.reduceNegSucc]
end Go.Proofs.YtmaknckageghfaaDoor
