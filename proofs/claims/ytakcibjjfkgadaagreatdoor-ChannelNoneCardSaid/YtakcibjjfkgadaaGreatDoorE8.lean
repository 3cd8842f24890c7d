/- Layers 2, 3, 9, 11: roots, gains, bounds of doubt. -/
import Derived.Test.YtakcibjjfkgadaaGreatDoorE7
set_option linter.unusedSimpArgs false
set_option linter.unusedVariables false
set_option maxRecDepth 100000
set_option pp.maxSteps 400
set_option maxHeartbeats 4000000
namespace Go.Proofs.YtakcibjjfkgadaaGreatDoor
open Go.Ev

theorem V_Best (p : S6) (s : Int) : VSem Tryz.prog GD 135 [p.av, I s] (· = PV (bestF p s)) := by
  unfold bestF
  refine VSem.of_body Tryz.func135 rfl (by kernel_rfl) ?_
  refine run_sound 4000 _ ?_
  simp -implicitDefEqProofs only [Tryz.f135, go_sem, Nat.reduceSub, Nat.reduceAdd, Nat.reduceMul, Nat.reduceDiv, Nat.reduceMod, Nat.reducePow, Nat.reduceLeDiff, Nat.reduceLT, Nat.reduceGT, Nat.reduceEqDiff, Nat.reduceBEq, Nat.reduceSubDiff, Nat.reduceBeqDiff, Int.reduceLE, Int.reduceLT, Int.reduceEq, Int.reduceToNat, Int.reduceAdd, Int.reduceSub, Int.reduceMul, Int.reduceNeg, Int.reduceGE, Int.reduceGT, Int.reduceNegSucc]
  refine call_A (V_SAdd p ⟨0, 0, 0, 0, 0, 0⟩) rfl rfl ?_
  by_cases h1 : p.Fit
  rotate_left
  · rw [sAdd0_no p h1, if_neg (fun h => h1 h.1)]
    refine run_sound 4000 _ ?_
    simp -implicitDefEqProofs only [go_sem, Nat.reduceSub, Nat.reduceAdd, Nat.reduceMul, Nat.reduceDiv, Nat.reduceMod, Nat.reducePow, Nat.reduceLeDiff, Nat.reduceLT, Nat.reduceGT, Nat.reduceEqDiff, Nat.reduceBEq, Nat.reduceSubDiff, Nat.reduceBeqDiff, Int.reduceLE, Int.reduceLT, Int.reduceEq, Int.reduceToNat, Int.reduceAdd, Int.reduceSub, Int.reduceMul, Int.reduceNeg, Int.reduceGE, Int.reduceGT, Int.reduceNegSucc]
    refine done_ret ?_
    simp -implicitDefEqProofs only [go_sem, Nat.reduceSub, Nat.reduceAdd, Nat.reduceMul, Nat.reduceDiv, Nat.reduceMod, Nat.reducePow, Nat.reduceLeDiff, Nat.reduceLT, Nat.reduceGT, Nat.reduceEqDiff, Nat.reduceBEq, Nat.reduceSubDiff, Nat.reduceBeqDiff, Int.reduceLE, Int.reduceLT, Int.reduceEq, Int.reduceToNat, Int.reduceAdd, Int.reduceSub, Int.reduceMul, Int.reduceNeg, Int.reduceGE, Int.reduceGT, Int.reduceNegSucc]
  rw [sAdd0_ok p h1]
  refine run_sound 4000 _ ?_
  simp -implicitDefEqProofs only [go_sem, Nat.reduceSub, Nat.reduceAdd, Nat.reduceMul, Nat.reduceDiv, Nat.reduceMod, Nat.reducePow, Nat.reduceLeDiff, Nat.reduceLT, Nat.reduceGT, Nat.reduceEqDiff, Nat.reduceBEq, Nat.reduceSubDiff, Nat.reduceBeqDiff, Int.reduceLE, Int.reduceLT, Int.reduceEq, Int.reduceToNat, Int.reduceAdd, Int.reduceSub, Int.reduceMul, Int.reduceNeg, Int.reduceGE, Int.reduceGT, Int.reduceNegSucc]
  refine call_E (V_Fits s) rfl ?_
  by_cases h2 : Fit s
  rotate_left
  · have h2' := decide_eq_false h2
    rw [if_neg (fun h => h2 h.2.1)]
    refine run_sound 4000 _ ?_
    simp -implicitDefEqProofs only [go_sem, Nat.reduceSub, Nat.reduceAdd, Nat.reduceMul, Nat.reduceDiv, Nat.reduceMod, Nat.reducePow, Nat.reduceLeDiff, Nat.reduceLT, Nat.reduceGT, Nat.reduceEqDiff, Nat.reduceBEq, Nat.reduceSubDiff, Nat.reduceBeqDiff, Int.reduceLE, Int.reduceLT, Int.reduceEq, Int.reduceToNat, Int.reduceAdd, Int.reduceSub, Int.reduceMul, Int.reduceNeg, Int.reduceGE, Int.reduceGT, Int.reduceNegSucc, h2']
    refine done_ret ?_
    simp -implicitDefEqProofs only [go_sem, Nat.reduceSub, Nat.reduceAdd, Nat.reduceMul, Nat.reduceDiv, Nat.reduceMod, Nat.reducePow, Nat.reduceLeDiff, Nat.reduceLT, Nat.reduceGT, Nat.reduceEqDiff, Nat.reduceBEq, Nat.reduceSubDiff, Nat.reduceBeqDiff, Int.reduceLE, Int.reduceLT, Int.reduceEq, Int.reduceToNat, Int.reduceAdd, Int.reduceSub, Int.reduceMul, Int.reduceNeg, Int.reduceGE, Int.reduceGT, Int.reduceNegSucc]
  have h2' := decide_eq_true h2
  by_cases h3 : s < 1
  · have h3' := decide_eq_true h3
    rw [if_neg (fun h => by have := h.2.2; omega)]
    refine run_sound 4000 _ ?_
    simp -implicitDefEqProofs only [go_sem, Nat.reduceSub, Nat.reduceAdd, Nat.reduceMul, Nat.reduceDiv, Nat.reduceMod, Nat.reducePow, Nat.reduceLeDiff, Nat.reduceLT, Nat.reduceGT, Nat.reduceEqDiff, Nat.reduceBEq, Nat.reduceSubDiff, Nat.reduceBeqDiff, Int.reduceLE, Int.reduceLT, Int.reduceEq, Int.reduceToNat, Int.reduceAdd, Int.reduceSub, Int.reduceMul, Int.reduceNeg, Int.reduceGE, Int.reduceGT, Int.reduceNegSucc, h2', h3']
    refine done_ret ?_
    simp -implicitDefEqProofs only [go_sem, Nat.reduceSub, Nat.reduceAdd, Nat.reduceMul, Nat.reduceDiv, Nat.reduceMod, Nat.reducePow, Nat.reduceLeDiff, Nat.reduceLT, Nat.reduceGT, Nat.reduceEqDiff, Nat.reduceBEq, Nat.reduceSubDiff, Nat.reduceBeqDiff, Int.reduceLE, Int.reduceLT, Int.reduceEq, Int.reduceToNat, Int.reduceAdd, Int.reduceSub, Int.reduceMul, Int.reduceNeg, Int.reduceGE, Int.reduceGT, Int.reduceNegSucc]
  have h3' := decide_eq_false h3
  rw [if_pos ⟨h1, h2, by omega⟩]
  refine run_sound 4000 _ ?_
  simp -implicitDefEqProofs only [go_sem, Nat.reduceSub, Nat.reduceAdd, Nat.reduceMul, Nat.reduceDiv, Nat.reduceMod, Nat.reducePow, Nat.reduceLeDiff, Nat.reduceLT, Nat.reduceGT, Nat.reduceEqDiff, Nat.reduceBEq, Nat.reduceSubDiff, Nat.reduceBeqDiff, Int.reduceLE, Int.reduceLT, Int.reduceEq, Int.reduceToNat, Int.reduceAdd, Int.reduceSub, Int.reduceMul, Int.reduceNeg, Int.reduceGE, Int.reduceGT, Int.reduceNegSucc, h2', h3']
  refine loop_go ?_
  refine run_sound 4000 _ ?_
  simp -implicitDefEqProofs only [go_sem, Nat.reduceSub, Nat.reduceAdd, Nat.reduceMul, Nat.reduceDiv, Nat.reduceMod, Nat.reducePow, Nat.reduceLeDiff, Nat.reduceLT, Nat.reduceGT, Nat.reduceEqDiff, Nat.reduceBEq, Nat.reduceSubDiff, Nat.reduceBeqDiff, Int.reduceLE, Int.reduceLT, Int.reduceEq, Int.reduceToNat, Int.reduceAdd, Int.reduceSub, Int.reduceMul, Int.reduceNeg, Int.reduceGE, Int.reduceGT, Int.reduceNegSucc]
  refine call_A (V_FDiv p.a s) rfl rfl ?_
  by_cases e0 : (fDiv p.a s).2 = 0
  rotate_left
  · have e' := decide_eq_false e0
    refine run_sound 4000 _ ?_
    simp -implicitDefEqProofs only [go_sem, Nat.reduceSub, Nat.reduceAdd, Nat.reduceMul, Nat.reduceDiv, Nat.reduceMod, Nat.reducePow, Nat.reduceLeDiff, Nat.reduceLT, Nat.reduceGT, Nat.reduceEqDiff, Nat.reduceBEq, Nat.reduceSubDiff, Nat.reduceBeqDiff, Int.reduceLE, Int.reduceLT, Int.reduceEq, Int.reduceToNat, Int.reduceAdd, Int.reduceSub, Int.reduceMul, Int.reduceNeg, Int.reduceGE, Int.reduceGT, Int.reduceNegSucc, e']
    refine done_ret ?_
    simp -implicitDefEqProofs only [go_sem, Nat.reduceSub, Nat.reduceAdd, Nat.reduceMul, Nat.reduceDiv, Nat.reduceMod, Nat.reducePow, Nat.reduceLeDiff, Nat.reduceLT, Nat.reduceGT, Nat.reduceEqDiff, Nat.reduceBEq, Nat.reduceSubDiff, Nat.reduceBeqDiff, Int.reduceLE, Int.reduceLT, Int.reduceEq, Int.reduceToNat, Int.reduceAdd, Int.reduceSub, Int.reduceMul, Int.reduceNeg, Int.reduceGE, Int.reduceGT, Int.reduceNegSucc]
    simp [each3, e0]
  have e' := decide_eq_true e0
  refine run_sound 4000 _ ?_
  simp -implicitDefEqProofs only [go_sem, Nat.reduceSub, Nat.reduceAdd, Nat.reduceMul, Nat.reduceDiv, Nat.reduceMod, Nat.reducePow, Nat.reduceLeDiff, Nat.reduceLT, Nat.reduceGT, Nat.reduceEqDiff, Nat.reduceBEq, Nat.reduceSubDiff, Nat.reduceBeqDiff, Int.reduceLE, Int.reduceLT, Int.reduceEq, Int.reduceToNat, Int.reduceAdd, Int.reduceSub, Int.reduceMul, Int.reduceNeg, Int.reduceGE, Int.reduceGT, Int.reduceNegSucc, e']
  clear e'
  refine loop_go ?_
  refine run_sound 4000 _ ?_
  simp -implicitDefEqProofs only [go_sem, Nat.reduceSub, Nat.reduceAdd, Nat.reduceMul, Nat.reduceDiv, Nat.reduceMod, Nat.reducePow, Nat.reduceLeDiff, Nat.reduceLT, Nat.reduceGT, Nat.reduceEqDiff, Nat.reduceBEq, Nat.reduceSubDiff, Nat.reduceBeqDiff, Int.reduceLE, Int.reduceLT, Int.reduceEq, Int.reduceToNat, Int.reduceAdd, Int.reduceSub, Int.reduceMul, Int.reduceNeg, Int.reduceGE, Int.reduceGT, Int.reduceNegSucc]
  refine call_A (V_FDiv p.b s) rfl rfl ?_
  by_cases e1 : (fDiv p.b s).2 = 0
  rotate_left
  · have e' := decide_eq_false e1
    refine run_sound 4000 _ ?_
    simp -implicitDefEqProofs only [go_sem, Nat.reduceSub, Nat.reduceAdd, Nat.reduceMul, Nat.reduceDiv, Nat.reduceMod, Nat.reducePow, Nat.reduceLeDiff, Nat.reduceLT, Nat.reduceGT, Nat.reduceEqDiff, Nat.reduceBEq, Nat.reduceSubDiff, Nat.reduceBeqDiff, Int.reduceLE, Int.reduceLT, Int.reduceEq, Int.reduceToNat, Int.reduceAdd, Int.reduceSub, Int.reduceMul, Int.reduceNeg, Int.reduceGE, Int.reduceGT, Int.reduceNegSucc, e']
    refine done_ret ?_
    simp -implicitDefEqProofs only [go_sem, Nat.reduceSub, Nat.reduceAdd, Nat.reduceMul, Nat.reduceDiv, Nat.reduceMod, Nat.reducePow, Nat.reduceLeDiff, Nat.reduceLT, Nat.reduceGT, Nat.reduceEqDiff, Nat.reduceBEq, Nat.reduceSubDiff, Nat.reduceBeqDiff, Int.reduceLE, Int.reduceLT, Int.reduceEq, Int.reduceToNat, Int.reduceAdd, Int.reduceSub, Int.reduceMul, Int.reduceNeg, Int.reduceGE, Int.reduceGT, Int.reduceNegSucc]
    simp [each3, e1, e0]
  have e' := decide_eq_true e1
  refine run_sound 4000 _ ?_
  simp -implicitDefEqProofs only [go_sem, Nat.reduceSub, Nat.reduceAdd, Nat.reduceMul, Nat.reduceDiv, Nat.reduceMod, Nat.reducePow, Nat.reduceLeDiff, Nat.reduceLT, Nat.reduceGT, Nat.reduceEqDiff, Nat.reduceBEq, Nat.reduceSubDiff, Nat.reduceBeqDiff, Int.reduceLE, Int.reduceLT, Int.reduceEq, Int.reduceToNat, Int.reduceAdd, Int.reduceSub, Int.reduceMul, Int.reduceNeg, Int.reduceGE, Int.reduceGT, Int.reduceNegSucc, e']
  clear e'
  refine loop_go ?_
  refine run_sound 4000 _ ?_
  simp -implicitDefEqProofs only [go_sem, Nat.reduceSub, Nat.reduceAdd, Nat.reduceMul, Nat.reduceDiv, Nat.reduceMod, Nat.reducePow, Nat.reduceLeDiff, Nat.reduceLT, Nat.reduceGT, Nat.reduceEqDiff, Nat.reduceBEq, Nat.reduceSubDiff, Nat.reduceBeqDiff, Int.reduceLE, Int.reduceLT, Int.reduceEq, Int.reduceToNat, Int.reduceAdd, Int.reduceSub, Int.reduceMul, Int.reduceNeg, Int.reduceGE, Int.reduceGT, Int.reduceNegSucc]
  refine call_A (V_FDiv p.c s) rfl rfl ?_
  by_cases e2 : (fDiv p.c s).2 = 0
  rotate_left
  · have e' := decide_eq_false e2
    refine run_sound 4000 _ ?_
    simp -implicitDefEqProofs only [go_sem, Nat.reduceSub, Nat.reduceAdd, Nat.reduceMul, Nat.reduceDiv, Nat.reduceMod, Nat.reducePow, Nat.reduceLeDiff, Nat.reduceLT, Nat.reduceGT, Nat.reduceEqDiff, Nat.reduceBEq, Nat.reduceSubDiff, Nat.reduceBeqDiff, Int.reduceLE, Int.reduceLT, Int.reduceEq, Int.reduceToNat, Int.reduceAdd, Int.reduceSub, Int.reduceMul, Int.reduceNeg, Int.reduceGE, Int.reduceGT, Int.reduceNegSucc, e']
    refine done_ret ?_
    simp -implicitDefEqProofs only [go_sem, Nat.reduceSub, Nat.reduceAdd, Nat.reduceMul, Nat.reduceDiv, Nat.reduceMod, Nat.reducePow, Nat.reduceLeDiff, Nat.reduceLT, Nat.reduceGT, Nat.reduceEqDiff, Nat.reduceBEq, Nat.reduceSubDiff, Nat.reduceBeqDiff, Int.reduceLE, Int.reduceLT, Int.reduceEq, Int.reduceToNat, Int.reduceAdd, Int.reduceSub, Int.reduceMul, Int.reduceNeg, Int.reduceGE, Int.reduceGT, Int.reduceNegSucc]
    simp [each3, e2, e0, e1]
  have e' := decide_eq_true e2
  refine run_sound 4000 _ ?_
  simp -implicitDefEqProofs only [go_sem, Nat.reduceSub, Nat.reduceAdd, Nat.reduceMul, Nat.reduceDiv, Nat.reduceMod, Nat.reducePow, Nat.reduceLeDiff, Nat.reduceLT, Nat.reduceGT, Nat.reduceEqDiff, Nat.reduceBEq, Nat.reduceSubDiff, Nat.reduceBeqDiff, Int.reduceLE, Int.reduceLT, Int.reduceEq, Int.reduceToNat, Int.reduceAdd, Int.reduceSub, Int.reduceMul, Int.reduceNeg, Int.reduceGE, Int.reduceGT, Int.reduceNegSucc, e']
  clear e'
  refine loop_go ?_
  refine run_sound 4000 _ ?_
  simp -implicitDefEqProofs only [go_sem, Nat.reduceSub, Nat.reduceAdd, Nat.reduceMul, Nat.reduceDiv, Nat.reduceMod, Nat.reducePow, Nat.reduceLeDiff, Nat.reduceLT, Nat.reduceGT, Nat.reduceEqDiff, Nat.reduceBEq, Nat.reduceSubDiff, Nat.reduceBeqDiff, Int.reduceLE, Int.reduceLT, Int.reduceEq, Int.reduceToNat, Int.reduceAdd, Int.reduceSub, Int.reduceMul, Int.reduceNeg, Int.reduceGE, Int.reduceGT, Int.reduceNegSucc]
  refine done_ret ?_
  simp -implicitDefEqProofs only [go_sem, Nat.reduceSub, Nat.reduceAdd, Nat.reduceMul, Nat.reduceDiv, Nat.reduceMod, Nat.reducePow, Nat.reduceLeDiff, Nat.reduceLT, Nat.reduceGT, Nat.reduceEqDiff, Nat.reduceBEq, Nat.reduceSubDiff, Nat.reduceBeqDiff, Int.reduceLE, Int.reduceLT, Int.reduceEq, Int.reduceToNat, Int.reduceAdd, Int.reduceSub, Int.reduceMul, Int.reduceNeg, Int.reduceGE, Int.reduceGT, Int.reduceNegSucc]
  simp [each3, e0, e1, e2]

theorem H_Of1 (hp : List Blk) (p : S6) (s : Int) (b c : Nat) (hb : bget hp b = some ⟨[I p.a, I p.b, I p.c, I p.d, I p.e, I p.f], 45⟩) (hc : bget hp c = some ⟨[I s], 2⟩) :
    HSem Tryz.prog GD 134 [.ptr b 0, .ptr c 0] hp (fun ao h' => ao = .ret (PV (bestF p s)) ∧ ∃ ext, h' = hp ++ ext) := by
  have hb2 := bget_app hb
  have hc2 := bget_app hc
  refine HSem.of_body Tryz.func134 rfl (by kernel_rfl) ?_
  refine run_sound 4000 _ ?_
  simp -implicitDefEqProofs only [Tryz.f134, go_sem, Nat.reduceSub, Nat.reduceAdd, Nat.reduceMul, Nat.reduceDiv, Nat.reduceMod, Nat.reducePow, Nat.reduceLeDiff, Nat.reduceLT, Nat.reduceGT, Nat.reduceEqDiff, Nat.reduceBEq, Nat.reduceSubDiff, Nat.reduceBeqDiff, Int.reduceLE, Int.reduceLT, Int.reduceEq, Int.reduceToNat, Int.reduceAdd, Int.reduceSub, Int.reduceMul, Int.reduceNeg, Int.reduceGE, Int.reduceGT, Int.reduceNegSucc, hb2, hc2]
  refine call_A (V_Best p s) rfl rfl ?_
  refine run_sound 4000 _ ?_
  simp -implicitDefEqProofs only [go_sem, Nat.reduceSub, Nat.reduceAdd, Nat.reduceMul, Nat.reduceDiv, Nat.reduceMod, Nat.reducePow, Nat.reduceLeDiff, Nat.reduceLT, Nat.reduceGT, Nat.reduceEqDiff, Nat.reduceBEq, Nat.reduceSubDiff, Nat.reduceBeqDiff, Int.reduceLE, Int.reduceLT, Int.reduceEq, Int.reduceToNat, Int.reduceAdd, Int.reduceSub, Int.reduceMul, Int.reduceNeg, Int.reduceGE, Int.reduceGT, Int.reduceNegSucc]
  refine hdone ?_
  simp -implicitDefEqProofs only [go_sem, Nat.reduceSub, Nat.reduceAdd, Nat.reduceMul, Nat.reduceDiv, Nat.reduceMod, Nat.reducePow, Nat.reduceLeDiff, Nat.reduceLT, Nat.reduceGT, Nat.reduceEqDiff, Nat.reduceBEq, Nat.reduceSubDiff, Nat.reduceBeqDiff, Int.reduceLE, Int.reduceLT, Int.reduceEq, Int.reduceToNat, Int.reduceAdd, Int.reduceSub, Int.reduceMul, Int.reduceNeg, Int.reduceGE, Int.reduceGT, Int.reduceNegSucc]
  first | done | exact ⟨rfl, _, rfl⟩ | exact ⟨_, rfl⟩ | exact ⟨rfl, rfl⟩ | rfl
theorem H_Of2 (hp : List Blk) (t : V3) (b : Nat) (ht : t.In64) (hb : bget hp b = some ⟨[I t.x, I t.y, I t.z], 23⟩) :
    HSem Tryz.prog GD 136 [.ptr b 0] hp (fun ao h' => ao = .ret (PV (vAdd t ⟨0, 0, 0⟩)) ∧ ∃ ext, h' = hp ++ ext) := by
  have hb2 := bget_app hb
  refine HSem.of_body Tryz.func136 rfl (by kernel_rfl) ?_
  refine run_sound 4000 _ ?_
  simp -implicitDefEqProofs only [Tryz.f136, go_sem, Nat.reduceSub, Nat.reduceAdd, Nat.reduceMul, Nat.reduceDiv, Nat.reduceMod, Nat.reducePow, Nat.reduceLeDiff, Nat.reduceLT, Nat.reduceGT, Nat.reduceEqDiff, Nat.reduceBEq, Nat.reduceSubDiff, Nat.reduceBeqDiff, Int.reduceLE, Int.reduceLT, Int.reduceEq, Int.reduceToNat, Int.reduceAdd, Int.reduceSub, Int.reduceMul, Int.reduceNeg, Int.reduceGE, Int.reduceGT, Int.reduceNegSucc, hb2]
  refine call_A (V_VAdd t ⟨0, 0, 0⟩ ht ⟨by decide, by decide, by decide⟩) rfl rfl ?_
  refine run_sound 4000 _ ?_
  simp -implicitDefEqProofs only [go_sem, Nat.reduceSub, Nat.reduceAdd, Nat.reduceMul, Nat.reduceDiv, Nat.reduceMod, Nat.reducePow, Nat.reduceLeDiff, Nat.reduceLT, Nat.reduceGT, Nat.reduceEqDiff, Nat.reduceBEq, Nat.reduceSubDiff, Nat.reduceBeqDiff, Int.reduceLE, Int.reduceLT, Int.reduceEq, Int.reduceToNat, Int.reduceAdd, Int.reduceSub, Int.reduceMul, Int.reduceNeg, Int.reduceGE, Int.reduceGT, Int.reduceNegSucc]
  refine hdone ?_
  simp -implicitDefEqProofs only [go_sem, Nat.reduceSub, Nat.reduceAdd, Nat.reduceMul, Nat.reduceDiv, Nat.reduceMod, Nat.reducePow, Nat.reduceLeDiff, Nat.reduceLT, Nat.reduceGT, Nat.reduceEqDiff, Nat.reduceBEq, Nat.reduceSubDiff, Nat.reduceBeqDiff, Int.reduceLE, Int.reduceLT, Int.reduceEq, Int.reduceToNat, Int.reduceAdd, Int.reduceSub, Int.reduceMul, Int.reduceNeg, Int.reduceGE, Int.reduceGT, Int.reduceNegSucc]
  first | done | exact ⟨rfl, _, rfl⟩ | exact ⟨_, rfl⟩ | exact ⟨rfl, rfl⟩ | rfl
theorem V_gain (p : S6) (s : Int) (short : Bool) (t : V3) (ht : t.In64) : VSem Tryz.prog GD 93 [p.av, I s, .bool short, t.av] (· = PV (gainF p s short t)) := by
  cases short
  · refine VSem.of_body Tryz.func93 rfl (by kernel_rfl) ?_
    refine run_sound 4000 _ ?_
    simp -implicitDefEqProofs only [Tryz.f93, go_sem, Nat.reduceSub, Nat.reduceAdd, Nat.reduceMul, Nat.reduceDiv, Nat.reduceMod, Nat.reducePow, Nat.reduceLeDiff, Nat.reduceLT, Nat.reduceGT, Nat.reduceEqDiff, Nat.reduceBEq, Nat.reduceSubDiff, Nat.reduceBeqDiff, Int.reduceLE, Int.reduceLT, Int.reduceEq, Int.reduceToNat, Int.reduceAdd, Int.reduceSub, Int.reduceMul, Int.reduceNeg, Int.reduceGE, Int.reduceGT, Int.reduceNegSucc]
    refine call_X (H_Of1 _ p s 0 1 rfl rfl) fun h' hh => ?_
    obtain ⟨ext, rfl⟩ := hh
    refine run_sound 4000 _ ?_
    simp -implicitDefEqProofs only [go_sem, Nat.reduceSub, Nat.reduceAdd, Nat.reduceMul, Nat.reduceDiv, Nat.reduceMod, Nat.reducePow, Nat.reduceLeDiff, Nat.reduceLT, Nat.reduceGT, Nat.reduceEqDiff, Nat.reduceBEq, Nat.reduceSubDiff, Nat.reduceBeqDiff, Int.reduceLE, Int.reduceLT, Int.reduceEq, Int.reduceToNat, Int.reduceAdd, Int.reduceSub, Int.reduceMul, Int.reduceNeg, Int.reduceGE, Int.reduceGT, Int.reduceNegSucc]
    refine done_ret ?_
    simp -implicitDefEqProofs only [go_sem, Nat.reduceSub, Nat.reduceAdd, Nat.reduceMul, Nat.reduceDiv, Nat.reduceMod, Nat.reducePow, Nat.reduceLeDiff, Nat.reduceLT, Nat.reduceGT, Nat.reduceEqDiff, Nat.reduceBEq, Nat.reduceSubDiff, Nat.reduceBeqDiff, Int.reduceLE, Int.reduceLT, Int.reduceEq, Int.reduceToNat, Int.reduceAdd, Int.reduceSub, Int.reduceMul, Int.reduceNeg, Int.reduceGE, Int.reduceGT, Int.reduceNegSucc]
    rfl
  · refine VSem.of_body Tryz.func93 rfl (by kernel_rfl) ?_
    refine run_sound 4000 _ ?_
    simp -implicitDefEqProofs only [Tryz.f93, go_sem, Nat.reduceSub, Nat.reduceAdd, Nat.reduceMul, Nat.reduceDiv, Nat.reduceMod, Nat.reducePow, Nat.reduceLeDiff, Nat.reduceLT, Nat.reduceGT, Nat.reduceEqDiff, Nat.reduceBEq, Nat.reduceSubDiff, Nat.reduceBeqDiff, Int.reduceLE, Int.reduceLT, Int.reduceEq, Int.reduceToNat, Int.reduceAdd, Int.reduceSub, Int.reduceMul, Int.reduceNeg, Int.reduceGE, Int.reduceGT, Int.reduceNegSucc]
    refine call_X (H_Of2 _ t 2 ht rfl) fun h' hh => ?_
    obtain ⟨ext, rfl⟩ := hh
    refine run_sound 4000 _ ?_
    simp -implicitDefEqProofs only [go_sem, Nat.reduceSub, Nat.reduceAdd, Nat.reduceMul, Nat.reduceDiv, Nat.reduceMod, Nat.reducePow, Nat.reduceLeDiff, Nat.reduceLT, Nat.reduceGT, Nat.reduceEqDiff, Nat.reduceBEq, Nat.reduceSubDiff, Nat.reduceBeqDiff, Int.reduceLE, Int.reduceLT, Int.reduceEq, Int.reduceToNat, Int.reduceAdd, Int.reduceSub, Int.reduceMul, Int.reduceNeg, Int.reduceGE, Int.reduceGT, Int.reduceNegSucc]
    refine done_ret ?_
    simp -implicitDefEqProofs only [go_sem, Nat.reduceSub, Nat.reduceAdd, Nat.reduceMul, Nat.reduceDiv, Nat.reduceMod, Nat.reducePow, Nat.reduceLeDiff, Nat.reduceLT, Nat.reduceGT, Nat.reduceEqDiff, Nat.reduceBEq, Nat.reduceSubDiff, Nat.reduceBeqDiff, Int.reduceLE, Int.reduceLT, Int.reduceEq, Int.reduceToNat, Int.reduceAdd, Int.reduceSub, Int.reduceMul, Int.reduceNeg, Int.reduceGE, Int.reduceGT, Int.reduceNegSucc]
    rfl

theorem V_Out (x : Int) (hx : In64 x) : VSem Tryz.prog GD 38 [I x] (· = I (outF x)) := by
  obtain ⟨hx1, hx2⟩ := hx
  have hq := evn_bound x 549755813888 (2 ^ 24) (by decide) (by decide) (by rw [show (2 : Int) ^ 24 = 16777216 from rfl]; omega) (by rw [show (2 : Int) ^ 24 = 16777216 from rfl]; omega)
  unfold outF
  refine VSem.of_body Tryz.func38 rfl (by kernel_rfl) ?_
  refine run_sound 4000 _ ?_
  simp -implicitDefEqProofs only [Tryz.f38, go_sem, Nat.reduceSub, Nat.reduceAdd, Nat.reduceMul, Nat.reduceDiv, Nat.reduceMod, Nat.reducePow, Nat.reduceLeDiff, Nat.reduceLT, Nat.reduceGT, Nat.reduceEqDiff, Nat.reduceBEq, Nat.reduceSubDiff, Nat.reduceBeqDiff, Int.reduceLE, Int.reduceLT, Int.reduceEq, Int.reduceToNat, Int.reduceAdd, Int.reduceSub, Int.reduceMul, Int.reduceNeg, Int.reduceGE, Int.reduceGT, Int.reduceNegSucc]
  refine call_E (V_Of x ⟨hx1, hx2⟩) rfl ?_
  refine run_sound 4000 _ ?_
  simp -implicitDefEqProofs only [go_sem, Nat.reduceSub, Nat.reduceAdd, Nat.reduceMul, Nat.reduceDiv, Nat.reduceMod, Nat.reducePow, Nat.reduceLeDiff, Nat.reduceLT, Nat.reduceGT, Nat.reduceEqDiff, Nat.reduceBEq, Nat.reduceSubDiff, Nat.reduceBeqDiff, Int.reduceLE, Int.reduceLT, Int.reduceEq, Int.reduceToNat, Int.reduceAdd, Int.reduceSub, Int.reduceMul, Int.reduceNeg, Int.reduceGE, Int.reduceGT, Int.reduceNegSucc]
  refine call_A (V_Half x 24 ⟨by omega, by omega⟩ (by decide)) rfl rfl ?_
  generalize evn x (2 ^ 24) = q at hq ⊢
  refine run_sound 4000 _ ?_
  simp -implicitDefEqProofs only [go_sem, Nat.reduceSub, Nat.reduceAdd, Nat.reduceMul, Nat.reduceDiv, Nat.reduceMod, Nat.reducePow, Nat.reduceLeDiff, Nat.reduceLT, Nat.reduceGT, Nat.reduceEqDiff, Nat.reduceBEq, Nat.reduceSubDiff, Nat.reduceBeqDiff, Int.reduceLE, Int.reduceLT, Int.reduceEq, Int.reduceToNat, Int.reduceAdd, Int.reduceSub, Int.reduceMul, Int.reduceNeg, Int.reduceGE, Int.reduceGT, Int.reduceNegSucc]
  refine call_A ((V_Int q ⟨by omega, by omega⟩).mono fun v hv => by rw [hv, mulInt, if_pos (show In64 q from ⟨by omega, by omega⟩), if_pos (show In64 q from ⟨by omega, by omega⟩)]) rfl rfl ?_
  refine run_sound 4000 _ ?_
  simp -implicitDefEqProofs only [go_sem, Nat.reduceSub, Nat.reduceAdd, Nat.reduceMul, Nat.reduceDiv, Nat.reduceMod, Nat.reducePow, Nat.reduceLeDiff, Nat.reduceLT, Nat.reduceGT, Nat.reduceEqDiff, Nat.reduceBEq, Nat.reduceSubDiff, Nat.reduceBeqDiff, Int.reduceLE, Int.reduceLT, Int.reduceEq, Int.reduceToNat, Int.reduceAdd, Int.reduceSub, Int.reduceMul, Int.reduceNeg, Int.reduceGE, Int.reduceGT, Int.reduceNegSucc]
  refine done_ret ?_
  simp -implicitDefEqProofs only [go_sem, Nat.reduceSub, Nat.reduceAdd, Nat.reduceMul, Nat.reduceDiv, Nat.reduceMod, Nat.reducePow, Nat.reduceLeDiff, Nat.reduceLT, Nat.reduceGT, Nat.reduceEqDiff, Nat.reduceBEq, Nat.reduceSubDiff, Nat.reduceBeqDiff, Int.reduceLE, Int.reduceLT, Int.reduceEq, Int.reduceToNat, Int.reduceAdd, Int.reduceSub, Int.reduceMul, Int.reduceNeg, Int.reduceGE, Int.reduceGT, Int.reduceNegSucc]

theorem V_root (a : Int) (ha : 0 ≤ a / 18446744073709551616) : VSem Tryz.prog GD 150 [W a] (· = .tuple [U (rootF a), I 0]) := by
  have h0 : decide (a / 18446744073709551616 < 0) = false := decide_eq_false (by omega)
  refine VSem.of_body Tryz.func150 rfl (by kernel_rfl) ?_
  refine run_sound 4000 _ ?_
  simp -implicitDefEqProofs only [Tryz.f150, go_sem, Nat.reduceSub, Nat.reduceAdd, Nat.reduceMul, Nat.reduceDiv, Nat.reduceMod, Nat.reducePow, Nat.reduceLeDiff, Nat.reduceLT, Nat.reduceGT, Nat.reduceEqDiff, Nat.reduceBEq, Nat.reduceSubDiff, Nat.reduceBeqDiff, Int.reduceLE, Int.reduceLT, Int.reduceEq, Int.reduceToNat, Int.reduceAdd, Int.reduceSub, Int.reduceMul, Int.reduceNeg, Int.reduceGE, Int.reduceGT, Int.reduceNegSucc, h0]
  refine loop_ind (fun j st => ∃ (i out : Int) (t6 t7 t8 t9 t10 t11 t12 t13 t14 t15 t16 t17 t18 t19 t20 t21 t22 t23 t24 t25 t26 t27 t28 t29 t30 t31 t32 t33 t34 t35 t36 t37 t38 t39 t40 t41 t42 t43 t44 t45 : AV), (i = j - 1 ∧ j ≤ 64 ∧ InU out ∧ riter (a / 18446744073709551616) (a % 18446744073709551616) j out = rootF a) ∧ st = ⟨[W a, .ptr 0 0, U 0, I 0, U out, I i, t6, t7, t8, t9, t10, t11, t12, t13, t14, t15, t16, t17, t18, t19, t20, t21, t22, t23, t24, t25, t26, t27, t28, t29, t30, t31, t32, t33, t34, t35, t36, t37, t38, t39, t40, t41, t42, t43, t44, t45], [⟨[.int .i64 (a / 18446744073709551616), .int .u64 (a % 18446744073709551616)], 139⟩], []⟩) 64 ⟨63, 0, _, _, _, _, _, _, _, _, _, _, _, _, _, _, _, _, _, _, _, _, _, _, _, _, _, _, _, _, _, _, _, _, _, _, _, _, _, _, _, _, ⟨rfl, by decide, ⟨by decide, by decide⟩, rfl⟩, rfl⟩ ?_
  rintro j _ ⟨i, out, t6, t7, t8, t9, t10, t11, t12, t13, t14, t15, t16, t17, t18, t19, t20, t21, t22, t23, t24, t25, t26, t27, t28, t29, t30, t31, t32, t33, t34, t35, t36, t37, t38, t39, t40, t41, t42, t43, t44, t45, ⟨hi, hj, hu, hr⟩, rfl⟩ ih
  by_cases hz : j = 0
  · subst hz
    have d : decide (0 ≤ i) = false := decide_eq_false (by omega)
    refine run_sound 4000 _ ?_
    simp -implicitDefEqProofs only [go_sem, Nat.reduceSub, Nat.reduceAdd, Nat.reduceMul, Nat.reduceDiv, Nat.reduceMod, Nat.reducePow, Nat.reduceLeDiff, Nat.reduceLT, Nat.reduceGT, Nat.reduceEqDiff, Nat.reduceBEq, Nat.reduceSubDiff, Nat.reduceBeqDiff, Int.reduceLE, Int.reduceLT, Int.reduceEq, Int.reduceToNat, Int.reduceAdd, Int.reduceSub, Int.reduceMul, Int.reduceNeg, Int.reduceGE, Int.reduceGT, Int.reduceNegSucc, d]
    refine done_ret ?_
    simp -implicitDefEqProofs only [go_sem, Nat.reduceSub, Nat.reduceAdd, Nat.reduceMul, Nat.reduceDiv, Nat.reduceMod, Nat.reducePow, Nat.reduceLeDiff, Nat.reduceLT, Nat.reduceGT, Nat.reduceEqDiff, Nat.reduceBEq, Nat.reduceSubDiff, Nat.reduceBeqDiff, Int.reduceLE, Int.reduceLT, Int.reduceEq, Int.reduceToNat, Int.reduceAdd, Int.reduceSub, Int.reduceMul, Int.reduceNeg, Int.reduceGE, Int.reduceGT, Int.reduceNegSucc]
    rw [show out = rootF a from hr]
  have d : decide (0 ≤ i) = true := decide_eq_true (by omega)
  have hw : IntKind.i64.wrap (i - 1) = i - 1 := by rw [IntKind.wrap_i64]; omega
  obtain ⟨j, rfl⟩ : ∃ j', j = j' + 1 := ⟨j - 1, by omega⟩
  have hij : (j : Int) = i := by omega
  have hr : riter (a / 18446744073709551616) (a % 18446744073709551616) j (rtry (a / 18446744073709551616) (a % 18446744073709551616) out i) = rootF a := by rw [← hij]; exact hr
  have hx := ibits_u64 .or out (IntKind.u64.wrap (1 * 2 ^ (if i.toNat ≤ 64 then i.toNat else 64)))
  refine run_sound 4000 _ ?_
  simp -implicitDefEqProofs only [go_sem, Nat.reduceSub, Nat.reduceAdd, Nat.reduceMul, Nat.reduceDiv, Nat.reduceMod, Nat.reducePow, Nat.reduceLeDiff, Nat.reduceLT, Nat.reduceGT, Nat.reduceEqDiff, Nat.reduceBEq, Nat.reduceSubDiff, Nat.reduceBeqDiff, Int.reduceLE, Int.reduceLT, Int.reduceEq, Int.reduceToNat, Int.reduceAdd, Int.reduceSub, Int.reduceMul, Int.reduceNeg, Int.reduceGE, Int.reduceGT, Int.reduceNegSucc, d]
  refine call_E (V_Mul64 _ _ hx hx) rfl ?_
  have hb : ibits .or .u64 out (IntKind.u64.wrap (1 * 2 ^ (if i.toNat ≤ 64 then i.toNat else 64))) = rbit out i := rfl
  rw [hb] at hx ⊢
  by_cases c1 : IntKind.u64.wrap (a / 18446744073709551616) < rbit out i * rbit out i / 18446744073709551616
  · have c1' := decide_eq_true c1
    refine run_sound 4000 _ ?_
    simp -implicitDefEqProofs only [go_sem, Nat.reduceSub, Nat.reduceAdd, Nat.reduceMul, Nat.reduceDiv, Nat.reduceMod, Nat.reducePow, Nat.reduceLeDiff, Nat.reduceLT, Nat.reduceGT, Nat.reduceEqDiff, Nat.reduceBEq, Nat.reduceSubDiff, Nat.reduceBeqDiff, Int.reduceLE, Int.reduceLT, Int.reduceEq, Int.reduceToNat, Int.reduceAdd, Int.reduceSub, Int.reduceMul, Int.reduceNeg, Int.reduceGE, Int.reduceGT, Int.reduceNegSucc, c1', hw]
    refine ih j _ (by omega) ⟨i - 1, out, _, _, _, _, _, _, _, _, _, _, _, _, _, _, _, _, _, _, _, _, _, _, _, _, _, _, _, _, _, _, _, _, _, _, _, _, _, _, _, _, ⟨by omega, by omega, hu, ?_⟩, rfl⟩
    rw [← hr, rtry, if_pos (.inl c1)]
  have c1' := decide_eq_false c1
  by_cases c2 : rbit out i * rbit out i / 18446744073709551616 = IntKind.u64.wrap (a / 18446744073709551616)
  rotate_left
  · have c2' := decide_eq_false c2
    refine run_sound 4000 _ ?_
    simp -implicitDefEqProofs only [go_sem, Nat.reduceSub, Nat.reduceAdd, Nat.reduceMul, Nat.reduceDiv, Nat.reduceMod, Nat.reducePow, Nat.reduceLeDiff, Nat.reduceLT, Nat.reduceGT, Nat.reduceEqDiff, Nat.reduceBEq, Nat.reduceSubDiff, Nat.reduceBeqDiff, Int.reduceLE, Int.reduceLT, Int.reduceEq, Int.reduceToNat, Int.reduceAdd, Int.reduceSub, Int.reduceMul, Int.reduceNeg, Int.reduceGE, Int.reduceGT, Int.reduceNegSucc, c1', c2', hw]
    refine ih j _ (by omega) ⟨i - 1, rbit out i, _, _, _, _, _, _, _, _, _, _, _, _, _, _, _, _, _, _, _, _, _, _, _, _, _, _, _, _, _, _, _, _, _, _, _, _, _, _, _, _, ⟨by omega, by omega, hx, ?_⟩, rfl⟩
    rw [← hr, rtry, if_neg (fun h => h.elim c1 fun h => c2 h.1)]
  have c2' := decide_eq_true c2
  by_cases c3 : a % 18446744073709551616 < rbit out i * rbit out i % 18446744073709551616
  · have c3' := decide_eq_true c3
    refine run_sound 4000 _ ?_
    simp -implicitDefEqProofs only [go_sem, Nat.reduceSub, Nat.reduceAdd, Nat.reduceMul, Nat.reduceDiv, Nat.reduceMod, Nat.reducePow, Nat.reduceLeDiff, Nat.reduceLT, Nat.reduceGT, Nat.reduceEqDiff, Nat.reduceBEq, Nat.reduceSubDiff, Nat.reduceBeqDiff, Int.reduceLE, Int.reduceLT, Int.reduceEq, Int.reduceToNat, Int.reduceAdd, Int.reduceSub, Int.reduceMul, Int.reduceNeg, Int.reduceGE, Int.reduceGT, Int.reduceNegSucc, c1', c2', c3', hw]
    refine ih j _ (by omega) ⟨i - 1, out, _, _, _, _, _, _, _, _, _, _, _, _, _, _, _, _, _, _, _, _, _, _, _, _, _, _, _, _, _, _, _, _, _, _, _, _, _, _, _, _, ⟨by omega, by omega, hu, ?_⟩, rfl⟩
    rw [← hr, rtry, if_pos (.inr ⟨c2, c3⟩)]
  · have c3' := decide_eq_false c3
    refine run_sound 4000 _ ?_
    simp -implicitDefEqProofs only [go_sem, Nat.reduceSub, Nat.reduceAdd, Nat.reduceMul, Nat.reduceDiv, Nat.reduceMod, Nat.reducePow, Nat.reduceLeDiff, Nat.reduceLT, Nat.reduceGT, Nat.reduceEqDiff, Nat.reduceBEq, Nat.reduceSubDiff, Nat.reduceBeqDiff, Int.reduceLE, Int.reduceLT, Int.reduceEq, Int.reduceToNat, Int.reduceAdd, Int.reduceSub, Int.reduceMul, Int.reduceNeg, Int.reduceGE, Int.reduceGT, Int.reduceNegSucc, c1', c2', c3', hw]
    refine ih j _ (by omega) ⟨i - 1, rbit out i, _, _, _, _, _, _, _, _, _, _, _, _, _, _, _, _, _, _, _, _, _, _, _, _, _, _, _, _, _, _, _, _, _, _, _, _, _, _, _, _, ⟨by omega, by omega, hx, ?_⟩, rfl⟩
    rw [← hr, rtry, if_neg (fun h => h.elim c1 fun h => c3 h.2)]

theorem V_Mean (x y : Int) (hx : In64 x) (hy : In64 y) : VSem Tryz.prog GD 115 [I x, I y] (· = I (meanF x y)) := by
  unfold meanF
  by_cases h1 : x < 0
  · have h1' := decide_eq_true h1
    rw [if_pos (.inl h1)]
    refine VSem.of_body Tryz.func115 rfl (by kernel_rfl) ?_
    refine run_sound 4000 _ ?_
    simp -implicitDefEqProofs only [Tryz.f115, go_sem, Nat.reduceSub, Nat.reduceAdd, Nat.reduceMul, Nat.reduceDiv, Nat.reduceMod, Nat.reducePow, Nat.reduceLeDiff, Nat.reduceLT, Nat.reduceGT, Nat.reduceEqDiff, Nat.reduceBEq, Nat.reduceSubDiff, Nat.reduceBeqDiff, Int.reduceLE, Int.reduceLT, Int.reduceEq, Int.reduceToNat, Int.reduceAdd, Int.reduceSub, Int.reduceMul, Int.reduceNeg, Int.reduceGE, Int.reduceGT, Int.reduceNegSucc, h1']
    refine done_ret ?_
    simp -implicitDefEqProofs only [go_sem, Nat.reduceSub, Nat.reduceAdd, Nat.reduceMul, Nat.reduceDiv, Nat.reduceMod, Nat.reducePow, Nat.reduceLeDiff, Nat.reduceLT, Nat.reduceGT, Nat.reduceEqDiff, Nat.reduceBEq, Nat.reduceSubDiff, Nat.reduceBeqDiff, Int.reduceLE, Int.reduceLT, Int.reduceEq, Int.reduceToNat, Int.reduceAdd, Int.reduceSub, Int.reduceMul, Int.reduceNeg, Int.reduceGE, Int.reduceGT, Int.reduceNegSucc]
  have h1' := decide_eq_false h1
  by_cases h2 : y < 0
  · have h2' := decide_eq_true h2
    rw [if_pos (.inr h2)]
    refine VSem.of_body Tryz.func115 rfl (by kernel_rfl) ?_
    refine run_sound 4000 _ ?_
    simp -implicitDefEqProofs only [Tryz.f115, go_sem, Nat.reduceSub, Nat.reduceAdd, Nat.reduceMul, Nat.reduceDiv, Nat.reduceMod, Nat.reducePow, Nat.reduceLeDiff, Nat.reduceLT, Nat.reduceGT, Nat.reduceEqDiff, Nat.reduceBEq, Nat.reduceSubDiff, Nat.reduceBeqDiff, Int.reduceLE, Int.reduceLT, Int.reduceEq, Int.reduceToNat, Int.reduceAdd, Int.reduceSub, Int.reduceMul, Int.reduceNeg, Int.reduceGE, Int.reduceGT, Int.reduceNegSucc, h1', h2']
    refine done_ret ?_
    simp -implicitDefEqProofs only [go_sem, Nat.reduceSub, Nat.reduceAdd, Nat.reduceMul, Nat.reduceDiv, Nat.reduceMod, Nat.reducePow, Nat.reduceLeDiff, Nat.reduceLT, Nat.reduceGT, Nat.reduceEqDiff, Nat.reduceBEq, Nat.reduceSubDiff, Nat.reduceBeqDiff, Int.reduceLE, Int.reduceLT, Int.reduceEq, Int.reduceToNat, Int.reduceAdd, Int.reduceSub, Int.reduceMul, Int.reduceNeg, Int.reduceGE, Int.reduceGT, Int.reduceNegSucc]
  have h2' := decide_eq_false h2
  rw [if_neg (fun h => h.elim h1 h2)]
  refine VSem.of_body Tryz.func115 rfl (by kernel_rfl) ?_
  refine run_sound 4000 _ ?_
  simp -implicitDefEqProofs only [Tryz.f115, go_sem, Nat.reduceSub, Nat.reduceAdd, Nat.reduceMul, Nat.reduceDiv, Nat.reduceMod, Nat.reducePow, Nat.reduceLeDiff, Nat.reduceLT, Nat.reduceGT, Nat.reduceEqDiff, Nat.reduceBEq, Nat.reduceSubDiff, Nat.reduceBeqDiff, Int.reduceLE, Int.reduceLT, Int.reduceEq, Int.reduceToNat, Int.reduceAdd, Int.reduceSub, Int.reduceMul, Int.reduceNeg, Int.reduceGE, Int.reduceGT, Int.reduceNegSucc, h1', h2']
  refine call_E (V_Mul x y hx hy) rfl ?_
  refine run_sound 4000 _ ?_
  simp -implicitDefEqProofs only [go_sem, Nat.reduceSub, Nat.reduceAdd, Nat.reduceMul, Nat.reduceDiv, Nat.reduceMod, Nat.reducePow, Nat.reduceLeDiff, Nat.reduceLT, Nat.reduceGT, Nat.reduceEqDiff, Nat.reduceBEq, Nat.reduceSubDiff, Nat.reduceBeqDiff, Int.reduceLE, Int.reduceLT, Int.reduceEq, Int.reduceToNat, Int.reduceAdd, Int.reduceSub, Int.reduceMul, Int.reduceNeg, Int.reduceGE, Int.reduceGT, Int.reduceNegSucc]
  have := Int.mul_nonneg (show 0 ≤ x by omega) (show 0 ≤ y by omega)
  refine call_E (V_root (x * y) (by omega)) rfl ?_
  refine run_sound 4000 _ ?_
  simp -implicitDefEqProofs only [go_sem, Nat.reduceSub, Nat.reduceAdd, Nat.reduceMul, Nat.reduceDiv, Nat.reduceMod, Nat.reducePow, Nat.reduceLeDiff, Nat.reduceLT, Nat.reduceGT, Nat.reduceEqDiff, Nat.reduceBEq, Nat.reduceSubDiff, Nat.reduceBeqDiff, Int.reduceLE, Int.reduceLT, Int.reduceEq, Int.reduceToNat, Int.reduceAdd, Int.reduceSub, Int.reduceMul, Int.reduceNeg, Int.reduceGE, Int.reduceGT, Int.reduceNegSucc]
  refine done_ret ?_
  simp -implicitDefEqProofs only [go_sem, Nat.reduceSub, Nat.reduceAdd, Nat.reduceMul, Nat.reduceDiv, Nat.reduceMod, Nat.reducePow, Nat.reduceLeDiff, Nat.reduceLT, Nat.reduceGT, Nat.reduceEqDiff, Nat.reduceBEq, Nat.reduceSubDiff, Nat.reduceBeqDiff, Int.reduceLE, Int.reduceLT, Int.reduceEq, Int.reduceToNat, Int.reduceAdd, Int.reduceSub, Int.reduceMul, Int.reduceNeg, Int.reduceGE, Int.reduceGT, Int.reduceNegSucc]

theorem wrap_in (x : Int) : In64 (IntKind.i64.wrap x) := by rw [IntKind.wrap_i64]; exact ⟨by omega, by omega⟩
theorem V_Tame (p : S6) (f c : V3) (hp : p.In64) : VSem Tryz.prog GD 52 [p.av, f.av, c.av] (· = PS (tameF p f c)) := by
  unfold tameF
  refine VSem.of_body Tryz.func52 rfl (by kernel_rfl) ?_
  refine run_sound 4000 _ ?_
  simp -implicitDefEqProofs only [Tryz.f52, go_sem, Nat.reduceSub, Nat.reduceAdd, Nat.reduceMul, Nat.reduceDiv, Nat.reduceMod, Nat.reducePow, Nat.reduceLeDiff, Nat.reduceLT, Nat.reduceGT, Nat.reduceEqDiff, Nat.reduceBEq, Nat.reduceSubDiff, Nat.reduceBeqDiff, Int.reduceLE, Int.reduceLT, Int.reduceEq, Int.reduceToNat, Int.reduceAdd, Int.reduceSub, Int.reduceMul, Int.reduceNeg, Int.reduceGE, Int.reduceGT, Int.reduceNegSucc]
  refine call_A (V_May f c) rfl rfl ?_
  cases hm : may f c
  · rw [if_neg (by simp)]
    refine run_sound 4000 _ ?_
    simp -implicitDefEqProofs only [go_sem, Nat.reduceSub, Nat.reduceAdd, Nat.reduceMul, Nat.reduceDiv, Nat.reduceMod, Nat.reducePow, Nat.reduceLeDiff, Nat.reduceLT, Nat.reduceGT, Nat.reduceEqDiff, Nat.reduceBEq, Nat.reduceSubDiff, Nat.reduceBeqDiff, Int.reduceLE, Int.reduceLT, Int.reduceEq, Int.reduceToNat, Int.reduceAdd, Int.reduceSub, Int.reduceMul, Int.reduceNeg, Int.reduceGE, Int.reduceGT, Int.reduceNegSucc]
    refine done_ret ?_
    simp -implicitDefEqProofs only [go_sem, Nat.reduceSub, Nat.reduceAdd, Nat.reduceMul, Nat.reduceDiv, Nat.reduceMod, Nat.reducePow, Nat.reduceLeDiff, Nat.reduceLT, Nat.reduceGT, Nat.reduceEqDiff, Nat.reduceBEq, Nat.reduceSubDiff, Nat.reduceBeqDiff, Int.reduceLE, Int.reduceLT, Int.reduceEq, Int.reduceToNat, Int.reduceAdd, Int.reduceSub, Int.reduceMul, Int.reduceNeg, Int.reduceGE, Int.reduceGT, Int.reduceNegSucc]
  rw [if_pos rfl]
  refine run_sound 4000 _ ?_
  simp -implicitDefEqProofs only [go_sem, Nat.reduceSub, Nat.reduceAdd, Nat.reduceMul, Nat.reduceDiv, Nat.reduceMod, Nat.reducePow, Nat.reduceLeDiff, Nat.reduceLT, Nat.reduceGT, Nat.reduceEqDiff, Nat.reduceBEq, Nat.reduceSubDiff, Nat.reduceBeqDiff, Int.reduceLE, Int.reduceLT, Int.reduceEq, Int.reduceToNat, Int.reduceAdd, Int.reduceSub, Int.reduceMul, Int.reduceNeg, Int.reduceGE, Int.reduceGT, Int.reduceNegSucc]
  refine call_A (V_Main p) rfl rfl ?_
  refine run_sound 4000 _ ?_
  simp -implicitDefEqProofs only [go_sem, Nat.reduceSub, Nat.reduceAdd, Nat.reduceMul, Nat.reduceDiv, Nat.reduceMod, Nat.reducePow, Nat.reduceLeDiff, Nat.reduceLT, Nat.reduceGT, Nat.reduceEqDiff, Nat.reduceBEq, Nat.reduceSubDiff, Nat.reduceBeqDiff, Int.reduceLE, Int.reduceLT, Int.reduceEq, Int.reduceToNat, Int.reduceAdd, Int.reduceSub, Int.reduceMul, Int.reduceNeg, Int.reduceGE, Int.reduceGT, Int.reduceNegSucc]
  obtain ⟨d0, e0⟩ : ∃ d, mm p.a f.x c.x = d := ⟨_, rfl⟩
  obtain ⟨d1, e1⟩ : ∃ d, mm p.d f.y c.y = d := ⟨_, rfl⟩
  obtain ⟨d2, e2⟩ : ∃ d, mm p.f f.z c.z = d := ⟨_, rfl⟩
  rw [e0, e1, e2]
  unfold mm at e0 e1 e2
  refine loop_go ?_
  refine run_sound 4000 _ ?_
  simp -implicitDefEqProofs only [go_sem, Nat.reduceSub, Nat.reduceAdd, Nat.reduceMul, Nat.reduceDiv, Nat.reduceMod, Nat.reducePow, Nat.reduceLeDiff, Nat.reduceLT, Nat.reduceGT, Nat.reduceEqDiff, Nat.reduceBEq, Nat.reduceSubDiff, Nat.reduceBeqDiff, Int.reduceLE, Int.reduceLT, Int.reduceEq, Int.reduceToNat, Int.reduceAdd, Int.reduceSub, Int.reduceMul, Int.reduceNeg, Int.reduceGE, Int.reduceGT, Int.reduceNegSucc]
  refine draw_sem mixed [] (fun _ _ _ => True) [(0, []), (1, []), (2, []), (3, []), (4, []), (5, []), (6, []), (7, []), (8, []), (9, []), (10, []), (11, []), (12, []), (13, [])] (by kernel_rfl) ?_
  simp -implicitDefEqProofs only [go_sem, Nat.reduceSub, Nat.reduceAdd, Nat.reduceMul, Nat.reduceDiv, Nat.reduceMod, Nat.reducePow, Nat.reduceLeDiff, Nat.reduceLT, Nat.reduceGT, Nat.reduceEqDiff, Nat.reduceBEq, Nat.reduceSubDiff, Nat.reduceBeqDiff, Int.reduceLE, Int.reduceLT, Int.reduceEq, Int.reduceToNat, Int.reduceAdd, Int.reduceSub, Int.reduceMul, Int.reduceNeg, Int.reduceGE, Int.reduceGT, Int.reduceNegSucc]
  simp only [e0]
  refine run_sound 4000 _ ?_
  simp -implicitDefEqProofs only [go_sem, Nat.reduceSub, Nat.reduceAdd, Nat.reduceMul, Nat.reduceDiv, Nat.reduceMod, Nat.reducePow, Nat.reduceLeDiff, Nat.reduceLT, Nat.reduceGT, Nat.reduceEqDiff, Nat.reduceBEq, Nat.reduceSubDiff, Nat.reduceBeqDiff, Int.reduceLE, Int.reduceLT, Int.reduceEq, Int.reduceToNat, Int.reduceAdd, Int.reduceSub, Int.reduceMul, Int.reduceNeg, Int.reduceGE, Int.reduceGT, Int.reduceNegSucc]
  refine loop_go ?_
  refine run_sound 4000 _ ?_
  simp -implicitDefEqProofs only [go_sem, Nat.reduceSub, Nat.reduceAdd, Nat.reduceMul, Nat.reduceDiv, Nat.reduceMod, Nat.reducePow, Nat.reduceLeDiff, Nat.reduceLT, Nat.reduceGT, Nat.reduceEqDiff, Nat.reduceBEq, Nat.reduceSubDiff, Nat.reduceBeqDiff, Int.reduceLE, Int.reduceLT, Int.reduceEq, Int.reduceToNat, Int.reduceAdd, Int.reduceSub, Int.reduceMul, Int.reduceNeg, Int.reduceGE, Int.reduceGT, Int.reduceNegSucc]
  refine draw_sem mixed [] (fun _ _ _ => True) [(0, []), (1, []), (2, []), (3, []), (4, []), (5, []), (6, []), (7, []), (8, []), (9, []), (10, []), (11, []), (12, []), (13, [])] (by kernel_rfl) ?_
  simp -implicitDefEqProofs only [go_sem, Nat.reduceSub, Nat.reduceAdd, Nat.reduceMul, Nat.reduceDiv, Nat.reduceMod, Nat.reducePow, Nat.reduceLeDiff, Nat.reduceLT, Nat.reduceGT, Nat.reduceEqDiff, Nat.reduceBEq, Nat.reduceSubDiff, Nat.reduceBeqDiff, Int.reduceLE, Int.reduceLT, Int.reduceEq, Int.reduceToNat, Int.reduceAdd, Int.reduceSub, Int.reduceMul, Int.reduceNeg, Int.reduceGE, Int.reduceGT, Int.reduceNegSucc]
  simp only [e1]
  refine run_sound 4000 _ ?_
  simp -implicitDefEqProofs only [go_sem, Nat.reduceSub, Nat.reduceAdd, Nat.reduceMul, Nat.reduceDiv, Nat.reduceMod, Nat.reducePow, Nat.reduceLeDiff, Nat.reduceLT, Nat.reduceGT, Nat.reduceEqDiff, Nat.reduceBEq, Nat.reduceSubDiff, Nat.reduceBeqDiff, Int.reduceLE, Int.reduceLT, Int.reduceEq, Int.reduceToNat, Int.reduceAdd, Int.reduceSub, Int.reduceMul, Int.reduceNeg, Int.reduceGE, Int.reduceGT, Int.reduceNegSucc]
  refine loop_go ?_
  refine run_sound 4000 _ ?_
  simp -implicitDefEqProofs only [go_sem, Nat.reduceSub, Nat.reduceAdd, Nat.reduceMul, Nat.reduceDiv, Nat.reduceMod, Nat.reducePow, Nat.reduceLeDiff, Nat.reduceLT, Nat.reduceGT, Nat.reduceEqDiff, Nat.reduceBEq, Nat.reduceSubDiff, Nat.reduceBeqDiff, Int.reduceLE, Int.reduceLT, Int.reduceEq, Int.reduceToNat, Int.reduceAdd, Int.reduceSub, Int.reduceMul, Int.reduceNeg, Int.reduceGE, Int.reduceGT, Int.reduceNegSucc]
  refine draw_sem mixed [] (fun _ _ _ => True) [(0, []), (1, []), (2, []), (3, []), (4, []), (5, []), (6, []), (7, []), (8, []), (9, []), (10, []), (11, []), (12, []), (13, [])] (by kernel_rfl) ?_
  simp -implicitDefEqProofs only [go_sem, Nat.reduceSub, Nat.reduceAdd, Nat.reduceMul, Nat.reduceDiv, Nat.reduceMod, Nat.reducePow, Nat.reduceLeDiff, Nat.reduceLT, Nat.reduceGT, Nat.reduceEqDiff, Nat.reduceBEq, Nat.reduceSubDiff, Nat.reduceBeqDiff, Int.reduceLE, Int.reduceLT, Int.reduceEq, Int.reduceToNat, Int.reduceAdd, Int.reduceSub, Int.reduceMul, Int.reduceNeg, Int.reduceGE, Int.reduceGT, Int.reduceNegSucc]
  simp only [e2]
  refine run_sound 4000 _ ?_
  simp -implicitDefEqProofs only [go_sem, Nat.reduceSub, Nat.reduceAdd, Nat.reduceMul, Nat.reduceDiv, Nat.reduceMod, Nat.reducePow, Nat.reduceLeDiff, Nat.reduceLT, Nat.reduceGT, Nat.reduceEqDiff, Nat.reduceBEq, Nat.reduceSubDiff, Nat.reduceBeqDiff, Int.reduceLE, Int.reduceLT, Int.reduceEq, Int.reduceToNat, Int.reduceAdd, Int.reduceSub, Int.reduceMul, Int.reduceNeg, Int.reduceGE, Int.reduceGT, Int.reduceNegSucc]
  refine loop_go ?_
  refine run_sound 4000 _ ?_
  simp -implicitDefEqProofs only [go_sem, Nat.reduceSub, Nat.reduceAdd, Nat.reduceMul, Nat.reduceDiv, Nat.reduceMod, Nat.reducePow, Nat.reduceLeDiff, Nat.reduceLT, Nat.reduceGT, Nat.reduceEqDiff, Nat.reduceBEq, Nat.reduceSubDiff, Nat.reduceBeqDiff, Int.reduceLE, Int.reduceLT, Int.reduceEq, Int.reduceToNat, Int.reduceAdd, Int.reduceSub, Int.reduceMul, Int.reduceNeg, Int.reduceGE, Int.reduceGT, Int.reduceNegSucc]
  refine call_A (V_Diag ⟨d0, d1, d2⟩) rfl rfl ?_
  refine run_sound 4000 _ ?_
  simp -implicitDefEqProofs only [go_sem, Nat.reduceSub, Nat.reduceAdd, Nat.reduceMul, Nat.reduceDiv, Nat.reduceMod, Nat.reducePow, Nat.reduceLeDiff, Nat.reduceLT, Nat.reduceGT, Nat.reduceEqDiff, Nat.reduceBEq, Nat.reduceSubDiff, Nat.reduceBeqDiff, Int.reduceLE, Int.reduceLT, Int.reduceEq, Int.reduceToNat, Int.reduceAdd, Int.reduceSub, Int.reduceMul, Int.reduceNeg, Int.reduceGE, Int.reduceGT, Int.reduceNegSucc]
  refine loop_go ?_
  refine run_sound 4000 _ ?_
  simp -implicitDefEqProofs only [go_sem, Nat.reduceSub, Nat.reduceAdd, Nat.reduceMul, Nat.reduceDiv, Nat.reduceMod, Nat.reducePow, Nat.reduceLeDiff, Nat.reduceLT, Nat.reduceGT, Nat.reduceEqDiff, Nat.reduceBEq, Nat.reduceSubDiff, Nat.reduceBeqDiff, Int.reduceLE, Int.reduceLT, Int.reduceEq, Int.reduceToNat, Int.reduceAdd, Int.reduceSub, Int.reduceMul, Int.reduceNeg, Int.reduceGE, Int.reduceGT, Int.reduceNegSucc]
  refine loop_go ?_
  refine run_sound 4000 _ ?_
  simp -implicitDefEqProofs only [go_sem, Nat.reduceSub, Nat.reduceAdd, Nat.reduceMul, Nat.reduceDiv, Nat.reduceMod, Nat.reducePow, Nat.reduceLeDiff, Nat.reduceLT, Nat.reduceGT, Nat.reduceEqDiff, Nat.reduceBEq, Nat.reduceSubDiff, Nat.reduceBeqDiff, Int.reduceLE, Int.reduceLT, Int.reduceEq, Int.reduceToNat, Int.reduceAdd, Int.reduceSub, Int.reduceMul, Int.reduceNeg, Int.reduceGE, Int.reduceGT, Int.reduceNegSucc]
  refine loop_go ?_
  refine run_sound 4000 _ ?_
  simp -implicitDefEqProofs only [go_sem, Nat.reduceSub, Nat.reduceAdd, Nat.reduceMul, Nat.reduceDiv, Nat.reduceMod, Nat.reducePow, Nat.reduceLeDiff, Nat.reduceLT, Nat.reduceGT, Nat.reduceEqDiff, Nat.reduceBEq, Nat.reduceSubDiff, Nat.reduceBeqDiff, Int.reduceLE, Int.reduceLT, Int.reduceEq, Int.reduceToNat, Int.reduceAdd, Int.reduceSub, Int.reduceMul, Int.reduceNeg, Int.reduceGE, Int.reduceGT, Int.reduceNegSucc]
  refine loop_go ?_
  refine run_sound 4000 _ ?_
  simp -implicitDefEqProofs only [go_sem, Nat.reduceSub, Nat.reduceAdd, Nat.reduceMul, Nat.reduceDiv, Nat.reduceMod, Nat.reducePow, Nat.reduceLeDiff, Nat.reduceLT, Nat.reduceGT, Nat.reduceEqDiff, Nat.reduceBEq, Nat.reduceSubDiff, Nat.reduceBeqDiff, Int.reduceLE, Int.reduceLT, Int.reduceEq, Int.reduceToNat, Int.reduceAdd, Int.reduceSub, Int.reduceMul, Int.reduceNeg, Int.reduceGE, Int.reduceGT, Int.reduceNegSucc]
  refine call_A (V_At p 1 0 (by decide) (by decide)) rfl rfl ?_
  refine run_sound 4000 _ ?_
  simp -implicitDefEqProofs only [go_sem, Nat.reduceSub, Nat.reduceAdd, Nat.reduceMul, Nat.reduceDiv, Nat.reduceMod, Nat.reducePow, Nat.reduceLeDiff, Nat.reduceLT, Nat.reduceGT, Nat.reduceEqDiff, Nat.reduceBEq, Nat.reduceSubDiff, Nat.reduceBeqDiff, Int.reduceLE, Int.reduceLT, Int.reduceEq, Int.reduceToNat, Int.reduceAdd, Int.reduceSub, Int.reduceMul, Int.reduceNeg, Int.reduceGE, Int.reduceGT, Int.reduceNegSucc]
  refine draw_sem mixed [115, 55, 114] (fun g _ v => if g = 115 then v = I (meanF (IntKind.i64.wrap (d1 - f.y)) (IntKind.i64.wrap (d0 - f.x))) else if g = 55 then v = I (clamp p.b (meanF (IntKind.i64.wrap (d1 - f.y)) (IntKind.i64.wrap (d0 - f.x)))) else v = PS (S6.mk d0 (clamp p.b (meanF (IntKind.i64.wrap (d1 - f.y)) (IntKind.i64.wrap (d0 - f.x)))) 0 d1 0 d2, 0)) [(0, []), (1, []), (2, []), (3, []), (4, []), (5, []), (6, []), (7, []), (8, []), (9, []), (10, []), (11, []), (12, []), (13, []), (14, []), (15, []), (16, []), (17, []), (18, []), (19, []), (20, []), (21, []), (22, []), (23, []), (24, [])] (by kernel_rfl) ?_
  simp -implicitDefEqProofs only [go_sem, Nat.reduceSub, Nat.reduceAdd, Nat.reduceMul, Nat.reduceDiv, Nat.reduceMod, Nat.reducePow, Nat.reduceLeDiff, Nat.reduceLT, Nat.reduceGT, Nat.reduceEqDiff, Nat.reduceBEq, Nat.reduceSubDiff, Nat.reduceBeqDiff, Int.reduceLE, Int.reduceLT, Int.reduceEq, Int.reduceToNat, Int.reduceAdd, Int.reduceSub, Int.reduceMul, Int.reduceNeg, Int.reduceGE, Int.reduceGT, Int.reduceNegSucc]
  refine dcall_E (V_Mean _ _ (wrap_in _) (wrap_in _)) rfl rfl (fun _ => Iff.rfl) ?_
  simp -implicitDefEqProofs only [go_sem, Nat.reduceSub, Nat.reduceAdd, Nat.reduceMul, Nat.reduceDiv, Nat.reduceMod, Nat.reducePow, Nat.reduceLeDiff, Nat.reduceLT, Nat.reduceGT, Nat.reduceEqDiff, Nat.reduceBEq, Nat.reduceSubDiff, Nat.reduceBeqDiff, Int.reduceLE, Int.reduceLT, Int.reduceEq, Int.reduceToNat, Int.reduceAdd, Int.reduceSub, Int.reduceMul, Int.reduceNeg, Int.reduceGE, Int.reduceGT, Int.reduceNegSucc]
  refine dcall_A (V_FClamp p.b _ (by exact hp.2.1) (meanF_in _ _)) rfl rfl rfl (fun _ => Iff.rfl) ?_
  simp -implicitDefEqProofs only [go_sem, Nat.reduceSub, Nat.reduceAdd, Nat.reduceMul, Nat.reduceDiv, Nat.reduceMod, Nat.reducePow, Nat.reduceLeDiff, Nat.reduceLT, Nat.reduceGT, Nat.reduceEqDiff, Nat.reduceBEq, Nat.reduceSubDiff, Nat.reduceBeqDiff, Int.reduceLE, Int.reduceLT, Int.reduceEq, Int.reduceToNat, Int.reduceAdd, Int.reduceSub, Int.reduceMul, Int.reduceNeg, Int.reduceGE, Int.reduceGT, Int.reduceNegSucc]
  refine dcall_A (V_Put ⟨d0, 0, 0, d1, 0, d2⟩ 1 0 (clamp p.b (meanF (IntKind.i64.wrap (d1 - f.y)) (IntKind.i64.wrap (d0 - f.x)))) (by decide) (by decide)) rfl rfl rfl (fun _ => Iff.rfl) ?_
  simp -implicitDefEqProofs only [go_sem, Nat.reduceSub, Nat.reduceAdd, Nat.reduceMul, Nat.reduceDiv, Nat.reduceMod, Nat.reducePow, Nat.reduceLeDiff, Nat.reduceLT, Nat.reduceGT, Nat.reduceEqDiff, Nat.reduceBEq, Nat.reduceSubDiff, Nat.reduceBeqDiff, Int.reduceLE, Int.reduceLT, Int.reduceEq, Int.reduceToNat, Int.reduceAdd, Int.reduceSub, Int.reduceMul, Int.reduceNeg, Int.reduceGE, Int.reduceGT, Int.reduceNegSucc]
  refine run_sound 4000 _ ?_
  simp -implicitDefEqProofs only [go_sem, Nat.reduceSub, Nat.reduceAdd, Nat.reduceMul, Nat.reduceDiv, Nat.reduceMod, Nat.reducePow, Nat.reduceLeDiff, Nat.reduceLT, Nat.reduceGT, Nat.reduceEqDiff, Nat.reduceBEq, Nat.reduceSubDiff, Nat.reduceBeqDiff, Int.reduceLE, Int.reduceLT, Int.reduceEq, Int.reduceToNat, Int.reduceAdd, Int.reduceSub, Int.reduceMul, Int.reduceNeg, Int.reduceGE, Int.reduceGT, Int.reduceNegSucc]
  refine loop_go ?_
  refine run_sound 4000 _ ?_
  simp -implicitDefEqProofs only [go_sem, Nat.reduceSub, Nat.reduceAdd, Nat.reduceMul, Nat.reduceDiv, Nat.reduceMod, Nat.reducePow, Nat.reduceLeDiff, Nat.reduceLT, Nat.reduceGT, Nat.reduceEqDiff, Nat.reduceBEq, Nat.reduceSubDiff, Nat.reduceBeqDiff, Int.reduceLE, Int.reduceLT, Int.reduceEq, Int.reduceToNat, Int.reduceAdd, Int.reduceSub, Int.reduceMul, Int.reduceNeg, Int.reduceGE, Int.reduceGT, Int.reduceNegSucc]
  refine loop_go ?_
  refine run_sound 4000 _ ?_
  simp -implicitDefEqProofs only [go_sem, Nat.reduceSub, Nat.reduceAdd, Nat.reduceMul, Nat.reduceDiv, Nat.reduceMod, Nat.reducePow, Nat.reduceLeDiff, Nat.reduceLT, Nat.reduceGT, Nat.reduceEqDiff, Nat.reduceBEq, Nat.reduceSubDiff, Nat.reduceBeqDiff, Int.reduceLE, Int.reduceLT, Int.reduceEq, Int.reduceToNat, Int.reduceAdd, Int.reduceSub, Int.reduceMul, Int.reduceNeg, Int.reduceGE, Int.reduceGT, Int.reduceNegSucc]
  refine loop_go ?_
  refine run_sound 4000 _ ?_
  simp -implicitDefEqProofs only [go_sem, Nat.reduceSub, Nat.reduceAdd, Nat.reduceMul, Nat.reduceDiv, Nat.reduceMod, Nat.reducePow, Nat.reduceLeDiff, Nat.reduceLT, Nat.reduceGT, Nat.reduceEqDiff, Nat.reduceBEq, Nat.reduceSubDiff, Nat.reduceBeqDiff, Int.reduceLE, Int.reduceLT, Int.reduceEq, Int.reduceToNat, Int.reduceAdd, Int.reduceSub, Int.reduceMul, Int.reduceNeg, Int.reduceGE, Int.reduceGT, Int.reduceNegSucc]
  refine call_A (V_At p 2 0 (by decide) (by decide)) rfl rfl ?_
  refine run_sound 4000 _ ?_
  simp -implicitDefEqProofs only [go_sem, Nat.reduceSub, Nat.reduceAdd, Nat.reduceMul, Nat.reduceDiv, Nat.reduceMod, Nat.reducePow, Nat.reduceLeDiff, Nat.reduceLT, Nat.reduceGT, Nat.reduceEqDiff, Nat.reduceBEq, Nat.reduceSubDiff, Nat.reduceBeqDiff, Int.reduceLE, Int.reduceLT, Int.reduceEq, Int.reduceToNat, Int.reduceAdd, Int.reduceSub, Int.reduceMul, Int.reduceNeg, Int.reduceGE, Int.reduceGT, Int.reduceNegSucc]
  refine draw_sem mixed [115, 55, 114] (fun g _ v => if g = 115 then v = I (meanF (IntKind.i64.wrap (d2 - f.z)) (IntKind.i64.wrap (d0 - f.x))) else if g = 55 then v = I (clamp p.c (meanF (IntKind.i64.wrap (d2 - f.z)) (IntKind.i64.wrap (d0 - f.x)))) else v = PS (S6.mk d0 (clamp p.b (meanF (IntKind.i64.wrap (d1 - f.y)) (IntKind.i64.wrap (d0 - f.x)))) (clamp p.c (meanF (IntKind.i64.wrap (d2 - f.z)) (IntKind.i64.wrap (d0 - f.x)))) d1 0 d2, 0)) [(0, []), (1, []), (2, []), (3, []), (4, []), (5, []), (6, []), (7, []), (8, []), (9, []), (10, []), (11, []), (12, []), (13, []), (14, []), (15, []), (16, []), (17, []), (18, []), (19, []), (20, []), (21, []), (22, []), (23, []), (24, [])] (by kernel_rfl) ?_
  simp -implicitDefEqProofs only [go_sem, Nat.reduceSub, Nat.reduceAdd, Nat.reduceMul, Nat.reduceDiv, Nat.reduceMod, Nat.reducePow, Nat.reduceLeDiff, Nat.reduceLT, Nat.reduceGT, Nat.reduceEqDiff, Nat.reduceBEq, Nat.reduceSubDiff, Nat.reduceBeqDiff, Int.reduceLE, Int.reduceLT, Int.reduceEq, Int.reduceToNat, Int.reduceAdd, Int.reduceSub, Int.reduceMul, Int.reduceNeg, Int.reduceGE, Int.reduceGT, Int.reduceNegSucc]
  refine dcall_E (V_Mean _ _ (wrap_in _) (wrap_in _)) rfl rfl (fun _ => Iff.rfl) ?_
  simp -implicitDefEqProofs only [go_sem, Nat.reduceSub, Nat.reduceAdd, Nat.reduceMul, Nat.reduceDiv, Nat.reduceMod, Nat.reducePow, Nat.reduceLeDiff, Nat.reduceLT, Nat.reduceGT, Nat.reduceEqDiff, Nat.reduceBEq, Nat.reduceSubDiff, Nat.reduceBeqDiff, Int.reduceLE, Int.reduceLT, Int.reduceEq, Int.reduceToNat, Int.reduceAdd, Int.reduceSub, Int.reduceMul, Int.reduceNeg, Int.reduceGE, Int.reduceGT, Int.reduceNegSucc]
  refine dcall_A (V_FClamp p.c _ (by exact hp.2.2.1) (meanF_in _ _)) rfl rfl rfl (fun _ => Iff.rfl) ?_
  simp -implicitDefEqProofs only [go_sem, Nat.reduceSub, Nat.reduceAdd, Nat.reduceMul, Nat.reduceDiv, Nat.reduceMod, Nat.reducePow, Nat.reduceLeDiff, Nat.reduceLT, Nat.reduceGT, Nat.reduceEqDiff, Nat.reduceBEq, Nat.reduceSubDiff, Nat.reduceBeqDiff, Int.reduceLE, Int.reduceLT, Int.reduceEq, Int.reduceToNat, Int.reduceAdd, Int.reduceSub, Int.reduceMul, Int.reduceNeg, Int.reduceGE, Int.reduceGT, Int.reduceNegSucc]
  refine dcall_A (V_Put ⟨d0, (clamp p.b (meanF (IntKind.i64.wrap (d1 - f.y)) (IntKind.i64.wrap (d0 - f.x)))), 0, d1, 0, d2⟩ 2 0 (clamp p.c (meanF (IntKind.i64.wrap (d2 - f.z)) (IntKind.i64.wrap (d0 - f.x)))) (by decide) (by decide)) rfl rfl rfl (fun _ => Iff.rfl) ?_
  simp -implicitDefEqProofs only [go_sem, Nat.reduceSub, Nat.reduceAdd, Nat.reduceMul, Nat.reduceDiv, Nat.reduceMod, Nat.reducePow, Nat.reduceLeDiff, Nat.reduceLT, Nat.reduceGT, Nat.reduceEqDiff, Nat.reduceBEq, Nat.reduceSubDiff, Nat.reduceBeqDiff, Int.reduceLE, Int.reduceLT, Int.reduceEq, Int.reduceToNat, Int.reduceAdd, Int.reduceSub, Int.reduceMul, Int.reduceNeg, Int.reduceGE, Int.reduceGT, Int.reduceNegSucc]
  refine run_sound 4000 _ ?_
  simp -implicitDefEqProofs only [go_sem, Nat.reduceSub, Nat.reduceAdd, Nat.reduceMul, Nat.reduceDiv, Nat.reduceMod, Nat.reducePow, Nat.reduceLeDiff, Nat.reduceLT, Nat.reduceGT, Nat.reduceEqDiff, Nat.reduceBEq, Nat.reduceSubDiff, Nat.reduceBeqDiff, Int.reduceLE, Int.reduceLT, Int.reduceEq, Int.reduceToNat, Int.reduceAdd, Int.reduceSub, Int.reduceMul, Int.reduceNeg, Int.reduceGE, Int.reduceGT, Int.reduceNegSucc]
  refine loop_go ?_
  refine run_sound 4000 _ ?_
  simp -implicitDefEqProofs only [go_sem, Nat.reduceSub, Nat.reduceAdd, Nat.reduceMul, Nat.reduceDiv, Nat.reduceMod, Nat.reducePow, Nat.reduceLeDiff, Nat.reduceLT, Nat.reduceGT, Nat.reduceEqDiff, Nat.reduceBEq, Nat.reduceSubDiff, Nat.reduceBeqDiff, Int.reduceLE, Int.reduceLT, Int.reduceEq, Int.reduceToNat, Int.reduceAdd, Int.reduceSub, Int.reduceMul, Int.reduceNeg, Int.reduceGE, Int.reduceGT, Int.reduceNegSucc]
  refine call_A (V_At p 2 1 (by decide) (by decide)) rfl rfl ?_
  refine run_sound 4000 _ ?_
  simp -implicitDefEqProofs only [go_sem, Nat.reduceSub, Nat.reduceAdd, Nat.reduceMul, Nat.reduceDiv, Nat.reduceMod, Nat.reducePow, Nat.reduceLeDiff, Nat.reduceLT, Nat.reduceGT, Nat.reduceEqDiff, Nat.reduceBEq, Nat.reduceSubDiff, Nat.reduceBeqDiff, Int.reduceLE, Int.reduceLT, Int.reduceEq, Int.reduceToNat, Int.reduceAdd, Int.reduceSub, Int.reduceMul, Int.reduceNeg, Int.reduceGE, Int.reduceGT, Int.reduceNegSucc]
  refine draw_sem mixed [115, 55, 114] (fun g _ v => if g = 115 then v = I (meanF (IntKind.i64.wrap (d2 - f.z)) (IntKind.i64.wrap (d1 - f.y))) else if g = 55 then v = I (clamp p.e (meanF (IntKind.i64.wrap (d2 - f.z)) (IntKind.i64.wrap (d1 - f.y)))) else v = PS (S6.mk d0 (clamp p.b (meanF (IntKind.i64.wrap (d1 - f.y)) (IntKind.i64.wrap (d0 - f.x)))) (clamp p.c (meanF (IntKind.i64.wrap (d2 - f.z)) (IntKind.i64.wrap (d0 - f.x)))) d1 (clamp p.e (meanF (IntKind.i64.wrap (d2 - f.z)) (IntKind.i64.wrap (d1 - f.y)))) d2, 0)) [(0, []), (1, []), (2, []), (3, []), (4, []), (5, []), (6, []), (7, []), (8, []), (9, []), (10, []), (11, []), (12, []), (13, []), (14, []), (15, []), (16, []), (17, []), (18, []), (19, []), (20, []), (21, []), (22, []), (23, []), (24, [])] (by kernel_rfl) ?_
  simp -implicitDefEqProofs only [go_sem, Nat.reduceSub, Nat.reduceAdd, Nat.reduceMul, Nat.reduceDiv, Nat.reduceMod, Nat.reducePow, Nat.reduceLeDiff, Nat.reduceLT, Nat.reduceGT, Nat.reduceEqDiff, Nat.reduceBEq, Nat.reduceSubDiff, Nat.reduceBeqDiff, Int.reduceLE, Int.reduceLT, Int.reduceEq, Int.reduceToNat, Int.reduceAdd, Int.reduceSub, Int.reduceMul, Int.reduceNeg, Int.reduceGE, Int.reduceGT, Int.reduceNegSucc]
  refine dcall_E (V_Mean _ _ (wrap_in _) (wrap_in _)) rfl rfl (fun _ => Iff.rfl) ?_
  simp -implicitDefEqProofs only [go_sem, Nat.reduceSub, Nat.reduceAdd, Nat.reduceMul, Nat.reduceDiv, Nat.reduceMod, Nat.reducePow, Nat.reduceLeDiff, Nat.reduceLT, Nat.reduceGT, Nat.reduceEqDiff, Nat.reduceBEq, Nat.reduceSubDiff, Nat.reduceBeqDiff, Int.reduceLE, Int.reduceLT, Int.reduceEq, Int.reduceToNat, Int.reduceAdd, Int.reduceSub, Int.reduceMul, Int.reduceNeg, Int.reduceGE, Int.reduceGT, Int.reduceNegSucc]
  refine dcall_A (V_FClamp p.e _ (by exact hp.2.2.2.2.1) (meanF_in _ _)) rfl rfl rfl (fun _ => Iff.rfl) ?_
  simp -implicitDefEqProofs only [go_sem, Nat.reduceSub, Nat.reduceAdd, Nat.reduceMul, Nat.reduceDiv, Nat.reduceMod, Nat.reducePow, Nat.reduceLeDiff, Nat.reduceLT, Nat.reduceGT, Nat.reduceEqDiff, Nat.reduceBEq, Nat.reduceSubDiff, Nat.reduceBeqDiff, Int.reduceLE, Int.reduceLT, Int.reduceEq, Int.reduceToNat, Int.reduceAdd, Int.reduceSub, Int.reduceMul, Int.reduceNeg, Int.reduceGE, Int.reduceGT, Int.reduceNegSucc]
  refine dcall_A (V_Put ⟨d0, (clamp p.b (meanF (IntKind.i64.wrap (d1 - f.y)) (IntKind.i64.wrap (d0 - f.x)))), (clamp p.c (meanF (IntKind.i64.wrap (d2 - f.z)) (IntKind.i64.wrap (d0 - f.x)))), d1, 0, d2⟩ 2 1 (clamp p.e (meanF (IntKind.i64.wrap (d2 - f.z)) (IntKind.i64.wrap (d1 - f.y)))) (by decide) (by decide)) rfl rfl rfl (fun _ => Iff.rfl) ?_
  simp -implicitDefEqProofs only [go_sem, Nat.reduceSub, Nat.reduceAdd, Nat.reduceMul, Nat.reduceDiv, Nat.reduceMod, Nat.reducePow, Nat.reduceLeDiff, Nat.reduceLT, Nat.reduceGT, Nat.reduceEqDiff, Nat.reduceBEq, Nat.reduceSubDiff, Nat.reduceBeqDiff, Int.reduceLE, Int.reduceLT, Int.reduceEq, Int.reduceToNat, Int.reduceAdd, Int.reduceSub, Int.reduceMul, Int.reduceNeg, Int.reduceGE, Int.reduceGT, Int.reduceNegSucc]
  refine run_sound 4000 _ ?_
  simp -implicitDefEqProofs only [go_sem, Nat.reduceSub, Nat.reduceAdd, Nat.reduceMul, Nat.reduceDiv, Nat.reduceMod, Nat.reducePow, Nat.reduceLeDiff, Nat.reduceLT, Nat.reduceGT, Nat.reduceEqDiff, Nat.reduceBEq, Nat.reduceSubDiff, Nat.reduceBeqDiff, Int.reduceLE, Int.reduceLT, Int.reduceEq, Int.reduceToNat, Int.reduceAdd, Int.reduceSub, Int.reduceMul, Int.reduceNeg, Int.reduceGE, Int.reduceGT, Int.reduceNegSucc]
  refine loop_go ?_
  refine run_sound 4000 _ ?_
  simp -implicitDefEqProofs only [go_sem, Nat.reduceSub, Nat.reduceAdd, Nat.reduceMul, Nat.reduceDiv, Nat.reduceMod, Nat.reducePow, Nat.reduceLeDiff, Nat.reduceLT, Nat.reduceGT, Nat.reduceEqDiff, Nat.reduceBEq, Nat.reduceSubDiff, Nat.reduceBeqDiff, Int.reduceLE, Int.reduceLT, Int.reduceEq, Int.reduceToNat, Int.reduceAdd, Int.reduceSub, Int.reduceMul, Int.reduceNeg, Int.reduceGE, Int.reduceGT, Int.reduceNegSucc]
  refine loop_go ?_
  refine run_sound 4000 _ ?_
  simp -implicitDefEqProofs only [go_sem, Nat.reduceSub, Nat.reduceAdd, Nat.reduceMul, Nat.reduceDiv, Nat.reduceMod, Nat.reducePow, Nat.reduceLeDiff, Nat.reduceLT, Nat.reduceGT, Nat.reduceEqDiff, Nat.reduceBEq, Nat.reduceSubDiff, Nat.reduceBeqDiff, Int.reduceLE, Int.reduceLT, Int.reduceEq, Int.reduceToNat, Int.reduceAdd, Int.reduceSub, Int.reduceMul, Int.reduceNeg, Int.reduceGE, Int.reduceGT, Int.reduceNegSucc]
  refine done_ret ?_
  simp -implicitDefEqProofs only [go_sem, Nat.reduceSub, Nat.reduceAdd, Nat.reduceMul, Nat.reduceDiv, Nat.reduceMod, Nat.reducePow, Nat.reduceLeDiff, Nat.reduceLT, Nat.reduceGT, Nat.reduceEqDiff, Nat.reduceBEq, Nat.reduceSubDiff, Nat.reduceBeqDiff, Int.reduceLE, Int.reduceLT, Int.reduceEq, Int.reduceToNat, Int.reduceAdd, Int.reduceSub, Int.reduceMul, Int.reduceNeg, Int.reduceGE, Int.reduceGT, Int.reduceNegSucc]
  rfl
end Go.Proofs.YtakcibjjfkgadaaGreatDoor
