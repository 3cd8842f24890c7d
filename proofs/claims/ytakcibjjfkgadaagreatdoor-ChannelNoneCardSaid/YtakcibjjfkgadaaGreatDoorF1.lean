/- Layer 7: motion. -/
import Derived.Test.YtakcibjjfkgadaaGreatDoorE9
set_option linter.unusedSimpArgs false
set_option linter.unusedVariables false
set_option maxRecDepth 100000
set_option pp.maxSteps 400
set_option maxHeartbeats 4000000
namespace Go.Proofs.YtakcibjjfkgadaaGreatDoor
open Go.Ev

theorem H_part1 (hp : List Blk) (b n : Nat) (a : Int) (hn : n ≤ 127) (ha : In128 a) (hr : In64 (evn a (2 ^ n)))
    (hb : bget hp b = some ⟨[I (a / 18446744073709551616), U (a % 18446744073709551616)], 139⟩) :
    HSem Tryz.prog GD 123 [I n, .slice b 0 1 1] hp (fun ao h' => ao = .ret (I (evn a (2 ^ n))) ∧ ∃ ext, h' = hp ++ ext) := by
  have hb2 := bget_app hb
  refine HSem.of_body Tryz.func123 rfl (by kernel_rfl) ?_
  refine run_sound 4000 _ ?_
  simp -implicitDefEqProofs only [Tryz.f123, go_sem, Nat.reduceSub, Nat.reduceAdd, Nat.reduceMul, Nat.reduceDiv, Nat.reduceMod, Nat.reducePow, Nat.reduceLeDiff, Nat.reduceLT, Nat.reduceGT, Nat.reduceEqDiff, Nat.reduceBEq, Nat.reduceSubDiff, Nat.reduceBeqDiff, Int.reduceLE, Int.reduceLT, Int.reduceEq, Int.reduceToNat, Int.reduceAdd, Int.reduceSub, Int.reduceMul, Int.reduceNeg, Int.reduceGE, Int.reduceGT, Int.reduceNegSucc]
  refine call_E (V_Of 0 ⟨by decide, by decide⟩) rfl ?_
  refine run_sound 4000 _ ?_
  simp -implicitDefEqProofs only [go_sem, Nat.reduceSub, Nat.reduceAdd, Nat.reduceMul, Nat.reduceDiv, Nat.reduceMod, Nat.reducePow, Nat.reduceLeDiff, Nat.reduceLT, Nat.reduceGT, Nat.reduceEqDiff, Nat.reduceBEq, Nat.reduceSubDiff, Nat.reduceBeqDiff, Int.reduceLE, Int.reduceLT, Int.reduceEq, Int.reduceToNat, Int.reduceAdd, Int.reduceSub, Int.reduceMul, Int.reduceNeg, Int.reduceGE, Int.reduceGT, Int.reduceNegSucc]
  refine loop_go ?_
  refine run_sound 4000 _ ?_
  simp -implicitDefEqProofs only [go_sem, Nat.reduceSub, Nat.reduceAdd, Nat.reduceMul, Nat.reduceDiv, Nat.reduceMod, Nat.reducePow, Nat.reduceLeDiff, Nat.reduceLT, Nat.reduceGT, Nat.reduceEqDiff, Nat.reduceBEq, Nat.reduceSubDiff, Nat.reduceBeqDiff, Int.reduceLE, Int.reduceLT, Int.reduceEq, Int.reduceToNat, Int.reduceAdd, Int.reduceSub, Int.reduceMul, Int.reduceNeg, Int.reduceGE, Int.reduceGT, Int.reduceNegSucc, hb2]
  refine call_A ((V_Add 0 a ⟨by decide, by decide⟩ ha).mono fun v hv => hv.trans (congrArg AV.tuple (if_pos (by rw [Int.zero_add]; exact ha)))) rfl rfl ?_
  rw [Int.zero_add]
  refine run_sound 4000 _ ?_
  simp -implicitDefEqProofs only [go_sem, Nat.reduceSub, Nat.reduceAdd, Nat.reduceMul, Nat.reduceDiv, Nat.reduceMod, Nat.reducePow, Nat.reduceLeDiff, Nat.reduceLT, Nat.reduceGT, Nat.reduceEqDiff, Nat.reduceBEq, Nat.reduceSubDiff, Nat.reduceBeqDiff, Int.reduceLE, Int.reduceLT, Int.reduceEq, Int.reduceToNat, Int.reduceAdd, Int.reduceSub, Int.reduceMul, Int.reduceNeg, Int.reduceGE, Int.reduceGT, Int.reduceNegSucc]
  refine loop_go ?_
  refine run_sound 4000 _ ?_
  simp -implicitDefEqProofs only [go_sem, Nat.reduceSub, Nat.reduceAdd, Nat.reduceMul, Nat.reduceDiv, Nat.reduceMod, Nat.reducePow, Nat.reduceLeDiff, Nat.reduceLT, Nat.reduceGT, Nat.reduceEqDiff, Nat.reduceBEq, Nat.reduceSubDiff, Nat.reduceBeqDiff, Int.reduceLE, Int.reduceLT, Int.reduceEq, Int.reduceToNat, Int.reduceAdd, Int.reduceSub, Int.reduceMul, Int.reduceNeg, Int.reduceGE, Int.reduceGT, Int.reduceNegSucc]
  refine call_A (V_Half a n ha hn) rfl rfl ?_
  refine run_sound 4000 _ ?_
  simp -implicitDefEqProofs only [go_sem, Nat.reduceSub, Nat.reduceAdd, Nat.reduceMul, Nat.reduceDiv, Nat.reduceMod, Nat.reducePow, Nat.reduceLeDiff, Nat.reduceLT, Nat.reduceGT, Nat.reduceEqDiff, Nat.reduceBEq, Nat.reduceSubDiff, Nat.reduceBeqDiff, Int.reduceLE, Int.reduceLT, Int.reduceEq, Int.reduceToNat, Int.reduceAdd, Int.reduceSub, Int.reduceMul, Int.reduceNeg, Int.reduceGE, Int.reduceGT, Int.reduceNegSucc]
  refine call_A ((V_Int (evn a (2 ^ n)) ⟨by have := hr.1; omega, by have := hr.2; omega⟩).mono fun v hv => hv.trans (congrArg AV.tuple (if_pos hr))) rfl rfl ?_
  refine run_sound 4000 _ ?_
  simp -implicitDefEqProofs only [go_sem, Nat.reduceSub, Nat.reduceAdd, Nat.reduceMul, Nat.reduceDiv, Nat.reduceMod, Nat.reducePow, Nat.reduceLeDiff, Nat.reduceLT, Nat.reduceGT, Nat.reduceEqDiff, Nat.reduceBEq, Nat.reduceSubDiff, Nat.reduceBeqDiff, Int.reduceLE, Int.reduceLT, Int.reduceEq, Int.reduceToNat, Int.reduceAdd, Int.reduceSub, Int.reduceMul, Int.reduceNeg, Int.reduceGE, Int.reduceGT, Int.reduceNegSucc]
  refine hdone ?_
  simp -implicitDefEqProofs only [go_sem, Nat.reduceSub, Nat.reduceAdd, Nat.reduceMul, Nat.reduceDiv, Nat.reduceMod, Nat.reducePow, Nat.reduceLeDiff, Nat.reduceLT, Nat.reduceGT, Nat.reduceEqDiff, Nat.reduceBEq, Nat.reduceSubDiff, Nat.reduceBeqDiff, Int.reduceLE, Int.reduceLT, Int.reduceEq, Int.reduceToNat, Int.reduceAdd, Int.reduceSub, Int.reduceMul, Int.reduceNeg, Int.reduceGE, Int.reduceGT, Int.reduceNegSucc]
  exact ⟨_, rfl⟩
theorem H_part2 (hp : List Blk) (b n : Nat) (a c : Int) (hn : n ≤ 127) (ha : In128 a) (hc : In128 c) (hac : In128 (a + c)) (hr : In64 (evn (a + c) (2 ^ n)))
    (hb : bget hp b = some ⟨[I (a / 18446744073709551616), U (a % 18446744073709551616), I (c / 18446744073709551616), U (c % 18446744073709551616)], 139⟩) :
    HSem Tryz.prog GD 123 [I n, .slice b 0 2 2] hp (fun ao h' => ao = .ret (I (evn (a + c) (2 ^ n))) ∧ ∃ ext, h' = hp ++ ext) := by
  have hb2 := bget_app hb
  refine HSem.of_body Tryz.func123 rfl (by kernel_rfl) ?_
  refine run_sound 4000 _ ?_
  simp -implicitDefEqProofs only [Tryz.f123, go_sem, Nat.reduceSub, Nat.reduceAdd, Nat.reduceMul, Nat.reduceDiv, Nat.reduceMod, Nat.reducePow, Nat.reduceLeDiff, Nat.reduceLT, Nat.reduceGT, Nat.reduceEqDiff, Nat.reduceBEq, Nat.reduceSubDiff, Nat.reduceBeqDiff, Int.reduceLE, Int.reduceLT, Int.reduceEq, Int.reduceToNat, Int.reduceAdd, Int.reduceSub, Int.reduceMul, Int.reduceNeg, Int.reduceGE, Int.reduceGT, Int.reduceNegSucc]
  refine call_E (V_Of 0 ⟨by decide, by decide⟩) rfl ?_
  refine run_sound 4000 _ ?_
  simp -implicitDefEqProofs only [go_sem, Nat.reduceSub, Nat.reduceAdd, Nat.reduceMul, Nat.reduceDiv, Nat.reduceMod, Nat.reducePow, Nat.reduceLeDiff, Nat.reduceLT, Nat.reduceGT, Nat.reduceEqDiff, Nat.reduceBEq, Nat.reduceSubDiff, Nat.reduceBeqDiff, Int.reduceLE, Int.reduceLT, Int.reduceEq, Int.reduceToNat, Int.reduceAdd, Int.reduceSub, Int.reduceMul, Int.reduceNeg, Int.reduceGE, Int.reduceGT, Int.reduceNegSucc]
  refine loop_go ?_
  refine run_sound 4000 _ ?_
  simp -implicitDefEqProofs only [go_sem, Nat.reduceSub, Nat.reduceAdd, Nat.reduceMul, Nat.reduceDiv, Nat.reduceMod, Nat.reducePow, Nat.reduceLeDiff, Nat.reduceLT, Nat.reduceGT, Nat.reduceEqDiff, Nat.reduceBEq, Nat.reduceSubDiff, Nat.reduceBeqDiff, Int.reduceLE, Int.reduceLT, Int.reduceEq, Int.reduceToNat, Int.reduceAdd, Int.reduceSub, Int.reduceMul, Int.reduceNeg, Int.reduceGE, Int.reduceGT, Int.reduceNegSucc, hb2]
  refine call_A ((V_Add 0 a ⟨by decide, by decide⟩ ha).mono fun v hv => hv.trans (congrArg AV.tuple (if_pos (by rw [Int.zero_add]; exact ha)))) rfl rfl ?_
  rw [Int.zero_add]
  refine run_sound 4000 _ ?_
  simp -implicitDefEqProofs only [go_sem, Nat.reduceSub, Nat.reduceAdd, Nat.reduceMul, Nat.reduceDiv, Nat.reduceMod, Nat.reducePow, Nat.reduceLeDiff, Nat.reduceLT, Nat.reduceGT, Nat.reduceEqDiff, Nat.reduceBEq, Nat.reduceSubDiff, Nat.reduceBeqDiff, Int.reduceLE, Int.reduceLT, Int.reduceEq, Int.reduceToNat, Int.reduceAdd, Int.reduceSub, Int.reduceMul, Int.reduceNeg, Int.reduceGE, Int.reduceGT, Int.reduceNegSucc]
  refine loop_go ?_
  refine run_sound 4000 _ ?_
  simp -implicitDefEqProofs only [go_sem, Nat.reduceSub, Nat.reduceAdd, Nat.reduceMul, Nat.reduceDiv, Nat.reduceMod, Nat.reducePow, Nat.reduceLeDiff, Nat.reduceLT, Nat.reduceGT, Nat.reduceEqDiff, Nat.reduceBEq, Nat.reduceSubDiff, Nat.reduceBeqDiff, Int.reduceLE, Int.reduceLT, Int.reduceEq, Int.reduceToNat, Int.reduceAdd, Int.reduceSub, Int.reduceMul, Int.reduceNeg, Int.reduceGE, Int.reduceGT, Int.reduceNegSucc, hb2]
  refine call_A ((V_Add a c ha hc).mono fun v hv => hv.trans (congrArg AV.tuple (if_pos hac))) rfl rfl ?_
  refine run_sound 4000 _ ?_
  simp -implicitDefEqProofs only [go_sem, Nat.reduceSub, Nat.reduceAdd, Nat.reduceMul, Nat.reduceDiv, Nat.reduceMod, Nat.reducePow, Nat.reduceLeDiff, Nat.reduceLT, Nat.reduceGT, Nat.reduceEqDiff, Nat.reduceBEq, Nat.reduceSubDiff, Nat.reduceBeqDiff, Int.reduceLE, Int.reduceLT, Int.reduceEq, Int.reduceToNat, Int.reduceAdd, Int.reduceSub, Int.reduceMul, Int.reduceNeg, Int.reduceGE, Int.reduceGT, Int.reduceNegSucc]
  refine loop_go ?_
  refine run_sound 4000 _ ?_
  simp -implicitDefEqProofs only [go_sem, Nat.reduceSub, Nat.reduceAdd, Nat.reduceMul, Nat.reduceDiv, Nat.reduceMod, Nat.reducePow, Nat.reduceLeDiff, Nat.reduceLT, Nat.reduceGT, Nat.reduceEqDiff, Nat.reduceBEq, Nat.reduceSubDiff, Nat.reduceBeqDiff, Int.reduceLE, Int.reduceLT, Int.reduceEq, Int.reduceToNat, Int.reduceAdd, Int.reduceSub, Int.reduceMul, Int.reduceNeg, Int.reduceGE, Int.reduceGT, Int.reduceNegSucc]
  refine call_A (V_Half (a + c) n hac hn) rfl rfl ?_
  refine run_sound 4000 _ ?_
  simp -implicitDefEqProofs only [go_sem, Nat.reduceSub, Nat.reduceAdd, Nat.reduceMul, Nat.reduceDiv, Nat.reduceMod, Nat.reducePow, Nat.reduceLeDiff, Nat.reduceLT, Nat.reduceGT, Nat.reduceEqDiff, Nat.reduceBEq, Nat.reduceSubDiff, Nat.reduceBeqDiff, Int.reduceLE, Int.reduceLT, Int.reduceEq, Int.reduceToNat, Int.reduceAdd, Int.reduceSub, Int.reduceMul, Int.reduceNeg, Int.reduceGE, Int.reduceGT, Int.reduceNegSucc]
  refine call_A ((V_Int (evn (a + c) (2 ^ n)) ⟨by have := hr.1; omega, by have := hr.2; omega⟩).mono fun v hv => hv.trans (congrArg AV.tuple (if_pos hr))) rfl rfl ?_
  refine run_sound 4000 _ ?_
  simp -implicitDefEqProofs only [go_sem, Nat.reduceSub, Nat.reduceAdd, Nat.reduceMul, Nat.reduceDiv, Nat.reduceMod, Nat.reducePow, Nat.reduceLeDiff, Nat.reduceLT, Nat.reduceGT, Nat.reduceEqDiff, Nat.reduceBEq, Nat.reduceSubDiff, Nat.reduceBeqDiff, Int.reduceLE, Int.reduceLT, Int.reduceEq, Int.reduceToNat, Int.reduceAdd, Int.reduceSub, Int.reduceMul, Int.reduceNeg, Int.reduceGE, Int.reduceGT, Int.reduceNegSucc]
  refine hdone ?_
  simp -implicitDefEqProofs only [go_sem, Nat.reduceSub, Nat.reduceAdd, Nat.reduceMul, Nat.reduceDiv, Nat.reduceMod, Nat.reducePow, Nat.reduceLeDiff, Nat.reduceLT, Nat.reduceGT, Nat.reduceEqDiff, Nat.reduceBEq, Nat.reduceSubDiff, Nat.reduceBeqDiff, Int.reduceLE, Int.reduceLT, Int.reduceEq, Int.reduceToNat, Int.reduceAdd, Int.reduceSub, Int.reduceMul, Int.reduceNeg, Int.reduceGE, Int.reduceGT, Int.reduceNegSucc]
  exact ⟨_, rfl⟩

theorem V_motionOn (x : V3) (t : Int) (hx : x.In64) : VSem Tryz.prog GD 86 [x.av, I t] (· = PV (motionF x t)) := by
  unfold motionF
  refine VSem.of_body Tryz.func86 rfl (by kernel_rfl) ?_
  refine run_sound 4000 _ ?_
  simp -implicitDefEqProofs only [Tryz.f86, go_sem, Nat.reduceSub, Nat.reduceAdd, Nat.reduceMul, Nat.reduceDiv, Nat.reduceMod, Nat.reducePow, Nat.reduceLeDiff, Nat.reduceLT, Nat.reduceGT, Nat.reduceEqDiff, Nat.reduceBEq, Nat.reduceSubDiff, Nat.reduceBeqDiff, Int.reduceLE, Int.reduceLT, Int.reduceEq, Int.reduceToNat, Int.reduceAdd, Int.reduceSub, Int.reduceMul, Int.reduceNeg, Int.reduceGE, Int.reduceGT, Int.reduceNegSucc]
  refine call_A (V_VFits x hx) rfl rfl ?_
  by_cases h1 : x.Fit
  rotate_left
  · have h1' := decide_eq_false h1
    rw [if_neg (fun h => h1 h.1)]
    refine run_sound 4000 _ ?_
    simp -implicitDefEqProofs only [go_sem, Nat.reduceSub, Nat.reduceAdd, Nat.reduceMul, Nat.reduceDiv, Nat.reduceMod, Nat.reducePow, Nat.reduceLeDiff, Nat.reduceLT, Nat.reduceGT, Nat.reduceEqDiff, Nat.reduceBEq, Nat.reduceSubDiff, Nat.reduceBeqDiff, Int.reduceLE, Int.reduceLT, Int.reduceEq, Int.reduceToNat, Int.reduceAdd, Int.reduceSub, Int.reduceMul, Int.reduceNeg, Int.reduceGE, Int.reduceGT, Int.reduceNegSucc, h1']
    refine done_ret ?_
    simp -implicitDefEqProofs only [go_sem, Nat.reduceSub, Nat.reduceAdd, Nat.reduceMul, Nat.reduceDiv, Nat.reduceMod, Nat.reducePow, Nat.reduceLeDiff, Nat.reduceLT, Nat.reduceGT, Nat.reduceEqDiff, Nat.reduceBEq, Nat.reduceSubDiff, Nat.reduceBeqDiff, Int.reduceLE, Int.reduceLT, Int.reduceEq, Int.reduceToNat, Int.reduceAdd, Int.reduceSub, Int.reduceMul, Int.reduceNeg, Int.reduceGE, Int.reduceGT, Int.reduceNegSucc]
  have h1' := decide_eq_true h1
  refine run_sound 4000 _ ?_
  simp -implicitDefEqProofs only [go_sem, Nat.reduceSub, Nat.reduceAdd, Nat.reduceMul, Nat.reduceDiv, Nat.reduceMod, Nat.reducePow, Nat.reduceLeDiff, Nat.reduceLT, Nat.reduceGT, Nat.reduceEqDiff, Nat.reduceBEq, Nat.reduceSubDiff, Nat.reduceBeqDiff, Int.reduceLE, Int.reduceLT, Int.reduceEq, Int.reduceToNat, Int.reduceAdd, Int.reduceSub, Int.reduceMul, Int.reduceNeg, Int.reduceGE, Int.reduceGT, Int.reduceNegSucc, h1']
  refine call_E (V_Fits t) rfl ?_
  by_cases h2 : Fit t
  rotate_left
  · have h2' := decide_eq_false h2
    rw [if_neg (fun h => h2 h.2)]
    refine run_sound 4000 _ ?_
    simp -implicitDefEqProofs only [go_sem, Nat.reduceSub, Nat.reduceAdd, Nat.reduceMul, Nat.reduceDiv, Nat.reduceMod, Nat.reducePow, Nat.reduceLeDiff, Nat.reduceLT, Nat.reduceGT, Nat.reduceEqDiff, Nat.reduceBEq, Nat.reduceSubDiff, Nat.reduceBeqDiff, Int.reduceLE, Int.reduceLT, Int.reduceEq, Int.reduceToNat, Int.reduceAdd, Int.reduceSub, Int.reduceMul, Int.reduceNeg, Int.reduceGE, Int.reduceGT, Int.reduceNegSucc, h2']
    refine done_ret ?_
    simp -implicitDefEqProofs only [go_sem, Nat.reduceSub, Nat.reduceAdd, Nat.reduceMul, Nat.reduceDiv, Nat.reduceMod, Nat.reducePow, Nat.reduceLeDiff, Nat.reduceLT, Nat.reduceGT, Nat.reduceEqDiff, Nat.reduceBEq, Nat.reduceSubDiff, Nat.reduceBeqDiff, Int.reduceLE, Int.reduceLT, Int.reduceEq, Int.reduceToNat, Int.reduceAdd, Int.reduceSub, Int.reduceMul, Int.reduceNeg, Int.reduceGE, Int.reduceGT, Int.reduceNegSucc]
  have h2' := decide_eq_true h2
  rw [if_pos ⟨h1, h2⟩]
  refine run_sound 4000 _ ?_
  simp -implicitDefEqProofs only [go_sem, Nat.reduceSub, Nat.reduceAdd, Nat.reduceMul, Nat.reduceDiv, Nat.reduceMod, Nat.reducePow, Nat.reduceLeDiff, Nat.reduceLT, Nat.reduceGT, Nat.reduceEqDiff, Nat.reduceBEq, Nat.reduceSubDiff, Nat.reduceBeqDiff, Int.reduceLE, Int.reduceLT, Int.reduceEq, Int.reduceToNat, Int.reduceAdd, Int.reduceSub, Int.reduceMul, Int.reduceNeg, Int.reduceGE, Int.reduceGT, Int.reduceNegSucc, h2']
  refine call_E (V_FSub t x.z) rfl ?_
  have hfit := fSub_fit t x.z
  obtain ⟨d, hd⟩ : ∃ d, fSub t x.z = d := ⟨_, rfl⟩
  rw [hd] at hfit ⊢
  by_cases h3 : d.2 = 0
  rotate_left
  · have h3' := decide_eq_false h3
    rw [if_pos h3]
    refine run_sound 4000 _ ?_
    simp -implicitDefEqProofs only [go_sem, Nat.reduceSub, Nat.reduceAdd, Nat.reduceMul, Nat.reduceDiv, Nat.reduceMod, Nat.reducePow, Nat.reduceLeDiff, Nat.reduceLT, Nat.reduceGT, Nat.reduceEqDiff, Nat.reduceBEq, Nat.reduceSubDiff, Nat.reduceBeqDiff, Int.reduceLE, Int.reduceLT, Int.reduceEq, Int.reduceToNat, Int.reduceAdd, Int.reduceSub, Int.reduceMul, Int.reduceNeg, Int.reduceGE, Int.reduceGT, Int.reduceNegSucc, h3']
    refine done_ret ?_
    simp -implicitDefEqProofs only [go_sem, Nat.reduceSub, Nat.reduceAdd, Nat.reduceMul, Nat.reduceDiv, Nat.reduceMod, Nat.reducePow, Nat.reduceLeDiff, Nat.reduceLT, Nat.reduceGT, Nat.reduceEqDiff, Nat.reduceBEq, Nat.reduceSubDiff, Nat.reduceBeqDiff, Int.reduceLE, Int.reduceLT, Int.reduceEq, Int.reduceToNat, Int.reduceAdd, Int.reduceSub, Int.reduceMul, Int.reduceNeg, Int.reduceGE, Int.reduceGT, Int.reduceNegSucc]
  have h3' := decide_eq_true h3
  rw [if_neg (fun h => h h3)]
  refine run_sound 4000 _ ?_
  simp -implicitDefEqProofs only [go_sem, Nat.reduceSub, Nat.reduceAdd, Nat.reduceMul, Nat.reduceDiv, Nat.reduceMod, Nat.reducePow, Nat.reduceLeDiff, Nat.reduceLT, Nat.reduceGT, Nat.reduceEqDiff, Nat.reduceBEq, Nat.reduceSubDiff, Nat.reduceBeqDiff, Int.reduceLE, Int.reduceLT, Int.reduceEq, Int.reduceToNat, Int.reduceAdd, Int.reduceSub, Int.reduceMul, Int.reduceNeg, Int.reduceGE, Int.reduceGT, Int.reduceNegSucc, h3']
  have hxy := h1.2.1
  have hd64 : In64 d.1 := hfit.in64
  have hm : In128 (x.y * 256) := ⟨by have := hxy.1; omega, by have := hxy.2; omega⟩
  have hdd : In128 d.1 := ⟨by have := hfit.1; omega, by have := hfit.2; omega⟩
  have hs : In128 (x.y * 256 + d.1) := ⟨by have := hfit.1; have := hxy.1; omega, by have := hfit.2; have := hxy.2; omega⟩
  have e15 : (2 : Int) ^ 15 = 32768 := by decide
  have e7 : (2 : Int) ^ 7 = 128 := by decide
  have b1 := evn_bound (x.y * 256 + d.1) 9223372036854775807 (2 ^ 15) (by decide) (by decide) (by rw [e15]; have := hfit.1; have := hxy.1; omega) (by rw [e15]; have := hfit.2; have := hxy.2; omega)
  have b2 := evn_bound d.1 9223372036854775807 (2 ^ 7) (by decide) (by decide) (by rw [e7]; have := hfit.1; omega) (by rw [e7]; have := hfit.2; omega)
  have i1 : In64 (evn (x.y * 256 + d.1) (2 ^ 15)) := ⟨by have := b1.1; omega, b1.2⟩
  have i2 : In64 (evn d.1 (2 ^ 7)) := ⟨by have := b2.1; omega, b2.2⟩
  refine draw_sem mixed [124, 98, 122, 1000123] (fun f _ v => if f = 124 then v = W (x.y * 256) else if f = 98 then v = W d.1 else v = PV (vAdd x ⟨evn (x.y * 256 + d.1) (2 ^ 15), evn d.1 (2 ^ 7), 0⟩)) [(0, []), (1, []), (2, []), (3, []), (4, []), (5, []), (8, []), (6, []), (7, []), (9, []), (10, []), (11, []), (12, []), (13, []), (14, []), (15, []), (16, []), (17, [])] (by kernel_rfl) ?_
  simp -implicitDefEqProofs only [go_sem, Nat.reduceSub, Nat.reduceAdd, Nat.reduceMul, Nat.reduceDiv, Nat.reduceMod, Nat.reducePow, Nat.reduceLeDiff, Nat.reduceLT, Nat.reduceGT, Nat.reduceEqDiff, Nat.reduceBEq, Nat.reduceSubDiff, Nat.reduceBeqDiff, Int.reduceLE, Int.reduceLT, Int.reduceEq, Int.reduceToNat, Int.reduceAdd, Int.reduceSub, Int.reduceMul, Int.reduceNeg, Int.reduceGE, Int.reduceGT, Int.reduceNegSucc]
  refine dcall_E (V_Mul x.y 256 hx.2.1 ⟨by decide, by decide⟩) rfl rfl (fun _ => Iff.rfl) ?_
  simp -implicitDefEqProofs only [go_sem, Nat.reduceSub, Nat.reduceAdd, Nat.reduceMul, Nat.reduceDiv, Nat.reduceMod, Nat.reducePow, Nat.reduceLeDiff, Nat.reduceLT, Nat.reduceGT, Nat.reduceEqDiff, Nat.reduceBEq, Nat.reduceSubDiff, Nat.reduceBeqDiff, Int.reduceLE, Int.reduceLT, Int.reduceEq, Int.reduceToNat, Int.reduceAdd, Int.reduceSub, Int.reduceMul, Int.reduceNeg, Int.reduceGE, Int.reduceGT, Int.reduceNegSucc]
  refine dcall_E (V_Of d.1 hd64) rfl rfl (fun _ => Iff.rfl) ?_
  simp -implicitDefEqProofs only [go_sem, Nat.reduceSub, Nat.reduceAdd, Nat.reduceMul, Nat.reduceDiv, Nat.reduceMod, Nat.reducePow, Nat.reduceLeDiff, Nat.reduceLT, Nat.reduceGT, Nat.reduceEqDiff, Nat.reduceBEq, Nat.reduceSubDiff, Nat.reduceBeqDiff, Int.reduceLE, Int.reduceLT, Int.reduceEq, Int.reduceToNat, Int.reduceAdd, Int.reduceSub, Int.reduceMul, Int.reduceNeg, Int.reduceGE, Int.reduceGT, Int.reduceNegSucc]
  refine dcall_R (by rfl) (H_part2 _ _ 15 (x.y * 256) d.1 (by decide) hm hdd hs i1 rfl) fun ext => ?_
  simp -implicitDefEqProofs only [go_sem, Nat.reduceSub, Nat.reduceAdd, Nat.reduceMul, Nat.reduceDiv, Nat.reduceMod, Nat.reducePow, Nat.reduceLeDiff, Nat.reduceLT, Nat.reduceGT, Nat.reduceEqDiff, Nat.reduceBEq, Nat.reduceSubDiff, Nat.reduceBeqDiff, Int.reduceLE, Int.reduceLT, Int.reduceEq, Int.reduceToNat, Int.reduceAdd, Int.reduceSub, Int.reduceMul, Int.reduceNeg, Int.reduceGE, Int.reduceGT, Int.reduceNegSucc]
  refine dcall_E (V_Of d.1 hd64) rfl rfl (fun _ => Iff.rfl) ?_
  simp -implicitDefEqProofs only [go_sem, Nat.reduceSub, Nat.reduceAdd, Nat.reduceMul, Nat.reduceDiv, Nat.reduceMod, Nat.reducePow, Nat.reduceLeDiff, Nat.reduceLT, Nat.reduceGT, Nat.reduceEqDiff, Nat.reduceBEq, Nat.reduceSubDiff, Nat.reduceBeqDiff, Int.reduceLE, Int.reduceLT, Int.reduceEq, Int.reduceToNat, Int.reduceAdd, Int.reduceSub, Int.reduceMul, Int.reduceNeg, Int.reduceGE, Int.reduceGT, Int.reduceNegSucc]
  refine dcall_R (by rfl) (H_part1 _ _ 7 d.1 (by decide) hdd i2 (by rw [bget_eq]; simp)) fun ext2 => ?_
  simp -implicitDefEqProofs only [go_sem, Nat.reduceSub, Nat.reduceAdd, Nat.reduceMul, Nat.reduceDiv, Nat.reduceMod, Nat.reducePow, Nat.reduceLeDiff, Nat.reduceLT, Nat.reduceGT, Nat.reduceEqDiff, Nat.reduceBEq, Nat.reduceSubDiff, Nat.reduceBeqDiff, Int.reduceLE, Int.reduceLT, Int.reduceEq, Int.reduceToNat, Int.reduceAdd, Int.reduceSub, Int.reduceMul, Int.reduceNeg, Int.reduceGE, Int.reduceGT, Int.reduceNegSucc]
  refine dcall_A (V_VAdd x ⟨evn (x.y * 256 + d.1) (2 ^ 15), evn d.1 (2 ^ 7), 0⟩ hx ⟨i1, i2, show In64 0 from ⟨by decide, by decide⟩⟩) rfl rfl rfl (fun _ => Iff.rfl) ?_
  simp -implicitDefEqProofs only [go_sem, Nat.reduceSub, Nat.reduceAdd, Nat.reduceMul, Nat.reduceDiv, Nat.reduceMod, Nat.reducePow, Nat.reduceLeDiff, Nat.reduceLT, Nat.reduceGT, Nat.reduceEqDiff, Nat.reduceBEq, Nat.reduceSubDiff, Nat.reduceBeqDiff, Int.reduceLE, Int.reduceLT, Int.reduceEq, Int.reduceToNat, Int.reduceAdd, Int.reduceSub, Int.reduceMul, Int.reduceNeg, Int.reduceGE, Int.reduceGT, Int.reduceNegSucc]
  refine run_sound 4000 _ ?_
  simp -implicitDefEqProofs only [go_sem, Nat.reduceSub, Nat.reduceAdd, Nat.reduceMul, Nat.reduceDiv, Nat.reduceMod, Nat.reducePow, Nat.reduceLeDiff, Nat.reduceLT, Nat.reduceGT, Nat.reduceEqDiff, Nat.reduceBEq, Nat.reduceSubDiff, Nat.reduceBeqDiff, Int.reduceLE, Int.reduceLT, Int.reduceEq, Int.reduceToNat, Int.reduceAdd, Int.reduceSub, Int.reduceMul, Int.reduceNeg, Int.reduceGE, Int.reduceGT, Int.reduceNegSucc]
  refine done_ret ?_
  simp -implicitDefEqProofs only [go_sem, Nat.reduceSub, Nat.reduceAdd, Nat.reduceMul, Nat.reduceDiv, Nat.reduceMod, Nat.reducePow, Nat.reduceLeDiff, Nat.reduceLT, Nat.reduceGT, Nat.reduceEqDiff, Nat.reduceBEq, Nat.reduceSubDiff, Nat.reduceBeqDiff, Int.reduceLE, Int.reduceLT, Int.reduceEq, Int.reduceToNat, Int.reduceAdd, Int.reduceSub, Int.reduceMul, Int.reduceNeg, Int.reduceGE, Int.reduceGT, Int.reduceNegSucc]
end Go.Proofs.YtakcibjjfkgadaaGreatDoor
