/- Layer 1: division of wide numbers. -/
import Derived.Test.YtakcibjjfkgadaaGreatDoorE4
set_option linter.unusedSimpArgs false
set_option linter.unusedVariables false
set_option maxRecDepth 100000
set_option pp.maxSteps 400
set_option maxHeartbeats 4000000
namespace Go.Proofs.YtakcibjjfkgadaaGreatDoor
open Go.Ev

theorem pst_t {b : Int} {s : PS4} (h : b ≤ ibits .or .u64 (IntKind.u64.wrap (s.rest * 2 ^ 1)) (s.hi.fdiv (2 ^ 63))) :
    pstep b s = ⟨w128 (w128 (s.q + s.q) + 1), IntKind.u64.wrap (ibits .or .u64 (IntKind.u64.wrap (s.rest * 2 ^ 1)) (s.hi.fdiv (2 ^ 63)) - b), ibits .or .u64 (IntKind.u64.wrap (s.hi * 2 ^ 1)) (s.lo.fdiv (2 ^ 63)), IntKind.u64.wrap (s.lo * 2 ^ 1)⟩ := if_pos h
theorem pst_f {b : Int} {s : PS4} (h : ¬ b ≤ ibits .or .u64 (IntKind.u64.wrap (s.rest * 2 ^ 1)) (s.hi.fdiv (2 ^ 63))) :
    pstep b s = ⟨w128 (s.q + s.q), ibits .or .u64 (IntKind.u64.wrap (s.rest * 2 ^ 1)) (s.hi.fdiv (2 ^ 63)), ibits .or .u64 (IntKind.u64.wrap (s.hi * 2 ^ 1)) (s.lo.fdiv (2 ^ 63)), IntKind.u64.wrap (s.lo * 2 ^ 1)⟩ := if_neg h

theorem V_parts (a b : Int) : VSem Tryz.prog GD 177 [W a, U b] (· = .tuple [W (partsF a b).q, U (partsF a b).rest]) := by
  refine VSem.of_body Tryz.func177 rfl (by kernel_rfl) ?_
  refine run_sound 4000 _ ?_
  simp -implicitDefEqProofs only [Tryz.f177, go_sem, Nat.reduceSub, Nat.reduceAdd, Nat.reduceMul, Nat.reduceDiv, Nat.reduceMod, Nat.reducePow, Nat.reduceLeDiff, Nat.reduceLT, Nat.reduceGT, Nat.reduceEqDiff, Nat.reduceBEq, Nat.reduceSubDiff, Nat.reduceBeqDiff, Int.reduceLE, Int.reduceLT, Int.reduceEq, Int.reduceToNat, Int.reduceAdd, Int.reduceSub, Int.reduceMul, Int.reduceNeg, Int.reduceGE, Int.reduceGT, Int.reduceNegSucc]
  refine draw_sem mixed [] (fun _ _ _ => True) [(0, []), (1, []), (2, []), (3, []), (4, []), (5, []), (6, [])] (by kernel_rfl) ?_
  simp -implicitDefEqProofs only [go_sem, Nat.reduceSub, Nat.reduceAdd, Nat.reduceMul, Nat.reduceDiv, Nat.reduceMod, Nat.reducePow, Nat.reduceLeDiff, Nat.reduceLT, Nat.reduceGT, Nat.reduceEqDiff, Nat.reduceBEq, Nat.reduceSubDiff, Nat.reduceBeqDiff, Int.reduceLE, Int.reduceLT, Int.reduceEq, Int.reduceToNat, Int.reduceAdd, Int.reduceSub, Int.reduceMul, Int.reduceNeg, Int.reduceGE, Int.reduceGT, Int.reduceNegSucc]
  by_cases hneg : a / 18446744073709551616 < 0
  · have d0 := decide_eq_true hneg
    have hps : pstart a = ⟨0, 0, IntKind.u64.wrap (w128 (0 - a) / 18446744073709551616), w128 (0 - a) % 18446744073709551616⟩ := if_pos hneg
    have hpe : piter b 127 (pstep b ⟨0, 0, IntKind.u64.wrap (w128 (0 - a) / 18446744073709551616), w128 (0 - a) % 18446744073709551616⟩) = partsF a b := by unfold partsF; rw [hps]; rfl
    refine run_sound 4000 _ ?_
    simp -implicitDefEqProofs only [go_sem, Nat.reduceSub, Nat.reduceAdd, Nat.reduceMul, Nat.reduceDiv, Nat.reduceMod, Nat.reducePow, Nat.reduceLeDiff, Nat.reduceLT, Nat.reduceGT, Nat.reduceEqDiff, Nat.reduceBEq, Nat.reduceSubDiff, Nat.reduceBeqDiff, Int.reduceLE, Int.reduceLT, Int.reduceEq, Int.reduceToNat, Int.reduceAdd, Int.reduceSub, Int.reduceMul, Int.reduceNeg, Int.reduceGE, Int.reduceGT, Int.reduceNegSucc, d0]
    refine call_A (V_less 0 a) rfl rfl ?_
    refine run_sound 4000 _ ?_
    simp -implicitDefEqProofs only [go_sem, Nat.reduceSub, Nat.reduceAdd, Nat.reduceMul, Nat.reduceDiv, Nat.reduceMod, Nat.reducePow, Nat.reduceLeDiff, Nat.reduceLT, Nat.reduceGT, Nat.reduceEqDiff, Nat.reduceBEq, Nat.reduceSubDiff, Nat.reduceBeqDiff, Int.reduceLE, Int.reduceLT, Int.reduceEq, Int.reduceToNat, Int.reduceAdd, Int.reduceSub, Int.reduceMul, Int.reduceNeg, Int.reduceGE, Int.reduceGT, Int.reduceNegSucc]
    refine draw_sem mixed [] (fun _ _ _ => True) [(0, []), (1, []), (2, []), (3, []), (4, []), (5, []), (6, [])] (by kernel_rfl) ?_
    simp -implicitDefEqProofs only [go_sem, Nat.reduceSub, Nat.reduceAdd, Nat.reduceMul, Nat.reduceDiv, Nat.reduceMod, Nat.reducePow, Nat.reduceLeDiff, Nat.reduceLT, Nat.reduceGT, Nat.reduceEqDiff, Nat.reduceBEq, Nat.reduceSubDiff, Nat.reduceBeqDiff, Int.reduceLE, Int.reduceLT, Int.reduceEq, Int.reduceToNat, Int.reduceAdd, Int.reduceSub, Int.reduceMul, Int.reduceNeg, Int.reduceGE, Int.reduceGT, Int.reduceNegSucc]
    refine run_sound 4000 _ ?_
    simp -implicitDefEqProofs only [go_sem, Nat.reduceSub, Nat.reduceAdd, Nat.reduceMul, Nat.reduceDiv, Nat.reduceMod, Nat.reducePow, Nat.reduceLeDiff, Nat.reduceLT, Nat.reduceGT, Nat.reduceEqDiff, Nat.reduceBEq, Nat.reduceSubDiff, Nat.reduceBeqDiff, Int.reduceLE, Int.reduceLT, Int.reduceEq, Int.reduceToNat, Int.reduceAdd, Int.reduceSub, Int.reduceMul, Int.reduceNeg, Int.reduceGE, Int.reduceGT, Int.reduceNegSucc]
    refine call_A (V_plus 0 0) rfl rfl ?_
    by_cases hb : b ≤ ibits .or .u64 (IntKind.u64.wrap (0 * 2 ^ 1)) ((IntKind.u64.wrap (w128 (0 - a) / 18446744073709551616)).fdiv (2 ^ 63))
    · have hb' := decide_eq_true hb
      have hp := pst_t (s := (⟨0, 0, IntKind.u64.wrap (w128 (0 - a) / 18446744073709551616), w128 (0 - a) % 18446744073709551616⟩ : PS4)) hb
      refine run_sound 4000 _ ?_
      simp -implicitDefEqProofs only [go_sem, Nat.reduceSub, Nat.reduceAdd, Nat.reduceMul, Nat.reduceDiv, Nat.reduceMod, Nat.reducePow, Nat.reduceLeDiff, Nat.reduceLT, Nat.reduceGT, Nat.reduceEqDiff, Nat.reduceBEq, Nat.reduceSubDiff, Nat.reduceBeqDiff, Int.reduceLE, Int.reduceLT, Int.reduceEq, Int.reduceToNat, Int.reduceAdd, Int.reduceSub, Int.reduceMul, Int.reduceNeg, Int.reduceGE, Int.reduceGT, Int.reduceNegSucc, hb']
      refine draw_sem mixed [98, 146] (fun f _ v => if f = 98 then v = W 1 else v = W (w128 (w128 (0 + 0) + 1))) [(0, []), (1, []), (2, []), (3, [])] (by kernel_rfl) ?_
      simp -implicitDefEqProofs only [go_sem, Nat.reduceSub, Nat.reduceAdd, Nat.reduceMul, Nat.reduceDiv, Nat.reduceMod, Nat.reducePow, Nat.reduceLeDiff, Nat.reduceLT, Nat.reduceGT, Nat.reduceEqDiff, Nat.reduceBEq, Nat.reduceSubDiff, Nat.reduceBeqDiff, Int.reduceLE, Int.reduceLT, Int.reduceEq, Int.reduceToNat, Int.reduceAdd, Int.reduceSub, Int.reduceMul, Int.reduceNeg, Int.reduceGE, Int.reduceGT, Int.reduceNegSucc]
      refine dcall_E (V_Of 1 (by decide)) rfl rfl (fun _ => Iff.rfl) ?_
      simp -implicitDefEqProofs only [go_sem, Nat.reduceSub, Nat.reduceAdd, Nat.reduceMul, Nat.reduceDiv, Nat.reduceMod, Nat.reducePow, Nat.reduceLeDiff, Nat.reduceLT, Nat.reduceGT, Nat.reduceEqDiff, Nat.reduceBEq, Nat.reduceSubDiff, Nat.reduceBeqDiff, Int.reduceLE, Int.reduceLT, Int.reduceEq, Int.reduceToNat, Int.reduceAdd, Int.reduceSub, Int.reduceMul, Int.reduceNeg, Int.reduceGE, Int.reduceGT, Int.reduceNegSucc]
      refine dcall_A (V_plus (w128 (0 + 0)) 1) rfl rfl rfl (fun _ => Iff.rfl) ?_
      simp -implicitDefEqProofs only [go_sem, Nat.reduceSub, Nat.reduceAdd, Nat.reduceMul, Nat.reduceDiv, Nat.reduceMod, Nat.reducePow, Nat.reduceLeDiff, Nat.reduceLT, Nat.reduceGT, Nat.reduceEqDiff, Nat.reduceBEq, Nat.reduceSubDiff, Nat.reduceBeqDiff, Int.reduceLE, Int.reduceLT, Int.reduceEq, Int.reduceToNat, Int.reduceAdd, Int.reduceSub, Int.reduceMul, Int.reduceNeg, Int.reduceGE, Int.reduceGT, Int.reduceNegSucc]
      refine run_sound 4000 _ ?_
      simp -implicitDefEqProofs only [go_sem, Nat.reduceSub, Nat.reduceAdd, Nat.reduceMul, Nat.reduceDiv, Nat.reduceMod, Nat.reducePow, Nat.reduceLeDiff, Nat.reduceLT, Nat.reduceGT, Nat.reduceEqDiff, Nat.reduceBEq, Nat.reduceSubDiff, Nat.reduceBeqDiff, Int.reduceLE, Int.reduceLT, Int.reduceEq, Int.reduceToNat, Int.reduceAdd, Int.reduceSub, Int.reduceMul, Int.reduceNeg, Int.reduceGE, Int.reduceGT, Int.reduceNegSucc]
      refine jump_ind (fun j st => ∃ (i : Int) (s : PS4) (ext : List Blk) (t3 t8 t10 t11 t12 t13 t14 t15 t16 t17 t18 t19 t20 t21 t22 t23 t24 t25 t26 t27 t28 t29 t30 t31 t32 t33 t34 t35 t36 t37 t38 t39 t40 t41 t42 t43 t44 t45 t46 t47 t48 t49 t50 t51 t52 t53 t54 t55 : AV), (i = j ∧ j ≤ 127 ∧ piter b j s = partsF a b) ∧ st = ⟨[W a, U b, .ptr 0 0, t3, .ptr 1 0, U s.rest, U s.hi, U s.lo, t8, I i, t10, t11, t12, t13, t14, t15, t16, t17, t18, t19, t20, t21, t22, t23, t24, t25, t26, t27, t28, t29, t30, t31, t32, t33, t34, t35, t36, t37, t38, t39, t40, t41, t42, t43, t44, t45, t46, t47, t48, t49, t50, t51, t52, t53, t54, t55], ⟨[.int .i64 (a / 18446744073709551616), .int .u64 (a % 18446744073709551616)], 139⟩ :: ⟨[.int .i64 (s.q / 18446744073709551616), .int .u64 (s.q % 18446744073709551616)], 139⟩ :: ext, []⟩) 127 ⟨127, pstep b (⟨0, 0, IntKind.u64.wrap (w128 (0 - a) / 18446744073709551616), w128 (0 - a) % 18446744073709551616⟩ : PS4), _, _, _, _, _, _, _, _, _, _, _, _, _, _, _, _, _, _, _, _, _, _, _, _, _, _, _, _, _, _, _, _, _, _, _, _, _, _, _, _, _, _, _, _, _, _, _, _, _, ⟨rfl, by omega, hpe⟩, by rw [hp]; rfl⟩ ?_
      rintro j _ ⟨i, s, ext, t3, t8, t10, t11, t12, t13, t14, t15, t16, t17, t18, t19, t20, t21, t22, t23, t24, t25, t26, t27, t28, t29, t30, t31, t32, t33, t34, t35, t36, t37, t38, t39, t40, t41, t42, t43, t44, t45, t46, t47, t48, t49, t50, t51, t52, t53, t54, t55, ⟨hi, hj, hs⟩, rfl⟩ ih
      by_cases h0 : i = 0
      · subst h0
        obtain rfl : j = 0 := by omega
        have hs : s = partsF a b := hs
        refine run_sound 4000 _ ?_
        simp -implicitDefEqProofs only [go_sem, Nat.reduceSub, Nat.reduceAdd, Nat.reduceMul, Nat.reduceDiv, Nat.reduceMod, Nat.reducePow, Nat.reduceLeDiff, Nat.reduceLT, Nat.reduceGT, Nat.reduceEqDiff, Nat.reduceBEq, Nat.reduceSubDiff, Nat.reduceBeqDiff, Int.reduceLE, Int.reduceLT, Int.reduceEq, Int.reduceToNat, Int.reduceAdd, Int.reduceSub, Int.reduceMul, Int.reduceNeg, Int.reduceGE, Int.reduceGT, Int.reduceNegSucc]
        refine done_ret ?_
        simp -implicitDefEqProofs only [go_sem, Nat.reduceSub, Nat.reduceAdd, Nat.reduceMul, Nat.reduceDiv, Nat.reduceMod, Nat.reducePow, Nat.reduceLeDiff, Nat.reduceLT, Nat.reduceGT, Nat.reduceEqDiff, Nat.reduceBEq, Nat.reduceSubDiff, Nat.reduceBeqDiff, Int.reduceLE, Int.reduceLT, Int.reduceEq, Int.reduceToNat, Int.reduceAdd, Int.reduceSub, Int.reduceMul, Int.reduceNeg, Int.reduceGE, Int.reduceGT, Int.reduceNegSucc]
        rw [hs]
      have h0' := decide_eq_false h0
      have hw : IntKind.i64.wrap (i - 1) = i - 1 := by rw [IntKind.wrap_i64]; omega
      obtain ⟨j, rfl⟩ : ∃ j', j = j' + 1 := ⟨j - 1, by omega⟩
      refine run_sound 4000 _ ?_
      simp -implicitDefEqProofs only [go_sem, Nat.reduceSub, Nat.reduceAdd, Nat.reduceMul, Nat.reduceDiv, Nat.reduceMod, Nat.reducePow, Nat.reduceLeDiff, Nat.reduceLT, Nat.reduceGT, Nat.reduceEqDiff, Nat.reduceBEq, Nat.reduceSubDiff, Nat.reduceBeqDiff, Int.reduceLE, Int.reduceLT, Int.reduceEq, Int.reduceToNat, Int.reduceAdd, Int.reduceSub, Int.reduceMul, Int.reduceNeg, Int.reduceGE, Int.reduceGT, Int.reduceNegSucc, h0', hw]
      refine call_A (V_plus s.q s.q) rfl rfl ?_
      by_cases hb2 : b ≤ ibits .or .u64 (IntKind.u64.wrap (s.rest * 2 ^ 1)) (s.hi.fdiv (2 ^ 63))
      · have hb2' := decide_eq_true hb2
        have hp2 := pst_t hb2
        refine run_sound 4000 _ ?_
        simp -implicitDefEqProofs only [go_sem, Nat.reduceSub, Nat.reduceAdd, Nat.reduceMul, Nat.reduceDiv, Nat.reduceMod, Nat.reducePow, Nat.reduceLeDiff, Nat.reduceLT, Nat.reduceGT, Nat.reduceEqDiff, Nat.reduceBEq, Nat.reduceSubDiff, Nat.reduceBeqDiff, Int.reduceLE, Int.reduceLT, Int.reduceEq, Int.reduceToNat, Int.reduceAdd, Int.reduceSub, Int.reduceMul, Int.reduceNeg, Int.reduceGE, Int.reduceGT, Int.reduceNegSucc, hb2']
        refine draw_sem mixed [98, 146] (fun f _ v => if f = 98 then v = W 1 else v = W (w128 (w128 (s.q + s.q) + 1))) [(0, []), (1, []), (2, []), (3, [])] (by kernel_rfl) ?_
        simp -implicitDefEqProofs only [go_sem, Nat.reduceSub, Nat.reduceAdd, Nat.reduceMul, Nat.reduceDiv, Nat.reduceMod, Nat.reducePow, Nat.reduceLeDiff, Nat.reduceLT, Nat.reduceGT, Nat.reduceEqDiff, Nat.reduceBEq, Nat.reduceSubDiff, Nat.reduceBeqDiff, Int.reduceLE, Int.reduceLT, Int.reduceEq, Int.reduceToNat, Int.reduceAdd, Int.reduceSub, Int.reduceMul, Int.reduceNeg, Int.reduceGE, Int.reduceGT, Int.reduceNegSucc]
        refine dcall_E (V_Of 1 (by decide)) rfl rfl (fun _ => Iff.rfl) ?_
        simp -implicitDefEqProofs only [go_sem, Nat.reduceSub, Nat.reduceAdd, Nat.reduceMul, Nat.reduceDiv, Nat.reduceMod, Nat.reducePow, Nat.reduceLeDiff, Nat.reduceLT, Nat.reduceGT, Nat.reduceEqDiff, Nat.reduceBEq, Nat.reduceSubDiff, Nat.reduceBeqDiff, Int.reduceLE, Int.reduceLT, Int.reduceEq, Int.reduceToNat, Int.reduceAdd, Int.reduceSub, Int.reduceMul, Int.reduceNeg, Int.reduceGE, Int.reduceGT, Int.reduceNegSucc]
        refine dcall_A (V_plus (w128 (s.q + s.q)) 1) rfl rfl rfl (fun _ => Iff.rfl) ?_
        simp -implicitDefEqProofs only [go_sem, Nat.reduceSub, Nat.reduceAdd, Nat.reduceMul, Nat.reduceDiv, Nat.reduceMod, Nat.reducePow, Nat.reduceLeDiff, Nat.reduceLT, Nat.reduceGT, Nat.reduceEqDiff, Nat.reduceBEq, Nat.reduceSubDiff, Nat.reduceBeqDiff, Int.reduceLE, Int.reduceLT, Int.reduceEq, Int.reduceToNat, Int.reduceAdd, Int.reduceSub, Int.reduceMul, Int.reduceNeg, Int.reduceGE, Int.reduceGT, Int.reduceNegSucc]
        refine run_sound 4000 _ ?_
        simp -implicitDefEqProofs only [go_sem, Nat.reduceSub, Nat.reduceAdd, Nat.reduceMul, Nat.reduceDiv, Nat.reduceMod, Nat.reducePow, Nat.reduceLeDiff, Nat.reduceLT, Nat.reduceGT, Nat.reduceEqDiff, Nat.reduceBEq, Nat.reduceSubDiff, Nat.reduceBeqDiff, Int.reduceLE, Int.reduceLT, Int.reduceEq, Int.reduceToNat, Int.reduceAdd, Int.reduceSub, Int.reduceMul, Int.reduceNeg, Int.reduceGE, Int.reduceGT, Int.reduceNegSucc]
        exact ih j _ (by omega) ⟨i - 1, pstep b s, ext, _, _, _, _, _, _, _, _, _, _, _, _, _, _, _, _, _, _, _, _, _, _, _, _, _, _, _, _, _, _, _, _, _, _, _, _, _, _, _, _, _, _, _, _, _, _, _, _, ⟨by omega, by omega, hs⟩, by rw [hp2]⟩
      · have hb2' := decide_eq_false hb2
        have hp2 := pst_f hb2
        refine run_sound 4000 _ ?_
        simp -implicitDefEqProofs only [go_sem, Nat.reduceSub, Nat.reduceAdd, Nat.reduceMul, Nat.reduceDiv, Nat.reduceMod, Nat.reducePow, Nat.reduceLeDiff, Nat.reduceLT, Nat.reduceGT, Nat.reduceEqDiff, Nat.reduceBEq, Nat.reduceSubDiff, Nat.reduceBeqDiff, Int.reduceLE, Int.reduceLT, Int.reduceEq, Int.reduceToNat, Int.reduceAdd, Int.reduceSub, Int.reduceMul, Int.reduceNeg, Int.reduceGE, Int.reduceGT, Int.reduceNegSucc, hb2']
        exact ih j _ (by omega) ⟨i - 1, pstep b s, ext, _, _, _, _, _, _, _, _, _, _, _, _, _, _, _, _, _, _, _, _, _, _, _, _, _, _, _, _, _, _, _, _, _, _, _, _, _, _, _, _, _, _, _, _, _, _, _, _, ⟨by omega, by omega, hs⟩, by rw [hp2]⟩
    · have hb' := decide_eq_false hb
      have hp := pst_f (s := (⟨0, 0, IntKind.u64.wrap (w128 (0 - a) / 18446744073709551616), w128 (0 - a) % 18446744073709551616⟩ : PS4)) hb
      refine run_sound 4000 _ ?_
      simp -implicitDefEqProofs only [go_sem, Nat.reduceSub, Nat.reduceAdd, Nat.reduceMul, Nat.reduceDiv, Nat.reduceMod, Nat.reducePow, Nat.reduceLeDiff, Nat.reduceLT, Nat.reduceGT, Nat.reduceEqDiff, Nat.reduceBEq, Nat.reduceSubDiff, Nat.reduceBeqDiff, Int.reduceLE, Int.reduceLT, Int.reduceEq, Int.reduceToNat, Int.reduceAdd, Int.reduceSub, Int.reduceMul, Int.reduceNeg, Int.reduceGE, Int.reduceGT, Int.reduceNegSucc, hb']
      refine jump_ind (fun j st => ∃ (i : Int) (s : PS4) (ext : List Blk) (t3 t8 t10 t11 t12 t13 t14 t15 t16 t17 t18 t19 t20 t21 t22 t23 t24 t25 t26 t27 t28 t29 t30 t31 t32 t33 t34 t35 t36 t37 t38 t39 t40 t41 t42 t43 t44 t45 t46 t47 t48 t49 t50 t51 t52 t53 t54 t55 : AV), (i = j ∧ j ≤ 127 ∧ piter b j s = partsF a b) ∧ st = ⟨[W a, U b, .ptr 0 0, t3, .ptr 1 0, U s.rest, U s.hi, U s.lo, t8, I i, t10, t11, t12, t13, t14, t15, t16, t17, t18, t19, t20, t21, t22, t23, t24, t25, t26, t27, t28, t29, t30, t31, t32, t33, t34, t35, t36, t37, t38, t39, t40, t41, t42, t43, t44, t45, t46, t47, t48, t49, t50, t51, t52, t53, t54, t55], ⟨[.int .i64 (a / 18446744073709551616), .int .u64 (a % 18446744073709551616)], 139⟩ :: ⟨[.int .i64 (s.q / 18446744073709551616), .int .u64 (s.q % 18446744073709551616)], 139⟩ :: ext, []⟩) 127 ⟨127, pstep b (⟨0, 0, IntKind.u64.wrap (w128 (0 - a) / 18446744073709551616), w128 (0 - a) % 18446744073709551616⟩ : PS4), _, _, _, _, _, _, _, _, _, _, _, _, _, _, _, _, _, _, _, _, _, _, _, _, _, _, _, _, _, _, _, _, _, _, _, _, _, _, _, _, _, _, _, _, _, _, _, _, _, ⟨rfl, by omega, hpe⟩, by rw [hp]; rfl⟩ ?_
      rintro j _ ⟨i, s, ext, t3, t8, t10, t11, t12, t13, t14, t15, t16, t17, t18, t19, t20, t21, t22, t23, t24, t25, t26, t27, t28, t29, t30, t31, t32, t33, t34, t35, t36, t37, t38, t39, t40, t41, t42, t43, t44, t45, t46, t47, t48, t49, t50, t51, t52, t53, t54, t55, ⟨hi, hj, hs⟩, rfl⟩ ih
      by_cases h0 : i = 0
      · subst h0
        obtain rfl : j = 0 := by omega
        have hs : s = partsF a b := hs
        refine run_sound 4000 _ ?_
        simp -implicitDefEqProofs only [go_sem, Nat.reduceSub, Nat.reduceAdd, Nat.reduceMul, Nat.reduceDiv, Nat.reduceMod, Nat.reducePow, Nat.reduceLeDiff, Nat.reduceLT, Nat.reduceGT, Nat.reduceEqDiff, Nat.reduceBEq, Nat.reduceSubDiff, Nat.reduceBeqDiff, Int.reduceLE, Int.reduceLT, Int.reduceEq, Int.reduceToNat, Int.reduceAdd, Int.reduceSub, Int.reduceMul, Int.reduceNeg, Int.reduceGE, Int.reduceGT, Int.reduceNegSucc]
        refine done_ret ?_
        simp -implicitDefEqProofs only [go_sem, Nat.reduceSub, Nat.reduceAdd, Nat.reduceMul, Nat.reduceDiv, Nat.reduceMod, Nat.reducePow, Nat.reduceLeDiff, Nat.reduceLT, Nat.reduceGT, Nat.reduceEqDiff, Nat.reduceBEq, Nat.reduceSubDiff, Nat.reduceBeqDiff, Int.reduceLE, Int.reduceLT, Int.reduceEq, Int.reduceToNat, Int.reduceAdd, Int.reduceSub, Int.reduceMul, Int.reduceNeg, Int.reduceGE, Int.reduceGT, Int.reduceNegSucc]
        rw [hs]
      have h0' := decide_eq_false h0
      have hw : IntKind.i64.wrap (i - 1) = i - 1 := by rw [IntKind.wrap_i64]; omega
      obtain ⟨j, rfl⟩ : ∃ j', j = j' + 1 := ⟨j - 1, by omega⟩
      refine run_sound 4000 _ ?_
      simp -implicitDefEqProofs only [go_sem, Nat.reduceSub, Nat.reduceAdd, Nat.reduceMul, Nat.reduceDiv, Nat.reduceMod, Nat.reducePow, Nat.reduceLeDiff, Nat.reduceLT, Nat.reduceGT, Nat.reduceEqDiff, Nat.reduceBEq, Nat.reduceSubDiff, Nat.reduceBeqDiff, Int.reduceLE, Int.reduceLT, Int.reduceEq, Int.reduceToNat, Int.reduceAdd, Int.reduceSub, Int.reduceMul, Int.reduceNeg, Int.reduceGE, Int.reduceGT, Int.reduceNegSucc, h0', hw]
      refine call_A (V_plus s.q s.q) rfl rfl ?_
      by_cases hb2 : b ≤ ibits .or .u64 (IntKind.u64.wrap (s.rest * 2 ^ 1)) (s.hi.fdiv (2 ^ 63))
      · have hb2' := decide_eq_true hb2
        have hp2 := pst_t hb2
        refine run_sound 4000 _ ?_
        simp -implicitDefEqProofs only [go_sem, Nat.reduceSub, Nat.reduceAdd, Nat.reduceMul, Nat.reduceDiv, Nat.reduceMod, Nat.reducePow, Nat.reduceLeDiff, Nat.reduceLT, Nat.reduceGT, Nat.reduceEqDiff, Nat.reduceBEq, Nat.reduceSubDiff, Nat.reduceBeqDiff, Int.reduceLE, Int.reduceLT, Int.reduceEq, Int.reduceToNat, Int.reduceAdd, Int.reduceSub, Int.reduceMul, Int.reduceNeg, Int.reduceGE, Int.reduceGT, Int.reduceNegSucc, hb2']
        refine draw_sem mixed [98, 146] (fun f _ v => if f = 98 then v = W 1 else v = W (w128 (w128 (s.q + s.q) + 1))) [(0, []), (1, []), (2, []), (3, [])] (by kernel_rfl) ?_
        simp -implicitDefEqProofs only [go_sem, Nat.reduceSub, Nat.reduceAdd, Nat.reduceMul, Nat.reduceDiv, Nat.reduceMod, Nat.reducePow, Nat.reduceLeDiff, Nat.reduceLT, Nat.reduceGT, Nat.reduceEqDiff, Nat.reduceBEq, Nat.reduceSubDiff, Nat.reduceBeqDiff, Int.reduceLE, Int.reduceLT, Int.reduceEq, Int.reduceToNat, Int.reduceAdd, Int.reduceSub, Int.reduceMul, Int.reduceNeg, Int.reduceGE, Int.reduceGT, Int.reduceNegSucc]
        refine dcall_E (V_Of 1 (by decide)) rfl rfl (fun _ => Iff.rfl) ?_
        simp -implicitDefEqProofs only [go_sem, Nat.reduceSub, Nat.reduceAdd, Nat.reduceMul, Nat.reduceDiv, Nat.reduceMod, Nat.reducePow, Nat.reduceLeDiff, Nat.reduceLT, Nat.reduceGT, Nat.reduceEqDiff, Nat.reduceBEq, Nat.reduceSubDiff, Nat.reduceBeqDiff, Int.reduceLE, Int.reduceLT, Int.reduceEq, Int.reduceToNat, Int.reduceAdd, Int.reduceSub, Int.reduceMul, Int.reduceNeg, Int.reduceGE, Int.reduceGT, Int.reduceNegSucc]
        refine dcall_A (V_plus (w128 (s.q + s.q)) 1) rfl rfl rfl (fun _ => Iff.rfl) ?_
        simp -implicitDefEqProofs only [go_sem, Nat.reduceSub, Nat.reduceAdd, Nat.reduceMul, Nat.reduceDiv, Nat.reduceMod, Nat.reducePow, Nat.reduceLeDiff, Nat.reduceLT, Nat.reduceGT, Nat.reduceEqDiff, Nat.reduceBEq, Nat.reduceSubDiff, Nat.reduceBeqDiff, Int.reduceLE, Int.reduceLT, Int.reduceEq, Int.reduceToNat, Int.reduceAdd, Int.reduceSub, Int.reduceMul, Int.reduceNeg, Int.reduceGE, Int.reduceGT, Int.reduceNegSucc]
        refine run_sound 4000 _ ?_
        simp -implicitDefEqProofs only [go_sem, Nat.reduceSub, Nat.reduceAdd, Nat.reduceMul, Nat.reduceDiv, Nat.reduceMod, Nat.reducePow, Nat.reduceLeDiff, Nat.reduceLT, Nat.reduceGT, Nat.reduceEqDiff, Nat.reduceBEq, Nat.reduceSubDiff, Nat.reduceBeqDiff, Int.reduceLE, Int.reduceLT, Int.reduceEq, Int.reduceToNat, Int.reduceAdd, Int.reduceSub, Int.reduceMul, Int.reduceNeg, Int.reduceGE, Int.reduceGT, Int.reduceNegSucc]
        exact ih j _ (by omega) ⟨i - 1, pstep b s, ext, _, _, _, _, _, _, _, _, _, _, _, _, _, _, _, _, _, _, _, _, _, _, _, _, _, _, _, _, _, _, _, _, _, _, _, _, _, _, _, _, _, _, _, _, _, _, _, _, ⟨by omega, by omega, hs⟩, by rw [hp2]⟩
      · have hb2' := decide_eq_false hb2
        have hp2 := pst_f hb2
        refine run_sound 4000 _ ?_
        simp -implicitDefEqProofs only [go_sem, Nat.reduceSub, Nat.reduceAdd, Nat.reduceMul, Nat.reduceDiv, Nat.reduceMod, Nat.reducePow, Nat.reduceLeDiff, Nat.reduceLT, Nat.reduceGT, Nat.reduceEqDiff, Nat.reduceBEq, Nat.reduceSubDiff, Nat.reduceBeqDiff, Int.reduceLE, Int.reduceLT, Int.reduceEq, Int.reduceToNat, Int.reduceAdd, Int.reduceSub, Int.reduceMul, Int.reduceNeg, Int.reduceGE, Int.reduceGT, Int.reduceNegSucc, hb2']
        exact ih j _ (by omega) ⟨i - 1, pstep b s, ext, _, _, _, _, _, _, _, _, _, _, _, _, _, _, _, _, _, _, _, _, _, _, _, _, _, _, _, _, _, _, _, _, _, _, _, _, _, _, _, _, _, _, _, _, _, _, _, _, ⟨by omega, by omega, hs⟩, by rw [hp2]⟩
  · have d0 := decide_eq_false hneg
    have hps : pstart a = ⟨0, 0, IntKind.u64.wrap (a / 18446744073709551616), a % 18446744073709551616⟩ := if_neg hneg
    have hpe : piter b 127 (pstep b ⟨0, 0, IntKind.u64.wrap (a / 18446744073709551616), a % 18446744073709551616⟩) = partsF a b := by unfold partsF; rw [hps]; rfl
    refine run_sound 4000 _ ?_
    simp -implicitDefEqProofs only [go_sem, Nat.reduceSub, Nat.reduceAdd, Nat.reduceMul, Nat.reduceDiv, Nat.reduceMod, Nat.reducePow, Nat.reduceLeDiff, Nat.reduceLT, Nat.reduceGT, Nat.reduceEqDiff, Nat.reduceBEq, Nat.reduceSubDiff, Nat.reduceBeqDiff, Int.reduceLE, Int.reduceLT, Int.reduceEq, Int.reduceToNat, Int.reduceAdd, Int.reduceSub, Int.reduceMul, Int.reduceNeg, Int.reduceGE, Int.reduceGT, Int.reduceNegSucc, d0]
    refine call_A (V_plus 0 0) rfl rfl ?_
    by_cases hb : b ≤ ibits .or .u64 (IntKind.u64.wrap (0 * 2 ^ 1)) ((IntKind.u64.wrap (a / 18446744073709551616)).fdiv (2 ^ 63))
    · have hb' := decide_eq_true hb
      have hp := pst_t (s := (⟨0, 0, IntKind.u64.wrap (a / 18446744073709551616), a % 18446744073709551616⟩ : PS4)) hb
      refine run_sound 4000 _ ?_
      simp -implicitDefEqProofs only [go_sem, Nat.reduceSub, Nat.reduceAdd, Nat.reduceMul, Nat.reduceDiv, Nat.reduceMod, Nat.reducePow, Nat.reduceLeDiff, Nat.reduceLT, Nat.reduceGT, Nat.reduceEqDiff, Nat.reduceBEq, Nat.reduceSubDiff, Nat.reduceBeqDiff, Int.reduceLE, Int.reduceLT, Int.reduceEq, Int.reduceToNat, Int.reduceAdd, Int.reduceSub, Int.reduceMul, Int.reduceNeg, Int.reduceGE, Int.reduceGT, Int.reduceNegSucc, hb']
      refine draw_sem mixed [98, 146] (fun f _ v => if f = 98 then v = W 1 else v = W (w128 (w128 (0 + 0) + 1))) [(0, []), (1, []), (2, []), (3, [])] (by kernel_rfl) ?_
      simp -implicitDefEqProofs only [go_sem, Nat.reduceSub, Nat.reduceAdd, Nat.reduceMul, Nat.reduceDiv, Nat.reduceMod, Nat.reducePow, Nat.reduceLeDiff, Nat.reduceLT, Nat.reduceGT, Nat.reduceEqDiff, Nat.reduceBEq, Nat.reduceSubDiff, Nat.reduceBeqDiff, Int.reduceLE, Int.reduceLT, Int.reduceEq, Int.reduceToNat, Int.reduceAdd, Int.reduceSub, Int.reduceMul, Int.reduceNeg, Int.reduceGE, Int.reduceGT, Int.reduceNegSucc]
      refine dcall_E (V_Of 1 (by decide)) rfl rfl (fun _ => Iff.rfl) ?_
      simp -implicitDefEqProofs only [go_sem, Nat.reduceSub, Nat.reduceAdd, Nat.reduceMul, Nat.reduceDiv, Nat.reduceMod, Nat.reducePow, Nat.reduceLeDiff, Nat.reduceLT, Nat.reduceGT, Nat.reduceEqDiff, Nat.reduceBEq, Nat.reduceSubDiff, Nat.reduceBeqDiff, Int.reduceLE, Int.reduceLT, Int.reduceEq, Int.reduceToNat, Int.reduceAdd, Int.reduceSub, Int.reduceMul, Int.reduceNeg, Int.reduceGE, Int.reduceGT, Int.reduceNegSucc]
      refine dcall_A (V_plus (w128 (0 + 0)) 1) rfl rfl rfl (fun _ => Iff.rfl) ?_
      simp -implicitDefEqProofs only [go_sem, Nat.reduceSub, Nat.reduceAdd, Nat.reduceMul, Nat.reduceDiv, Nat.reduceMod, Nat.reducePow, Nat.reduceLeDiff, Nat.reduceLT, Nat.reduceGT, Nat.reduceEqDiff, Nat.reduceBEq, Nat.reduceSubDiff, Nat.reduceBeqDiff, Int.reduceLE, Int.reduceLT, Int.reduceEq, Int.reduceToNat, Int.reduceAdd, Int.reduceSub, Int.reduceMul, Int.reduceNeg, Int.reduceGE, Int.reduceGT, Int.reduceNegSucc]
      refine run_sound 4000 _ ?_
      simp -implicitDefEqProofs only [go_sem, Nat.reduceSub, Nat.reduceAdd, Nat.reduceMul, Nat.reduceDiv, Nat.reduceMod, Nat.reducePow, Nat.reduceLeDiff, Nat.reduceLT, Nat.reduceGT, Nat.reduceEqDiff, Nat.reduceBEq, Nat.reduceSubDiff, Nat.reduceBeqDiff, Int.reduceLE, Int.reduceLT, Int.reduceEq, Int.reduceToNat, Int.reduceAdd, Int.reduceSub, Int.reduceMul, Int.reduceNeg, Int.reduceGE, Int.reduceGT, Int.reduceNegSucc]
      refine jump_ind (fun j st => ∃ (i : Int) (s : PS4) (ext : List Blk) (t3 t8 t10 t11 t12 t13 t14 t15 t16 t17 t18 t19 t20 t21 t22 t23 t24 t25 t26 t27 t28 t29 t30 t31 t32 t33 t34 t35 t36 t37 t38 t39 t40 t41 t42 t43 t44 t45 t46 t47 t48 t49 t50 t51 t52 t53 t54 t55 : AV), (i = j ∧ j ≤ 127 ∧ piter b j s = partsF a b) ∧ st = ⟨[W a, U b, .ptr 0 0, t3, .ptr 1 0, U s.rest, U s.hi, U s.lo, t8, I i, t10, t11, t12, t13, t14, t15, t16, t17, t18, t19, t20, t21, t22, t23, t24, t25, t26, t27, t28, t29, t30, t31, t32, t33, t34, t35, t36, t37, t38, t39, t40, t41, t42, t43, t44, t45, t46, t47, t48, t49, t50, t51, t52, t53, t54, t55], ⟨[.int .i64 (a / 18446744073709551616), .int .u64 (a % 18446744073709551616)], 139⟩ :: ⟨[.int .i64 (s.q / 18446744073709551616), .int .u64 (s.q % 18446744073709551616)], 139⟩ :: ext, []⟩) 127 ⟨127, pstep b (⟨0, 0, IntKind.u64.wrap (a / 18446744073709551616), a % 18446744073709551616⟩ : PS4), _, _, _, _, _, _, _, _, _, _, _, _, _, _, _, _, _, _, _, _, _, _, _, _, _, _, _, _, _, _, _, _, _, _, _, _, _, _, _, _, _, _, _, _, _, _, _, _, _, ⟨rfl, by omega, hpe⟩, by rw [hp]; rfl⟩ ?_
      rintro j _ ⟨i, s, ext, t3, t8, t10, t11, t12, t13, t14, t15, t16, t17, t18, t19, t20, t21, t22, t23, t24, t25, t26, t27, t28, t29, t30, t31, t32, t33, t34, t35, t36, t37, t38, t39, t40, t41, t42, t43, t44, t45, t46, t47, t48, t49, t50, t51, t52, t53, t54, t55, ⟨hi, hj, hs⟩, rfl⟩ ih
      by_cases h0 : i = 0
      · subst h0
        obtain rfl : j = 0 := by omega
        have hs : s = partsF a b := hs
        refine run_sound 4000 _ ?_
        simp -implicitDefEqProofs only [go_sem, Nat.reduceSub, Nat.reduceAdd, Nat.reduceMul, Nat.reduceDiv, Nat.reduceMod, Nat.reducePow, Nat.reduceLeDiff, Nat.reduceLT, Nat.reduceGT, Nat.reduceEqDiff, Nat.reduceBEq, Nat.reduceSubDiff, Nat.reduceBeqDiff, Int.reduceLE, Int.reduceLT, Int.reduceEq, Int.reduceToNat, Int.reduceAdd, Int.reduceSub, Int.reduceMul, Int.reduceNeg, Int.reduceGE, Int.reduceGT, Int.reduceNegSucc]
        refine done_ret ?_
        simp -implicitDefEqProofs only [go_sem, Nat.reduceSub, Nat.reduceAdd, Nat.reduceMul, Nat.reduceDiv, Nat.reduceMod, Nat.reducePow, Nat.reduceLeDiff, Nat.reduceLT, Nat.reduceGT, Nat.reduceEqDiff, Nat.reduceBEq, Nat.reduceSubDiff, Nat.reduceBeqDiff, Int.reduceLE, Int.reduceLT, Int.reduceEq, Int.reduceToNat, Int.reduceAdd, Int.reduceSub, Int.reduceMul, Int.reduceNeg, Int.reduceGE, Int.reduceGT, Int.reduceNegSucc]
        rw [hs]
      have h0' := decide_eq_false h0
      have hw : IntKind.i64.wrap (i - 1) = i - 1 := by rw [IntKind.wrap_i64]; omega
      obtain ⟨j, rfl⟩ : ∃ j', j = j' + 1 := ⟨j - 1, by omega⟩
      refine run_sound 4000 _ ?_
      simp -implicitDefEqProofs only [go_sem, Nat.reduceSub, Nat.reduceAdd, Nat.reduceMul, Nat.reduceDiv, Nat.reduceMod, Nat.reducePow, Nat.reduceLeDiff, Nat.reduceLT, Nat.reduceGT, Nat.reduceEqDiff, Nat.reduceBEq, Nat.reduceSubDiff, Nat.reduceBeqDiff, Int.reduceLE, Int.reduceLT, Int.reduceEq, Int.reduceToNat, Int.reduceAdd, Int.reduceSub, Int.reduceMul, Int.reduceNeg, Int.reduceGE, Int.reduceGT, Int.reduceNegSucc, h0', hw]
      refine call_A (V_plus s.q s.q) rfl rfl ?_
      by_cases hb2 : b ≤ ibits .or .u64 (IntKind.u64.wrap (s.rest * 2 ^ 1)) (s.hi.fdiv (2 ^ 63))
      · have hb2' := decide_eq_true hb2
        have hp2 := pst_t hb2
        refine run_sound 4000 _ ?_
        simp -implicitDefEqProofs only [go_sem, Nat.reduceSub, Nat.reduceAdd, Nat.reduceMul, Nat.reduceDiv, Nat.reduceMod, Nat.reducePow, Nat.reduceLeDiff, Nat.reduceLT, Nat.reduceGT, Nat.reduceEqDiff, Nat.reduceBEq, Nat.reduceSubDiff, Nat.reduceBeqDiff, Int.reduceLE, Int.reduceLT, Int.reduceEq, Int.reduceToNat, Int.reduceAdd, Int.reduceSub, Int.reduceMul, Int.reduceNeg, Int.reduceGE, Int.reduceGT, Int.reduceNegSucc, hb2']
        refine draw_sem mixed [98, 146] (fun f _ v => if f = 98 then v = W 1 else v = W (w128 (w128 (s.q + s.q) + 1))) [(0, []), (1, []), (2, []), (3, [])] (by kernel_rfl) ?_
        simp -implicitDefEqProofs only [go_sem, Nat.reduceSub, Nat.reduceAdd, Nat.reduceMul, Nat.reduceDiv, Nat.reduceMod, Nat.reducePow, Nat.reduceLeDiff, Nat.reduceLT, Nat.reduceGT, Nat.reduceEqDiff, Nat.reduceBEq, Nat.reduceSubDiff, Nat.reduceBeqDiff, Int.reduceLE, Int.reduceLT, Int.reduceEq, Int.reduceToNat, Int.reduceAdd, Int.reduceSub, Int.reduceMul, Int.reduceNeg, Int.reduceGE, Int.reduceGT, Int.reduceNegSucc]
        refine dcall_E (V_Of 1 (by decide)) rfl rfl (fun _ => Iff.rfl) ?_
        simp -implicitDefEqProofs only [go_sem, Nat.reduceSub, Nat.reduceAdd, Nat.reduceMul, Nat.reduceDiv, Nat.reduceMod, Nat.reducePow, Nat.reduceLeDiff, Nat.reduceLT, Nat.reduceGT, Nat.reduceEqDiff, Nat.reduceBEq, Nat.reduceSubDiff, Nat.reduceBeqDiff, Int.reduceLE, Int.reduceLT, Int.reduceEq, Int.reduceToNat, Int.reduceAdd, Int.reduceSub, Int.reduceMul, Int.reduceNeg, Int.reduceGE, Int.reduceGT, Int.reduceNegSucc]
        refine dcall_A (V_plus (w128 (s.q + s.q)) 1) rfl rfl rfl (fun _ => Iff.rfl) ?_
        simp -implicitDefEqProofs only [go_sem, Nat.reduceSub, Nat.reduceAdd, Nat.reduceMul, Nat.reduceDiv, Nat.reduceMod, Nat.reducePow, Nat.reduceLeDiff, Nat.reduceLT, Nat.reduceGT, Nat.reduceEqDiff, Nat.reduceBEq, Nat.reduceSubDiff, Nat.reduceBeqDiff, Int.reduceLE, Int.reduceLT, Int.reduceEq, Int.reduceToNat, Int.reduceAdd, Int.reduceSub, Int.reduceMul, Int.reduceNeg, Int.reduceGE, Int.reduceGT, Int.reduceNegSucc]
        refine run_sound 4000 _ ?_
        simp -implicitDefEqProofs only [go_sem, Nat.reduceSub, Nat.reduceAdd, Nat.reduceMul, Nat.reduceDiv, Nat.reduceMod, Nat.reducePow, Nat.reduceLeDiff, Nat.reduceLT, Nat.reduceGT, Nat.reduceEqDiff, Nat.reduceBEq, Nat.reduceSubDiff, Nat.reduceBeqDiff, Int.reduceLE, Int.reduceLT, Int.reduceEq, Int.reduceToNat, Int.reduceAdd, Int.reduceSub, Int.reduceMul, Int.reduceNeg, Int.reduceGE, Int.reduceGT, Int.reduceNegSucc]
        exact ih j _ (by omega) ⟨i - 1, pstep b s, ext, _, _, _, _, _, _, _, _, _, _, _, _, _, _, _, _, _, _, _, _, _, _, _, _, _, _, _, _, _, _, _, _, _, _, _, _, _, _, _, _, _, _, _, _, _, _, _, _, ⟨by omega, by omega, hs⟩, by rw [hp2]⟩
      · have hb2' := decide_eq_false hb2
        have hp2 := pst_f hb2
        refine run_sound 4000 _ ?_
        simp -implicitDefEqProofs only [go_sem, Nat.reduceSub, Nat.reduceAdd, Nat.reduceMul, Nat.reduceDiv, Nat.reduceMod, Nat.reducePow, Nat.reduceLeDiff, Nat.reduceLT, Nat.reduceGT, Nat.reduceEqDiff, Nat.reduceBEq, Nat.reduceSubDiff, Nat.reduceBeqDiff, Int.reduceLE, Int.reduceLT, Int.reduceEq, Int.reduceToNat, Int.reduceAdd, Int.reduceSub, Int.reduceMul, Int.reduceNeg, Int.reduceGE, Int.reduceGT, Int.reduceNegSucc, hb2']
        exact ih j _ (by omega) ⟨i - 1, pstep b s, ext, _, _, _, _, _, _, _, _, _, _, _, _, _, _, _, _, _, _, _, _, _, _, _, _, _, _, _, _, _, _, _, _, _, _, _, _, _, _, _, _, _, _, _, _, _, _, _, _, ⟨by omega, by omega, hs⟩, by rw [hp2]⟩
    · have hb' := decide_eq_false hb
      have hp := pst_f (s := (⟨0, 0, IntKind.u64.wrap (a / 18446744073709551616), a % 18446744073709551616⟩ : PS4)) hb
      refine run_sound 4000 _ ?_
      simp -implicitDefEqProofs only [go_sem, Nat.reduceSub, Nat.reduceAdd, Nat.reduceMul, Nat.reduceDiv, Nat.reduceMod, Nat.reducePow, Nat.reduceLeDiff, Nat.reduceLT, Nat.reduceGT, Nat.reduceEqDiff, Nat.reduceBEq, Nat.reduceSubDiff, Nat.reduceBeqDiff, Int.reduceLE, Int.reduceLT, Int.reduceEq, Int.reduceToNat, Int.reduceAdd, Int.reduceSub, Int.reduceMul, Int.reduceNeg, Int.reduceGE, Int.reduceGT, Int.reduceNegSucc, hb']
      refine jump_ind (fun j st => ∃ (i : Int) (s : PS4) (ext : List Blk) (t3 t8 t10 t11 t12 t13 t14 t15 t16 t17 t18 t19 t20 t21 t22 t23 t24 t25 t26 t27 t28 t29 t30 t31 t32 t33 t34 t35 t36 t37 t38 t39 t40 t41 t42 t43 t44 t45 t46 t47 t48 t49 t50 t51 t52 t53 t54 t55 : AV), (i = j ∧ j ≤ 127 ∧ piter b j s = partsF a b) ∧ st = ⟨[W a, U b, .ptr 0 0, t3, .ptr 1 0, U s.rest, U s.hi, U s.lo, t8, I i, t10, t11, t12, t13, t14, t15, t16, t17, t18, t19, t20, t21, t22, t23, t24, t25, t26, t27, t28, t29, t30, t31, t32, t33, t34, t35, t36, t37, t38, t39, t40, t41, t42, t43, t44, t45, t46, t47, t48, t49, t50, t51, t52, t53, t54, t55], ⟨[.int .i64 (a / 18446744073709551616), .int .u64 (a % 18446744073709551616)], 139⟩ :: ⟨[.int .i64 (s.q / 18446744073709551616), .int .u64 (s.q % 18446744073709551616)], 139⟩ :: ext, []⟩) 127 ⟨127, pstep b (⟨0, 0, IntKind.u64.wrap (a / 18446744073709551616), a % 18446744073709551616⟩ : PS4), _, _, _, _, _, _, _, _, _, _, _, _, _, _, _, _, _, _, _, _, _, _, _, _, _, _, _, _, _, _, _, _, _, _, _, _, _, _, _, _, _, _, _, _, _, _, _, _, _, ⟨rfl, by omega, hpe⟩, by rw [hp]; rfl⟩ ?_
      rintro j _ ⟨i, s, ext, t3, t8, t10, t11, t12, t13, t14, t15, t16, t17, t18, t19, t20, t21, t22, t23, t24, t25, t26, t27, t28, t29, t30, t31, t32, t33, t34, t35, t36, t37, t38, t39, t40, t41, t42, t43, t44, t45, t46, t47, t48, t49, t50, t51, t52, t53, t54, t55, ⟨hi, hj, hs⟩, rfl⟩ ih
      by_cases h0 : i = 0
      · subst h0
        obtain rfl : j = 0 := by omega
        have hs : s = partsF a b := hs
        refine run_sound 4000 _ ?_
        simp -implicitDefEqProofs only [go_sem, Nat.reduceSub, Nat.reduceAdd, Nat.reduceMul, Nat.reduceDiv, Nat.reduceMod, Nat.reducePow, Nat.reduceLeDiff, Nat.reduceLT, Nat.reduceGT, Nat.reduceEqDiff, Nat.reduceBEq, Nat.reduceSubDiff, Nat.reduceBeqDiff, Int.reduceLE, Int.reduceLT, Int.reduceEq, Int.reduceToNat, Int.reduceAdd, Int.reduceSub, Int.reduceMul, Int.reduceNeg, Int.reduceGE, Int.reduceGT, Int.reduceNegSucc]
        refine done_ret ?_
        simp -implicitDefEqProofs only [go_sem, Nat.reduceSub, Nat.reduceAdd, Nat.reduceMul, Nat.reduceDiv, Nat.reduceMod, Nat.reducePow, Nat.reduceLeDiff, Nat.reduceLT, Nat.reduceGT, Nat.reduceEqDiff, Nat.reduceBEq, Nat.reduceSubDiff, Nat.reduceBeqDiff, Int.reduceLE, Int.reduceLT, Int.reduceEq, Int.reduceToNat, Int.reduceAdd, Int.reduceSub, Int.reduceMul, Int.reduceNeg, Int.reduceGE, Int.reduceGT, Int.reduceNegSucc]
        rw [hs]
      have h0' := decide_eq_false h0
      have hw : IntKind.i64.wrap (i - 1) = i - 1 := by rw [IntKind.wrap_i64]; omega
      obtain ⟨j, rfl⟩ : ∃ j', j = j' + 1 := ⟨j - 1, by omega⟩
      refine run_sound 4000 _ ?_
      simp -implicitDefEqProofs only [go_sem, Nat.reduceSub, Nat.reduceAdd, Nat.reduceMul, Nat.reduceDiv, Nat.reduceMod, Nat.reducePow, Nat.reduceLeDiff, Nat.reduceLT, Nat.reduceGT, Nat.reduceEqDiff, Nat.reduceBEq, Nat.reduceSubDiff, Nat.reduceBeqDiff, Int.reduceLE, Int.reduceLT, Int.reduceEq, Int.reduceToNat, Int.reduceAdd, Int.reduceSub, Int.reduceMul, Int.reduceNeg, Int.reduceGE, Int.reduceGT, Int.reduceNegSucc, h0', hw]
      refine call_A (V_plus s.q s.q) rfl rfl ?_
      by_cases hb2 : b ≤ ibits .or .u64 (IntKind.u64.wrap (s.rest * 2 ^ 1)) (s.hi.fdiv (2 ^ 63))
      · have hb2' := decide_eq_true hb2
        have hp2 := pst_t hb2
        refine run_sound 4000 _ ?_
        simp -implicitDefEqProofs only [go_sem, Nat.reduceSub, Nat.reduceAdd, Nat.reduceMul, Nat.reduceDiv, Nat.reduceMod, Nat.reducePow, Nat.reduceLeDiff, Nat.reduceLT, Nat.reduceGT, Nat.reduceEqDiff, Nat.reduceBEq, Nat.reduceSubDiff, Nat.reduceBeqDiff, Int.reduceLE, Int.reduceLT, Int.reduceEq, Int.reduceToNat, Int.reduceAdd, Int.reduceSub, Int.reduceMul, Int.reduceNeg, Int.reduceGE, Int.reduceGT, Int.reduceNegSucc, hb2']
        refine draw_sem mixed [98, 146] (fun f _ v => if f = 98 then v = W 1 else v = W (w128 (w128 (s.q + s.q) + 1))) [(0, []), (1, []), (2, []), (3, [])] (by kernel_rfl) ?_
        simp -implicitDefEqProofs only [go_sem, Nat.reduceSub, Nat.reduceAdd, Nat.reduceMul, Nat.reduceDiv, Nat.reduceMod, Nat.reducePow, Nat.reduceLeDiff, Nat.reduceLT, Nat.reduceGT, Nat.reduceEqDiff, Nat.reduceBEq, Nat.reduceSubDiff, Nat.reduceBeqDiff, Int.reduceLE, Int.reduceLT, Int.reduceEq, Int.reduceToNat, Int.reduceAdd, Int.reduceSub, Int.reduceMul, Int.reduceNeg, Int.reduceGE, Int.reduceGT, Int.reduceNegSucc]
        refine dcall_E (V_Of 1 (by decide)) rfl rfl (fun _ => Iff.rfl) ?_
        simp -implicitDefEqProofs only [go_sem, Nat.reduceSub, Nat.reduceAdd, Nat.reduceMul, Nat.reduceDiv, Nat.reduceMod, Nat.reducePow, Nat.reduceLeDiff, Nat.reduceLT, Nat.reduceGT, Nat.reduceEqDiff, Nat.reduceBEq, Nat.reduceSubDiff, Nat.reduceBeqDiff, Int.reduceLE, Int.reduceLT, Int.reduceEq, Int.reduceToNat, Int.reduceAdd, Int.reduceSub, Int.reduceMul, Int.reduceNeg, Int.reduceGE, Int.reduceGT, Int.reduceNegSucc]
        refine dcall_A (V_plus (w128 (s.q + s.q)) 1) rfl rfl rfl (fun _ => Iff.rfl) ?_
        simp -implicitDefEqProofs only [go_sem, Nat.reduceSub, Nat.reduceAdd, Nat.reduceMul, Nat.reduceDiv, Nat.reduceMod, Nat.reducePow, Nat.reduceLeDiff, Nat.reduceLT, Nat.reduceGT, Nat.reduceEqDiff, Nat.reduceBEq, Nat.reduceSubDiff, Nat.reduceBeqDiff, Int.reduceLE, Int.reduceLT, Int.reduceEq, Int.reduceToNat, Int.reduceAdd, Int.reduceSub, Int.reduceMul, Int.reduceNeg, Int.reduceGE, Int.reduceGT, Int.reduceNegSucc]
        refine run_sound 4000 _ ?_
        simp -implicitDefEqProofs only [go_sem, Nat.reduceSub, Nat.reduceAdd, Nat.reduceMul, Nat.reduceDiv, Nat.reduceMod, Nat.reducePow, Nat.reduceLeDiff, Nat.reduceLT, Nat.reduceGT, Nat.reduceEqDiff, Nat.reduceBEq, Nat.reduceSubDiff, Nat.reduceBeqDiff, Int.reduceLE, Int.reduceLT, Int.reduceEq, Int.reduceToNat, Int.reduceAdd, Int.reduceSub, Int.reduceMul, Int.reduceNeg, Int.reduceGE, Int.reduceGT, Int.reduceNegSucc]
        exact ih j _ (by omega) ⟨i - 1, pstep b s, ext, _, _, _, _, _, _, _, _, _, _, _, _, _, _, _, _, _, _, _, _, _, _, _, _, _, _, _, _, _, _, _, _, _, _, _, _, _, _, _, _, _, _, _, _, _, _, _, _, ⟨by omega, by omega, hs⟩, by rw [hp2]⟩
      · have hb2' := decide_eq_false hb2
        have hp2 := pst_f hb2
        refine run_sound 4000 _ ?_
        simp -implicitDefEqProofs only [go_sem, Nat.reduceSub, Nat.reduceAdd, Nat.reduceMul, Nat.reduceDiv, Nat.reduceMod, Nat.reducePow, Nat.reduceLeDiff, Nat.reduceLT, Nat.reduceGT, Nat.reduceEqDiff, Nat.reduceBEq, Nat.reduceSubDiff, Nat.reduceBeqDiff, Int.reduceLE, Int.reduceLT, Int.reduceEq, Int.reduceToNat, Int.reduceAdd, Int.reduceSub, Int.reduceMul, Int.reduceNeg, Int.reduceGE, Int.reduceGT, Int.reduceNegSucc, hb2']
        exact ih j _ (by omega) ⟨i - 1, pstep b s, ext, _, _, _, _, _, _, _, _, _, _, _, _, _, _, _, _, _, _, _, _, _, _, _, _, _, _, _, _, _, _, _, _, _, _, _, _, _, _, _, _, _, _, _, _, _, _, _, _, ⟨by omega, by omega, hs⟩, by rw [hp2]⟩
end Go.Proofs.YtakcibjjfkgadaaGreatDoor
