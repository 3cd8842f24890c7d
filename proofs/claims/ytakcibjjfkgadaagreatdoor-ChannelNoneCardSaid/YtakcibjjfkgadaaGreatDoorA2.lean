/- Layer 1: halving. -/
import Derived.Test.YtakcibjjfkgadaaGreatDoorA1
set_option linter.unusedSimpArgs false
set_option linter.unusedVariables false
set_option maxRecDepth 100000
set_option pp.maxSteps 100
namespace Go.Proofs.YtakcibjjfkgadaaGreatDoor
open Go.Ev

/-- What was the last digit, and whether there was one of 1 before it, i steps on. -/
def lastd (n : Int) (i : Nat) : Int := if i = 0 then 0 else n / 2 ^ (i - 1) % 2
def restd (n : Int) (i : Nat) : Int := if i = 0 then 0 else if n % 2 ^ (i - 1) = 0 then 0 else 1

theorem lastd_01 (n : Int) (i : Nat) : lastd n i = 0 ∨ lastd n i = 1 := by
  unfold lastd; split
  · exact .inl rfl
  · omega
theorem restd_01 (n : Int) (i : Nat) : restd n i = 0 ∨ restd n i = 1 := by
  unfold restd; split
  · exact .inl rfl
  · split <;> omega
theorem mod_step (n : Int) (m : Nat) : n % 2 ^ (m + 1) = n % 2 ^ m + 2 ^ m * (n / 2 ^ m % 2) := by
  have hp : (0 : Int) < 2 ^ m := Int.pow_pos (by decide)
  have e1 : (2 : Int) ^ (m + 1) = 2 ^ m * 2 := Int.pow_succ 2 m
  have h1 := Int.mul_ediv_add_emod n (2 ^ m)
  have h2 := Int.mul_ediv_add_emod (n / 2 ^ m) 2
  rw [e1]
  have h3 : n = 2 ^ m * 2 * (n / 2 ^ m / 2) + (n % 2 ^ m + 2 ^ m * (n / 2 ^ m % 2)) := by
    conv => lhs; rw [← h1]
    conv => lhs; rw [← h2]
    rw [Int.mul_add, Int.mul_assoc, Int.add_assoc]
    congr 1
    rw [Int.add_comm]
  conv => lhs; rw [h3]
  rw [Int.add_comm, Int.add_mul_emod_self_left]
  have h4 := Int.emod_nonneg n (Int.ne_of_gt hp)
  have h5 := Int.emod_lt_of_pos n hp
  rcases (by omega : n / 2 ^ m % 2 = 0 ∨ n / 2 ^ m % 2 = 1) with e | e <;> rw [e] <;> apply Int.emod_eq_of_lt <;> omega
theorem restd_step (n : Int) (i : Nat) : restd n (i + 1) = if restd n i = 1 ∨ lastd n i = 1 then 1 else 0 := by
  unfold restd lastd
  cases i with
  | zero => simp
  | succ m =>
    simp only [Nat.add_one_sub_one, Nat.add_one_ne_zero, if_false]
    have hp : (0 : Int) < 2 ^ m := Int.pow_pos (by decide)
    have h4 := Int.emod_nonneg n (Int.ne_of_gt hp)
    have hm := mod_step n m
    rcases (by omega : n / 2 ^ m % 2 = 0 ∨ n / 2 ^ m % 2 = 1) with e | e <;> rw [e] at hm ⊢ <;> by_cases h : n % 2 ^ m = 0 <;> simp only [hm, h] <;> simp <;> omega
theorem half_end (n : Int) (k : Nat) : evn n (2 ^ k) = if lastd n k = 1 ∧ (restd n k = 1 ∨ n / 2 ^ k % 2 = 1) then n / 2 ^ k + 1 else n / 2 ^ k := by
  unfold restd lastd evn
  cases k with
  | zero => simp
  | succ m =>
    simp only [Nat.add_one_sub_one, Nat.add_one_ne_zero, if_false]
    have hp : (0 : Int) < 2 ^ m := Int.pow_pos (by decide)
    have h4 := Int.emod_nonneg n (Int.ne_of_gt hp)
    have h5 := Int.emod_lt_of_pos n hp
    have e1 : (2 : Int) ^ (m + 1) = 2 ^ m * 2 := Int.pow_succ 2 m
    generalize hq : n / 2 ^ (m + 1) = q
    rw [mod_step, e1]
    rcases (by omega : n / 2 ^ m % 2 = 0 ∨ n / 2 ^ m % 2 = 1) with e | e <;> rw [e] <;> by_cases h : n % 2 ^ m = 0 <;> simp only [h, if_true, if_false, Int.mul_zero, Int.mul_one, Int.add_zero, Int.zero_add]
    · rw [if_neg (by omega), if_neg (by simp)]
    · rw [if_neg (by omega), if_neg (by simp)]
    · by_cases hh : q % 2 = 1
      · rw [if_pos (by omega), if_pos (by simp [hh])]
      · rw [if_neg (by omega), if_neg (by simp [hh])]
    · rw [if_pos (by omega), if_pos (by simp)]
theorem lastd_step (n : Int) (i : Nat) : lastd n (i + 1) = n / 2 ^ i % 2 := rfl
theorem div_step (n : Int) (i : Nat) : n / 2 ^ (i + 1) = n / 2 ^ i / 2 := by
  rw [Int.pow_succ, Int.mul_comm, Int.mul_comm, Int.ediv_ediv_of_nonneg (Int.le_of_lt (Int.pow_pos (by decide)))]

theorem V_Half (n : Int) (k : Nat) (hn : In128 n) (hk : k ≤ 127) : VSem Tryz.prog GD 97 [W n, I k] (· = .tuple [W (evn n (2 ^ k)), I 0]) := by
  have hk0 : decide ((k : Int) < 0) = false := decide_eq_false (by omega)
  have hk1 : decide ((127 : Int) < k) = false := decide_eq_false (by omega)
  refine VSem.of_body Tryz.func97 rfl (by kernel_rfl) ?_
  refine run_sound 4000 _ ?_
  simp -implicitDefEqProofs only [Tryz.f97, go_sem, Nat.reduceSub, Nat.reduceAdd, Nat.reduceMul, Nat.reduceDiv, Nat.reduceMod, Nat.reducePow, Nat.reduceLeDiff, Nat.reduceLT, Nat.reduceGT, Nat.reduceEqDiff, Nat.reduceBEq, Nat.reduceSubDiff, Nat.reduceBeqDiff, Int.reduceLE, Int.reduceLT, Int.reduceEq, Int.reduceToNat, Int.reduceAdd, Int.reduceSub, Int.reduceMul, Int.reduceNeg, Int.reduceGE, Int.reduceGT, Int.reduceNegSucc, hk0, hk1]
  refine loop_ind (fun j st => ∃ (i : Nat) (a l r x : Int) (t3 t8 t9 t10 t11 t12 t13 t14 t17 t18 t19 t20 t21 t22 t23 t24 t25 t26 t27 t28 t29 t30 t31 t32 t33 t34 t35 t36 t37 t38 t39 t40 t41 t42 : AV), (j + i = k ∧ a = n / 2 ^ i ∧ l = lastd n i ∧ r = restd n i ∧ x = i ∧ In128 a ∧ (l = 1 → a ≤ 85070591730234615865843651857942052864)) ∧ st = ⟨[W n, I k, .ptr 0 0, t3, .ptr 1 0, I 0, U l, U r, t8, t9, t10, t11, t12, t13, t14, I k, I x, t17, t18, t19, t20, t21, t22, t23, t24, t25, t26, t27, t28, t29, t30, t31, t32, t33, t34, t35, t36, t37, t38, t39, t40, t41, t42], [⟨[.int .i64 (a / 18446744073709551616), .int .u64 (a % 18446744073709551616)], 139⟩, ⟨[.int .i64 0, .int .u64 0], 139⟩], []⟩) k ⟨0, n, 0, 0, 0, _, _, _, _, _, _, _, _, _, _, _, _, _, _, _, _, _, _, _, _, _, _, _, _, _, _, _, _, _, _, _, _, _, _, ⟨rfl, by simp, rfl, rfl, rfl, hn, fun h => by cases h⟩, rfl⟩ ?_
  rintro j _ ⟨i, a, l, r, x, t3, t8, t9, t10, t11, t12, t13, t14, t17, t18, t19, t20, t21, t22, t23, t24, t25, t26, t27, t28, t29, t30, t31, t32, t33, t34, t35, t36, t37, t38, t39, t40, t41, t42, ⟨hj, ha, hl, hr, hx, hia, hle⟩, rfl⟩ ih
  have l01 := lastd_01 n i
  have r01 := restd_01 n i
  rw [← hl] at l01
  rw [← hr] at r01
  obtain ⟨hia1, hia2⟩ := hia
  refine run_sound 4000 _ ?_
  simp -implicitDefEqProofs only [go_sem, Nat.reduceSub, Nat.reduceAdd, Nat.reduceMul, Nat.reduceDiv, Nat.reduceMod, Nat.reducePow, Nat.reduceLeDiff, Nat.reduceLT, Nat.reduceGT, Nat.reduceEqDiff, Nat.reduceBEq, Nat.reduceSubDiff, Nat.reduceBeqDiff, Int.reduceLE, Int.reduceLT, Int.reduceEq, Int.reduceToNat, Int.reduceAdd, Int.reduceSub, Int.reduceMul, Int.reduceNeg, Int.reduceGE, Int.reduceGT, Int.reduceNegSucc]
  refine brk_sem (fun h1 => ?_) (fun h1 => ?_) <;> simp -implicitDefEqProofs only [go_sem, Nat.reduceSub, Nat.reduceAdd, Nat.reduceMul, Nat.reduceDiv, Nat.reduceMod, Nat.reducePow, Nat.reduceLeDiff, Nat.reduceLT, Nat.reduceGT, Nat.reduceEqDiff, Nat.reduceBEq, Nat.reduceSubDiff, Nat.reduceBeqDiff, Int.reduceLE, Int.reduceLT, Int.reduceEq, Int.reduceToNat, Int.reduceAdd, Int.reduceSub, Int.reduceMul, Int.reduceNeg, Int.reduceGE, Int.reduceGT, Int.reduceNegSucc]
  · have h1 := of_decide_eq_true h1
    refine call_E (V_down a ⟨hia1, hia2⟩) rfl ?_
    refine run_sound 4000 _ ?_
    simp -implicitDefEqProofs only [go_sem, Nat.reduceSub, Nat.reduceAdd, Nat.reduceMul, Nat.reduceDiv, Nat.reduceMod, Nat.reducePow, Nat.reduceLeDiff, Nat.reduceLT, Nat.reduceGT, Nat.reduceEqDiff, Nat.reduceBEq, Nat.reduceSubDiff, Nat.reduceBeqDiff, Int.reduceLE, Int.reduceLT, Int.reduceEq, Int.reduceToNat, Int.reduceAdd, Int.reduceSub, Int.reduceMul, Int.reduceNeg, Int.reduceGE, Int.reduceGT, Int.reduceNegSucc]
    refine ih (j - 1) _ (by omega) ⟨i + 1, a / 2, a % 2, ibits .or .u64 r l, IntKind.i64.wrap (x + 1), _, _, _, _, _, _, _, _, _, _, _, _, _, _, _, _, _, _, _, _, _, _, _, _, _, _, _, _, _, _, _, _, _, _, ⟨by omega, ?_, ?_, ?_, ?_, ⟨by omega, by omega⟩, by omega⟩, rfl⟩
    · rw [ha, div_step]
    · rw [ha, lastd_step]
    · rw [restd_step, or_bit _ _ r01 l01, ← hr, ← hl]
    · rw [IntKind.wrap_i64]; omega
  · have h1 := of_decide_eq_false h1
    have hik : i = k := by omega
    subst hik
    have he := half_end n i
    rw [← hl, ← hr, ← ha] at he
    have ha1 := and1 (a % 18446744073709551616) ⟨by omega, by omega⟩
    rcases l01 with rfl | rfl
    · simp -implicitDefEqProofs only [go_sem, Nat.reduceSub, Nat.reduceAdd, Nat.reduceMul, Nat.reduceDiv, Nat.reduceMod, Nat.reducePow, Nat.reduceLeDiff, Nat.reduceLT, Nat.reduceGT, Nat.reduceEqDiff, Nat.reduceBEq, Nat.reduceSubDiff, Nat.reduceBeqDiff, Int.reduceLE, Int.reduceLT, Int.reduceEq, Int.reduceToNat, Int.reduceAdd, Int.reduceSub, Int.reduceMul, Int.reduceNeg, Int.reduceGE, Int.reduceGT, Int.reduceNegSucc]
      refine done_ret ?_
      simp -implicitDefEqProofs only [go_sem, Nat.reduceSub, Nat.reduceAdd, Nat.reduceMul, Nat.reduceDiv, Nat.reduceMod, Nat.reducePow, Nat.reduceLeDiff, Nat.reduceLT, Nat.reduceGT, Nat.reduceEqDiff, Nat.reduceBEq, Nat.reduceSubDiff, Nat.reduceBeqDiff, Int.reduceLE, Int.reduceLT, Int.reduceEq, Int.reduceToNat, Int.reduceAdd, Int.reduceSub, Int.reduceMul, Int.reduceNeg, Int.reduceGE, Int.reduceGT, Int.reduceNegSucc]
      rw [he, if_neg (by simp)]
    · have hle := hle rfl
      have fin : evn n (2 ^ i) = a + 1 → w128 (a + 1) = evn n (2 ^ i) := fun h => by rw [h, w128]; omega
      rcases r01 with rfl | rfl
      · rcases (by omega : a % 18446744073709551616 % 2 = 0 ∨ a % 18446744073709551616 % 2 = 1) with e | e
        · simp -implicitDefEqProofs only [go_sem, Nat.reduceSub, Nat.reduceAdd, Nat.reduceMul, Nat.reduceDiv, Nat.reduceMod, Nat.reducePow, Nat.reduceLeDiff, Nat.reduceLT, Nat.reduceGT, Nat.reduceEqDiff, Nat.reduceBEq, Nat.reduceSubDiff, Nat.reduceBeqDiff, Int.reduceLE, Int.reduceLT, Int.reduceEq, Int.reduceToNat, Int.reduceAdd, Int.reduceSub, Int.reduceMul, Int.reduceNeg, Int.reduceGE, Int.reduceGT, Int.reduceNegSucc, ha1, e]
          refine done_ret ?_
          simp -implicitDefEqProofs only [go_sem, Nat.reduceSub, Nat.reduceAdd, Nat.reduceMul, Nat.reduceDiv, Nat.reduceMod, Nat.reducePow, Nat.reduceLeDiff, Nat.reduceLT, Nat.reduceGT, Nat.reduceEqDiff, Nat.reduceBEq, Nat.reduceSubDiff, Nat.reduceBeqDiff, Int.reduceLE, Int.reduceLT, Int.reduceEq, Int.reduceToNat, Int.reduceAdd, Int.reduceSub, Int.reduceMul, Int.reduceNeg, Int.reduceGE, Int.reduceGT, Int.reduceNegSucc]
          rw [he, if_neg (by omega)]
        · simp -implicitDefEqProofs only [go_sem, Nat.reduceSub, Nat.reduceAdd, Nat.reduceMul, Nat.reduceDiv, Nat.reduceMod, Nat.reducePow, Nat.reduceLeDiff, Nat.reduceLT, Nat.reduceGT, Nat.reduceEqDiff, Nat.reduceBEq, Nat.reduceSubDiff, Nat.reduceBeqDiff, Int.reduceLE, Int.reduceLT, Int.reduceEq, Int.reduceToNat, Int.reduceAdd, Int.reduceSub, Int.reduceMul, Int.reduceNeg, Int.reduceGE, Int.reduceGT, Int.reduceNegSucc, ha1, e]
          refine draw_sem mixed [98, 146] (fun f _ v => if f = 98 then v = W 1 else v = W (w128 (a + 1))) [(0, []), (1, []), (2, []), (3, [])] (by kernel_rfl) ?_
          simp -implicitDefEqProofs only [go_sem, Nat.reduceSub, Nat.reduceAdd, Nat.reduceMul, Nat.reduceDiv, Nat.reduceMod, Nat.reducePow, Nat.reduceLeDiff, Nat.reduceLT, Nat.reduceGT, Nat.reduceEqDiff, Nat.reduceBEq, Nat.reduceSubDiff, Nat.reduceBeqDiff, Int.reduceLE, Int.reduceLT, Int.reduceEq, Int.reduceToNat, Int.reduceAdd, Int.reduceSub, Int.reduceMul, Int.reduceNeg, Int.reduceGE, Int.reduceGT, Int.reduceNegSucc]
          refine dcall_E (V_Of 1 (by unfold In64; omega)) rfl rfl (fun _ => Iff.rfl) ?_
          simp -implicitDefEqProofs only [go_sem, Nat.reduceSub, Nat.reduceAdd, Nat.reduceMul, Nat.reduceDiv, Nat.reduceMod, Nat.reducePow, Nat.reduceLeDiff, Nat.reduceLT, Nat.reduceGT, Nat.reduceEqDiff, Nat.reduceBEq, Nat.reduceSubDiff, Nat.reduceBeqDiff, Int.reduceLE, Int.reduceLT, Int.reduceEq, Int.reduceToNat, Int.reduceAdd, Int.reduceSub, Int.reduceMul, Int.reduceNeg, Int.reduceGE, Int.reduceGT, Int.reduceNegSucc]
          refine dcall_E (V_plus a 1) rfl rfl (fun _ => Iff.rfl) ?_
          simp -implicitDefEqProofs only [go_sem, Nat.reduceSub, Nat.reduceAdd, Nat.reduceMul, Nat.reduceDiv, Nat.reduceMod, Nat.reducePow, Nat.reduceLeDiff, Nat.reduceLT, Nat.reduceGT, Nat.reduceEqDiff, Nat.reduceBEq, Nat.reduceSubDiff, Nat.reduceBeqDiff, Int.reduceLE, Int.reduceLT, Int.reduceEq, Int.reduceToNat, Int.reduceAdd, Int.reduceSub, Int.reduceMul, Int.reduceNeg, Int.reduceGE, Int.reduceGT, Int.reduceNegSucc]
          refine run_sound 4000 _ ?_
          simp -implicitDefEqProofs only [go_sem, Nat.reduceSub, Nat.reduceAdd, Nat.reduceMul, Nat.reduceDiv, Nat.reduceMod, Nat.reducePow, Nat.reduceLeDiff, Nat.reduceLT, Nat.reduceGT, Nat.reduceEqDiff, Nat.reduceBEq, Nat.reduceSubDiff, Nat.reduceBeqDiff, Int.reduceLE, Int.reduceLT, Int.reduceEq, Int.reduceToNat, Int.reduceAdd, Int.reduceSub, Int.reduceMul, Int.reduceNeg, Int.reduceGE, Int.reduceGT, Int.reduceNegSucc]
          refine done_ret ?_
          simp -implicitDefEqProofs only [go_sem, Nat.reduceSub, Nat.reduceAdd, Nat.reduceMul, Nat.reduceDiv, Nat.reduceMod, Nat.reducePow, Nat.reduceLeDiff, Nat.reduceLT, Nat.reduceGT, Nat.reduceEqDiff, Nat.reduceBEq, Nat.reduceSubDiff, Nat.reduceBeqDiff, Int.reduceLE, Int.reduceLT, Int.reduceEq, Int.reduceToNat, Int.reduceAdd, Int.reduceSub, Int.reduceMul, Int.reduceNeg, Int.reduceGE, Int.reduceGT, Int.reduceNegSucc]
          rw [fin (by rw [he, if_pos (by omega)])]
      · simp -implicitDefEqProofs only [go_sem, Nat.reduceSub, Nat.reduceAdd, Nat.reduceMul, Nat.reduceDiv, Nat.reduceMod, Nat.reducePow, Nat.reduceLeDiff, Nat.reduceLT, Nat.reduceGT, Nat.reduceEqDiff, Nat.reduceBEq, Nat.reduceSubDiff, Nat.reduceBeqDiff, Int.reduceLE, Int.reduceLT, Int.reduceEq, Int.reduceToNat, Int.reduceAdd, Int.reduceSub, Int.reduceMul, Int.reduceNeg, Int.reduceGE, Int.reduceGT, Int.reduceNegSucc]
        refine draw_sem mixed [98, 146] (fun f _ v => if f = 98 then v = W 1 else v = W (w128 (a + 1))) [(0, []), (1, []), (2, []), (3, [])] (by kernel_rfl) ?_
        simp -implicitDefEqProofs only [go_sem, Nat.reduceSub, Nat.reduceAdd, Nat.reduceMul, Nat.reduceDiv, Nat.reduceMod, Nat.reducePow, Nat.reduceLeDiff, Nat.reduceLT, Nat.reduceGT, Nat.reduceEqDiff, Nat.reduceBEq, Nat.reduceSubDiff, Nat.reduceBeqDiff, Int.reduceLE, Int.reduceLT, Int.reduceEq, Int.reduceToNat, Int.reduceAdd, Int.reduceSub, Int.reduceMul, Int.reduceNeg, Int.reduceGE, Int.reduceGT, Int.reduceNegSucc]
        refine dcall_E (V_Of 1 (by unfold In64; omega)) rfl rfl (fun _ => Iff.rfl) ?_
        simp -implicitDefEqProofs only [go_sem, Nat.reduceSub, Nat.reduceAdd, Nat.reduceMul, Nat.reduceDiv, Nat.reduceMod, Nat.reducePow, Nat.reduceLeDiff, Nat.reduceLT, Nat.reduceGT, Nat.reduceEqDiff, Nat.reduceBEq, Nat.reduceSubDiff, Nat.reduceBeqDiff, Int.reduceLE, Int.reduceLT, Int.reduceEq, Int.reduceToNat, Int.reduceAdd, Int.reduceSub, Int.reduceMul, Int.reduceNeg, Int.reduceGE, Int.reduceGT, Int.reduceNegSucc]
        refine dcall_E (V_plus a 1) rfl rfl (fun _ => Iff.rfl) ?_
        simp -implicitDefEqProofs only [go_sem, Nat.reduceSub, Nat.reduceAdd, Nat.reduceMul, Nat.reduceDiv, Nat.reduceMod, Nat.reducePow, Nat.reduceLeDiff, Nat.reduceLT, Nat.reduceGT, Nat.reduceEqDiff, Nat.reduceBEq, Nat.reduceSubDiff, Nat.reduceBeqDiff, Int.reduceLE, Int.reduceLT, Int.reduceEq, Int.reduceToNat, Int.reduceAdd, Int.reduceSub, Int.reduceMul, Int.reduceNeg, Int.reduceGE, Int.reduceGT, Int.reduceNegSucc]
        refine run_sound 4000 _ ?_
        simp -implicitDefEqProofs only [go_sem, Nat.reduceSub, Nat.reduceAdd, Nat.reduceMul, Nat.reduceDiv, Nat.reduceMod, Nat.reducePow, Nat.reduceLeDiff, Nat.reduceLT, Nat.reduceGT, Nat.reduceEqDiff, Nat.reduceBEq, Nat.reduceSubDiff, Nat.reduceBeqDiff, Int.reduceLE, Int.reduceLT, Int.reduceEq, Int.reduceToNat, Int.reduceAdd, Int.reduceSub, Int.reduceMul, Int.reduceNeg, Int.reduceGE, Int.reduceGT, Int.reduceNegSucc]
        refine done_ret ?_
        simp -implicitDefEqProofs only [go_sem, Nat.reduceSub, Nat.reduceAdd, Nat.reduceMul, Nat.reduceDiv, Nat.reduceMod, Nat.reducePow, Nat.reduceLeDiff, Nat.reduceLT, Nat.reduceGT, Nat.reduceEqDiff, Nat.reduceBEq, Nat.reduceSubDiff, Nat.reduceBeqDiff, Int.reduceLE, Int.reduceLT, Int.reduceEq, Int.reduceToNat, Int.reduceAdd, Int.reduceSub, Int.reduceMul, Int.reduceNeg, Int.reduceGE, Int.reduceGT, Int.reduceNegSucc]
        rw [fin (by rw [he, if_pos (by omega)])]
end Go.Proofs.YtakcibjjfkgadaaGreatDoor
