/- Layer 1: wide numbers. -/
import Derived.Test.YtakcibjjfkgadaaGreatDoorTy
import Derived.Test.YtakcibjjfkgadaaGreatDoorEvN
set_option linter.unusedSimpArgs false
set_option linter.unusedVariables false
set_option maxRecDepth 100000
namespace Go.Proofs.YtakcibjjfkgadaaGreatDoor
open Go.Ev

/-- What the globals hold that nobody writes. -/
def tableA : List AV := [I 430515, I 417754, I 405300, I 393149, I 381294, I 369731, I 358453, I 347455, I 336732, I 326279, I 316090, I 306161, I 296485, I 287058, I 277876, I 268933, I 260224, I 251746, I 243492, I 235459, I 227641, I 220036, I 212637, I 205441, I 198444, I 191640, I 185027, I 178600, I 172355, I 166288, I 160395, I 154672, I 149116, I 143723, I 138488, I 133409, I 128482, I 123703, I 119069, I 114577, I 110223, I 106004, I 101917, I 97958, I 94125, I 90414, I 86822]
def GD : Glob := fun g => if g = 1 then some [.int .i64 0, .int .u64 0] else if g = 2 then some [I 0, I 1, I 2, I 1, I 3, I 4, I 2, I 4, I 5] else if g = 3 then some [I 32768, I 256, I (-1), I 0, I 32768, I (-256), I 0, I 0, I 32768] else if g = 0 then some tableA else if g = 4 then some [.int .i64 (-9223372036854775808), .int .u64 0] else none
@[go_sem] theorem GD_table : GD 0 = some tableA := rfl
@[go_sem] theorem GD_least : GD 4 = some [.int .i64 (-9223372036854775808), .int .u64 0] := rfl
@[go_sem] theorem GD_places : GD 2 = some [I 0, I 1, I 2, I 1, I 3, I 4, I 2, I 4, I 5] := rfl
@[go_sem] theorem GD_rows : GD 3 = some [I 32768, I 256, I (-1), I 0, I 32768, I (-256), I 0, I 0, I 32768] := rfl
theorem GD_Y : GY GD := by
  intro g cs h
  unfold GD at h
  repeat' split at h
  all_goals first | (cases h; rfl) | cases h
@[go_sem] theorem GD_none : GD 1 = some [.int .i64 0, .int .u64 0] := rfl
theorem mixed : Tryz.prog.follows .mixedOrders = true := by kernel_rfl

theorem V_Of (x : Int) (h : In64 x) : VSem Tryz.prog GD 98 [I x] (· = W x) := by
  refine VSem.of_body Tryz.func98 rfl (by kernel_rfl) ?_
  refine run_sound 4000 _ ?_
  simp -implicitDefEqProofs only [Tryz.f98, go_sem, Nat.reduceSub, Nat.reduceAdd, Nat.reduceMul, Nat.reduceDiv, Nat.reduceMod, Nat.reducePow, Nat.reduceLeDiff, Nat.reduceLT, Nat.reduceGT, Nat.reduceEqDiff, Nat.reduceBEq, Nat.reduceSubDiff, Nat.reduceBeqDiff, Int.reduceLE, Int.reduceLT, Int.reduceEq, Int.reduceToNat, Int.reduceAdd, Int.reduceSub, Int.reduceMul, Int.reduceNeg, Int.reduceGE, Int.reduceGT, Int.reduceNegSucc]
  refine done_ret ?_
  simp -implicitDefEqProofs only [go_sem, Nat.reduceSub, Nat.reduceAdd, Nat.reduceMul, Nat.reduceDiv, Nat.reduceMod, Nat.reducePow, Nat.reduceLeDiff, Nat.reduceLT, Nat.reduceGT, Nat.reduceEqDiff, Nat.reduceBEq, Nat.reduceSubDiff, Nat.reduceBeqDiff, Int.reduceLE, Int.reduceLT, Int.reduceEq, Int.reduceToNat, Int.reduceAdd, Int.reduceSub, Int.reduceMul, Int.reduceNeg, Int.reduceGE, Int.reduceGT, Int.reduceNegSucc]
  obtain ⟨h1, h2⟩ := h
  rw [pos_fdiv _ _ (by decide), IntKind.wrap_u64]
  congr 3
  show x / 9223372036854775808 = _
  omega

theorem V_size (x : Int) (h : In64 x) : VSem Tryz.prog GD 156 [I x] (· = U x.natAbs) := by
  obtain ⟨h1, h2⟩ := h
  refine VSem.of_body Tryz.func156 rfl (by kernel_rfl) ?_
  refine run_sound 4000 _ ?_
  simp -implicitDefEqProofs only [Tryz.f156, go_sem, Nat.reduceSub, Nat.reduceAdd, Nat.reduceMul, Nat.reduceDiv, Nat.reduceMod, Nat.reducePow, Nat.reduceLeDiff, Nat.reduceLT, Nat.reduceGT, Nat.reduceEqDiff, Nat.reduceBEq, Nat.reduceSubDiff, Nat.reduceBeqDiff, Int.reduceLE, Int.reduceLT, Int.reduceEq, Int.reduceToNat, Int.reduceAdd, Int.reduceSub, Int.reduceMul, Int.reduceNeg, Int.reduceGE, Int.reduceGT, Int.reduceNegSucc]
  refine brk_sem (fun h => ?_) (fun h => ?_) <;> simp -implicitDefEqProofs only [go_sem, Nat.reduceSub, Nat.reduceAdd, Nat.reduceMul, Nat.reduceDiv, Nat.reduceMod, Nat.reducePow, Nat.reduceLeDiff, Nat.reduceLT, Nat.reduceGT, Nat.reduceEqDiff, Nat.reduceBEq, Nat.reduceSubDiff, Nat.reduceBeqDiff, Int.reduceLE, Int.reduceLT, Int.reduceEq, Int.reduceToNat, Int.reduceAdd, Int.reduceSub, Int.reduceMul, Int.reduceNeg, Int.reduceGE, Int.reduceGT, Int.reduceNegSucc] <;> refine done_ret ?_ <;> simp -implicitDefEqProofs only [go_sem, Nat.reduceSub, Nat.reduceAdd, Nat.reduceMul, Nat.reduceDiv, Nat.reduceMod, Nat.reducePow, Nat.reduceLeDiff, Nat.reduceLT, Nat.reduceGT, Nat.reduceEqDiff, Nat.reduceBEq, Nat.reduceSubDiff, Nat.reduceBeqDiff, Int.reduceLE, Int.reduceLT, Int.reduceEq, Int.reduceToNat, Int.reduceAdd, Int.reduceSub, Int.reduceMul, Int.reduceNeg, Int.reduceGE, Int.reduceGT, Int.reduceNegSucc]
  · rw [IntKind.wrap_u64, IntKind.wrap_u64]
    have := of_decide_eq_true h
    congr 1
    omega
  · rw [IntKind.wrap_u64]
    have := of_decide_eq_false h
    congr 1
    omega

theorem V_Add64 (x y c : Int) (hx : InU x) (hy : InU y) (hc : c = 0 ∨ c = 1) :
    VSem Tryz.prog GD 169 [U x, U y, U c] (· = .tuple [U ((x + y + c) % 18446744073709551616), U ((x + y + c) / 18446744073709551616)]) :=
  VSem.add64 Tryz.func169 (by kernel_rfl) (by kernel_rfl) (by kernel_rfl) (by kernel_rfl) x y c hx hy hc
theorem V_Sub64 (x y c : Int) (hx : InU x) (hy : InU y) (hc : c = 0 ∨ c = 1) :
    VSem Tryz.prog GD 170 [U x, U y, U c] (· = .tuple [U ((x - y - c) % 18446744073709551616), U (if x < y + c then 1 else 0)]) :=
  VSem.sub64 Tryz.func170 (by kernel_rfl) (by kernel_rfl) (by kernel_rfl) (by kernel_rfl) x y c hx hy hc

theorem V_plus (a b : Int) : VSem Tryz.prog GD 146 [W a, W b] (· = W (w128 (a + b))) := by
  refine VSem.of_body Tryz.func146 rfl (by kernel_rfl) ?_
  refine run_sound 4000 _ ?_
  simp -implicitDefEqProofs only [Tryz.f146, go_sem, Nat.reduceSub, Nat.reduceAdd, Nat.reduceMul, Nat.reduceDiv, Nat.reduceMod, Nat.reducePow, Nat.reduceLeDiff, Nat.reduceLT, Nat.reduceGT, Nat.reduceEqDiff, Nat.reduceBEq, Nat.reduceSubDiff, Nat.reduceBeqDiff, Int.reduceLE, Int.reduceLT, Int.reduceEq, Int.reduceToNat, Int.reduceAdd, Int.reduceSub, Int.reduceMul, Int.reduceNeg, Int.reduceGE, Int.reduceGT, Int.reduceNegSucc]
  refine call_E (V_Add64 _ _ _ ⟨by omega, by omega⟩ ⟨by omega, by omega⟩ (.inl rfl)) rfl ?_
  refine run_sound 4000 _ ?_
  simp -implicitDefEqProofs only [go_sem, Nat.reduceSub, Nat.reduceAdd, Nat.reduceMul, Nat.reduceDiv, Nat.reduceMod, Nat.reducePow, Nat.reduceLeDiff, Nat.reduceLT, Nat.reduceGT, Nat.reduceEqDiff, Nat.reduceBEq, Nat.reduceSubDiff, Nat.reduceBeqDiff, Int.reduceLE, Int.reduceLT, Int.reduceEq, Int.reduceToNat, Int.reduceAdd, Int.reduceSub, Int.reduceMul, Int.reduceNeg, Int.reduceGE, Int.reduceGT, Int.reduceNegSucc]
  refine call_E (V_Add64 _ _ _ ⟨by rw [IntKind.wrap_u64]; omega, by rw [IntKind.wrap_u64]; omega⟩ ⟨by rw [IntKind.wrap_u64]; omega, by rw [IntKind.wrap_u64]; omega⟩ (by omega)) rfl ?_
  refine run_sound 4000 _ ?_
  simp -implicitDefEqProofs only [go_sem, Nat.reduceSub, Nat.reduceAdd, Nat.reduceMul, Nat.reduceDiv, Nat.reduceMod, Nat.reducePow, Nat.reduceLeDiff, Nat.reduceLT, Nat.reduceGT, Nat.reduceEqDiff, Nat.reduceBEq, Nat.reduceSubDiff, Nat.reduceBeqDiff, Int.reduceLE, Int.reduceLT, Int.reduceEq, Int.reduceToNat, Int.reduceAdd, Int.reduceSub, Int.reduceMul, Int.reduceNeg, Int.reduceGE, Int.reduceGT, Int.reduceNegSucc]
  refine done_ret ?_
  simp -implicitDefEqProofs only [go_sem, Nat.reduceSub, Nat.reduceAdd, Nat.reduceMul, Nat.reduceDiv, Nat.reduceMod, Nat.reducePow, Nat.reduceLeDiff, Nat.reduceLT, Nat.reduceGT, Nat.reduceEqDiff, Nat.reduceBEq, Nat.reduceSubDiff, Nat.reduceBeqDiff, Int.reduceLE, Int.reduceLT, Int.reduceEq, Int.reduceToNat, Int.reduceAdd, Int.reduceSub, Int.reduceMul, Int.reduceNeg, Int.reduceGE, Int.reduceGT, Int.reduceNegSucc]
  simp only [IntKind.wrap_u64, IntKind.wrap_i64, w128]
  exact W_eq _ _ _ (by omega) (by omega)

theorem V_less (a b : Int) : VSem Tryz.prog GD 157 [W a, W b] (· = W (w128 (a - b))) := by
  refine VSem.of_body Tryz.func157 rfl (by kernel_rfl) ?_
  refine run_sound 4000 _ ?_
  simp -implicitDefEqProofs only [Tryz.f157, go_sem, Nat.reduceSub, Nat.reduceAdd, Nat.reduceMul, Nat.reduceDiv, Nat.reduceMod, Nat.reducePow, Nat.reduceLeDiff, Nat.reduceLT, Nat.reduceGT, Nat.reduceEqDiff, Nat.reduceBEq, Nat.reduceSubDiff, Nat.reduceBeqDiff, Int.reduceLE, Int.reduceLT, Int.reduceEq, Int.reduceToNat, Int.reduceAdd, Int.reduceSub, Int.reduceMul, Int.reduceNeg, Int.reduceGE, Int.reduceGT, Int.reduceNegSucc]
  refine call_E (V_Sub64 _ _ _ ⟨by omega, by omega⟩ ⟨by omega, by omega⟩ (.inl rfl)) rfl ?_
  refine run_sound 4000 _ ?_
  simp -implicitDefEqProofs only [go_sem, Nat.reduceSub, Nat.reduceAdd, Nat.reduceMul, Nat.reduceDiv, Nat.reduceMod, Nat.reducePow, Nat.reduceLeDiff, Nat.reduceLT, Nat.reduceGT, Nat.reduceEqDiff, Nat.reduceBEq, Nat.reduceSubDiff, Nat.reduceBeqDiff, Int.reduceLE, Int.reduceLT, Int.reduceEq, Int.reduceToNat, Int.reduceAdd, Int.reduceSub, Int.reduceMul, Int.reduceNeg, Int.reduceGE, Int.reduceGT, Int.reduceNegSucc]
  refine call_E (V_Sub64 _ _ _ ⟨by rw [IntKind.wrap_u64]; omega, by rw [IntKind.wrap_u64]; omega⟩ ⟨by rw [IntKind.wrap_u64]; omega, by rw [IntKind.wrap_u64]; omega⟩ (by split <;> omega)) rfl ?_
  refine run_sound 4000 _ ?_
  simp -implicitDefEqProofs only [go_sem, Nat.reduceSub, Nat.reduceAdd, Nat.reduceMul, Nat.reduceDiv, Nat.reduceMod, Nat.reducePow, Nat.reduceLeDiff, Nat.reduceLT, Nat.reduceGT, Nat.reduceEqDiff, Nat.reduceBEq, Nat.reduceSubDiff, Nat.reduceBeqDiff, Int.reduceLE, Int.reduceLT, Int.reduceEq, Int.reduceToNat, Int.reduceAdd, Int.reduceSub, Int.reduceMul, Int.reduceNeg, Int.reduceGE, Int.reduceGT, Int.reduceNegSucc]
  refine done_ret ?_
  simp -implicitDefEqProofs only [go_sem, Nat.reduceSub, Nat.reduceAdd, Nat.reduceMul, Nat.reduceDiv, Nat.reduceMod, Nat.reducePow, Nat.reduceLeDiff, Nat.reduceLT, Nat.reduceGT, Nat.reduceEqDiff, Nat.reduceBEq, Nat.reduceSubDiff, Nat.reduceBeqDiff, Int.reduceLE, Int.reduceLT, Int.reduceEq, Int.reduceToNat, Int.reduceAdd, Int.reduceSub, Int.reduceMul, Int.reduceNeg, Int.reduceGE, Int.reduceGT, Int.reduceNegSucc]
  simp only [IntKind.wrap_u64, IntKind.wrap_i64, w128]
  exact W_eq _ _ _ (by split <;> omega) (by omega)

theorem mul64_math (a b : Nat) (hx : a < 18446744073709551616) (hy : b < 18446744073709551616) :
  AV.tuple [AV.int IntKind.u64 (IntKind.u64.wrap (IntKind.u64.wrap (IntKind.u64.wrap ((a : Int).fdiv (2 ^ 32) * (b : Int).fdiv (2 ^ 32)) +
    (IntKind.u64.wrap (IntKind.u64.wrap ((a : Int).fdiv (2 ^ 32) * ibits BinOp.and IntKind.u64 (b : Int) 4294967295) +
      (IntKind.u64.wrap (ibits BinOp.and IntKind.u64 (a : Int) 4294967295 * ibits BinOp.and IntKind.u64 (b : Int) 4294967295)).fdiv (2 ^ 32))).fdiv (2 ^ 32)) +
    (IntKind.u64.wrap (ibits BinOp.and IntKind.u64 (IntKind.u64.wrap (IntKind.u64.wrap ((a : Int).fdiv (2 ^ 32) * ibits BinOp.and IntKind.u64 (b : Int) 4294967295) +
      (IntKind.u64.wrap (ibits BinOp.and IntKind.u64 (a : Int) 4294967295 * ibits BinOp.and IntKind.u64 (b : Int) 4294967295)).fdiv (2 ^ 32))) 4294967295 +
      IntKind.u64.wrap (ibits BinOp.and IntKind.u64 (a : Int) 4294967295 * (b : Int).fdiv (2 ^ 32)))).fdiv (2 ^ 32))),
   AV.int IntKind.u64 (IntKind.u64.wrap ((a : Int) * b))] = AV.tuple [U ((a : Int) * b / 18446744073709551616), U ((a : Int) * b % 18446744073709551616)] := by
  obtain ⟨bd, bt, bw, hhi⟩ := Lib.mul64_hi a b hx hy
  have ba := Lib.half_mul_le (a := a / 4294967296) (b := b / 4294967296) (by omega) (by omega)
  have bb := Lib.half_mul_le (a := a / 4294967296) (b := b % 4294967296) (by omega) (by omega)
  have bc := Lib.half_mul_le (a := a % 4294967296) (b := b / 4294967296) (by omega) (by omega)
  have ba' : a / 4294967296 * (b / 4294967296) < 18446744073709551616 := by omega
  have bb' : a / 4294967296 * (b % 4294967296) < 18446744073709551616 := by omega
  have bc' : a % 4294967296 * (b / 4294967296) < 18446744073709551616 := by omega
  have bh1 : a / 4294967296 * (b / 4294967296) + (a / 4294967296 * (b % 4294967296) + a % 4294967296 * (b % 4294967296) / 4294967296) / 4294967296 < 18446744073709551616 := by omega
  have bh : a / 4294967296 * (b / 4294967296) + (a / 4294967296 * (b % 4294967296) + a % 4294967296 * (b % 4294967296) / 4294967296) / 4294967296 + ((a / 4294967296 * (b % 4294967296) + a % 4294967296 * (b % 4294967296) / 4294967296) % 4294967296 + a % 4294967296 * (b / 4294967296)) / 4294967296 < 18446744073709551616 := by omega
  have maskN : ∀ a : Nat, a < 18446744073709551616 → ibits .and .u64 (a : Int) 4294967295 = ((a % 4294967296 : Nat) : Int) := fun a ha => by
    have h := bits_and_u64_nat a 4294967295 ha (by omega)
    have e : a &&& 4294967295 = a % 4294967296 := Nat.and_two_pow_sub_one_eq_mod a 32
    rw [e] at h
    rw [ibits_bits]
    exact h
  have divN : ∀ a : Nat, (a : Int).fdiv (2 ^ 32) = ((a / 4294967296 : Nat) : Int) := fun a => by
    rw [pos_fdiv _ _ (by decide)]
    show (a : Int) / 4294967296 = _
    omega
  have mulN : ∀ a b : Nat, (a : Int) * (b : Int) = ((a * b : Nat) : Int) := fun a b => (Int.natCast_mul a b).symm
  have addN : ∀ a b : Nat, (a : Int) + (b : Int) = ((a + b : Nat) : Int) := fun a b => (Int.natCast_add a b).symm
  have wrapN : ∀ a : Nat, a < 18446744073709551616 → IntKind.u64.wrap (a : Int) = (a : Int) := fun a ha => by rw [IntKind.wrap_u64]; omega
  have wrapM : ∀ a : Nat, IntKind.u64.wrap (a : Int) = ((a % 18446744073709551616 : Nat) : Int) := fun a => by rw [IntKind.wrap_u64]; omega
  simp only [maskN a hx, maskN b hy, divN, mulN, addN, wrapN _ bd, wrapN _ bb', wrapN _ bt, maskN _ bt, wrapN _ bc', wrapN _ bw, wrapN _ ba', wrapN _ bh1, wrapN _ bh, wrapM (a * b)]
  rw [hhi]
  rfl

theorem V_Mul64 (x y : Int) (hx : InU x) (hy : InU y) :
    VSem Tryz.prog GD 155 [U x, U y] (· = .tuple [U (x * y / 18446744073709551616), U (x * y % 18446744073709551616)]) := by
  refine VSem.of_body Tryz.func155 rfl (by kernel_rfl) ?_
  refine run_sound 4000 _ ?_
  simp -implicitDefEqProofs only [Tryz.f155, go_sem, Nat.reduceSub, Nat.reduceAdd, Nat.reduceMul, Nat.reduceDiv, Nat.reduceMod, Nat.reducePow, Nat.reduceLeDiff, Nat.reduceLT, Nat.reduceGT, Nat.reduceEqDiff, Nat.reduceBEq, Nat.reduceSubDiff, Nat.reduceBeqDiff, Int.reduceLE, Int.reduceLT, Int.reduceEq, Int.reduceToNat, Int.reduceAdd, Int.reduceSub, Int.reduceMul, Int.reduceNeg, Int.reduceGE, Int.reduceGT, Int.reduceNegSucc]
  refine done_ret ?_
  simp -implicitDefEqProofs only [go_sem, Nat.reduceSub, Nat.reduceAdd, Nat.reduceMul, Nat.reduceDiv, Nat.reduceMod, Nat.reducePow, Nat.reduceLeDiff, Nat.reduceLT, Nat.reduceGT, Nat.reduceEqDiff, Nat.reduceBEq, Nat.reduceSubDiff, Nat.reduceBeqDiff, Int.reduceLE, Int.reduceLT, Int.reduceEq, Int.reduceToNat, Int.reduceAdd, Int.reduceSub, Int.reduceMul, Int.reduceNeg, Int.reduceGE, Int.reduceGT, Int.reduceNegSucc]
  obtain ⟨a, rfl⟩ := Int.eq_ofNat_of_zero_le hx.1
  obtain ⟨b, rfl⟩ := Int.eq_ofNat_of_zero_le hy.1
  exact mul64_math a b (by have := hx.2; omega) (by have := hy.2; omega)

theorem V_down (n : Int) (h : In128 n) : VSem Tryz.prog GD 145 [W n] (· = .tuple [W (n / 2), U (n % 2)]) := by
  refine VSem.of_body Tryz.func145 rfl (by kernel_rfl) ?_
  refine run_sound 4000 _ ?_
  simp -implicitDefEqProofs only [Tryz.f145, go_sem, Nat.reduceSub, Nat.reduceAdd, Nat.reduceMul, Nat.reduceDiv, Nat.reduceMod, Nat.reducePow, Nat.reduceLeDiff, Nat.reduceLT, Nat.reduceGT, Nat.reduceEqDiff, Nat.reduceBEq, Nat.reduceSubDiff, Nat.reduceBeqDiff, Int.reduceLE, Int.reduceLT, Int.reduceEq, Int.reduceToNat, Int.reduceAdd, Int.reduceSub, Int.reduceMul, Int.reduceNeg, Int.reduceGE, Int.reduceGT, Int.reduceNegSucc]
  refine draw_sem mixed [] (fun _ _ _ => True) [(0, []), (1, []), (2, []), (3, []), (4, []), (5, []), (6, []), (7, []), (8, []), (9, []), (10, []), (11, []), (12, []), (13, [2]), (14, []), (15, []), (16, [])] (by kernel_rfl) ?_
  simp -implicitDefEqProofs only [go_sem, Nat.reduceSub, Nat.reduceAdd, Nat.reduceMul, Nat.reduceDiv, Nat.reduceMod, Nat.reducePow, Nat.reduceLeDiff, Nat.reduceLT, Nat.reduceGT, Nat.reduceEqDiff, Nat.reduceBEq, Nat.reduceSubDiff, Nat.reduceBeqDiff, Int.reduceLE, Int.reduceLT, Int.reduceEq, Int.reduceToNat, Int.reduceAdd, Int.reduceSub, Int.reduceMul, Int.reduceNeg, Int.reduceGE, Int.reduceGT, Int.reduceNegSucc]
  refine run_sound 4000 _ ?_
  simp -implicitDefEqProofs only [go_sem, Nat.reduceSub, Nat.reduceAdd, Nat.reduceMul, Nat.reduceDiv, Nat.reduceMod, Nat.reducePow, Nat.reduceLeDiff, Nat.reduceLT, Nat.reduceGT, Nat.reduceEqDiff, Nat.reduceBEq, Nat.reduceSubDiff, Nat.reduceBeqDiff, Int.reduceLE, Int.reduceLT, Int.reduceEq, Int.reduceToNat, Int.reduceAdd, Int.reduceSub, Int.reduceMul, Int.reduceNeg, Int.reduceGE, Int.reduceGT, Int.reduceNegSucc]
  refine done_ret ?_
  simp -implicitDefEqProofs only [go_sem, Nat.reduceSub, Nat.reduceAdd, Nat.reduceMul, Nat.reduceDiv, Nat.reduceMod, Nat.reducePow, Nat.reduceLeDiff, Nat.reduceLT, Nat.reduceGT, Nat.reduceEqDiff, Nat.reduceBEq, Nat.reduceSubDiff, Nat.reduceBeqDiff, Int.reduceLE, Int.reduceLT, Int.reduceEq, Int.reduceToNat, Int.reduceAdd, Int.reduceSub, Int.reduceMul, Int.reduceNeg, Int.reduceGE, Int.reduceGT, Int.reduceNegSucc]
  obtain ⟨h1, h2⟩ := h
  have e1 : ∀ x : Int, x.fdiv (2 ^ 1) = x / 2 := fun x => by rw [pos_fdiv _ _ (by decide)]; rfl
  rw [e1, e1, and1 _ ⟨by omega, by omega⟩]
  rw [show IntKind.u64.wrap (IntKind.u64.wrap (n / 18446744073709551616) * 2 ^ 63) = (n / 18446744073709551616 % 2) * 9223372036854775808 by
    rw [IntKind.wrap_u64, IntKind.wrap_u64]; omega]
  rw [or_hi _ _ (by omega) (by omega) (by omega)]
  congr 2
  · exact W_eq _ _ _ (by omega) (by omega)
  · congr 2
    omega

theorem V_Int (n : Int) (h : In128 n) : VSem Tryz.prog GD 99 [W n] (· = .tuple (if -9223372036854775808 ≤ n ∧ n ≤ 9223372036854775807 then [I n, I 0] else [I 0, I 3])) := by
  refine VSem.of_body Tryz.func99 rfl (by kernel_rfl) ?_
  refine run_sound 4000 _ ?_
  simp -implicitDefEqProofs only [Tryz.f99, go_sem, Nat.reduceSub, Nat.reduceAdd, Nat.reduceMul, Nat.reduceDiv, Nat.reduceMod, Nat.reducePow, Nat.reduceLeDiff, Nat.reduceLT, Nat.reduceGT, Nat.reduceEqDiff, Nat.reduceBEq, Nat.reduceSubDiff, Nat.reduceBeqDiff, Int.reduceLE, Int.reduceLT, Int.reduceEq, Int.reduceToNat, Int.reduceAdd, Int.reduceSub, Int.reduceMul, Int.reduceNeg, Int.reduceGE, Int.reduceGT, Int.reduceNegSucc]
  refine draw_sem mixed [98] (fun _ _ v => v = W (IntKind.i64.wrap (n % 18446744073709551616))) [(0, []), (1, []), (2, []), (3, []), (4, []), (5, [])] (by kernel_rfl) ?_
  simp -implicitDefEqProofs only [go_sem, Nat.reduceSub, Nat.reduceAdd, Nat.reduceMul, Nat.reduceDiv, Nat.reduceMod, Nat.reducePow, Nat.reduceLeDiff, Nat.reduceLT, Nat.reduceGT, Nat.reduceEqDiff, Nat.reduceBEq, Nat.reduceSubDiff, Nat.reduceBeqDiff, Int.reduceLE, Int.reduceLT, Int.reduceEq, Int.reduceToNat, Int.reduceAdd, Int.reduceSub, Int.reduceMul, Int.reduceNeg, Int.reduceGE, Int.reduceGT, Int.reduceNegSucc]
  refine dcall_E (V_Of _ ⟨by rw [IntKind.wrap_i64]; omega, by rw [IntKind.wrap_i64]; omega⟩) rfl rfl (fun _ => Iff.rfl) ?_
  simp -implicitDefEqProofs only [go_sem, Nat.reduceSub, Nat.reduceAdd, Nat.reduceMul, Nat.reduceDiv, Nat.reduceMod, Nat.reducePow, Nat.reduceLeDiff, Nat.reduceLT, Nat.reduceGT, Nat.reduceEqDiff, Nat.reduceBEq, Nat.reduceSubDiff, Nat.reduceBeqDiff, Int.reduceLE, Int.reduceLT, Int.reduceEq, Int.reduceToNat, Int.reduceAdd, Int.reduceSub, Int.reduceMul, Int.reduceNeg, Int.reduceGE, Int.reduceGT, Int.reduceNegSucc]
  refine run_sound 4000 _ ?_
  simp -implicitDefEqProofs only [go_sem, Nat.reduceSub, Nat.reduceAdd, Nat.reduceMul, Nat.reduceDiv, Nat.reduceMod, Nat.reducePow, Nat.reduceLeDiff, Nat.reduceLT, Nat.reduceGT, Nat.reduceEqDiff, Nat.reduceBEq, Nat.reduceSubDiff, Nat.reduceBeqDiff, Int.reduceLE, Int.reduceLT, Int.reduceEq, Int.reduceToNat, Int.reduceAdd, Int.reduceSub, Int.reduceMul, Int.reduceNeg, Int.reduceGE, Int.reduceGT, Int.reduceNegSucc]
  refine brk_sem (fun hb => ?_) (fun hb => ?_) <;> simp -implicitDefEqProofs only [go_sem, Nat.reduceSub, Nat.reduceAdd, Nat.reduceMul, Nat.reduceDiv, Nat.reduceMod, Nat.reducePow, Nat.reduceLeDiff, Nat.reduceLT, Nat.reduceGT, Nat.reduceEqDiff, Nat.reduceBEq, Nat.reduceSubDiff, Nat.reduceBeqDiff, Int.reduceLE, Int.reduceLT, Int.reduceEq, Int.reduceToNat, Int.reduceAdd, Int.reduceSub, Int.reduceMul, Int.reduceNeg, Int.reduceGE, Int.reduceGT, Int.reduceNegSucc] <;> refine done_ret ?_ <;> simp -implicitDefEqProofs only [go_sem, Nat.reduceSub, Nat.reduceAdd, Nat.reduceMul, Nat.reduceDiv, Nat.reduceMod, Nat.reducePow, Nat.reduceLeDiff, Nat.reduceLT, Nat.reduceGT, Nat.reduceEqDiff, Nat.reduceBEq, Nat.reduceSubDiff, Nat.reduceBeqDiff, Int.reduceLE, Int.reduceLT, Int.reduceEq, Int.reduceToNat, Int.reduceAdd, Int.reduceSub, Int.reduceMul, Int.reduceNeg, Int.reduceGE, Int.reduceGT, Int.reduceNegSucc]
  · rw [if_neg]
    simp only [Bool.not_eq_true', Bool.and_eq_false_iff, decide_eq_false_iff_not, IntKind.wrap_i64] at hb
    omega
  · simp only [Bool.not_eq_false', Bool.and_eq_true, decide_eq_true_eq, IntKind.wrap_i64] at hb
    rw [if_pos (by omega), IntKind.wrap_i64]
    congr 3
    omega

theorem mul_sign (x y : Int) : x * y = if (decide (x < 0) == decide (y < 0)) = true then (x.natAbs : Int) * y.natAbs else -((x.natAbs : Int) * y.natAbs) := by
  by_cases hx : x < 0 <;> by_cases hy : y < 0
  all_goals simp only [hx, hy, decide_true, decide_false]
  · rw [Int.ofNat_natAbs_of_nonpos (by omega), Int.ofNat_natAbs_of_nonpos (by omega)]; simp [Int.neg_mul, Int.mul_neg]
  · rw [Int.ofNat_natAbs_of_nonpos (by omega), Int.natAbs_of_nonneg (by omega)]; simp [Int.neg_mul, Int.mul_neg]
  · rw [Int.natAbs_of_nonneg (by omega), Int.ofNat_natAbs_of_nonpos (by omega)]; simp [Int.neg_mul, Int.mul_neg]
  · rw [Int.natAbs_of_nonneg (by omega), Int.natAbs_of_nonneg (by omega)]; simp [Int.neg_mul, Int.mul_neg]
theorem natAbs_mul_le (x y : Int) (hx : In64 x) (hy : In64 y) : 0 ≤ (x.natAbs : Int) * y.natAbs ∧ (x.natAbs : Int) * y.natAbs ≤ 85070591730234615865843651857942052864 := by
  obtain ⟨h1, h2⟩ := hx
  obtain ⟨h3, h4⟩ := hy
  have h5 : x.natAbs * y.natAbs ≤ 9223372036854775808 * 9223372036854775808 := Nat.mul_le_mul (by omega) (by omega)
  exact ⟨by omega, by omega⟩

theorem V_Mul (x y : Int) (hx : In64 x) (hy : In64 y) : VSem Tryz.prog GD 124 [I x, I y] (· = W (x * y)) := by
  obtain ⟨g1, g2⟩ := natAbs_mul_le x y hx hy
  have g3 := mul_sign x y
  refine VSem.of_body Tryz.func124 rfl (by kernel_rfl) ?_
  refine run_sound 4000 _ ?_
  simp -implicitDefEqProofs only [Tryz.f124, go_sem, Nat.reduceSub, Nat.reduceAdd, Nat.reduceMul, Nat.reduceDiv, Nat.reduceMod, Nat.reducePow, Nat.reduceLeDiff, Nat.reduceLT, Nat.reduceGT, Nat.reduceEqDiff, Nat.reduceBEq, Nat.reduceSubDiff, Nat.reduceBeqDiff, Int.reduceLE, Int.reduceLT, Int.reduceEq, Int.reduceToNat, Int.reduceAdd, Int.reduceSub, Int.reduceMul, Int.reduceNeg, Int.reduceGE, Int.reduceGT, Int.reduceNegSucc]
  refine call_E (V_size x hx) rfl ?_
  refine run_sound 4000 _ ?_
  simp -implicitDefEqProofs only [go_sem, Nat.reduceSub, Nat.reduceAdd, Nat.reduceMul, Nat.reduceDiv, Nat.reduceMod, Nat.reducePow, Nat.reduceLeDiff, Nat.reduceLT, Nat.reduceGT, Nat.reduceEqDiff, Nat.reduceBEq, Nat.reduceSubDiff, Nat.reduceBeqDiff, Int.reduceLE, Int.reduceLT, Int.reduceEq, Int.reduceToNat, Int.reduceAdd, Int.reduceSub, Int.reduceMul, Int.reduceNeg, Int.reduceGE, Int.reduceGT, Int.reduceNegSucc]
  refine call_E (V_size y hy) rfl ?_
  refine run_sound 4000 _ ?_
  simp -implicitDefEqProofs only [go_sem, Nat.reduceSub, Nat.reduceAdd, Nat.reduceMul, Nat.reduceDiv, Nat.reduceMod, Nat.reducePow, Nat.reduceLeDiff, Nat.reduceLT, Nat.reduceGT, Nat.reduceEqDiff, Nat.reduceBEq, Nat.reduceSubDiff, Nat.reduceBeqDiff, Int.reduceLE, Int.reduceLT, Int.reduceEq, Int.reduceToNat, Int.reduceAdd, Int.reduceSub, Int.reduceMul, Int.reduceNeg, Int.reduceGE, Int.reduceGT, Int.reduceNegSucc]
  refine call_E (V_Mul64 _ _ (by unfold InU; unfold In64 at hx; omega) (by unfold InU; unfold In64 at hy; omega)) rfl ?_
  refine run_sound 4000 _ ?_
  simp -implicitDefEqProofs only [go_sem, Nat.reduceSub, Nat.reduceAdd, Nat.reduceMul, Nat.reduceDiv, Nat.reduceMod, Nat.reducePow, Nat.reduceLeDiff, Nat.reduceLT, Nat.reduceGT, Nat.reduceEqDiff, Nat.reduceBEq, Nat.reduceSubDiff, Nat.reduceBeqDiff, Int.reduceLE, Int.reduceLT, Int.reduceEq, Int.reduceToNat, Int.reduceAdd, Int.reduceSub, Int.reduceMul, Int.reduceNeg, Int.reduceGE, Int.reduceGT, Int.reduceNegSucc]
  generalize (x.natAbs : Int) * y.natAbs = N at *
  have hw : IntKind.i64.wrap (N / 18446744073709551616) = N / 18446744073709551616 := by rw [IntKind.wrap_i64]; omega
  simp only [hw]
  refine brk_sem (fun hb => ?_) (fun hb => ?_) <;> simp -implicitDefEqProofs only [go_sem, Nat.reduceSub, Nat.reduceAdd, Nat.reduceMul, Nat.reduceDiv, Nat.reduceMod, Nat.reducePow, Nat.reduceLeDiff, Nat.reduceLT, Nat.reduceGT, Nat.reduceEqDiff, Nat.reduceBEq, Nat.reduceSubDiff, Nat.reduceBeqDiff, Int.reduceLE, Int.reduceLT, Int.reduceEq, Int.reduceToNat, Int.reduceAdd, Int.reduceSub, Int.reduceMul, Int.reduceNeg, Int.reduceGE, Int.reduceGT, Int.reduceNegSucc]
  · rw [if_neg (by simpa using hb)] at g3
    refine call_A (V_less 0 N) rfl rfl ?_
    refine run_sound 4000 _ ?_
    simp -implicitDefEqProofs only [go_sem, Nat.reduceSub, Nat.reduceAdd, Nat.reduceMul, Nat.reduceDiv, Nat.reduceMod, Nat.reducePow, Nat.reduceLeDiff, Nat.reduceLT, Nat.reduceGT, Nat.reduceEqDiff, Nat.reduceBEq, Nat.reduceSubDiff, Nat.reduceBeqDiff, Int.reduceLE, Int.reduceLT, Int.reduceEq, Int.reduceToNat, Int.reduceAdd, Int.reduceSub, Int.reduceMul, Int.reduceNeg, Int.reduceGE, Int.reduceGT, Int.reduceNegSucc]
    refine done_ret ?_
    simp -implicitDefEqProofs only [go_sem, Nat.reduceSub, Nat.reduceAdd, Nat.reduceMul, Nat.reduceDiv, Nat.reduceMod, Nat.reducePow, Nat.reduceLeDiff, Nat.reduceLT, Nat.reduceGT, Nat.reduceEqDiff, Nat.reduceBEq, Nat.reduceSubDiff, Nat.reduceBeqDiff, Int.reduceLE, Int.reduceLT, Int.reduceEq, Int.reduceToNat, Int.reduceAdd, Int.reduceSub, Int.reduceMul, Int.reduceNeg, Int.reduceGE, Int.reduceGT, Int.reduceNegSucc]
    rw [g3, w128]
    exact W_eq _ _ _ (by omega) (by omega)
  · rw [if_pos (by simpa using hb)] at g3
    refine done_ret ?_
    simp -implicitDefEqProofs only [go_sem, Nat.reduceSub, Nat.reduceAdd, Nat.reduceMul, Nat.reduceDiv, Nat.reduceMod, Nat.reducePow, Nat.reduceLeDiff, Nat.reduceLT, Nat.reduceGT, Nat.reduceEqDiff, Nat.reduceBEq, Nat.reduceSubDiff, Nat.reduceBeqDiff, Int.reduceLE, Int.reduceLT, Int.reduceEq, Int.reduceToNat, Int.reduceAdd, Int.reduceSub, Int.reduceMul, Int.reduceNeg, Int.reduceGE, Int.reduceGT, Int.reduceNegSucc]
    rw [g3]

theorem V_Add (a b : Int) (ha : In128 a) (hb : In128 b) : VSem Tryz.prog GD 154 [W a, W b] (· = .tuple (if -170141183460469231731687303715884105728 ≤ a + b ∧ a + b ≤ 170141183460469231731687303715884105727 then [W (a + b), I 0] else [W 0, I 3])) := by
  obtain ⟨ha1, ha2⟩ := ha
  obtain ⟨hb1, hb2⟩ := hb
  refine VSem.of_body Tryz.func154 rfl (by kernel_rfl) ?_
  refine run_sound 4000 _ ?_
  simp -implicitDefEqProofs only [Tryz.f154, go_sem, Nat.reduceSub, Nat.reduceAdd, Nat.reduceMul, Nat.reduceDiv, Nat.reduceMod, Nat.reducePow, Nat.reduceLeDiff, Nat.reduceLT, Nat.reduceGT, Nat.reduceEqDiff, Nat.reduceBEq, Nat.reduceSubDiff, Nat.reduceBeqDiff, Int.reduceLE, Int.reduceLT, Int.reduceEq, Int.reduceToNat, Int.reduceAdd, Int.reduceSub, Int.reduceMul, Int.reduceNeg, Int.reduceGE, Int.reduceGT, Int.reduceNegSucc]
  refine call_E (V_plus a b) rfl ?_
  refine run_sound 4000 _ ?_
  simp -implicitDefEqProofs only [go_sem, Nat.reduceSub, Nat.reduceAdd, Nat.reduceMul, Nat.reduceDiv, Nat.reduceMod, Nat.reducePow, Nat.reduceLeDiff, Nat.reduceLT, Nat.reduceGT, Nat.reduceEqDiff, Nat.reduceBEq, Nat.reduceSubDiff, Nat.reduceBeqDiff, Int.reduceLE, Int.reduceLT, Int.reduceEq, Int.reduceToNat, Int.reduceAdd, Int.reduceSub, Int.reduceMul, Int.reduceNeg, Int.reduceGE, Int.reduceGT, Int.reduceNegSucc]
  refine brk_sem (fun h1 => ?_) (fun h1 => ?_) <;> simp -implicitDefEqProofs only [go_sem, Nat.reduceSub, Nat.reduceAdd, Nat.reduceMul, Nat.reduceDiv, Nat.reduceMod, Nat.reducePow, Nat.reduceLeDiff, Nat.reduceLT, Nat.reduceGT, Nat.reduceEqDiff, Nat.reduceBEq, Nat.reduceSubDiff, Nat.reduceBeqDiff, Int.reduceLE, Int.reduceLT, Int.reduceEq, Int.reduceToNat, Int.reduceAdd, Int.reduceSub, Int.reduceMul, Int.reduceNeg, Int.reduceGE, Int.reduceGT, Int.reduceNegSucc, h1]
  · refine brk_sem (fun h2 => ?_) (fun h2 => ?_) <;> simp -implicitDefEqProofs only [go_sem, Nat.reduceSub, Nat.reduceAdd, Nat.reduceMul, Nat.reduceDiv, Nat.reduceMod, Nat.reducePow, Nat.reduceLeDiff, Nat.reduceLT, Nat.reduceGT, Nat.reduceEqDiff, Nat.reduceBEq, Nat.reduceSubDiff, Nat.reduceBeqDiff, Int.reduceLE, Int.reduceLT, Int.reduceEq, Int.reduceToNat, Int.reduceAdd, Int.reduceSub, Int.reduceMul, Int.reduceNeg, Int.reduceGE, Int.reduceGT, Int.reduceNegSucc]
    · refine done_ret ?_
      simp -implicitDefEqProofs only [go_sem, Nat.reduceSub, Nat.reduceAdd, Nat.reduceMul, Nat.reduceDiv, Nat.reduceMod, Nat.reducePow, Nat.reduceLeDiff, Nat.reduceLT, Nat.reduceGT, Nat.reduceEqDiff, Nat.reduceBEq, Nat.reduceSubDiff, Nat.reduceBeqDiff, Int.reduceLE, Int.reduceLT, Int.reduceEq, Int.reduceToNat, Int.reduceAdd, Int.reduceSub, Int.reduceMul, Int.reduceNeg, Int.reduceGE, Int.reduceGT, Int.reduceNegSucc]
      rw [if_neg]
      · rfl
      · simp only [beq_iff_eq, decide_eq_decide] at h1
        simp only [cond_true, Bool.not_eq_true', beq_eq_false_iff_ne, ne_eq, decide_eq_decide] at h2
        unfold w128 at h2
        omega
    · refine done_ret ?_
      simp -implicitDefEqProofs only [go_sem, Nat.reduceSub, Nat.reduceAdd, Nat.reduceMul, Nat.reduceDiv, Nat.reduceMod, Nat.reducePow, Nat.reduceLeDiff, Nat.reduceLT, Nat.reduceGT, Nat.reduceEqDiff, Nat.reduceBEq, Nat.reduceSubDiff, Nat.reduceBeqDiff, Int.reduceLE, Int.reduceLT, Int.reduceEq, Int.reduceToNat, Int.reduceAdd, Int.reduceSub, Int.reduceMul, Int.reduceNeg, Int.reduceGE, Int.reduceGT, Int.reduceNegSucc]
      rw [if_pos]
      · simp only [beq_iff_eq, decide_eq_decide] at h1
        simp only [cond_true, Bool.not_eq_false', beq_iff_eq, decide_eq_decide] at h2
        unfold w128 at h2
        rw [w128, show ∀ x y : Int, x = y → AV.tuple [W x, I 0] = AV.tuple [W y, I 0] from fun x y h => by rw [h]]
        omega
      · simp only [beq_iff_eq, decide_eq_decide] at h1
        simp only [cond_true, Bool.not_eq_false', beq_iff_eq, decide_eq_decide] at h2
        unfold w128 at h2
        omega
  · refine done_ret ?_
    simp -implicitDefEqProofs only [go_sem, Nat.reduceSub, Nat.reduceAdd, Nat.reduceMul, Nat.reduceDiv, Nat.reduceMod, Nat.reducePow, Nat.reduceLeDiff, Nat.reduceLT, Nat.reduceGT, Nat.reduceEqDiff, Nat.reduceBEq, Nat.reduceSubDiff, Nat.reduceBeqDiff, Int.reduceLE, Int.reduceLT, Int.reduceEq, Int.reduceToNat, Int.reduceAdd, Int.reduceSub, Int.reduceMul, Int.reduceNeg, Int.reduceGE, Int.reduceGT, Int.reduceNegSucc]
    simp only [beq_eq_false_iff_ne, ne_eq, decide_eq_decide] at h1
    rw [if_pos (by omega)]
    rw [w128, show ∀ x y : Int, x = y → AV.tuple [W x, I 0] = AV.tuple [W y, I 0] from fun x y h => by rw [h]]
    omega
end Go.Proofs.YtakcibjjfkgadaaGreatDoor
