/- Layer 8: what a tick makes of doubt: the product. -/
import Derived.Test.YtakcibjjfkgadaaGreatDoorD1
set_option linter.unusedSimpArgs false
set_option linter.unusedVariables false
set_option maxRecDepth 100000
set_option pp.maxSteps 400
set_option maxHeartbeats 4000000
namespace Go.Proofs.YtakcibjjfkgadaaGreatDoor
open Go.Ev

/-- The memory of Raw. -/
structure RawM (p : S6) (cells : List AV) (k : Int) (h : List Blk) : Prop where
  b0 : bget h 0 = some ⟨[I p.a, I p.b, I p.c, I p.d, I p.e, I p.f], 45⟩
  b1 : bget h 1 = some ⟨[I 0, U 0, I 0, U 0, I 0, U 0, I 0, U 0, I 0, U 0, I 0, U 0], 160⟩
  b2 : bget h 2 = some ⟨cells, 160⟩
  b3 : bget h 3 = some ⟨[I k], 3⟩
  ny : hnoY h = true
theorem RawM.step {p : S6} {cells cells' : List AV} {k : Int} {h : List Blk} (m : RawM p cells k h) (h1 : noYs cells' = true) (x : Blk) (h2 : noYs x.cells = true) : RawM p cells' k (bset h 2 ⟨cells', 160⟩ ++ [x]) :=
  ⟨bget_app ((bget_ne (by decide) _).trans m.b0) _, bget_app ((bget_ne (by decide) _).trans m.b1) _, bget_app (bget_bset m.b2 _) _, bget_app ((bget_ne (by decide) _).trans m.b3) _,
   hnoY_app (hnoY_bset m.ny _ h1) (by simp only [hnoY, h2]; rfl)⟩
theorem RawM.kk {p : S6} {cells : List AV} {k : Int} {h : List Blk} (m : RawM p cells k h) (k' : Int) : RawM p cells k' (bset h 3 ⟨[I k'], 3⟩) :=
  ⟨(bget_ne (by decide) _).trans m.b0, (bget_ne (by decide) _).trans m.b1, (bget_ne (by decide) _).trans m.b2, bget_bset m.b3 _, hnoY_bset m.ny _ rfl⟩

def raw8A (p : S6) : List AV := [I (part8 p 0 0 9 / 18446744073709551616), U (part8 p 0 0 9 % 18446744073709551616), I (part8 p 0 1 9 / 18446744073709551616), U (part8 p 0 1 9 % 18446744073709551616), I (part8 p 0 2 9 / 18446744073709551616), U (part8 p 0 2 9 % 18446744073709551616), I (part8 p 1 1 9 / 18446744073709551616), U (part8 p 1 1 9 % 18446744073709551616), I (part8 p 1 2 9 / 18446744073709551616), U (part8 p 1 2 9 % 18446744073709551616), I (part8 p 2 2 9 / 18446744073709551616), U (part8 p 2 2 9 % 18446744073709551616)]
def raw8V (p : S6) : AV := if p.Fit then .tuple [.agg (raw8A p), I 0] else .tuple [.agg [I 0, U 0, I 0, U 0, I 0, U 0, I 0, U 0, I 0, U 0, I 0, U 0], I 1]

theorem V_Raw (p : S6) : VSem Tryz.prog GD 125 [p.av] (· = raw8V p) := by
  refine VSem.of_body Tryz.func125 rfl (by kernel_rfl) ?_
  refine run_sound 4000 _ ?_
  simp -implicitDefEqProofs only [Tryz.f125, go_sem, Nat.reduceSub, Nat.reduceAdd, Nat.reduceMul, Nat.reduceDiv, Nat.reduceMod, Nat.reducePow, Nat.reduceLeDiff, Nat.reduceLT, Nat.reduceGT, Nat.reduceEqDiff, Nat.reduceBEq, Nat.reduceSubDiff, Nat.reduceBeqDiff, Int.reduceLE, Int.reduceLT, Int.reduceEq, Int.reduceToNat, Int.reduceAdd, Int.reduceSub, Int.reduceMul, Int.reduceNeg, Int.reduceGE, Int.reduceGT, Int.reduceNegSucc]
  refine call_A (V_sfits8 p) rfl rfl ?_
  by_cases hp : p.Fit
  rotate_left
  · have h' := decide_eq_false hp
    refine run_sound 4000 _ ?_
    simp -implicitDefEqProofs only [go_sem, Nat.reduceSub, Nat.reduceAdd, Nat.reduceMul, Nat.reduceDiv, Nat.reduceMod, Nat.reducePow, Nat.reduceLeDiff, Nat.reduceLT, Nat.reduceGT, Nat.reduceEqDiff, Nat.reduceBEq, Nat.reduceSubDiff, Nat.reduceBeqDiff, Int.reduceLE, Int.reduceLT, Int.reduceEq, Int.reduceToNat, Int.reduceAdd, Int.reduceSub, Int.reduceMul, Int.reduceNeg, Int.reduceGE, Int.reduceGT, Int.reduceNegSucc, h']
    refine done_ret ?_
    simp -implicitDefEqProofs only [go_sem, Nat.reduceSub, Nat.reduceAdd, Nat.reduceMul, Nat.reduceDiv, Nat.reduceMod, Nat.reducePow, Nat.reduceLeDiff, Nat.reduceLT, Nat.reduceGT, Nat.reduceEqDiff, Nat.reduceBEq, Nat.reduceSubDiff, Nat.reduceBeqDiff, Int.reduceLE, Int.reduceLT, Int.reduceEq, Int.reduceToNat, Int.reduceAdd, Int.reduceSub, Int.reduceMul, Int.reduceNeg, Int.reduceGE, Int.reduceGT, Int.reduceNegSucc]
    unfold raw8V
    rw [if_neg hp]
  have h' := decide_eq_true hp
  refine run_sound 4000 _ ?_
  simp -implicitDefEqProofs only [go_sem, Nat.reduceSub, Nat.reduceAdd, Nat.reduceMul, Nat.reduceDiv, Nat.reduceMod, Nat.reducePow, Nat.reduceLeDiff, Nat.reduceLT, Nat.reduceGT, Nat.reduceEqDiff, Nat.reduceBEq, Nat.reduceSubDiff, Nat.reduceBeqDiff, Int.reduceLE, Int.reduceLT, Int.reduceEq, Int.reduceToNat, Int.reduceAdd, Int.reduceSub, Int.reduceMul, Int.reduceNeg, Int.reduceGE, Int.reduceGT, Int.reduceNegSucc, h']
  refine loop_go ?_
  refine run_sound 4000 _ ?_
  simp -implicitDefEqProofs only [go_sem, Nat.reduceSub, Nat.reduceAdd, Nat.reduceMul, Nat.reduceDiv, Nat.reduceMod, Nat.reducePow, Nat.reduceLeDiff, Nat.reduceLT, Nat.reduceGT, Nat.reduceEqDiff, Nat.reduceBEq, Nat.reduceSubDiff, Nat.reduceBeqDiff, Int.reduceLE, Int.reduceLT, Int.reduceEq, Int.reduceToNat, Int.reduceAdd, Int.reduceSub, Int.reduceMul, Int.reduceNeg, Int.reduceGE, Int.reduceGT, Int.reduceNegSucc]
  refine loop_go ?_
  refine run_sound 4000 _ ?_
  simp -implicitDefEqProofs only [go_sem, Nat.reduceSub, Nat.reduceAdd, Nat.reduceMul, Nat.reduceDiv, Nat.reduceMod, Nat.reducePow, Nat.reduceLeDiff, Nat.reduceLT, Nat.reduceGT, Nat.reduceEqDiff, Nat.reduceBEq, Nat.reduceSubDiff, Nat.reduceBeqDiff, Int.reduceLE, Int.reduceLT, Int.reduceEq, Int.reduceToNat, Int.reduceAdd, Int.reduceSub, Int.reduceMul, Int.reduceNeg, Int.reduceGE, Int.reduceGT, Int.reduceNegSucc]
  refine call_A (V_terms p 0 0) rfl rfl ?_
  refine run_sound 4000 _ ?_
  simp -implicitDefEqProofs only [go_sem, Nat.reduceSub, Nat.reduceAdd, Nat.reduceMul, Nat.reduceDiv, Nat.reduceMod, Nat.reducePow, Nat.reduceLeDiff, Nat.reduceLT, Nat.reduceGT, Nat.reduceEqDiff, Nat.reduceBEq, Nat.reduceSubDiff, Nat.reduceBeqDiff, Int.reduceLE, Int.reduceLT, Int.reduceEq, Int.reduceToNat, Int.reduceAdd, Int.reduceSub, Int.reduceMul, Int.reduceNeg, Int.reduceGE, Int.reduceGT, Int.reduceNegSucc]
  have hM0 : RawM p [I (part8 p 0 0 0 / 18446744073709551616), U (part8 p 0 0 0 % 18446744073709551616), I 0, U 0, I 0, U 0, I 0, U 0, I 0, U 0, I 0, U 0] 0 [⟨[I p.a, I p.b, I p.c, I p.d, I p.e, I p.f], 45⟩, ⟨[I 0, U 0, I 0, U 0, I 0, U 0, I 0, U 0, I 0, U 0, I 0, U 0], 160⟩, ⟨[I 0, U 0, I 0, U 0, I 0, U 0, I 0, U 0, I 0, U 0, I 0, U 0], 160⟩, ⟨[I 0], 3⟩] :=
    ⟨rfl, rfl, rfl, rfl, rfl⟩
  refine range_sem (gf := 171) rfl (by kernel_rfl) ?_
  refine (H_terms1 p hp 0 0 (by decide) (by decide) _ rfl _ rfl _ (fun n h => RawM p [I (part8 p 0 0 n / 18446744073709551616), U (part8 p 0 0 n % 18446744073709551616), I 0, U 0, I 0, U 0, I 0, U 0, I 0, U 0, I 0, U 0] 0 h) hM0 (fun _ _ h => h.ny) ?_).mono ?_
  · intro n hn h hI l
    have c0 := bget_app hI.b0
    have c2 := bget_app hI.b2
    have c3 := bget_app hI.b3
    have s2 := bset_app hI.b2
    refine run_sound 4000 _ ?_
    simp -implicitDefEqProofs only [go_sem, Nat.reduceSub, Nat.reduceAdd, Nat.reduceMul, Nat.reduceDiv, Nat.reduceMod, Nat.reducePow, Nat.reduceLeDiff, Nat.reduceLT, Nat.reduceGT, Nat.reduceEqDiff, Nat.reduceBEq, Nat.reduceSubDiff, Nat.reduceBeqDiff, Int.reduceLE, Int.reduceLT, Int.reduceEq, Int.reduceToNat, Int.reduceAdd, Int.reduceSub, Int.reduceMul, Int.reduceNeg, Int.reduceGE, Int.reduceGT, Int.reduceNegSucc, putPs]
    refine done_norm ⟨rfl, ?_⟩
    refine run_sound 4000 _ ?_
    simp -implicitDefEqProofs only [go_sem, Nat.reduceSub, Nat.reduceAdd, Nat.reduceMul, Nat.reduceDiv, Nat.reduceMod, Nat.reducePow, Nat.reduceLeDiff, Nat.reduceLT, Nat.reduceGT, Nat.reduceEqDiff, Nat.reduceBEq, Nat.reduceSubDiff, Nat.reduceBeqDiff, Int.reduceLE, Int.reduceLT, Int.reduceEq, Int.reduceToNat, Int.reduceAdd, Int.reduceSub, Int.reduceMul, Int.reduceNeg, Int.reduceGE, Int.reduceGT, Int.reduceNegSucc, c0, c2, c3, s2]
    refine draw_sem mixed [154] (fun _ _ v => v = .tuple [W (part8 p 0 0 (n + 1)), I 0]) [(0, []), (1, []), (2, []), (3, []), (4, []), (5, []), (6, []), (7, []), (8, []), (9, []), (10, [])] (by kernel_rfl) ?_
    simp -implicitDefEqProofs only [go_sem, Nat.reduceSub, Nat.reduceAdd, Nat.reduceMul, Nat.reduceDiv, Nat.reduceMod, Nat.reducePow, Nat.reduceLeDiff, Nat.reduceLT, Nat.reduceGT, Nat.reduceEqDiff, Nat.reduceBEq, Nat.reduceSubDiff, Nat.reduceBeqDiff, Int.reduceLE, Int.reduceLT, Int.reduceEq, Int.reduceToNat, Int.reduceAdd, Int.reduceSub, Int.reduceMul, Int.reduceNeg, Int.reduceGE, Int.reduceGT, Int.reduceNegSucc]
    simp -implicitDefEqProofs only [go_sem, Nat.reduceSub, Nat.reduceAdd, Nat.reduceMul, Nat.reduceDiv, Nat.reduceMod, Nat.reducePow, Nat.reduceLeDiff, Nat.reduceLT, Nat.reduceGT, Nat.reduceEqDiff, Nat.reduceBEq, Nat.reduceSubDiff, Nat.reduceBeqDiff, Int.reduceLE, Int.reduceLT, Int.reduceEq, Int.reduceToNat, Int.reduceAdd, Int.reduceSub, Int.reduceMul, Int.reduceNeg, Int.reduceGE, Int.reduceGT, Int.reduceNegSucc, c0, c2, c3, s2]
    refine dcall_E ((V_Add (part8 p 0 0 n) (term8 p 0 0 n) (part8_in p hp 0 0 n (by omega)) (term8_in p hp 0 0 n)).mono fun v hv => hv.trans (congrArg AV.tuple (if_pos (part8_in p hp 0 0 (n + 1) (by omega))))) rfl rfl (fun _ => Iff.rfl) ?_
    simp -implicitDefEqProofs only [go_sem, Nat.reduceSub, Nat.reduceAdd, Nat.reduceMul, Nat.reduceDiv, Nat.reduceMod, Nat.reducePow, Nat.reduceLeDiff, Nat.reduceLT, Nat.reduceGT, Nat.reduceEqDiff, Nat.reduceBEq, Nat.reduceSubDiff, Nat.reduceBeqDiff, Int.reduceLE, Int.reduceLT, Int.reduceEq, Int.reduceToNat, Int.reduceAdd, Int.reduceSub, Int.reduceMul, Int.reduceNeg, Int.reduceGE, Int.reduceGT, Int.reduceNegSucc, c0, c2, c3, s2]
    refine run_sound 4000 _ ?_
    simp -implicitDefEqProofs only [go_sem, Nat.reduceSub, Nat.reduceAdd, Nat.reduceMul, Nat.reduceDiv, Nat.reduceMod, Nat.reducePow, Nat.reduceLeDiff, Nat.reduceLT, Nat.reduceGT, Nat.reduceEqDiff, Nat.reduceBEq, Nat.reduceSubDiff, Nat.reduceBeqDiff, Int.reduceLE, Int.reduceLT, Int.reduceEq, Int.reduceToNat, Int.reduceAdd, Int.reduceSub, Int.reduceMul, Int.reduceNeg, Int.reduceGE, Int.reduceGT, Int.reduceNegSucc]
    refine done_norm ⟨rfl, ?_⟩
    simp -implicitDefEqProofs only [go_sem, Nat.reduceSub, Nat.reduceAdd, Nat.reduceMul, Nat.reduceDiv, Nat.reduceMod, Nat.reducePow, Nat.reduceLeDiff, Nat.reduceLT, Nat.reduceGT, Nat.reduceEqDiff, Nat.reduceBEq, Nat.reduceSubDiff, Nat.reduceBeqDiff, Int.reduceLE, Int.reduceLT, Int.reduceEq, Int.reduceToNat, Int.reduceAdd, Int.reduceSub, Int.reduceMul, Int.reduceNeg, Int.reduceGE, Int.reduceGT, Int.reduceNegSucc, c0, c2, c3, s2]
    exact hI.step rfl _ rfl
  rintro ao h0 ⟨hao, hN0⟩
  refine ⟨hao, hN0.ny, ?_⟩
  have c0 := hN0.b0
  have c3 := hN0.b3
  refine run_sound 4000 _ ?_
  simp -implicitDefEqProofs only [go_sem, Nat.reduceSub, Nat.reduceAdd, Nat.reduceMul, Nat.reduceDiv, Nat.reduceMod, Nat.reducePow, Nat.reduceLeDiff, Nat.reduceLT, Nat.reduceGT, Nat.reduceEqDiff, Nat.reduceBEq, Nat.reduceSubDiff, Nat.reduceBeqDiff, Int.reduceLE, Int.reduceLT, Int.reduceEq, Int.reduceToNat, Int.reduceAdd, Int.reduceSub, Int.reduceMul, Int.reduceNeg, Int.reduceGE, Int.reduceGT, Int.reduceNegSucc, c0, c3]
  have hM1 := hN0.kk 1
  clear c0 c3
  generalize bset h0 3 ⟨[I 1], 3⟩ = hh0 at hM1 ⊢
  have c0 := hM1.b0
  refine loop_go ?_
  refine run_sound 4000 _ ?_
  simp -implicitDefEqProofs only [go_sem, Nat.reduceSub, Nat.reduceAdd, Nat.reduceMul, Nat.reduceDiv, Nat.reduceMod, Nat.reducePow, Nat.reduceLeDiff, Nat.reduceLT, Nat.reduceGT, Nat.reduceEqDiff, Nat.reduceBEq, Nat.reduceSubDiff, Nat.reduceBeqDiff, Int.reduceLE, Int.reduceLT, Int.reduceEq, Int.reduceToNat, Int.reduceAdd, Int.reduceSub, Int.reduceMul, Int.reduceNeg, Int.reduceGE, Int.reduceGT, Int.reduceNegSucc, c0]
  refine call_A (V_terms p 0 1) rfl rfl ?_
  refine run_sound 4000 _ ?_
  simp -implicitDefEqProofs only [go_sem, Nat.reduceSub, Nat.reduceAdd, Nat.reduceMul, Nat.reduceDiv, Nat.reduceMod, Nat.reducePow, Nat.reduceLeDiff, Nat.reduceLT, Nat.reduceGT, Nat.reduceEqDiff, Nat.reduceBEq, Nat.reduceSubDiff, Nat.reduceBeqDiff, Int.reduceLE, Int.reduceLT, Int.reduceEq, Int.reduceToNat, Int.reduceAdd, Int.reduceSub, Int.reduceMul, Int.reduceNeg, Int.reduceGE, Int.reduceGT, Int.reduceNegSucc]
  clear c0
  have hM1 : RawM p [I (part8 p 0 0 9 / 18446744073709551616), U (part8 p 0 0 9 % 18446744073709551616), I (part8 p 0 1 0 / 18446744073709551616), U (part8 p 0 1 0 % 18446744073709551616), I 0, U 0, I 0, U 0, I 0, U 0, I 0, U 0] 1 hh0 := hM1
  refine range_sem (gf := 171) rfl (by kernel_rfl) ?_
  refine (H_terms1 p hp 0 1 (by decide) (by decide) _ rfl _ rfl _ (fun n h => RawM p [I (part8 p 0 0 9 / 18446744073709551616), U (part8 p 0 0 9 % 18446744073709551616), I (part8 p 0 1 n / 18446744073709551616), U (part8 p 0 1 n % 18446744073709551616), I 0, U 0, I 0, U 0, I 0, U 0, I 0, U 0] 1 h) hM1 (fun _ _ h => h.ny) ?_).mono ?_
  · intro n hn h hI l
    have c0 := bget_app hI.b0
    have c2 := bget_app hI.b2
    have c3 := bget_app hI.b3
    have s2 := bset_app hI.b2
    refine run_sound 4000 _ ?_
    simp -implicitDefEqProofs only [go_sem, Nat.reduceSub, Nat.reduceAdd, Nat.reduceMul, Nat.reduceDiv, Nat.reduceMod, Nat.reducePow, Nat.reduceLeDiff, Nat.reduceLT, Nat.reduceGT, Nat.reduceEqDiff, Nat.reduceBEq, Nat.reduceSubDiff, Nat.reduceBeqDiff, Int.reduceLE, Int.reduceLT, Int.reduceEq, Int.reduceToNat, Int.reduceAdd, Int.reduceSub, Int.reduceMul, Int.reduceNeg, Int.reduceGE, Int.reduceGT, Int.reduceNegSucc, putPs]
    refine done_norm ⟨rfl, ?_⟩
    refine run_sound 4000 _ ?_
    simp -implicitDefEqProofs only [go_sem, Nat.reduceSub, Nat.reduceAdd, Nat.reduceMul, Nat.reduceDiv, Nat.reduceMod, Nat.reducePow, Nat.reduceLeDiff, Nat.reduceLT, Nat.reduceGT, Nat.reduceEqDiff, Nat.reduceBEq, Nat.reduceSubDiff, Nat.reduceBeqDiff, Int.reduceLE, Int.reduceLT, Int.reduceEq, Int.reduceToNat, Int.reduceAdd, Int.reduceSub, Int.reduceMul, Int.reduceNeg, Int.reduceGE, Int.reduceGT, Int.reduceNegSucc, c0, c2, c3, s2]
    refine draw_sem mixed [154] (fun _ _ v => v = .tuple [W (part8 p 0 1 (n + 1)), I 0]) [(0, []), (1, []), (2, []), (3, []), (4, []), (5, []), (6, []), (7, []), (8, []), (9, []), (10, [])] (by kernel_rfl) ?_
    simp -implicitDefEqProofs only [go_sem, Nat.reduceSub, Nat.reduceAdd, Nat.reduceMul, Nat.reduceDiv, Nat.reduceMod, Nat.reducePow, Nat.reduceLeDiff, Nat.reduceLT, Nat.reduceGT, Nat.reduceEqDiff, Nat.reduceBEq, Nat.reduceSubDiff, Nat.reduceBeqDiff, Int.reduceLE, Int.reduceLT, Int.reduceEq, Int.reduceToNat, Int.reduceAdd, Int.reduceSub, Int.reduceMul, Int.reduceNeg, Int.reduceGE, Int.reduceGT, Int.reduceNegSucc]
    simp -implicitDefEqProofs only [go_sem, Nat.reduceSub, Nat.reduceAdd, Nat.reduceMul, Nat.reduceDiv, Nat.reduceMod, Nat.reducePow, Nat.reduceLeDiff, Nat.reduceLT, Nat.reduceGT, Nat.reduceEqDiff, Nat.reduceBEq, Nat.reduceSubDiff, Nat.reduceBeqDiff, Int.reduceLE, Int.reduceLT, Int.reduceEq, Int.reduceToNat, Int.reduceAdd, Int.reduceSub, Int.reduceMul, Int.reduceNeg, Int.reduceGE, Int.reduceGT, Int.reduceNegSucc, c0, c2, c3, s2]
    refine dcall_E ((V_Add (part8 p 0 1 n) (term8 p 0 1 n) (part8_in p hp 0 1 n (by omega)) (term8_in p hp 0 1 n)).mono fun v hv => hv.trans (congrArg AV.tuple (if_pos (part8_in p hp 0 1 (n + 1) (by omega))))) rfl rfl (fun _ => Iff.rfl) ?_
    simp -implicitDefEqProofs only [go_sem, Nat.reduceSub, Nat.reduceAdd, Nat.reduceMul, Nat.reduceDiv, Nat.reduceMod, Nat.reducePow, Nat.reduceLeDiff, Nat.reduceLT, Nat.reduceGT, Nat.reduceEqDiff, Nat.reduceBEq, Nat.reduceSubDiff, Nat.reduceBeqDiff, Int.reduceLE, Int.reduceLT, Int.reduceEq, Int.reduceToNat, Int.reduceAdd, Int.reduceSub, Int.reduceMul, Int.reduceNeg, Int.reduceGE, Int.reduceGT, Int.reduceNegSucc, c0, c2, c3, s2]
    refine run_sound 4000 _ ?_
    simp -implicitDefEqProofs only [go_sem, Nat.reduceSub, Nat.reduceAdd, Nat.reduceMul, Nat.reduceDiv, Nat.reduceMod, Nat.reducePow, Nat.reduceLeDiff, Nat.reduceLT, Nat.reduceGT, Nat.reduceEqDiff, Nat.reduceBEq, Nat.reduceSubDiff, Nat.reduceBeqDiff, Int.reduceLE, Int.reduceLT, Int.reduceEq, Int.reduceToNat, Int.reduceAdd, Int.reduceSub, Int.reduceMul, Int.reduceNeg, Int.reduceGE, Int.reduceGT, Int.reduceNegSucc]
    refine done_norm ⟨rfl, ?_⟩
    simp -implicitDefEqProofs only [go_sem, Nat.reduceSub, Nat.reduceAdd, Nat.reduceMul, Nat.reduceDiv, Nat.reduceMod, Nat.reducePow, Nat.reduceLeDiff, Nat.reduceLT, Nat.reduceGT, Nat.reduceEqDiff, Nat.reduceBEq, Nat.reduceSubDiff, Nat.reduceBeqDiff, Int.reduceLE, Int.reduceLT, Int.reduceEq, Int.reduceToNat, Int.reduceAdd, Int.reduceSub, Int.reduceMul, Int.reduceNeg, Int.reduceGE, Int.reduceGT, Int.reduceNegSucc, c0, c2, c3, s2]
    exact hI.step rfl _ rfl
  rintro ao h1 ⟨hao, hN1⟩
  refine ⟨hao, hN1.ny, ?_⟩
  have c0 := hN1.b0
  have c3 := hN1.b3
  refine run_sound 4000 _ ?_
  simp -implicitDefEqProofs only [go_sem, Nat.reduceSub, Nat.reduceAdd, Nat.reduceMul, Nat.reduceDiv, Nat.reduceMod, Nat.reducePow, Nat.reduceLeDiff, Nat.reduceLT, Nat.reduceGT, Nat.reduceEqDiff, Nat.reduceBEq, Nat.reduceSubDiff, Nat.reduceBeqDiff, Int.reduceLE, Int.reduceLT, Int.reduceEq, Int.reduceToNat, Int.reduceAdd, Int.reduceSub, Int.reduceMul, Int.reduceNeg, Int.reduceGE, Int.reduceGT, Int.reduceNegSucc, c0, c3]
  have hM2 := hN1.kk 2
  clear c0 c3
  generalize bset h1 3 ⟨[I 2], 3⟩ = hh1 at hM2 ⊢
  have c0 := hM2.b0
  refine loop_go ?_
  refine run_sound 4000 _ ?_
  simp -implicitDefEqProofs only [go_sem, Nat.reduceSub, Nat.reduceAdd, Nat.reduceMul, Nat.reduceDiv, Nat.reduceMod, Nat.reducePow, Nat.reduceLeDiff, Nat.reduceLT, Nat.reduceGT, Nat.reduceEqDiff, Nat.reduceBEq, Nat.reduceSubDiff, Nat.reduceBeqDiff, Int.reduceLE, Int.reduceLT, Int.reduceEq, Int.reduceToNat, Int.reduceAdd, Int.reduceSub, Int.reduceMul, Int.reduceNeg, Int.reduceGE, Int.reduceGT, Int.reduceNegSucc, c0]
  refine call_A (V_terms p 0 2) rfl rfl ?_
  refine run_sound 4000 _ ?_
  simp -implicitDefEqProofs only [go_sem, Nat.reduceSub, Nat.reduceAdd, Nat.reduceMul, Nat.reduceDiv, Nat.reduceMod, Nat.reducePow, Nat.reduceLeDiff, Nat.reduceLT, Nat.reduceGT, Nat.reduceEqDiff, Nat.reduceBEq, Nat.reduceSubDiff, Nat.reduceBeqDiff, Int.reduceLE, Int.reduceLT, Int.reduceEq, Int.reduceToNat, Int.reduceAdd, Int.reduceSub, Int.reduceMul, Int.reduceNeg, Int.reduceGE, Int.reduceGT, Int.reduceNegSucc]
  clear c0
  have hM2 : RawM p [I (part8 p 0 0 9 / 18446744073709551616), U (part8 p 0 0 9 % 18446744073709551616), I (part8 p 0 1 9 / 18446744073709551616), U (part8 p 0 1 9 % 18446744073709551616), I (part8 p 0 2 0 / 18446744073709551616), U (part8 p 0 2 0 % 18446744073709551616), I 0, U 0, I 0, U 0, I 0, U 0] 2 hh1 := hM2
  refine range_sem (gf := 171) rfl (by kernel_rfl) ?_
  refine (H_terms1 p hp 0 2 (by decide) (by decide) _ rfl _ rfl _ (fun n h => RawM p [I (part8 p 0 0 9 / 18446744073709551616), U (part8 p 0 0 9 % 18446744073709551616), I (part8 p 0 1 9 / 18446744073709551616), U (part8 p 0 1 9 % 18446744073709551616), I (part8 p 0 2 n / 18446744073709551616), U (part8 p 0 2 n % 18446744073709551616), I 0, U 0, I 0, U 0, I 0, U 0] 2 h) hM2 (fun _ _ h => h.ny) ?_).mono ?_
  · intro n hn h hI l
    have c0 := bget_app hI.b0
    have c2 := bget_app hI.b2
    have c3 := bget_app hI.b3
    have s2 := bset_app hI.b2
    refine run_sound 4000 _ ?_
    simp -implicitDefEqProofs only [go_sem, Nat.reduceSub, Nat.reduceAdd, Nat.reduceMul, Nat.reduceDiv, Nat.reduceMod, Nat.reducePow, Nat.reduceLeDiff, Nat.reduceLT, Nat.reduceGT, Nat.reduceEqDiff, Nat.reduceBEq, Nat.reduceSubDiff, Nat.reduceBeqDiff, Int.reduceLE, Int.reduceLT, Int.reduceEq, Int.reduceToNat, Int.reduceAdd, Int.reduceSub, Int.reduceMul, Int.reduceNeg, Int.reduceGE, Int.reduceGT, Int.reduceNegSucc, putPs]
    refine done_norm ⟨rfl, ?_⟩
    refine run_sound 4000 _ ?_
    simp -implicitDefEqProofs only [go_sem, Nat.reduceSub, Nat.reduceAdd, Nat.reduceMul, Nat.reduceDiv, Nat.reduceMod, Nat.reducePow, Nat.reduceLeDiff, Nat.reduceLT, Nat.reduceGT, Nat.reduceEqDiff, Nat.reduceBEq, Nat.reduceSubDiff, Nat.reduceBeqDiff, Int.reduceLE, Int.reduceLT, Int.reduceEq, Int.reduceToNat, Int.reduceAdd, Int.reduceSub, Int.reduceMul, Int.reduceNeg, Int.reduceGE, Int.reduceGT, Int.reduceNegSucc, c0, c2, c3, s2]
    refine draw_sem mixed [154] (fun _ _ v => v = .tuple [W (part8 p 0 2 (n + 1)), I 0]) [(0, []), (1, []), (2, []), (3, []), (4, []), (5, []), (6, []), (7, []), (8, []), (9, []), (10, [])] (by kernel_rfl) ?_
    simp -implicitDefEqProofs only [go_sem, Nat.reduceSub, Nat.reduceAdd, Nat.reduceMul, Nat.reduceDiv, Nat.reduceMod, Nat.reducePow, Nat.reduceLeDiff, Nat.reduceLT, Nat.reduceGT, Nat.reduceEqDiff, Nat.reduceBEq, Nat.reduceSubDiff, Nat.reduceBeqDiff, Int.reduceLE, Int.reduceLT, Int.reduceEq, Int.reduceToNat, Int.reduceAdd, Int.reduceSub, Int.reduceMul, Int.reduceNeg, Int.reduceGE, Int.reduceGT, Int.reduceNegSucc]
    simp -implicitDefEqProofs only [go_sem, Nat.reduceSub, Nat.reduceAdd, Nat.reduceMul, Nat.reduceDiv, Nat.reduceMod, Nat.reducePow, Nat.reduceLeDiff, Nat.reduceLT, Nat.reduceGT, Nat.reduceEqDiff, Nat.reduceBEq, Nat.reduceSubDiff, Nat.reduceBeqDiff, Int.reduceLE, Int.reduceLT, Int.reduceEq, Int.reduceToNat, Int.reduceAdd, Int.reduceSub, Int.reduceMul, Int.reduceNeg, Int.reduceGE, Int.reduceGT, Int.reduceNegSucc, c0, c2, c3, s2]
    refine dcall_E ((V_Add (part8 p 0 2 n) (term8 p 0 2 n) (part8_in p hp 0 2 n (by omega)) (term8_in p hp 0 2 n)).mono fun v hv => hv.trans (congrArg AV.tuple (if_pos (part8_in p hp 0 2 (n + 1) (by omega))))) rfl rfl (fun _ => Iff.rfl) ?_
    simp -implicitDefEqProofs only [go_sem, Nat.reduceSub, Nat.reduceAdd, Nat.reduceMul, Nat.reduceDiv, Nat.reduceMod, Nat.reducePow, Nat.reduceLeDiff, Nat.reduceLT, Nat.reduceGT, Nat.reduceEqDiff, Nat.reduceBEq, Nat.reduceSubDiff, Nat.reduceBeqDiff, Int.reduceLE, Int.reduceLT, Int.reduceEq, Int.reduceToNat, Int.reduceAdd, Int.reduceSub, Int.reduceMul, Int.reduceNeg, Int.reduceGE, Int.reduceGT, Int.reduceNegSucc, c0, c2, c3, s2]
    refine run_sound 4000 _ ?_
    simp -implicitDefEqProofs only [go_sem, Nat.reduceSub, Nat.reduceAdd, Nat.reduceMul, Nat.reduceDiv, Nat.reduceMod, Nat.reducePow, Nat.reduceLeDiff, Nat.reduceLT, Nat.reduceGT, Nat.reduceEqDiff, Nat.reduceBEq, Nat.reduceSubDiff, Nat.reduceBeqDiff, Int.reduceLE, Int.reduceLT, Int.reduceEq, Int.reduceToNat, Int.reduceAdd, Int.reduceSub, Int.reduceMul, Int.reduceNeg, Int.reduceGE, Int.reduceGT, Int.reduceNegSucc]
    refine done_norm ⟨rfl, ?_⟩
    simp -implicitDefEqProofs only [go_sem, Nat.reduceSub, Nat.reduceAdd, Nat.reduceMul, Nat.reduceDiv, Nat.reduceMod, Nat.reducePow, Nat.reduceLeDiff, Nat.reduceLT, Nat.reduceGT, Nat.reduceEqDiff, Nat.reduceBEq, Nat.reduceSubDiff, Nat.reduceBeqDiff, Int.reduceLE, Int.reduceLT, Int.reduceEq, Int.reduceToNat, Int.reduceAdd, Int.reduceSub, Int.reduceMul, Int.reduceNeg, Int.reduceGE, Int.reduceGT, Int.reduceNegSucc, c0, c2, c3, s2]
    exact hI.step rfl _ rfl
  rintro ao h2 ⟨hao, hN2⟩
  refine ⟨hao, hN2.ny, ?_⟩
  have c0 := hN2.b0
  have c3 := hN2.b3
  refine run_sound 4000 _ ?_
  simp -implicitDefEqProofs only [go_sem, Nat.reduceSub, Nat.reduceAdd, Nat.reduceMul, Nat.reduceDiv, Nat.reduceMod, Nat.reducePow, Nat.reduceLeDiff, Nat.reduceLT, Nat.reduceGT, Nat.reduceEqDiff, Nat.reduceBEq, Nat.reduceSubDiff, Nat.reduceBeqDiff, Int.reduceLE, Int.reduceLT, Int.reduceEq, Int.reduceToNat, Int.reduceAdd, Int.reduceSub, Int.reduceMul, Int.reduceNeg, Int.reduceGE, Int.reduceGT, Int.reduceNegSucc, c0, c3]
  have hM3 := hN2.kk 3
  clear c0 c3
  generalize bset h2 3 ⟨[I 3], 3⟩ = hh2 at hM3 ⊢
  have c0 := hM3.b0
  refine loop_go ?_
  refine run_sound 4000 _ ?_
  simp -implicitDefEqProofs only [go_sem, Nat.reduceSub, Nat.reduceAdd, Nat.reduceMul, Nat.reduceDiv, Nat.reduceMod, Nat.reducePow, Nat.reduceLeDiff, Nat.reduceLT, Nat.reduceGT, Nat.reduceEqDiff, Nat.reduceBEq, Nat.reduceSubDiff, Nat.reduceBeqDiff, Int.reduceLE, Int.reduceLT, Int.reduceEq, Int.reduceToNat, Int.reduceAdd, Int.reduceSub, Int.reduceMul, Int.reduceNeg, Int.reduceGE, Int.reduceGT, Int.reduceNegSucc, c0]
  refine loop_go ?_
  refine run_sound 4000 _ ?_
  simp -implicitDefEqProofs only [go_sem, Nat.reduceSub, Nat.reduceAdd, Nat.reduceMul, Nat.reduceDiv, Nat.reduceMod, Nat.reducePow, Nat.reduceLeDiff, Nat.reduceLT, Nat.reduceGT, Nat.reduceEqDiff, Nat.reduceBEq, Nat.reduceSubDiff, Nat.reduceBeqDiff, Int.reduceLE, Int.reduceLT, Int.reduceEq, Int.reduceToNat, Int.reduceAdd, Int.reduceSub, Int.reduceMul, Int.reduceNeg, Int.reduceGE, Int.reduceGT, Int.reduceNegSucc, c0]
  refine loop_go ?_
  refine run_sound 4000 _ ?_
  simp -implicitDefEqProofs only [go_sem, Nat.reduceSub, Nat.reduceAdd, Nat.reduceMul, Nat.reduceDiv, Nat.reduceMod, Nat.reducePow, Nat.reduceLeDiff, Nat.reduceLT, Nat.reduceGT, Nat.reduceEqDiff, Nat.reduceBEq, Nat.reduceSubDiff, Nat.reduceBeqDiff, Int.reduceLE, Int.reduceLT, Int.reduceEq, Int.reduceToNat, Int.reduceAdd, Int.reduceSub, Int.reduceMul, Int.reduceNeg, Int.reduceGE, Int.reduceGT, Int.reduceNegSucc, c0]
  refine call_A (V_terms p 1 1) rfl rfl ?_
  refine run_sound 4000 _ ?_
  simp -implicitDefEqProofs only [go_sem, Nat.reduceSub, Nat.reduceAdd, Nat.reduceMul, Nat.reduceDiv, Nat.reduceMod, Nat.reducePow, Nat.reduceLeDiff, Nat.reduceLT, Nat.reduceGT, Nat.reduceEqDiff, Nat.reduceBEq, Nat.reduceSubDiff, Nat.reduceBeqDiff, Int.reduceLE, Int.reduceLT, Int.reduceEq, Int.reduceToNat, Int.reduceAdd, Int.reduceSub, Int.reduceMul, Int.reduceNeg, Int.reduceGE, Int.reduceGT, Int.reduceNegSucc]
  clear c0
  have hM3 : RawM p [I (part8 p 0 0 9 / 18446744073709551616), U (part8 p 0 0 9 % 18446744073709551616), I (part8 p 0 1 9 / 18446744073709551616), U (part8 p 0 1 9 % 18446744073709551616), I (part8 p 0 2 9 / 18446744073709551616), U (part8 p 0 2 9 % 18446744073709551616), I (part8 p 1 1 0 / 18446744073709551616), U (part8 p 1 1 0 % 18446744073709551616), I 0, U 0, I 0, U 0] 3 hh2 := hM3
  refine range_sem (gf := 171) rfl (by kernel_rfl) ?_
  refine (H_terms1 p hp 1 1 (by decide) (by decide) _ rfl _ rfl _ (fun n h => RawM p [I (part8 p 0 0 9 / 18446744073709551616), U (part8 p 0 0 9 % 18446744073709551616), I (part8 p 0 1 9 / 18446744073709551616), U (part8 p 0 1 9 % 18446744073709551616), I (part8 p 0 2 9 / 18446744073709551616), U (part8 p 0 2 9 % 18446744073709551616), I (part8 p 1 1 n / 18446744073709551616), U (part8 p 1 1 n % 18446744073709551616), I 0, U 0, I 0, U 0] 3 h) hM3 (fun _ _ h => h.ny) ?_).mono ?_
  · intro n hn h hI l
    have c0 := bget_app hI.b0
    have c2 := bget_app hI.b2
    have c3 := bget_app hI.b3
    have s2 := bset_app hI.b2
    refine run_sound 4000 _ ?_
    simp -implicitDefEqProofs only [go_sem, Nat.reduceSub, Nat.reduceAdd, Nat.reduceMul, Nat.reduceDiv, Nat.reduceMod, Nat.reducePow, Nat.reduceLeDiff, Nat.reduceLT, Nat.reduceGT, Nat.reduceEqDiff, Nat.reduceBEq, Nat.reduceSubDiff, Nat.reduceBeqDiff, Int.reduceLE, Int.reduceLT, Int.reduceEq, Int.reduceToNat, Int.reduceAdd, Int.reduceSub, Int.reduceMul, Int.reduceNeg, Int.reduceGE, Int.reduceGT, Int.reduceNegSucc, putPs]
    refine done_norm ⟨rfl, ?_⟩
    refine run_sound 4000 _ ?_
    simp -implicitDefEqProofs only [go_sem, Nat.reduceSub, Nat.reduceAdd, Nat.reduceMul, Nat.reduceDiv, Nat.reduceMod, Nat.reducePow, Nat.reduceLeDiff, Nat.reduceLT, Nat.reduceGT, Nat.reduceEqDiff, Nat.reduceBEq, Nat.reduceSubDiff, Nat.reduceBeqDiff, Int.reduceLE, Int.reduceLT, Int.reduceEq, Int.reduceToNat, Int.reduceAdd, Int.reduceSub, Int.reduceMul, Int.reduceNeg, Int.reduceGE, Int.reduceGT, Int.reduceNegSucc, c0, c2, c3, s2]
    refine draw_sem mixed [154] (fun _ _ v => v = .tuple [W (part8 p 1 1 (n + 1)), I 0]) [(0, []), (1, []), (2, []), (3, []), (4, []), (5, []), (6, []), (7, []), (8, []), (9, []), (10, [])] (by kernel_rfl) ?_
    simp -implicitDefEqProofs only [go_sem, Nat.reduceSub, Nat.reduceAdd, Nat.reduceMul, Nat.reduceDiv, Nat.reduceMod, Nat.reducePow, Nat.reduceLeDiff, Nat.reduceLT, Nat.reduceGT, Nat.reduceEqDiff, Nat.reduceBEq, Nat.reduceSubDiff, Nat.reduceBeqDiff, Int.reduceLE, Int.reduceLT, Int.reduceEq, Int.reduceToNat, Int.reduceAdd, Int.reduceSub, Int.reduceMul, Int.reduceNeg, Int.reduceGE, Int.reduceGT, Int.reduceNegSucc]
    simp -implicitDefEqProofs only [go_sem, Nat.reduceSub, Nat.reduceAdd, Nat.reduceMul, Nat.reduceDiv, Nat.reduceMod, Nat.reducePow, Nat.reduceLeDiff, Nat.reduceLT, Nat.reduceGT, Nat.reduceEqDiff, Nat.reduceBEq, Nat.reduceSubDiff, Nat.reduceBeqDiff, Int.reduceLE, Int.reduceLT, Int.reduceEq, Int.reduceToNat, Int.reduceAdd, Int.reduceSub, Int.reduceMul, Int.reduceNeg, Int.reduceGE, Int.reduceGT, Int.reduceNegSucc, c0, c2, c3, s2]
    refine dcall_E ((V_Add (part8 p 1 1 n) (term8 p 1 1 n) (part8_in p hp 1 1 n (by omega)) (term8_in p hp 1 1 n)).mono fun v hv => hv.trans (congrArg AV.tuple (if_pos (part8_in p hp 1 1 (n + 1) (by omega))))) rfl rfl (fun _ => Iff.rfl) ?_
    simp -implicitDefEqProofs only [go_sem, Nat.reduceSub, Nat.reduceAdd, Nat.reduceMul, Nat.reduceDiv, Nat.reduceMod, Nat.reducePow, Nat.reduceLeDiff, Nat.reduceLT, Nat.reduceGT, Nat.reduceEqDiff, Nat.reduceBEq, Nat.reduceSubDiff, Nat.reduceBeqDiff, Int.reduceLE, Int.reduceLT, Int.reduceEq, Int.reduceToNat, Int.reduceAdd, Int.reduceSub, Int.reduceMul, Int.reduceNeg, Int.reduceGE, Int.reduceGT, Int.reduceNegSucc, c0, c2, c3, s2]
    refine run_sound 4000 _ ?_
    simp -implicitDefEqProofs only [go_sem, Nat.reduceSub, Nat.reduceAdd, Nat.reduceMul, Nat.reduceDiv, Nat.reduceMod, Nat.reducePow, Nat.reduceLeDiff, Nat.reduceLT, Nat.reduceGT, Nat.reduceEqDiff, Nat.reduceBEq, Nat.reduceSubDiff, Nat.reduceBeqDiff, Int.reduceLE, Int.reduceLT, Int.reduceEq, Int.reduceToNat, Int.reduceAdd, Int.reduceSub, Int.reduceMul, Int.reduceNeg, Int.reduceGE, Int.reduceGT, Int.reduceNegSucc]
    refine done_norm ⟨rfl, ?_⟩
    simp -implicitDefEqProofs only [go_sem, Nat.reduceSub, Nat.reduceAdd, Nat.reduceMul, Nat.reduceDiv, Nat.reduceMod, Nat.reducePow, Nat.reduceLeDiff, Nat.reduceLT, Nat.reduceGT, Nat.reduceEqDiff, Nat.reduceBEq, Nat.reduceSubDiff, Nat.reduceBeqDiff, Int.reduceLE, Int.reduceLT, Int.reduceEq, Int.reduceToNat, Int.reduceAdd, Int.reduceSub, Int.reduceMul, Int.reduceNeg, Int.reduceGE, Int.reduceGT, Int.reduceNegSucc, c0, c2, c3, s2]
    exact hI.step rfl _ rfl
  rintro ao h3 ⟨hao, hN3⟩
  refine ⟨hao, hN3.ny, ?_⟩
  have c0 := hN3.b0
  have c3 := hN3.b3
  refine run_sound 4000 _ ?_
  simp -implicitDefEqProofs only [go_sem, Nat.reduceSub, Nat.reduceAdd, Nat.reduceMul, Nat.reduceDiv, Nat.reduceMod, Nat.reducePow, Nat.reduceLeDiff, Nat.reduceLT, Nat.reduceGT, Nat.reduceEqDiff, Nat.reduceBEq, Nat.reduceSubDiff, Nat.reduceBeqDiff, Int.reduceLE, Int.reduceLT, Int.reduceEq, Int.reduceToNat, Int.reduceAdd, Int.reduceSub, Int.reduceMul, Int.reduceNeg, Int.reduceGE, Int.reduceGT, Int.reduceNegSucc, c0, c3]
  have hM4 := hN3.kk 4
  clear c0 c3
  generalize bset h3 3 ⟨[I 4], 3⟩ = hh3 at hM4 ⊢
  have c0 := hM4.b0
  refine loop_go ?_
  refine run_sound 4000 _ ?_
  simp -implicitDefEqProofs only [go_sem, Nat.reduceSub, Nat.reduceAdd, Nat.reduceMul, Nat.reduceDiv, Nat.reduceMod, Nat.reducePow, Nat.reduceLeDiff, Nat.reduceLT, Nat.reduceGT, Nat.reduceEqDiff, Nat.reduceBEq, Nat.reduceSubDiff, Nat.reduceBeqDiff, Int.reduceLE, Int.reduceLT, Int.reduceEq, Int.reduceToNat, Int.reduceAdd, Int.reduceSub, Int.reduceMul, Int.reduceNeg, Int.reduceGE, Int.reduceGT, Int.reduceNegSucc, c0]
  refine call_A (V_terms p 1 2) rfl rfl ?_
  refine run_sound 4000 _ ?_
  simp -implicitDefEqProofs only [go_sem, Nat.reduceSub, Nat.reduceAdd, Nat.reduceMul, Nat.reduceDiv, Nat.reduceMod, Nat.reducePow, Nat.reduceLeDiff, Nat.reduceLT, Nat.reduceGT, Nat.reduceEqDiff, Nat.reduceBEq, Nat.reduceSubDiff, Nat.reduceBeqDiff, Int.reduceLE, Int.reduceLT, Int.reduceEq, Int.reduceToNat, Int.reduceAdd, Int.reduceSub, Int.reduceMul, Int.reduceNeg, Int.reduceGE, Int.reduceGT, Int.reduceNegSucc]
  clear c0
  have hM4 : RawM p [I (part8 p 0 0 9 / 18446744073709551616), U (part8 p 0 0 9 % 18446744073709551616), I (part8 p 0 1 9 / 18446744073709551616), U (part8 p 0 1 9 % 18446744073709551616), I (part8 p 0 2 9 / 18446744073709551616), U (part8 p 0 2 9 % 18446744073709551616), I (part8 p 1 1 9 / 18446744073709551616), U (part8 p 1 1 9 % 18446744073709551616), I (part8 p 1 2 0 / 18446744073709551616), U (part8 p 1 2 0 % 18446744073709551616), I 0, U 0] 4 hh3 := hM4
  refine range_sem (gf := 171) rfl (by kernel_rfl) ?_
  refine (H_terms1 p hp 1 2 (by decide) (by decide) _ rfl _ rfl _ (fun n h => RawM p [I (part8 p 0 0 9 / 18446744073709551616), U (part8 p 0 0 9 % 18446744073709551616), I (part8 p 0 1 9 / 18446744073709551616), U (part8 p 0 1 9 % 18446744073709551616), I (part8 p 0 2 9 / 18446744073709551616), U (part8 p 0 2 9 % 18446744073709551616), I (part8 p 1 1 9 / 18446744073709551616), U (part8 p 1 1 9 % 18446744073709551616), I (part8 p 1 2 n / 18446744073709551616), U (part8 p 1 2 n % 18446744073709551616), I 0, U 0] 4 h) hM4 (fun _ _ h => h.ny) ?_).mono ?_
  · intro n hn h hI l
    have c0 := bget_app hI.b0
    have c2 := bget_app hI.b2
    have c3 := bget_app hI.b3
    have s2 := bset_app hI.b2
    refine run_sound 4000 _ ?_
    simp -implicitDefEqProofs only [go_sem, Nat.reduceSub, Nat.reduceAdd, Nat.reduceMul, Nat.reduceDiv, Nat.reduceMod, Nat.reducePow, Nat.reduceLeDiff, Nat.reduceLT, Nat.reduceGT, Nat.reduceEqDiff, Nat.reduceBEq, Nat.reduceSubDiff, Nat.reduceBeqDiff, Int.reduceLE, Int.reduceLT, Int.reduceEq, Int.reduceToNat, Int.reduceAdd, Int.reduceSub, Int.reduceMul, Int.reduceNeg, Int.reduceGE, Int.reduceGT, Int.reduceNegSucc, putPs]
    refine done_norm ⟨rfl, ?_⟩
    refine run_sound 4000 _ ?_
    simp -implicitDefEqProofs only [go_sem, Nat.reduceSub, Nat.reduceAdd, Nat.reduceMul, Nat.reduceDiv, Nat.reduceMod, Nat.reducePow, Nat.reduceLeDiff, Nat.reduceLT, Nat.reduceGT, Nat.reduceEqDiff, Nat.reduceBEq, Nat.reduceSubDiff, Nat.reduceBeqDiff, Int.reduceLE, Int.reduceLT, Int.reduceEq, Int.reduceToNat, Int.reduceAdd, Int.reduceSub, Int.reduceMul, Int.reduceNeg, Int.reduceGE, Int.reduceGT, Int.reduceNegSucc, c0, c2, c3, s2]
    refine draw_sem mixed [154] (fun _ _ v => v = .tuple [W (part8 p 1 2 (n + 1)), I 0]) [(0, []), (1, []), (2, []), (3, []), (4, []), (5, []), (6, []), (7, []), (8, []), (9, []), (10, [])] (by kernel_rfl) ?_
    simp -implicitDefEqProofs only [go_sem, Nat.reduceSub, Nat.reduceAdd, Nat.reduceMul, Nat.reduceDiv, Nat.reduceMod, Nat.reducePow, Nat.reduceLeDiff, Nat.reduceLT, Nat.reduceGT, Nat.reduceEqDiff, Nat.reduceBEq, Nat.reduceSubDiff, Nat.reduceBeqDiff, Int.reduceLE, Int.reduceLT, Int.reduceEq, Int.reduceToNat, Int.reduceAdd, Int.reduceSub, Int.reduceMul, Int.reduceNeg, Int.reduceGE, Int.reduceGT, Int.reduceNegSucc]
    simp -implicitDefEqProofs only [go_sem, Nat.reduceSub, Nat.reduceAdd, Nat.reduceMul, Nat.reduceDiv, Nat.reduceMod, Nat.reducePow, Nat.reduceLeDiff, Nat.reduceLT, Nat.reduceGT, Nat.reduceEqDiff, Nat.reduceBEq, Nat.reduceSubDiff, Nat.reduceBeqDiff, Int.reduceLE, Int.reduceLT, Int.reduceEq, Int.reduceToNat, Int.reduceAdd, Int.reduceSub, Int.reduceMul, Int.reduceNeg, Int.reduceGE, Int.reduceGT, Int.reduceNegSucc, c0, c2, c3, s2]
    refine dcall_E ((V_Add (part8 p 1 2 n) (term8 p 1 2 n) (part8_in p hp 1 2 n (by omega)) (term8_in p hp 1 2 n)).mono fun v hv => hv.trans (congrArg AV.tuple (if_pos (part8_in p hp 1 2 (n + 1) (by omega))))) rfl rfl (fun _ => Iff.rfl) ?_
    simp -implicitDefEqProofs only [go_sem, Nat.reduceSub, Nat.reduceAdd, Nat.reduceMul, Nat.reduceDiv, Nat.reduceMod, Nat.reducePow, Nat.reduceLeDiff, Nat.reduceLT, Nat.reduceGT, Nat.reduceEqDiff, Nat.reduceBEq, Nat.reduceSubDiff, Nat.reduceBeqDiff, Int.reduceLE, Int.reduceLT, Int.reduceEq, Int.reduceToNat, Int.reduceAdd, Int.reduceSub, Int.reduceMul, Int.reduceNeg, Int.reduceGE, Int.reduceGT, Int.reduceNegSucc, c0, c2, c3, s2]
    refine run_sound 4000 _ ?_
    simp -implicitDefEqProofs only [go_sem, Nat.reduceSub, Nat.reduceAdd, Nat.reduceMul, Nat.reduceDiv, Nat.reduceMod, Nat.reducePow, Nat.reduceLeDiff, Nat.reduceLT, Nat.reduceGT, Nat.reduceEqDiff, Nat.reduceBEq, Nat.reduceSubDiff, Nat.reduceBeqDiff, Int.reduceLE, Int.reduceLT, Int.reduceEq, Int.reduceToNat, Int.reduceAdd, Int.reduceSub, Int.reduceMul, Int.reduceNeg, Int.reduceGE, Int.reduceGT, Int.reduceNegSucc]
    refine done_norm ⟨rfl, ?_⟩
    simp -implicitDefEqProofs only [go_sem, Nat.reduceSub, Nat.reduceAdd, Nat.reduceMul, Nat.reduceDiv, Nat.reduceMod, Nat.reducePow, Nat.reduceLeDiff, Nat.reduceLT, Nat.reduceGT, Nat.reduceEqDiff, Nat.reduceBEq, Nat.reduceSubDiff, Nat.reduceBeqDiff, Int.reduceLE, Int.reduceLT, Int.reduceEq, Int.reduceToNat, Int.reduceAdd, Int.reduceSub, Int.reduceMul, Int.reduceNeg, Int.reduceGE, Int.reduceGT, Int.reduceNegSucc, c0, c2, c3, s2]
    exact hI.step rfl _ rfl
  rintro ao h4 ⟨hao, hN4⟩
  refine ⟨hao, hN4.ny, ?_⟩
  have c0 := hN4.b0
  have c3 := hN4.b3
  refine run_sound 4000 _ ?_
  simp -implicitDefEqProofs only [go_sem, Nat.reduceSub, Nat.reduceAdd, Nat.reduceMul, Nat.reduceDiv, Nat.reduceMod, Nat.reducePow, Nat.reduceLeDiff, Nat.reduceLT, Nat.reduceGT, Nat.reduceEqDiff, Nat.reduceBEq, Nat.reduceSubDiff, Nat.reduceBeqDiff, Int.reduceLE, Int.reduceLT, Int.reduceEq, Int.reduceToNat, Int.reduceAdd, Int.reduceSub, Int.reduceMul, Int.reduceNeg, Int.reduceGE, Int.reduceGT, Int.reduceNegSucc, c0, c3]
  have hM5 := hN4.kk 5
  clear c0 c3
  generalize bset h4 3 ⟨[I 5], 3⟩ = hh4 at hM5 ⊢
  have c0 := hM5.b0
  refine loop_go ?_
  refine run_sound 4000 _ ?_
  simp -implicitDefEqProofs only [go_sem, Nat.reduceSub, Nat.reduceAdd, Nat.reduceMul, Nat.reduceDiv, Nat.reduceMod, Nat.reducePow, Nat.reduceLeDiff, Nat.reduceLT, Nat.reduceGT, Nat.reduceEqDiff, Nat.reduceBEq, Nat.reduceSubDiff, Nat.reduceBeqDiff, Int.reduceLE, Int.reduceLT, Int.reduceEq, Int.reduceToNat, Int.reduceAdd, Int.reduceSub, Int.reduceMul, Int.reduceNeg, Int.reduceGE, Int.reduceGT, Int.reduceNegSucc, c0]
  refine loop_go ?_
  refine run_sound 4000 _ ?_
  simp -implicitDefEqProofs only [go_sem, Nat.reduceSub, Nat.reduceAdd, Nat.reduceMul, Nat.reduceDiv, Nat.reduceMod, Nat.reducePow, Nat.reduceLeDiff, Nat.reduceLT, Nat.reduceGT, Nat.reduceEqDiff, Nat.reduceBEq, Nat.reduceSubDiff, Nat.reduceBeqDiff, Int.reduceLE, Int.reduceLT, Int.reduceEq, Int.reduceToNat, Int.reduceAdd, Int.reduceSub, Int.reduceMul, Int.reduceNeg, Int.reduceGE, Int.reduceGT, Int.reduceNegSucc, c0]
  refine loop_go ?_
  refine run_sound 4000 _ ?_
  simp -implicitDefEqProofs only [go_sem, Nat.reduceSub, Nat.reduceAdd, Nat.reduceMul, Nat.reduceDiv, Nat.reduceMod, Nat.reducePow, Nat.reduceLeDiff, Nat.reduceLT, Nat.reduceGT, Nat.reduceEqDiff, Nat.reduceBEq, Nat.reduceSubDiff, Nat.reduceBeqDiff, Int.reduceLE, Int.reduceLT, Int.reduceEq, Int.reduceToNat, Int.reduceAdd, Int.reduceSub, Int.reduceMul, Int.reduceNeg, Int.reduceGE, Int.reduceGT, Int.reduceNegSucc, c0]
  refine call_A (V_terms p 2 2) rfl rfl ?_
  refine run_sound 4000 _ ?_
  simp -implicitDefEqProofs only [go_sem, Nat.reduceSub, Nat.reduceAdd, Nat.reduceMul, Nat.reduceDiv, Nat.reduceMod, Nat.reducePow, Nat.reduceLeDiff, Nat.reduceLT, Nat.reduceGT, Nat.reduceEqDiff, Nat.reduceBEq, Nat.reduceSubDiff, Nat.reduceBeqDiff, Int.reduceLE, Int.reduceLT, Int.reduceEq, Int.reduceToNat, Int.reduceAdd, Int.reduceSub, Int.reduceMul, Int.reduceNeg, Int.reduceGE, Int.reduceGT, Int.reduceNegSucc]
  clear c0
  have hM5 : RawM p [I (part8 p 0 0 9 / 18446744073709551616), U (part8 p 0 0 9 % 18446744073709551616), I (part8 p 0 1 9 / 18446744073709551616), U (part8 p 0 1 9 % 18446744073709551616), I (part8 p 0 2 9 / 18446744073709551616), U (part8 p 0 2 9 % 18446744073709551616), I (part8 p 1 1 9 / 18446744073709551616), U (part8 p 1 1 9 % 18446744073709551616), I (part8 p 1 2 9 / 18446744073709551616), U (part8 p 1 2 9 % 18446744073709551616), I (part8 p 2 2 0 / 18446744073709551616), U (part8 p 2 2 0 % 18446744073709551616)] 5 hh4 := hM5
  refine range_sem (gf := 171) rfl (by kernel_rfl) ?_
  refine (H_terms1 p hp 2 2 (by decide) (by decide) _ rfl _ rfl _ (fun n h => RawM p [I (part8 p 0 0 9 / 18446744073709551616), U (part8 p 0 0 9 % 18446744073709551616), I (part8 p 0 1 9 / 18446744073709551616), U (part8 p 0 1 9 % 18446744073709551616), I (part8 p 0 2 9 / 18446744073709551616), U (part8 p 0 2 9 % 18446744073709551616), I (part8 p 1 1 9 / 18446744073709551616), U (part8 p 1 1 9 % 18446744073709551616), I (part8 p 1 2 9 / 18446744073709551616), U (part8 p 1 2 9 % 18446744073709551616), I (part8 p 2 2 n / 18446744073709551616), U (part8 p 2 2 n % 18446744073709551616)] 5 h) hM5 (fun _ _ h => h.ny) ?_).mono ?_
  · intro n hn h hI l
    have c0 := bget_app hI.b0
    have c2 := bget_app hI.b2
    have c3 := bget_app hI.b3
    have s2 := bset_app hI.b2
    refine run_sound 4000 _ ?_
    simp -implicitDefEqProofs only [go_sem, Nat.reduceSub, Nat.reduceAdd, Nat.reduceMul, Nat.reduceDiv, Nat.reduceMod, Nat.reducePow, Nat.reduceLeDiff, Nat.reduceLT, Nat.reduceGT, Nat.reduceEqDiff, Nat.reduceBEq, Nat.reduceSubDiff, Nat.reduceBeqDiff, Int.reduceLE, Int.reduceLT, Int.reduceEq, Int.reduceToNat, Int.reduceAdd, Int.reduceSub, Int.reduceMul, Int.reduceNeg, Int.reduceGE, Int.reduceGT, Int.reduceNegSucc, putPs]
    refine done_norm ⟨rfl, ?_⟩
    refine run_sound 4000 _ ?_
    simp -implicitDefEqProofs only [go_sem, Nat.reduceSub, Nat.reduceAdd, Nat.reduceMul, Nat.reduceDiv, Nat.reduceMod, Nat.reducePow, Nat.reduceLeDiff, Nat.reduceLT, Nat.reduceGT, Nat.reduceEqDiff, Nat.reduceBEq, Nat.reduceSubDiff, Nat.reduceBeqDiff, Int.reduceLE, Int.reduceLT, Int.reduceEq, Int.reduceToNat, Int.reduceAdd, Int.reduceSub, Int.reduceMul, Int.reduceNeg, Int.reduceGE, Int.reduceGT, Int.reduceNegSucc, c0, c2, c3, s2]
    refine draw_sem mixed [154] (fun _ _ v => v = .tuple [W (part8 p 2 2 (n + 1)), I 0]) [(0, []), (1, []), (2, []), (3, []), (4, []), (5, []), (6, []), (7, []), (8, []), (9, []), (10, [])] (by kernel_rfl) ?_
    simp -implicitDefEqProofs only [go_sem, Nat.reduceSub, Nat.reduceAdd, Nat.reduceMul, Nat.reduceDiv, Nat.reduceMod, Nat.reducePow, Nat.reduceLeDiff, Nat.reduceLT, Nat.reduceGT, Nat.reduceEqDiff, Nat.reduceBEq, Nat.reduceSubDiff, Nat.reduceBeqDiff, Int.reduceLE, Int.reduceLT, Int.reduceEq, Int.reduceToNat, Int.reduceAdd, Int.reduceSub, Int.reduceMul, Int.reduceNeg, Int.reduceGE, Int.reduceGT, Int.reduceNegSucc]
    simp -implicitDefEqProofs only [go_sem, Nat.reduceSub, Nat.reduceAdd, Nat.reduceMul, Nat.reduceDiv, Nat.reduceMod, Nat.reducePow, Nat.reduceLeDiff, Nat.reduceLT, Nat.reduceGT, Nat.reduceEqDiff, Nat.reduceBEq, Nat.reduceSubDiff, Nat.reduceBeqDiff, Int.reduceLE, Int.reduceLT, Int.reduceEq, Int.reduceToNat, Int.reduceAdd, Int.reduceSub, Int.reduceMul, Int.reduceNeg, Int.reduceGE, Int.reduceGT, Int.reduceNegSucc, c0, c2, c3, s2]
    refine dcall_E ((V_Add (part8 p 2 2 n) (term8 p 2 2 n) (part8_in p hp 2 2 n (by omega)) (term8_in p hp 2 2 n)).mono fun v hv => hv.trans (congrArg AV.tuple (if_pos (part8_in p hp 2 2 (n + 1) (by omega))))) rfl rfl (fun _ => Iff.rfl) ?_
    simp -implicitDefEqProofs only [go_sem, Nat.reduceSub, Nat.reduceAdd, Nat.reduceMul, Nat.reduceDiv, Nat.reduceMod, Nat.reducePow, Nat.reduceLeDiff, Nat.reduceLT, Nat.reduceGT, Nat.reduceEqDiff, Nat.reduceBEq, Nat.reduceSubDiff, Nat.reduceBeqDiff, Int.reduceLE, Int.reduceLT, Int.reduceEq, Int.reduceToNat, Int.reduceAdd, Int.reduceSub, Int.reduceMul, Int.reduceNeg, Int.reduceGE, Int.reduceGT, Int.reduceNegSucc, c0, c2, c3, s2]
    refine run_sound 4000 _ ?_
    simp -implicitDefEqProofs only [go_sem, Nat.reduceSub, Nat.reduceAdd, Nat.reduceMul, Nat.reduceDiv, Nat.reduceMod, Nat.reducePow, Nat.reduceLeDiff, Nat.reduceLT, Nat.reduceGT, Nat.reduceEqDiff, Nat.reduceBEq, Nat.reduceSubDiff, Nat.reduceBeqDiff, Int.reduceLE, Int.reduceLT, Int.reduceEq, Int.reduceToNat, Int.reduceAdd, Int.reduceSub, Int.reduceMul, Int.reduceNeg, Int.reduceGE, Int.reduceGT, Int.reduceNegSucc]
    refine done_norm ⟨rfl, ?_⟩
    simp -implicitDefEqProofs only [go_sem, Nat.reduceSub, Nat.reduceAdd, Nat.reduceMul, Nat.reduceDiv, Nat.reduceMod, Nat.reducePow, Nat.reduceLeDiff, Nat.reduceLT, Nat.reduceGT, Nat.reduceEqDiff, Nat.reduceBEq, Nat.reduceSubDiff, Nat.reduceBeqDiff, Int.reduceLE, Int.reduceLT, Int.reduceEq, Int.reduceToNat, Int.reduceAdd, Int.reduceSub, Int.reduceMul, Int.reduceNeg, Int.reduceGE, Int.reduceGT, Int.reduceNegSucc, c0, c2, c3, s2]
    exact hI.step rfl _ rfl
  rintro ao h5 ⟨hao, hN5⟩
  refine ⟨hao, hN5.ny, ?_⟩
  have c0 := hN5.b0
  have c3 := hN5.b3
  refine run_sound 4000 _ ?_
  simp -implicitDefEqProofs only [go_sem, Nat.reduceSub, Nat.reduceAdd, Nat.reduceMul, Nat.reduceDiv, Nat.reduceMod, Nat.reducePow, Nat.reduceLeDiff, Nat.reduceLT, Nat.reduceGT, Nat.reduceEqDiff, Nat.reduceBEq, Nat.reduceSubDiff, Nat.reduceBeqDiff, Int.reduceLE, Int.reduceLT, Int.reduceEq, Int.reduceToNat, Int.reduceAdd, Int.reduceSub, Int.reduceMul, Int.reduceNeg, Int.reduceGE, Int.reduceGT, Int.reduceNegSucc, c0, c3]
  have hM6 := hN5.kk 6
  clear c0 c3
  generalize bset h5 3 ⟨[I 6], 3⟩ = hh5 at hM6 ⊢
  refine loop_go ?_
  refine run_sound 4000 _ ?_
  simp -implicitDefEqProofs only [go_sem, Nat.reduceSub, Nat.reduceAdd, Nat.reduceMul, Nat.reduceDiv, Nat.reduceMod, Nat.reducePow, Nat.reduceLeDiff, Nat.reduceLT, Nat.reduceGT, Nat.reduceEqDiff, Nat.reduceBEq, Nat.reduceSubDiff, Nat.reduceBeqDiff, Int.reduceLE, Int.reduceLT, Int.reduceEq, Int.reduceToNat, Int.reduceAdd, Int.reduceSub, Int.reduceMul, Int.reduceNeg, Int.reduceGE, Int.reduceGT, Int.reduceNegSucc]
  refine loop_go ?_
  have c1 := hM6.b1
  have c2 := hM6.b2
  have c4 := bget_bset hM6.b1
  refine run_sound 4000 _ ?_
  simp -implicitDefEqProofs only [go_sem, Nat.reduceSub, Nat.reduceAdd, Nat.reduceMul, Nat.reduceDiv, Nat.reduceMod, Nat.reducePow, Nat.reduceLeDiff, Nat.reduceLT, Nat.reduceGT, Nat.reduceEqDiff, Nat.reduceBEq, Nat.reduceSubDiff, Nat.reduceBeqDiff, Int.reduceLE, Int.reduceLT, Int.reduceEq, Int.reduceToNat, Int.reduceAdd, Int.reduceSub, Int.reduceMul, Int.reduceNeg, Int.reduceGE, Int.reduceGT, Int.reduceNegSucc, c1, c2, c4]
  refine done_retM rfl ?_
  simp -implicitDefEqProofs only [go_sem, Nat.reduceSub, Nat.reduceAdd, Nat.reduceMul, Nat.reduceDiv, Nat.reduceMod, Nat.reducePow, Nat.reduceLeDiff, Nat.reduceLT, Nat.reduceGT, Nat.reduceEqDiff, Nat.reduceBEq, Nat.reduceSubDiff, Nat.reduceBeqDiff, Int.reduceLE, Int.reduceLT, Int.reduceEq, Int.reduceToNat, Int.reduceAdd, Int.reduceSub, Int.reduceMul, Int.reduceNeg, Int.reduceGE, Int.reduceGT, Int.reduceNegSucc, c1, c2, c4]
  unfold raw8V raw8A
  rw [if_pos hp]
end Go.Proofs.YtakcibjjfkgadaaGreatDoor
