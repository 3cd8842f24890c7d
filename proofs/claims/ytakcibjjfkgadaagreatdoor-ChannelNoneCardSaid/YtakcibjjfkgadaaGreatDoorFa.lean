/- Layer 20: channels: what is kept, moves. -/
import Derived.Test.YtakcibjjfkgadaaGreatDoorD3
import Derived.Test.YtakcibjjfkgadaaGreatDoorF1
import Derived.Test.YtakcibjjfkgadaaGreatDoorEvDr
import Derived.Test.YtakcibjjfkgadaaGreatDoorA7
set_option linter.unusedSimpArgs false
set_option linter.unusedVariables false
set_option maxRecDepth 100000
set_option pp.maxSteps 400
set_option maxHeartbeats 4000000
namespace Go.Proofs.YtakcibjjfkgadaaGreatDoor
open Go.Ev

theorem V_motionKept (x m : V3) (hx : x.In64) (hm : m.In64) : VSem Tryz.prog GD 127 [x.av, m.av] (· = (x.clamp m).av) := by
  refine VSem.of_body Tryz.func127 rfl (by kernel_rfl) ?_
  refine run_sound 4000 _ ?_
  simp -implicitDefEqProofs only [Tryz.f127, go_sem, Nat.reduceSub, Nat.reduceAdd, Nat.reduceMul, Nat.reduceDiv, Nat.reduceMod, Nat.reducePow, Nat.reduceLeDiff, Nat.reduceLT, Nat.reduceGT, Nat.reduceEqDiff, Nat.reduceBEq, Nat.reduceSubDiff, Nat.reduceBeqDiff, Int.reduceLE, Int.reduceLT, Int.reduceEq, Int.reduceToNat, Int.reduceAdd, Int.reduceSub, Int.reduceMul, Int.reduceNeg, Int.reduceGE, Int.reduceGT, Int.reduceNegSucc]
  refine call_A (V_VClamp x m hx hm) rfl rfl ?_
  refine run_sound 4000 _ ?_
  simp -implicitDefEqProofs only [go_sem, Nat.reduceSub, Nat.reduceAdd, Nat.reduceMul, Nat.reduceDiv, Nat.reduceMod, Nat.reducePow, Nat.reduceLeDiff, Nat.reduceLT, Nat.reduceGT, Nat.reduceEqDiff, Nat.reduceBEq, Nat.reduceSubDiff, Nat.reduceBeqDiff, Int.reduceLE, Int.reduceLT, Int.reduceEq, Int.reduceToNat, Int.reduceAdd, Int.reduceSub, Int.reduceMul, Int.reduceNeg, Int.reduceGE, Int.reduceGT, Int.reduceNegSucc]
  refine done_ret ?_
  simp -implicitDefEqProofs only [go_sem, Nat.reduceSub, Nat.reduceAdd, Nat.reduceMul, Nat.reduceDiv, Nat.reduceMod, Nat.reducePow, Nat.reduceLeDiff, Nat.reduceLT, Nat.reduceGT, Nat.reduceEqDiff, Nat.reduceBEq, Nat.reduceSubDiff, Nat.reduceBeqDiff, Int.reduceLE, Int.reduceLT, Int.reduceEq, Int.reduceToNat, Int.reduceAdd, Int.reduceSub, Int.reduceMul, Int.reduceNeg, Int.reduceGE, Int.reduceGT, Int.reduceNegSucc]

theorem H_kept (hp : List Blk) (b : Nat) (w : Pl) (ch : Chn) (x : V3) (p : S6) (hc : ch.c.In64) (hx : x.In64) (hp6 : p.In64) (hb : bget hp b = some ⟨ch.cells w, 55⟩) :
    HSem Tryz.prog GD 89 [.ptr b 0, x.av, p.av] hp (fun ao h' => ao = .ret (.agg [I (keptF ch.c x p).1.x, I (keptF ch.c x p).1.y, I (keptF ch.c x p).1.z, I (keptF ch.c x p).2.a, I (keptF ch.c x p).2.b, I (keptF ch.c x p).2.c, I (keptF ch.c x p).2.d, I (keptF ch.c x p).2.e, I (keptF ch.c x p).2.f]) ∧ ∃ ext, h' = hp ++ ext) := by
  have hb2 := bget_app hb
  refine HSem.of_body Tryz.func89 rfl (by kernel_rfl) ?_
  refine run_sound 4000 _ ?_
  simp -implicitDefEqProofs only [Tryz.f89, go_sem, Nat.reduceSub, Nat.reduceAdd, Nat.reduceMul, Nat.reduceDiv, Nat.reduceMod, Nat.reducePow, Nat.reduceLeDiff, Nat.reduceLT, Nat.reduceGT, Nat.reduceEqDiff, Nat.reduceBEq, Nat.reduceSubDiff, Nat.reduceBeqDiff, Int.reduceLE, Int.reduceLT, Int.reduceEq, Int.reduceToNat, Int.reduceAdd, Int.reduceSub, Int.reduceMul, Int.reduceNeg, Int.reduceGE, Int.reduceGT, Int.reduceNegSucc]
  refine draw_sem mixed [52] (fun _ _ v => v = PS (tameF p ch.c.floor ch.c.ceil)) [(0, []), (1, []), (2, []), (3, []), (4, []), (5, []), (6, []), (7, []), (8, []), (9, []), (10, []), (11, []), (12, []), (13, []), (14, []), (15, []), (16, []), (17, [])] (by kernel_rfl) ?_
  simp -implicitDefEqProofs only [go_sem, Nat.reduceSub, Nat.reduceAdd, Nat.reduceMul, Nat.reduceDiv, Nat.reduceMod, Nat.reducePow, Nat.reduceLeDiff, Nat.reduceLT, Nat.reduceGT, Nat.reduceEqDiff, Nat.reduceBEq, Nat.reduceSubDiff, Nat.reduceBeqDiff, Int.reduceLE, Int.reduceLT, Int.reduceEq, Int.reduceToNat, Int.reduceAdd, Int.reduceSub, Int.reduceMul, Int.reduceNeg, Int.reduceGE, Int.reduceGT, Int.reduceNegSucc]
  simp -implicitDefEqProofs only [go_sem, Nat.reduceSub, Nat.reduceAdd, Nat.reduceMul, Nat.reduceDiv, Nat.reduceMod, Nat.reducePow, Nat.reduceLeDiff, Nat.reduceLT, Nat.reduceGT, Nat.reduceEqDiff, Nat.reduceBEq, Nat.reduceSubDiff, Nat.reduceBeqDiff, Int.reduceLE, Int.reduceLT, Int.reduceEq, Int.reduceToNat, Int.reduceAdd, Int.reduceSub, Int.reduceMul, Int.reduceNeg, Int.reduceGE, Int.reduceGT, Int.reduceNegSucc, hb2]
  refine dcall_A (V_Tame p ch.c.floor ch.c.ceil hp6) rfl rfl rfl (fun _ => Iff.rfl) ?_
  simp -implicitDefEqProofs only [go_sem, Nat.reduceSub, Nat.reduceAdd, Nat.reduceMul, Nat.reduceDiv, Nat.reduceMod, Nat.reducePow, Nat.reduceLeDiff, Nat.reduceLT, Nat.reduceGT, Nat.reduceEqDiff, Nat.reduceBEq, Nat.reduceSubDiff, Nat.reduceBeqDiff, Int.reduceLE, Int.reduceLT, Int.reduceEq, Int.reduceToNat, Int.reduceAdd, Int.reduceSub, Int.reduceMul, Int.reduceNeg, Int.reduceGE, Int.reduceGT, Int.reduceNegSucc]
  refine run_sound 4000 _ ?_
  simp -implicitDefEqProofs only [go_sem, Nat.reduceSub, Nat.reduceAdd, Nat.reduceMul, Nat.reduceDiv, Nat.reduceMod, Nat.reducePow, Nat.reduceLeDiff, Nat.reduceLT, Nat.reduceGT, Nat.reduceEqDiff, Nat.reduceBEq, Nat.reduceSubDiff, Nat.reduceBeqDiff, Int.reduceLE, Int.reduceLT, Int.reduceEq, Int.reduceToNat, Int.reduceAdd, Int.reduceSub, Int.reduceMul, Int.reduceNeg, Int.reduceGE, Int.reduceGT, Int.reduceNegSucc]
  refine draw_sem mixed [127] (fun _ _ v => v = (x.clamp ch.c.bound).av) [(0, []), (1, []), (2, []), (3, []), (4, []), (5, []), (6, []), (7, []), (8, []), (9, [])] (by kernel_rfl) ?_
  simp -implicitDefEqProofs only [go_sem, Nat.reduceSub, Nat.reduceAdd, Nat.reduceMul, Nat.reduceDiv, Nat.reduceMod, Nat.reducePow, Nat.reduceLeDiff, Nat.reduceLT, Nat.reduceGT, Nat.reduceEqDiff, Nat.reduceBEq, Nat.reduceSubDiff, Nat.reduceBeqDiff, Int.reduceLE, Int.reduceLT, Int.reduceEq, Int.reduceToNat, Int.reduceAdd, Int.reduceSub, Int.reduceMul, Int.reduceNeg, Int.reduceGE, Int.reduceGT, Int.reduceNegSucc]
  simp -implicitDefEqProofs only [go_sem, Nat.reduceSub, Nat.reduceAdd, Nat.reduceMul, Nat.reduceDiv, Nat.reduceMod, Nat.reducePow, Nat.reduceLeDiff, Nat.reduceLT, Nat.reduceGT, Nat.reduceEqDiff, Nat.reduceBEq, Nat.reduceSubDiff, Nat.reduceBeqDiff, Int.reduceLE, Int.reduceLT, Int.reduceEq, Int.reduceToNat, Int.reduceAdd, Int.reduceSub, Int.reduceMul, Int.reduceNeg, Int.reduceGE, Int.reduceGT, Int.reduceNegSucc, hb2]
  refine dcall_A (V_motionKept x ch.c.bound hx hc.bound) rfl rfl rfl (fun _ => Iff.rfl) ?_
  simp -implicitDefEqProofs only [go_sem, Nat.reduceSub, Nat.reduceAdd, Nat.reduceMul, Nat.reduceDiv, Nat.reduceMod, Nat.reducePow, Nat.reduceLeDiff, Nat.reduceLT, Nat.reduceGT, Nat.reduceEqDiff, Nat.reduceBEq, Nat.reduceSubDiff, Nat.reduceBeqDiff, Int.reduceLE, Int.reduceLT, Int.reduceEq, Int.reduceToNat, Int.reduceAdd, Int.reduceSub, Int.reduceMul, Int.reduceNeg, Int.reduceGE, Int.reduceGT, Int.reduceNegSucc, hb2]
  refine run_sound 4000 _ ?_
  simp -implicitDefEqProofs only [go_sem, Nat.reduceSub, Nat.reduceAdd, Nat.reduceMul, Nat.reduceDiv, Nat.reduceMod, Nat.reducePow, Nat.reduceLeDiff, Nat.reduceLT, Nat.reduceGT, Nat.reduceEqDiff, Nat.reduceBEq, Nat.reduceSubDiff, Nat.reduceBeqDiff, Int.reduceLE, Int.reduceLT, Int.reduceEq, Int.reduceToNat, Int.reduceAdd, Int.reduceSub, Int.reduceMul, Int.reduceNeg, Int.reduceGE, Int.reduceGT, Int.reduceNegSucc]
  refine hdone ?_
  simp -implicitDefEqProofs only [go_sem, Nat.reduceSub, Nat.reduceAdd, Nat.reduceMul, Nat.reduceDiv, Nat.reduceMod, Nat.reducePow, Nat.reduceLeDiff, Nat.reduceLT, Nat.reduceGT, Nat.reduceEqDiff, Nat.reduceBEq, Nat.reduceSubDiff, Nat.reduceBeqDiff, Int.reduceLE, Int.reduceLT, Int.reduceEq, Int.reduceToNat, Int.reduceAdd, Int.reduceSub, Int.reduceMul, Int.reduceNeg, Int.reduceGE, Int.reduceGT, Int.reduceNegSucc]
  unfold keptF
  simp -implicitDefEqProofs only [go_sem, Nat.reduceSub, Nat.reduceAdd, Nat.reduceMul, Nat.reduceDiv, Nat.reduceMod, Nat.reducePow, Nat.reduceLeDiff, Nat.reduceLT, Nat.reduceGT, Nat.reduceEqDiff, Nat.reduceBEq, Nat.reduceSubDiff, Nat.reduceBeqDiff, Int.reduceLE, Int.reduceLT, Int.reduceEq, Int.reduceToNat, Int.reduceAdd, Int.reduceSub, Int.reduceMul, Int.reduceNeg, Int.reduceGE, Int.reduceGT, Int.reduceNegSucc]
  exact ⟨_, rfl⟩

theorem H_FAdd' (hp : List Blk) (b : Nat) (c : Cf) (f : Fed) (held : Bool) (hb : bget hp b = some ⟨f.cells c, 117⟩) :
    HSem Tryz.prog GD 88 [.ptr b 0, .bool held] hp (fun ao h' => ao = .ret (addF c held).av ∧ h' = hp) := by
  have h := H_FAdd hp b c f held hb
  have e : (if held = true then c.loose.av else c.q.av) = (addF c held).av := by cases held <;> rfl
  rw [e] at h
  exact h.drop rfl
theorem H_move (hp : List Blk) (b : Nat) (w : Pl) (ch : Chn) (th : Int) (held : Bool) (hok : ch.ok) (hb : bget hp b = some ⟨ch.cells w, 55⟩) (hf : bget hp w.f = some ⟨ch.fd.cells ch.c, 117⟩) :
    HSem Tryz.prog GD 34 [.ptr b 0, I th, .bool held] hp (fun ao h' => ao = .ret (.tuple []) ∧ ∃ ext, h' = bset hp b ⟨(moveF ch th held).cells w, 55⟩ ++ ext) := by
  have hb2 := bget_app hb
  have hf2 := bget_app hf
  have sb2 := bset_app hb
  have haf : (addF ch.c held).In64 := by
    unfold addF
    split
    · exact hok.c.loose
    · exact hok.c.q
  unfold moveF
  refine HSem.of_body Tryz.func34 rfl (by kernel_rfl) ?_
  refine run_sound 4000 _ ?_
  simp -implicitDefEqProofs only [Tryz.f34, go_sem, Nat.reduceSub, Nat.reduceAdd, Nat.reduceMul, Nat.reduceDiv, Nat.reduceMod, Nat.reducePow, Nat.reduceLeDiff, Nat.reduceLT, Nat.reduceGT, Nat.reduceEqDiff, Nat.reduceBEq, Nat.reduceSubDiff, Nat.reduceBeqDiff, Int.reduceLE, Int.reduceLT, Int.reduceEq, Int.reduceToNat, Int.reduceAdd, Int.reduceSub, Int.reduceMul, Int.reduceNeg, Int.reduceGE, Int.reduceGT, Int.reduceNegSucc, hb]
  refine call_A (V_motionOn ch.x th hok.x) rfl rfl ?_
  by_cases h1 : (motionF ch.x th).2 = 0
  · have h1' := decide_eq_true h1
    rw [if_pos h1]
    refine run_sound 4000 _ ?_
    simp -implicitDefEqProofs only [go_sem, Nat.reduceSub, Nat.reduceAdd, Nat.reduceMul, Nat.reduceDiv, Nat.reduceMod, Nat.reducePow, Nat.reduceLeDiff, Nat.reduceLT, Nat.reduceGT, Nat.reduceEqDiff, Nat.reduceBEq, Nat.reduceSubDiff, Nat.reduceBeqDiff, Int.reduceLE, Int.reduceLT, Int.reduceEq, Int.reduceToNat, Int.reduceAdd, Int.reduceSub, Int.reduceMul, Int.reduceNeg, Int.reduceGE, Int.reduceGT, Int.reduceNegSucc, h1']
    refine draw_sem mixed [87, 1000088, 2000088] (fun _ _ v => v = PS (on8 ch.p (addF ch.c held))) [(0, []), (1, []), (2, []), (3, []), (4, []), (5, []), (6, []), (7, []), (8, []), (9, []), (10, []), (11, []), (12, []), (13, []), (14, []), (15, []), (16, []), (17, [])] (by kernel_rfl) ?_
    simp -implicitDefEqProofs only [go_sem, Nat.reduceSub, Nat.reduceAdd, Nat.reduceMul, Nat.reduceDiv, Nat.reduceMod, Nat.reducePow, Nat.reduceLeDiff, Nat.reduceLT, Nat.reduceGT, Nat.reduceEqDiff, Nat.reduceBEq, Nat.reduceSubDiff, Nat.reduceBeqDiff, Int.reduceLE, Int.reduceLT, Int.reduceEq, Int.reduceToNat, Int.reduceAdd, Int.reduceSub, Int.reduceMul, Int.reduceNeg, Int.reduceGE, Int.reduceGT, Int.reduceNegSucc]
    simp -implicitDefEqProofs only [go_sem, Nat.reduceSub, Nat.reduceAdd, Nat.reduceMul, Nat.reduceDiv, Nat.reduceMod, Nat.reducePow, Nat.reduceLeDiff, Nat.reduceLT, Nat.reduceGT, Nat.reduceEqDiff, Nat.reduceBEq, Nat.reduceSubDiff, Nat.reduceBeqDiff, Int.reduceLE, Int.reduceLT, Int.reduceEq, Int.reduceToNat, Int.reduceAdd, Int.reduceSub, Int.reduceMul, Int.reduceNeg, Int.reduceGE, Int.reduceGT, Int.reduceNegSucc, hb2, hf2]
    refine dcall_S (by rfl) (fun ext => H_FAdd' _ w.f ch.c ch.fd held (by simp -implicitDefEqProofs only [go_sem, Nat.reduceSub, Nat.reduceAdd, Nat.reduceMul, Nat.reduceDiv, Nat.reduceMod, Nat.reducePow, Nat.reduceLeDiff, Nat.reduceLT, Nat.reduceGT, Nat.reduceEqDiff, Nat.reduceBEq, Nat.reduceSubDiff, Nat.reduceBeqDiff, Int.reduceLE, Int.reduceLT, Int.reduceEq, Int.reduceToNat, Int.reduceAdd, Int.reduceSub, Int.reduceMul, Int.reduceNeg, Int.reduceGE, Int.reduceGT, Int.reduceNegSucc, hf2])) ?_
    simp -implicitDefEqProofs only [go_sem, Nat.reduceSub, Nat.reduceAdd, Nat.reduceMul, Nat.reduceDiv, Nat.reduceMod, Nat.reducePow, Nat.reduceLeDiff, Nat.reduceLT, Nat.reduceGT, Nat.reduceEqDiff, Nat.reduceBEq, Nat.reduceSubDiff, Nat.reduceBeqDiff, Int.reduceLE, Int.reduceLT, Int.reduceEq, Int.reduceToNat, Int.reduceAdd, Int.reduceSub, Int.reduceMul, Int.reduceNeg, Int.reduceGE, Int.reduceGT, Int.reduceNegSucc, hb2, hf2]
    refine dcall_A (V_SpreadOn ch.p (addF ch.c held) haf) rfl rfl rfl (fun _ => Iff.rfl) ?_
    simp -implicitDefEqProofs only [go_sem, Nat.reduceSub, Nat.reduceAdd, Nat.reduceMul, Nat.reduceDiv, Nat.reduceMod, Nat.reducePow, Nat.reduceLeDiff, Nat.reduceLT, Nat.reduceGT, Nat.reduceEqDiff, Nat.reduceBEq, Nat.reduceSubDiff, Nat.reduceBeqDiff, Int.reduceLE, Int.reduceLT, Int.reduceEq, Int.reduceToNat, Int.reduceAdd, Int.reduceSub, Int.reduceMul, Int.reduceNeg, Int.reduceGE, Int.reduceGT, Int.reduceNegSucc, hb2, hf2]
    by_cases h2 : (on8 ch.p (addF ch.c held)).2 = 0
    · have h2' := decide_eq_true h2
      rw [if_pos h2]
      refine run_sound 4000 _ ?_
      simp -implicitDefEqProofs only [go_sem, Nat.reduceSub, Nat.reduceAdd, Nat.reduceMul, Nat.reduceDiv, Nat.reduceMod, Nat.reducePow, Nat.reduceLeDiff, Nat.reduceLT, Nat.reduceGT, Nat.reduceEqDiff, Nat.reduceBEq, Nat.reduceSubDiff, Nat.reduceBeqDiff, Int.reduceLE, Int.reduceLT, Int.reduceEq, Int.reduceToNat, Int.reduceAdd, Int.reduceSub, Int.reduceMul, Int.reduceNeg, Int.reduceGE, Int.reduceGT, Int.reduceNegSucc, h2', hb2]
      refine call_X (H_kept _ b w ch (motionF ch.x th).1 (on8 ch.p (addF ch.c held)).1 hok.c ((motionF_fit _ _).in64) ((on8_fit _ _).in64) (hb2 _)) fun h' hh => ?_
      obtain ⟨e', he⟩ : ∃ e', h' = hp ++ e' := by obtain ⟨ext2, rfl⟩ := hh; exact ⟨_, by simp only [appB_assoc]; rfl⟩
      have hb3 : bget h' b = some ⟨ch.cells w, 55⟩ := by rw [he]; exact hb2 _
      have hb4 := bget_app hb3
      have sb4 := bset_app hb3
      refine run_sound 4000 _ ?_
      simp -implicitDefEqProofs only [go_sem, Nat.reduceSub, Nat.reduceAdd, Nat.reduceMul, Nat.reduceDiv, Nat.reduceMod, Nat.reducePow, Nat.reduceLeDiff, Nat.reduceLT, Nat.reduceGT, Nat.reduceEqDiff, Nat.reduceBEq, Nat.reduceSubDiff, Nat.reduceBeqDiff, Int.reduceLE, Int.reduceLT, Int.reduceEq, Int.reduceToNat, Int.reduceAdd, Int.reduceSub, Int.reduceMul, Int.reduceNeg, Int.reduceGE, Int.reduceGT, Int.reduceNegSucc, hb4, sb4, h2']
      refine hdone_end ?_
      simp -implicitDefEqProofs only [go_sem, Nat.reduceSub, Nat.reduceAdd, Nat.reduceMul, Nat.reduceDiv, Nat.reduceMod, Nat.reducePow, Nat.reduceLeDiff, Nat.reduceLT, Nat.reduceGT, Nat.reduceEqDiff, Nat.reduceBEq, Nat.reduceSubDiff, Nat.reduceBeqDiff, Int.reduceLE, Int.reduceLT, Int.reduceEq, Int.reduceToNat, Int.reduceAdd, Int.reduceSub, Int.reduceMul, Int.reduceNeg, Int.reduceGE, Int.reduceGT, Int.reduceNegSucc]
      exact fin_app hb he _
    · have h2' := decide_eq_false h2
      rw [if_neg h2]
      refine run_sound 4000 _ ?_
      simp -implicitDefEqProofs only [go_sem, Nat.reduceSub, Nat.reduceAdd, Nat.reduceMul, Nat.reduceDiv, Nat.reduceMod, Nat.reducePow, Nat.reduceLeDiff, Nat.reduceLT, Nat.reduceGT, Nat.reduceEqDiff, Nat.reduceBEq, Nat.reduceSubDiff, Nat.reduceBeqDiff, Int.reduceLE, Int.reduceLT, Int.reduceEq, Int.reduceToNat, Int.reduceAdd, Int.reduceSub, Int.reduceMul, Int.reduceNeg, Int.reduceGE, Int.reduceGT, Int.reduceNegSucc, h2', hb2]
      refine call_X (H_kept _ b w ch (motionF ch.x th).1 ch.p hok.c ((motionF_fit _ _).in64) (hok.p) (hb2 _)) fun h' hh => ?_
      obtain ⟨e', he⟩ : ∃ e', h' = hp ++ e' := by obtain ⟨ext2, rfl⟩ := hh; exact ⟨_, by simp only [appB_assoc]; rfl⟩
      have hb3 : bget h' b = some ⟨ch.cells w, 55⟩ := by rw [he]; exact hb2 _
      have hb4 := bget_app hb3
      have sb4 := bset_app hb3
      refine run_sound 4000 _ ?_
      simp -implicitDefEqProofs only [go_sem, Nat.reduceSub, Nat.reduceAdd, Nat.reduceMul, Nat.reduceDiv, Nat.reduceMod, Nat.reducePow, Nat.reduceLeDiff, Nat.reduceLT, Nat.reduceGT, Nat.reduceEqDiff, Nat.reduceBEq, Nat.reduceSubDiff, Nat.reduceBeqDiff, Int.reduceLE, Int.reduceLT, Int.reduceEq, Int.reduceToNat, Int.reduceAdd, Int.reduceSub, Int.reduceMul, Int.reduceNeg, Int.reduceGE, Int.reduceGT, Int.reduceNegSucc, hb4, sb4, h2']
      refine hdone_end ?_
      simp -implicitDefEqProofs only [go_sem, Nat.reduceSub, Nat.reduceAdd, Nat.reduceMul, Nat.reduceDiv, Nat.reduceMod, Nat.reducePow, Nat.reduceLeDiff, Nat.reduceLT, Nat.reduceGT, Nat.reduceEqDiff, Nat.reduceBEq, Nat.reduceSubDiff, Nat.reduceBeqDiff, Int.reduceLE, Int.reduceLT, Int.reduceEq, Int.reduceToNat, Int.reduceAdd, Int.reduceSub, Int.reduceMul, Int.reduceNeg, Int.reduceGE, Int.reduceGT, Int.reduceNegSucc]
      exact fin_app hb he _
  · have h1' := decide_eq_false h1
    rw [if_neg h1]
    refine run_sound 4000 _ ?_
    simp -implicitDefEqProofs only [go_sem, Nat.reduceSub, Nat.reduceAdd, Nat.reduceMul, Nat.reduceDiv, Nat.reduceMod, Nat.reducePow, Nat.reduceLeDiff, Nat.reduceLT, Nat.reduceGT, Nat.reduceEqDiff, Nat.reduceBEq, Nat.reduceSubDiff, Nat.reduceBeqDiff, Int.reduceLE, Int.reduceLT, Int.reduceEq, Int.reduceToNat, Int.reduceAdd, Int.reduceSub, Int.reduceMul, Int.reduceNeg, Int.reduceGE, Int.reduceGT, Int.reduceNegSucc, h1', hb2]
    refine draw_sem mixed [87, 1000088, 2000088] (fun _ _ v => v = PS (on8 ch.p (addF ch.c held))) [(0, []), (1, []), (2, []), (3, []), (4, []), (5, []), (6, []), (7, []), (8, []), (9, []), (10, []), (11, []), (12, []), (13, []), (14, []), (15, []), (16, []), (17, [])] (by kernel_rfl) ?_
    simp -implicitDefEqProofs only [go_sem, Nat.reduceSub, Nat.reduceAdd, Nat.reduceMul, Nat.reduceDiv, Nat.reduceMod, Nat.reducePow, Nat.reduceLeDiff, Nat.reduceLT, Nat.reduceGT, Nat.reduceEqDiff, Nat.reduceBEq, Nat.reduceSubDiff, Nat.reduceBeqDiff, Int.reduceLE, Int.reduceLT, Int.reduceEq, Int.reduceToNat, Int.reduceAdd, Int.reduceSub, Int.reduceMul, Int.reduceNeg, Int.reduceGE, Int.reduceGT, Int.reduceNegSucc]
    simp -implicitDefEqProofs only [go_sem, Nat.reduceSub, Nat.reduceAdd, Nat.reduceMul, Nat.reduceDiv, Nat.reduceMod, Nat.reducePow, Nat.reduceLeDiff, Nat.reduceLT, Nat.reduceGT, Nat.reduceEqDiff, Nat.reduceBEq, Nat.reduceSubDiff, Nat.reduceBeqDiff, Int.reduceLE, Int.reduceLT, Int.reduceEq, Int.reduceToNat, Int.reduceAdd, Int.reduceSub, Int.reduceMul, Int.reduceNeg, Int.reduceGE, Int.reduceGT, Int.reduceNegSucc, hb2, hf2]
    refine dcall_S (by rfl) (fun ext => H_FAdd' _ w.f ch.c ch.fd held (by simp -implicitDefEqProofs only [go_sem, Nat.reduceSub, Nat.reduceAdd, Nat.reduceMul, Nat.reduceDiv, Nat.reduceMod, Nat.reducePow, Nat.reduceLeDiff, Nat.reduceLT, Nat.reduceGT, Nat.reduceEqDiff, Nat.reduceBEq, Nat.reduceSubDiff, Nat.reduceBeqDiff, Int.reduceLE, Int.reduceLT, Int.reduceEq, Int.reduceToNat, Int.reduceAdd, Int.reduceSub, Int.reduceMul, Int.reduceNeg, Int.reduceGE, Int.reduceGT, Int.reduceNegSucc, hf2])) ?_
    simp -implicitDefEqProofs only [go_sem, Nat.reduceSub, Nat.reduceAdd, Nat.reduceMul, Nat.reduceDiv, Nat.reduceMod, Nat.reducePow, Nat.reduceLeDiff, Nat.reduceLT, Nat.reduceGT, Nat.reduceEqDiff, Nat.reduceBEq, Nat.reduceSubDiff, Nat.reduceBeqDiff, Int.reduceLE, Int.reduceLT, Int.reduceEq, Int.reduceToNat, Int.reduceAdd, Int.reduceSub, Int.reduceMul, Int.reduceNeg, Int.reduceGE, Int.reduceGT, Int.reduceNegSucc, hb2, hf2]
    refine dcall_A (V_SpreadOn ch.p (addF ch.c held) haf) rfl rfl rfl (fun _ => Iff.rfl) ?_
    simp -implicitDefEqProofs only [go_sem, Nat.reduceSub, Nat.reduceAdd, Nat.reduceMul, Nat.reduceDiv, Nat.reduceMod, Nat.reducePow, Nat.reduceLeDiff, Nat.reduceLT, Nat.reduceGT, Nat.reduceEqDiff, Nat.reduceBEq, Nat.reduceSubDiff, Nat.reduceBeqDiff, Int.reduceLE, Int.reduceLT, Int.reduceEq, Int.reduceToNat, Int.reduceAdd, Int.reduceSub, Int.reduceMul, Int.reduceNeg, Int.reduceGE, Int.reduceGT, Int.reduceNegSucc, hb2, hf2]
    by_cases h2 : (on8 ch.p (addF ch.c held)).2 = 0
    · have h2' := decide_eq_true h2
      rw [if_pos h2]
      refine run_sound 4000 _ ?_
      simp -implicitDefEqProofs only [go_sem, Nat.reduceSub, Nat.reduceAdd, Nat.reduceMul, Nat.reduceDiv, Nat.reduceMod, Nat.reducePow, Nat.reduceLeDiff, Nat.reduceLT, Nat.reduceGT, Nat.reduceEqDiff, Nat.reduceBEq, Nat.reduceSubDiff, Nat.reduceBeqDiff, Int.reduceLE, Int.reduceLT, Int.reduceEq, Int.reduceToNat, Int.reduceAdd, Int.reduceSub, Int.reduceMul, Int.reduceNeg, Int.reduceGE, Int.reduceGT, Int.reduceNegSucc, h2', hb2]
      refine call_X (H_kept _ b w ch ch.x (on8 ch.p (addF ch.c held)).1 hok.c (hok.x) ((on8_fit _ _).in64) (hb2 _)) fun h' hh => ?_
      obtain ⟨e', he⟩ : ∃ e', h' = hp ++ e' := by obtain ⟨ext2, rfl⟩ := hh; exact ⟨_, by simp only [appB_assoc]; rfl⟩
      have hb3 : bget h' b = some ⟨ch.cells w, 55⟩ := by rw [he]; exact hb2 _
      have hb4 := bget_app hb3
      have sb4 := bset_app hb3
      refine run_sound 4000 _ ?_
      simp -implicitDefEqProofs only [go_sem, Nat.reduceSub, Nat.reduceAdd, Nat.reduceMul, Nat.reduceDiv, Nat.reduceMod, Nat.reducePow, Nat.reduceLeDiff, Nat.reduceLT, Nat.reduceGT, Nat.reduceEqDiff, Nat.reduceBEq, Nat.reduceSubDiff, Nat.reduceBeqDiff, Int.reduceLE, Int.reduceLT, Int.reduceEq, Int.reduceToNat, Int.reduceAdd, Int.reduceSub, Int.reduceMul, Int.reduceNeg, Int.reduceGE, Int.reduceGT, Int.reduceNegSucc, hb4, sb4, h2']
      refine hdone_end ?_
      simp -implicitDefEqProofs only [go_sem, Nat.reduceSub, Nat.reduceAdd, Nat.reduceMul, Nat.reduceDiv, Nat.reduceMod, Nat.reducePow, Nat.reduceLeDiff, Nat.reduceLT, Nat.reduceGT, Nat.reduceEqDiff, Nat.reduceBEq, Nat.reduceSubDiff, Nat.reduceBeqDiff, Int.reduceLE, Int.reduceLT, Int.reduceEq, Int.reduceToNat, Int.reduceAdd, Int.reduceSub, Int.reduceMul, Int.reduceNeg, Int.reduceGE, Int.reduceGT, Int.reduceNegSucc]
      exact fin_app hb he _
    · have h2' := decide_eq_false h2
      rw [if_neg h2]
      refine run_sound 4000 _ ?_
      simp -implicitDefEqProofs only [go_sem, Nat.reduceSub, Nat.reduceAdd, Nat.reduceMul, Nat.reduceDiv, Nat.reduceMod, Nat.reducePow, Nat.reduceLeDiff, Nat.reduceLT, Nat.reduceGT, Nat.reduceEqDiff, Nat.reduceBEq, Nat.reduceSubDiff, Nat.reduceBeqDiff, Int.reduceLE, Int.reduceLT, Int.reduceEq, Int.reduceToNat, Int.reduceAdd, Int.reduceSub, Int.reduceMul, Int.reduceNeg, Int.reduceGE, Int.reduceGT, Int.reduceNegSucc, h2', hb2]
      refine call_X (H_kept _ b w ch ch.x ch.p hok.c (hok.x) (hok.p) (hb2 _)) fun h' hh => ?_
      obtain ⟨e', he⟩ : ∃ e', h' = hp ++ e' := by obtain ⟨ext2, rfl⟩ := hh; exact ⟨_, by simp only [appB_assoc]; rfl⟩
      have hb3 : bget h' b = some ⟨ch.cells w, 55⟩ := by rw [he]; exact hb2 _
      have hb4 := bget_app hb3
      have sb4 := bset_app hb3
      refine run_sound 4000 _ ?_
      simp -implicitDefEqProofs only [go_sem, Nat.reduceSub, Nat.reduceAdd, Nat.reduceMul, Nat.reduceDiv, Nat.reduceMod, Nat.reducePow, Nat.reduceLeDiff, Nat.reduceLT, Nat.reduceGT, Nat.reduceEqDiff, Nat.reduceBEq, Nat.reduceSubDiff, Nat.reduceBeqDiff, Int.reduceLE, Int.reduceLT, Int.reduceEq, Int.reduceToNat, Int.reduceAdd, Int.reduceSub, Int.reduceMul, Int.reduceNeg, Int.reduceGE, Int.reduceGT, Int.reduceNegSucc, hb4, sb4, h2']
      refine hdone_end ?_
      simp -implicitDefEqProofs only [go_sem, Nat.reduceSub, Nat.reduceAdd, Nat.reduceMul, Nat.reduceDiv, Nat.reduceMod, Nat.reducePow, Nat.reduceLeDiff, Nat.reduceLT, Nat.reduceGT, Nat.reduceEqDiff, Nat.reduceBEq, Nat.reduceSubDiff, Nat.reduceBeqDiff, Int.reduceLE, Int.reduceLT, Int.reduceEq, Int.reduceToNat, Int.reduceAdd, Int.reduceSub, Int.reduceMul, Int.reduceNeg, Int.reduceGE, Int.reduceGT, Int.reduceNegSucc]
      exact fin_app hb he _
end Go.Proofs.YtakcibjjfkgadaaGreatDoor
/- Layer 20: channels: samples that are taken. -/
set_option linter.unusedSimpArgs false
set_option linter.unusedVariables false
set_option maxRecDepth 100000
set_option pp.maxSteps 400
set_option maxHeartbeats 4000000
namespace Go.Proofs.YtakcibjjfkgadaaGreatDoor
open Go.Ev

theorem H_take (hp : List Blk) (b : Nat) (w : Pl) (ch : Chn) (n : Int) (short : Bool) (hok : ch.ok) (hb : bget hp b = some ⟨ch.cells w, 55⟩) (hg : bget hp w.g = some ⟨ch.g.cells, 110⟩) :
    HSem Tryz.prog GD 35 [.ptr b 0, I n, .bool short] hp (fun ao h' => ao = .ret (.tuple [.bool (takeF ch n short).taken, .bool (takeF ch n short).near]) ∧ ∃ ext, h' = bset hp b ⟨(takeF ch n short).ch.cells w, 55⟩ ++ ext) := by
  have s0 := bset_same hb
  obtain ⟨l, hl⟩ : ∃ l, levelF ch.g n = l := ⟨_, rfl⟩
  have none : ∀ h : freshF ch l short = none, takeF ch n short = ⟨ch, false, l.near⟩ := fun h => by rw [← hl] at h ⊢; exact takeF_none h
  have some : ∀ xp, freshF ch l short = some xp → takeF ch n short = ⟨{ ch with x := xp.1, p := xp.2 }, true, l.near⟩ := fun xp h => by rw [← hl] at h ⊢; exact takeF_some h
  have hL := H_Level hp w.g ch.g n hg
  rw [hl] at hL
  refine HSem.of_body Tryz.func35 rfl (by kernel_rfl) ?_
  refine run_sound 4000 _ ?_
  simp -implicitDefEqProofs only [Tryz.f35, go_sem, Nat.reduceSub, Nat.reduceAdd, Nat.reduceMul, Nat.reduceDiv, Nat.reduceMod, Nat.reducePow, Nat.reduceLeDiff, Nat.reduceLT, Nat.reduceGT, Nat.reduceEqDiff, Nat.reduceBEq, Nat.reduceSubDiff, Nat.reduceBeqDiff, Int.reduceLE, Int.reduceLT, Int.reduceEq, Int.reduceToNat, Int.reduceAdd, Int.reduceSub, Int.reduceMul, Int.reduceNeg, Int.reduceGE, Int.reduceGT, Int.reduceNegSucc, hb]
  refine call_X hL fun h' hh => ?_
  obtain ⟨ext, rfl⟩ := hh
  obtain ⟨h1, e1⟩ : ∃ h1, hp ++ ext = h1 := ⟨_, rfl⟩
  have hb1 : bget h1 b = Option.some ⟨ch.cells w, 55⟩ := by rw [← e1]; exact bget_app hb ext
  have hb2 := bget_app hb1
  have sb2 := bset_app hb1
  rw [e1]
  unfold freshF at none some
  refine run_sound 4000 _ ?_
  simp -implicitDefEqProofs only [go_sem, Nat.reduceSub, Nat.reduceAdd, Nat.reduceMul, Nat.reduceDiv, Nat.reduceMod, Nat.reducePow, Nat.reduceLeDiff, Nat.reduceLT, Nat.reduceGT, Nat.reduceEqDiff, Nat.reduceBEq, Nat.reduceSubDiff, Nat.reduceBeqDiff, Int.reduceLE, Int.reduceLT, Int.reduceEq, Int.reduceToNat, Int.reduceAdd, Int.reduceSub, Int.reduceMul, Int.reduceNeg, Int.reduceGE, Int.reduceGT, Int.reduceNegSucc]
  refine loop_go ?_
  by_cases h0 : l.e = 0
  rotate_left
  · have h0' := decide_eq_false h0
    refine run_sound 4000 _ ?_
    simp -implicitDefEqProofs only [go_sem, Nat.reduceSub, Nat.reduceAdd, Nat.reduceMul, Nat.reduceDiv, Nat.reduceMod, Nat.reducePow, Nat.reduceLeDiff, Nat.reduceLT, Nat.reduceGT, Nat.reduceEqDiff, Nat.reduceBEq, Nat.reduceSubDiff, Nat.reduceBeqDiff, Int.reduceLE, Int.reduceLT, Int.reduceEq, Int.reduceToNat, Int.reduceAdd, Int.reduceSub, Int.reduceMul, Int.reduceNeg, Int.reduceGE, Int.reduceGT, Int.reduceNegSucc, h0']
    refine hdone ?_
    simp -implicitDefEqProofs only [go_sem, Nat.reduceSub, Nat.reduceAdd, Nat.reduceMul, Nat.reduceDiv, Nat.reduceMod, Nat.reducePow, Nat.reduceLeDiff, Nat.reduceLT, Nat.reduceGT, Nat.reduceEqDiff, Nat.reduceBEq, Nat.reduceSubDiff, Nat.reduceBeqDiff, Int.reduceLE, Int.reduceLT, Int.reduceEq, Int.reduceToNat, Int.reduceAdd, Int.reduceSub, Int.reduceMul, Int.reduceNeg, Int.reduceGE, Int.reduceGT, Int.reduceNegSucc]
    rw [none (if_neg fun h => h0 h.1)]
    exact ⟨rfl, fin_app0 hb e1.symm _⟩
  have h0' := decide_eq_true h0
  obtain ⟨lk, hlk⟩ : ∃ lk, lookF ch.x ch.p l.alt l.noise = lk := ⟨_, rfl⟩
  have hLk := V_Look ch.x ch.p l.alt l.noise hok.x
  rw [hlk] at none some hLk
  refine run_sound 4000 _ ?_
  simp -implicitDefEqProofs only [go_sem, Nat.reduceSub, Nat.reduceAdd, Nat.reduceMul, Nat.reduceDiv, Nat.reduceMod, Nat.reducePow, Nat.reduceLeDiff, Nat.reduceLT, Nat.reduceGT, Nat.reduceEqDiff, Nat.reduceBEq, Nat.reduceSubDiff, Nat.reduceBeqDiff, Int.reduceLE, Int.reduceLT, Int.reduceEq, Int.reduceToNat, Int.reduceAdd, Int.reduceSub, Int.reduceMul, Int.reduceNeg, Int.reduceGE, Int.reduceGT, Int.reduceNegSucc, h0']
  refine draw_sem mixed [91] (fun _ _ v => v = .tuple [I lk.y, I lk.s, I lk.e]) [(0, []), (1, []), (2, []), (3, []), (4, []), (5, []), (6, []), (7, []), (8, []), (9, []), (10, []), (11, []), (12, []), (13, []), (14, []), (15, []), (16, []), (17, []), (18, []), (19, [])] (by kernel_rfl) ?_
  simp -implicitDefEqProofs only [go_sem, Nat.reduceSub, Nat.reduceAdd, Nat.reduceMul, Nat.reduceDiv, Nat.reduceMod, Nat.reducePow, Nat.reduceLeDiff, Nat.reduceLT, Nat.reduceGT, Nat.reduceEqDiff, Nat.reduceBEq, Nat.reduceSubDiff, Nat.reduceBeqDiff, Int.reduceLE, Int.reduceLT, Int.reduceEq, Int.reduceToNat, Int.reduceAdd, Int.reduceSub, Int.reduceMul, Int.reduceNeg, Int.reduceGE, Int.reduceGT, Int.reduceNegSucc]
  simp -implicitDefEqProofs only [go_sem, Nat.reduceSub, Nat.reduceAdd, Nat.reduceMul, Nat.reduceDiv, Nat.reduceMod, Nat.reducePow, Nat.reduceLeDiff, Nat.reduceLT, Nat.reduceGT, Nat.reduceEqDiff, Nat.reduceBEq, Nat.reduceSubDiff, Nat.reduceBeqDiff, Int.reduceLE, Int.reduceLT, Int.reduceEq, Int.reduceToNat, Int.reduceAdd, Int.reduceSub, Int.reduceMul, Int.reduceNeg, Int.reduceGE, Int.reduceGT, Int.reduceNegSucc, hb2]
  refine dcall_A hLk rfl rfl rfl (fun _ => Iff.rfl) ?_
  simp -implicitDefEqProofs only [go_sem, Nat.reduceSub, Nat.reduceAdd, Nat.reduceMul, Nat.reduceDiv, Nat.reduceMod, Nat.reducePow, Nat.reduceLeDiff, Nat.reduceLT, Nat.reduceGT, Nat.reduceEqDiff, Nat.reduceBEq, Nat.reduceSubDiff, Nat.reduceBeqDiff, Int.reduceLE, Int.reduceLT, Int.reduceEq, Int.reduceToNat, Int.reduceAdd, Int.reduceSub, Int.reduceMul, Int.reduceNeg, Int.reduceGE, Int.reduceGT, Int.reduceNegSucc, hb2]
  refine run_sound 4000 _ ?_
  simp -implicitDefEqProofs only [go_sem, Nat.reduceSub, Nat.reduceAdd, Nat.reduceMul, Nat.reduceDiv, Nat.reduceMod, Nat.reducePow, Nat.reduceLeDiff, Nat.reduceLT, Nat.reduceGT, Nat.reduceEqDiff, Nat.reduceBEq, Nat.reduceSubDiff, Nat.reduceBeqDiff, Int.reduceLE, Int.reduceLT, Int.reduceEq, Int.reduceToNat, Int.reduceAdd, Int.reduceSub, Int.reduceMul, Int.reduceNeg, Int.reduceGE, Int.reduceGT, Int.reduceNegSucc]
  refine loop_go ?_
  by_cases h2 : lk.e = 0
  rotate_left
  · have h2' := decide_eq_false h2
    refine run_sound 4000 _ ?_
    simp -implicitDefEqProofs only [go_sem, Nat.reduceSub, Nat.reduceAdd, Nat.reduceMul, Nat.reduceDiv, Nat.reduceMod, Nat.reducePow, Nat.reduceLeDiff, Nat.reduceLT, Nat.reduceGT, Nat.reduceEqDiff, Nat.reduceBEq, Nat.reduceSubDiff, Nat.reduceBeqDiff, Int.reduceLE, Int.reduceLT, Int.reduceEq, Int.reduceToNat, Int.reduceAdd, Int.reduceSub, Int.reduceMul, Int.reduceNeg, Int.reduceGE, Int.reduceGT, Int.reduceNegSucc, h2']
    refine hdone ?_
    simp -implicitDefEqProofs only [go_sem, Nat.reduceSub, Nat.reduceAdd, Nat.reduceMul, Nat.reduceDiv, Nat.reduceMod, Nat.reducePow, Nat.reduceLeDiff, Nat.reduceLT, Nat.reduceGT, Nat.reduceEqDiff, Nat.reduceBEq, Nat.reduceSubDiff, Nat.reduceBeqDiff, Int.reduceLE, Int.reduceLT, Int.reduceEq, Int.reduceToNat, Int.reduceAdd, Int.reduceSub, Int.reduceMul, Int.reduceNeg, Int.reduceGE, Int.reduceGT, Int.reduceNegSucc]
    rw [none (if_neg fun h => h2 h.2.1)]
    exact ⟨rfl, fin_app0 hb e1.symm _⟩
  have h2' := decide_eq_true h2
  refine run_sound 4000 _ ?_
  simp -implicitDefEqProofs only [go_sem, Nat.reduceSub, Nat.reduceAdd, Nat.reduceMul, Nat.reduceDiv, Nat.reduceMod, Nat.reducePow, Nat.reduceLeDiff, Nat.reduceLT, Nat.reduceGT, Nat.reduceEqDiff, Nat.reduceBEq, Nat.reduceSubDiff, Nat.reduceBeqDiff, Int.reduceLE, Int.reduceLT, Int.reduceEq, Int.reduceToNat, Int.reduceAdd, Int.reduceSub, Int.reduceMul, Int.reduceNeg, Int.reduceGE, Int.reduceGT, Int.reduceNegSucc, h2', hb2]
  refine call_E (V_Pass lk.y lk.s ch.c.gate) rfl ?_
  cases h3 : passF lk.y lk.s ch.c.gate
  · refine run_sound 4000 _ ?_
    simp -implicitDefEqProofs only [go_sem, Nat.reduceSub, Nat.reduceAdd, Nat.reduceMul, Nat.reduceDiv, Nat.reduceMod, Nat.reducePow, Nat.reduceLeDiff, Nat.reduceLT, Nat.reduceGT, Nat.reduceEqDiff, Nat.reduceBEq, Nat.reduceSubDiff, Nat.reduceBeqDiff, Int.reduceLE, Int.reduceLT, Int.reduceEq, Int.reduceToNat, Int.reduceAdd, Int.reduceSub, Int.reduceMul, Int.reduceNeg, Int.reduceGE, Int.reduceGT, Int.reduceNegSucc]
    refine hdone ?_
    simp -implicitDefEqProofs only [go_sem, Nat.reduceSub, Nat.reduceAdd, Nat.reduceMul, Nat.reduceDiv, Nat.reduceMod, Nat.reducePow, Nat.reduceLeDiff, Nat.reduceLT, Nat.reduceGT, Nat.reduceEqDiff, Nat.reduceBEq, Nat.reduceSubDiff, Nat.reduceBeqDiff, Int.reduceLE, Int.reduceLT, Int.reduceEq, Int.reduceToNat, Int.reduceAdd, Int.reduceSub, Int.reduceMul, Int.reduceNeg, Int.reduceGE, Int.reduceGT, Int.reduceNegSucc]
    rw [none (if_neg fun h => by rw [h3] at h; cases h.2.2.1)]
    exact ⟨rfl, fin_app0 hb e1.symm _⟩
  obtain ⟨k, hk⟩ : ∃ k, gainF ch.p lk.s short ch.c.table = k := ⟨_, rfl⟩
  have hG := V_gain ch.p lk.s short ch.c.table hok.c.table
  have hkf := gainF_fit ch.p lk.s short ch.c.table
  rw [hk] at none some hG hkf
  refine run_sound 4000 _ ?_
  simp -implicitDefEqProofs only [go_sem, Nat.reduceSub, Nat.reduceAdd, Nat.reduceMul, Nat.reduceDiv, Nat.reduceMod, Nat.reducePow, Nat.reduceLeDiff, Nat.reduceLT, Nat.reduceGT, Nat.reduceEqDiff, Nat.reduceBEq, Nat.reduceSubDiff, Nat.reduceBeqDiff, Int.reduceLE, Int.reduceLT, Int.reduceEq, Int.reduceToNat, Int.reduceAdd, Int.reduceSub, Int.reduceMul, Int.reduceNeg, Int.reduceGE, Int.reduceGT, Int.reduceNegSucc]
  refine draw_sem mixed [93] (fun _ _ v => v = PV k) [(0, []), (1, []), (2, []), (3, []), (4, []), (5, []), (6, []), (7, []), (8, []), (9, []), (10, []), (11, []), (12, []), (13, []), (14, []), (15, []), (16, []), (17, [])] (by kernel_rfl) ?_
  simp -implicitDefEqProofs only [go_sem, Nat.reduceSub, Nat.reduceAdd, Nat.reduceMul, Nat.reduceDiv, Nat.reduceMod, Nat.reducePow, Nat.reduceLeDiff, Nat.reduceLT, Nat.reduceGT, Nat.reduceEqDiff, Nat.reduceBEq, Nat.reduceSubDiff, Nat.reduceBeqDiff, Int.reduceLE, Int.reduceLT, Int.reduceEq, Int.reduceToNat, Int.reduceAdd, Int.reduceSub, Int.reduceMul, Int.reduceNeg, Int.reduceGE, Int.reduceGT, Int.reduceNegSucc]
  simp -implicitDefEqProofs only [go_sem, Nat.reduceSub, Nat.reduceAdd, Nat.reduceMul, Nat.reduceDiv, Nat.reduceMod, Nat.reducePow, Nat.reduceLeDiff, Nat.reduceLT, Nat.reduceGT, Nat.reduceEqDiff, Nat.reduceBEq, Nat.reduceSubDiff, Nat.reduceBeqDiff, Int.reduceLE, Int.reduceLT, Int.reduceEq, Int.reduceToNat, Int.reduceAdd, Int.reduceSub, Int.reduceMul, Int.reduceNeg, Int.reduceGE, Int.reduceGT, Int.reduceNegSucc, hb2]
  refine dcall_A hG rfl rfl rfl (fun _ => Iff.rfl) ?_
  simp -implicitDefEqProofs only [go_sem, Nat.reduceSub, Nat.reduceAdd, Nat.reduceMul, Nat.reduceDiv, Nat.reduceMod, Nat.reducePow, Nat.reduceLeDiff, Nat.reduceLT, Nat.reduceGT, Nat.reduceEqDiff, Nat.reduceBEq, Nat.reduceSubDiff, Nat.reduceBeqDiff, Int.reduceLE, Int.reduceLT, Int.reduceEq, Int.reduceToNat, Int.reduceAdd, Int.reduceSub, Int.reduceMul, Int.reduceNeg, Int.reduceGE, Int.reduceGT, Int.reduceNegSucc, hb2]
  refine run_sound 4000 _ ?_
  simp -implicitDefEqProofs only [go_sem, Nat.reduceSub, Nat.reduceAdd, Nat.reduceMul, Nat.reduceDiv, Nat.reduceMod, Nat.reducePow, Nat.reduceLeDiff, Nat.reduceLT, Nat.reduceGT, Nat.reduceEqDiff, Nat.reduceBEq, Nat.reduceSubDiff, Nat.reduceBeqDiff, Int.reduceLE, Int.reduceLT, Int.reduceEq, Int.reduceToNat, Int.reduceAdd, Int.reduceSub, Int.reduceMul, Int.reduceNeg, Int.reduceGE, Int.reduceGT, Int.reduceNegSucc]
  refine loop_go ?_
  by_cases h4 : k.2 = 0
  rotate_left
  · have h4' := decide_eq_false h4
    refine run_sound 4000 _ ?_
    simp -implicitDefEqProofs only [go_sem, Nat.reduceSub, Nat.reduceAdd, Nat.reduceMul, Nat.reduceDiv, Nat.reduceMod, Nat.reducePow, Nat.reduceLeDiff, Nat.reduceLT, Nat.reduceGT, Nat.reduceEqDiff, Nat.reduceBEq, Nat.reduceSubDiff, Nat.reduceBeqDiff, Int.reduceLE, Int.reduceLT, Int.reduceEq, Int.reduceToNat, Int.reduceAdd, Int.reduceSub, Int.reduceMul, Int.reduceNeg, Int.reduceGE, Int.reduceGT, Int.reduceNegSucc, h4']
    refine hdone ?_
    simp -implicitDefEqProofs only [go_sem, Nat.reduceSub, Nat.reduceAdd, Nat.reduceMul, Nat.reduceDiv, Nat.reduceMod, Nat.reducePow, Nat.reduceLeDiff, Nat.reduceLT, Nat.reduceGT, Nat.reduceEqDiff, Nat.reduceBEq, Nat.reduceSubDiff, Nat.reduceBeqDiff, Int.reduceLE, Int.reduceLT, Int.reduceEq, Int.reduceToNat, Int.reduceAdd, Int.reduceSub, Int.reduceMul, Int.reduceNeg, Int.reduceGE, Int.reduceGT, Int.reduceNegSucc]
    rw [none (if_neg fun h => h4 h.2.2.2.1)]
    exact ⟨rfl, fin_app0 hb e1.symm _⟩
  have h4' := decide_eq_true h4
  obtain ⟨js, hjs⟩ : ∃ js, jState ch.x k.1 lk.y = js := ⟨_, rfl⟩
  have hS := V_State ch.x k.1 lk.y hok.x hkf.in64
  have hsf := jState_fit ch.x k.1 lk.y
  rw [hjs] at none some hS hsf
  refine run_sound 4000 _ ?_
  simp -implicitDefEqProofs only [go_sem, Nat.reduceSub, Nat.reduceAdd, Nat.reduceMul, Nat.reduceDiv, Nat.reduceMod, Nat.reducePow, Nat.reduceLeDiff, Nat.reduceLT, Nat.reduceGT, Nat.reduceEqDiff, Nat.reduceBEq, Nat.reduceSubDiff, Nat.reduceBeqDiff, Int.reduceLE, Int.reduceLT, Int.reduceEq, Int.reduceToNat, Int.reduceAdd, Int.reduceSub, Int.reduceMul, Int.reduceNeg, Int.reduceGE, Int.reduceGT, Int.reduceNegSucc, h4']
  refine draw_sem mixed [94] (fun _ _ v => v = PV js) [(0, []), (1, []), (2, []), (3, []), (4, []), (5, []), (6, []), (7, []), (8, []), (9, []), (10, []), (11, []), (12, []), (13, [])] (by kernel_rfl) ?_
  simp -implicitDefEqProofs only [go_sem, Nat.reduceSub, Nat.reduceAdd, Nat.reduceMul, Nat.reduceDiv, Nat.reduceMod, Nat.reducePow, Nat.reduceLeDiff, Nat.reduceLT, Nat.reduceGT, Nat.reduceEqDiff, Nat.reduceBEq, Nat.reduceSubDiff, Nat.reduceBeqDiff, Int.reduceLE, Int.reduceLT, Int.reduceEq, Int.reduceToNat, Int.reduceAdd, Int.reduceSub, Int.reduceMul, Int.reduceNeg, Int.reduceGE, Int.reduceGT, Int.reduceNegSucc]
  simp -implicitDefEqProofs only [go_sem, Nat.reduceSub, Nat.reduceAdd, Nat.reduceMul, Nat.reduceDiv, Nat.reduceMod, Nat.reducePow, Nat.reduceLeDiff, Nat.reduceLT, Nat.reduceGT, Nat.reduceEqDiff, Nat.reduceBEq, Nat.reduceSubDiff, Nat.reduceBeqDiff, Int.reduceLE, Int.reduceLT, Int.reduceEq, Int.reduceToNat, Int.reduceAdd, Int.reduceSub, Int.reduceMul, Int.reduceNeg, Int.reduceGE, Int.reduceGT, Int.reduceNegSucc, hb2]
  refine dcall_A hS rfl rfl rfl (fun _ => Iff.rfl) ?_
  simp -implicitDefEqProofs only [go_sem, Nat.reduceSub, Nat.reduceAdd, Nat.reduceMul, Nat.reduceDiv, Nat.reduceMod, Nat.reducePow, Nat.reduceLeDiff, Nat.reduceLT, Nat.reduceGT, Nat.reduceEqDiff, Nat.reduceBEq, Nat.reduceSubDiff, Nat.reduceBeqDiff, Int.reduceLE, Int.reduceLT, Int.reduceEq, Int.reduceToNat, Int.reduceAdd, Int.reduceSub, Int.reduceMul, Int.reduceNeg, Int.reduceGE, Int.reduceGT, Int.reduceNegSucc, hb2]
  refine run_sound 4000 _ ?_
  simp -implicitDefEqProofs only [go_sem, Nat.reduceSub, Nat.reduceAdd, Nat.reduceMul, Nat.reduceDiv, Nat.reduceMod, Nat.reducePow, Nat.reduceLeDiff, Nat.reduceLT, Nat.reduceGT, Nat.reduceEqDiff, Nat.reduceBEq, Nat.reduceSubDiff, Nat.reduceBeqDiff, Int.reduceLE, Int.reduceLT, Int.reduceEq, Int.reduceToNat, Int.reduceAdd, Int.reduceSub, Int.reduceMul, Int.reduceNeg, Int.reduceGE, Int.reduceGT, Int.reduceNegSucc]
  refine loop_go ?_
  by_cases h5 : js.2 = 0
  rotate_left
  · have h5' := decide_eq_false h5
    refine run_sound 4000 _ ?_
    simp -implicitDefEqProofs only [go_sem, Nat.reduceSub, Nat.reduceAdd, Nat.reduceMul, Nat.reduceDiv, Nat.reduceMod, Nat.reducePow, Nat.reduceLeDiff, Nat.reduceLT, Nat.reduceGT, Nat.reduceEqDiff, Nat.reduceBEq, Nat.reduceSubDiff, Nat.reduceBeqDiff, Int.reduceLE, Int.reduceLT, Int.reduceEq, Int.reduceToNat, Int.reduceAdd, Int.reduceSub, Int.reduceMul, Int.reduceNeg, Int.reduceGE, Int.reduceGT, Int.reduceNegSucc, h5']
    refine hdone ?_
    simp -implicitDefEqProofs only [go_sem, Nat.reduceSub, Nat.reduceAdd, Nat.reduceMul, Nat.reduceDiv, Nat.reduceMod, Nat.reducePow, Nat.reduceLeDiff, Nat.reduceLT, Nat.reduceGT, Nat.reduceEqDiff, Nat.reduceBEq, Nat.reduceSubDiff, Nat.reduceBeqDiff, Int.reduceLE, Int.reduceLT, Int.reduceEq, Int.reduceToNat, Int.reduceAdd, Int.reduceSub, Int.reduceMul, Int.reduceNeg, Int.reduceGE, Int.reduceGT, Int.reduceNegSucc]
    rw [none (if_neg fun h => h5 h.2.2.2.2.1)]
    exact ⟨rfl, fin_app0 hb e1.symm _⟩
  have h5' := decide_eq_true h5
  obtain ⟨jd, hjd⟩ : ∃ jd, jDoubt ch.p k.1 lk.s = jd := ⟨_, rfl⟩
  have hD := V_Doubt ch.p k.1 lk.s hkf.in64
  have hdf := jDoubt_fit ch.p k.1 lk.s
  rw [hjd] at none some hD hdf
  refine run_sound 4000 _ ?_
  simp -implicitDefEqProofs only [go_sem, Nat.reduceSub, Nat.reduceAdd, Nat.reduceMul, Nat.reduceDiv, Nat.reduceMod, Nat.reducePow, Nat.reduceLeDiff, Nat.reduceLT, Nat.reduceGT, Nat.reduceEqDiff, Nat.reduceBEq, Nat.reduceSubDiff, Nat.reduceBeqDiff, Int.reduceLE, Int.reduceLT, Int.reduceEq, Int.reduceToNat, Int.reduceAdd, Int.reduceSub, Int.reduceMul, Int.reduceNeg, Int.reduceGE, Int.reduceGT, Int.reduceNegSucc, h5']
  refine draw_sem mixed [95] (fun _ _ v => v = PS jd) [(0, []), (1, []), (2, []), (3, []), (4, []), (5, []), (6, []), (7, []), (8, []), (9, []), (10, []), (11, []), (12, []), (13, [])] (by kernel_rfl) ?_
  simp -implicitDefEqProofs only [go_sem, Nat.reduceSub, Nat.reduceAdd, Nat.reduceMul, Nat.reduceDiv, Nat.reduceMod, Nat.reducePow, Nat.reduceLeDiff, Nat.reduceLT, Nat.reduceGT, Nat.reduceEqDiff, Nat.reduceBEq, Nat.reduceSubDiff, Nat.reduceBeqDiff, Int.reduceLE, Int.reduceLT, Int.reduceEq, Int.reduceToNat, Int.reduceAdd, Int.reduceSub, Int.reduceMul, Int.reduceNeg, Int.reduceGE, Int.reduceGT, Int.reduceNegSucc]
  simp -implicitDefEqProofs only [go_sem, Nat.reduceSub, Nat.reduceAdd, Nat.reduceMul, Nat.reduceDiv, Nat.reduceMod, Nat.reducePow, Nat.reduceLeDiff, Nat.reduceLT, Nat.reduceGT, Nat.reduceEqDiff, Nat.reduceBEq, Nat.reduceSubDiff, Nat.reduceBeqDiff, Int.reduceLE, Int.reduceLT, Int.reduceEq, Int.reduceToNat, Int.reduceAdd, Int.reduceSub, Int.reduceMul, Int.reduceNeg, Int.reduceGE, Int.reduceGT, Int.reduceNegSucc, hb2]
  refine dcall_A hD rfl rfl rfl (fun _ => Iff.rfl) ?_
  simp -implicitDefEqProofs only [go_sem, Nat.reduceSub, Nat.reduceAdd, Nat.reduceMul, Nat.reduceDiv, Nat.reduceMod, Nat.reducePow, Nat.reduceLeDiff, Nat.reduceLT, Nat.reduceGT, Nat.reduceEqDiff, Nat.reduceBEq, Nat.reduceSubDiff, Nat.reduceBeqDiff, Int.reduceLE, Int.reduceLT, Int.reduceEq, Int.reduceToNat, Int.reduceAdd, Int.reduceSub, Int.reduceMul, Int.reduceNeg, Int.reduceGE, Int.reduceGT, Int.reduceNegSucc, hb2]
  refine run_sound 4000 _ ?_
  simp -implicitDefEqProofs only [go_sem, Nat.reduceSub, Nat.reduceAdd, Nat.reduceMul, Nat.reduceDiv, Nat.reduceMod, Nat.reducePow, Nat.reduceLeDiff, Nat.reduceLT, Nat.reduceGT, Nat.reduceEqDiff, Nat.reduceBEq, Nat.reduceSubDiff, Nat.reduceBeqDiff, Int.reduceLE, Int.reduceLT, Int.reduceEq, Int.reduceToNat, Int.reduceAdd, Int.reduceSub, Int.reduceMul, Int.reduceNeg, Int.reduceGE, Int.reduceGT, Int.reduceNegSucc]
  refine loop_go ?_
  by_cases h6 : jd.2 = 0
  rotate_left
  · have h6' := decide_eq_false h6
    refine run_sound 4000 _ ?_
    simp -implicitDefEqProofs only [go_sem, Nat.reduceSub, Nat.reduceAdd, Nat.reduceMul, Nat.reduceDiv, Nat.reduceMod, Nat.reducePow, Nat.reduceLeDiff, Nat.reduceLT, Nat.reduceGT, Nat.reduceEqDiff, Nat.reduceBEq, Nat.reduceSubDiff, Nat.reduceBeqDiff, Int.reduceLE, Int.reduceLT, Int.reduceEq, Int.reduceToNat, Int.reduceAdd, Int.reduceSub, Int.reduceMul, Int.reduceNeg, Int.reduceGE, Int.reduceGT, Int.reduceNegSucc, h6']
    refine hdone ?_
    simp -implicitDefEqProofs only [go_sem, Nat.reduceSub, Nat.reduceAdd, Nat.reduceMul, Nat.reduceDiv, Nat.reduceMod, Nat.reducePow, Nat.reduceLeDiff, Nat.reduceLT, Nat.reduceGT, Nat.reduceEqDiff, Nat.reduceBEq, Nat.reduceSubDiff, Nat.reduceBeqDiff, Int.reduceLE, Int.reduceLT, Int.reduceEq, Int.reduceToNat, Int.reduceAdd, Int.reduceSub, Int.reduceMul, Int.reduceNeg, Int.reduceGE, Int.reduceGT, Int.reduceNegSucc]
    rw [none (if_neg fun h => h6 h.2.2.2.2.2)]
    exact ⟨rfl, fin_app0 hb e1.symm _⟩
  have h6' := decide_eq_true h6
  have h3' := h3
  refine run_sound 4000 _ ?_
  simp -implicitDefEqProofs only [go_sem, Nat.reduceSub, Nat.reduceAdd, Nat.reduceMul, Nat.reduceDiv, Nat.reduceMod, Nat.reducePow, Nat.reduceLeDiff, Nat.reduceLT, Nat.reduceGT, Nat.reduceEqDiff, Nat.reduceBEq, Nat.reduceSubDiff, Nat.reduceBeqDiff, Int.reduceLE, Int.reduceLT, Int.reduceEq, Int.reduceToNat, Int.reduceAdd, Int.reduceSub, Int.reduceMul, Int.reduceNeg, Int.reduceGE, Int.reduceGT, Int.reduceNegSucc, h6']
  refine call_X (H_kept _ b w ch js.1 jd.1 hok.c hsf.in64 hdf.in64 (hb2 _)) fun h' hh => ?_
  obtain ⟨e', he⟩ : ∃ e', h' = h1 ++ e' := by obtain ⟨ext2, rfl⟩ := hh; exact ⟨_, by simp only [appB_assoc]; rfl⟩
  have hb3 : bget h' b = Option.some ⟨ch.cells w, 55⟩ := by rw [he]; exact hb2 _
  refine run_sound 4000 _ ?_
  simp -implicitDefEqProofs only [go_sem, Nat.reduceSub, Nat.reduceAdd, Nat.reduceMul, Nat.reduceDiv, Nat.reduceMod, Nat.reducePow, Nat.reduceLeDiff, Nat.reduceLT, Nat.reduceGT, Nat.reduceEqDiff, Nat.reduceBEq, Nat.reduceSubDiff, Nat.reduceBeqDiff, Int.reduceLE, Int.reduceLT, Int.reduceEq, Int.reduceToNat, Int.reduceAdd, Int.reduceSub, Int.reduceMul, Int.reduceNeg, Int.reduceGE, Int.reduceGT, Int.reduceNegSucc, hb3]
  refine hdone ?_
  simp -implicitDefEqProofs only [go_sem, Nat.reduceSub, Nat.reduceAdd, Nat.reduceMul, Nat.reduceDiv, Nat.reduceMod, Nat.reducePow, Nat.reduceLeDiff, Nat.reduceLT, Nat.reduceGT, Nat.reduceEqDiff, Nat.reduceBEq, Nat.reduceSubDiff, Nat.reduceBeqDiff, Int.reduceLE, Int.reduceLT, Int.reduceEq, Int.reduceToNat, Int.reduceAdd, Int.reduceSub, Int.reduceMul, Int.reduceNeg, Int.reduceGE, Int.reduceGT, Int.reduceNegSucc]
  rw [some _ (if_pos ⟨h0, h2, h3, h4, h5, h6⟩)]
  refine ⟨rfl, ?_⟩
  have e3 : h' = hp ++ (ext ++ e') := by rw [he, ← e1, List.append_assoc]
  have := fin_app (x := ⟨({ ch with x := (keptF ch.c js.1 jd.1).1, p := (keptF ch.c js.1 jd.1).2 } : Chn).cells w, 55⟩) hb e3 []
  rw [List.append_nil] at this
  exact this
end Go.Proofs.YtakcibjjfkgadaaGreatDoor
/- Layer 20: channels: the memory of one; samples that are sought. -/
set_option linter.unusedSimpArgs false
set_option linter.unusedVariables false
set_option maxRecDepth 100000
set_option pp.maxSteps 400
set_option maxHeartbeats 4000000
namespace Go.Proofs.YtakcibjjfkgadaaGreatDoor
open Go.Ev
theorem infI : tInf Tryz.prog 2 = some (1, 8, some 1) := by kernel_rfl
theorem undI : (Tryz.prog).underlying 42 = some (.slice 2) := by kernel_rfl

/-- A channel lies in the memory. -/
structure Chan (h : List Blk) (b : Nat) (w : Pl) (ch : Chn) : Prop where
  b : bget h b = some ⟨ch.cells w, 55⟩
  f : bget h w.f = some ⟨ch.fd.cells ch.c, 117⟩
  g : bget h w.g = some ⟨ch.g.cells, 110⟩
  s : (w.s = none ∧ ch.first = []) ∨ ∃ s cap, w.s = some (s, cap) ∧ ch.first.length ≤ cap ∧ bget h s = some ⟨ch.first.map I ++ List.replicate (cap - ch.first.length) .junk, 2⟩
/-- One step of it: what else lies in the memory stays. -/
structure Mv (h h' : List Blk) (b : Nat) (w w' : Pl) : Prop where
  fr : Frm (b :: w.all) h h'
  f : w'.f = w.f
  g : w'.g = w.g
  s : ∀ s cap, w'.s = some (s, cap) → (∃ cap0, w.s = some (s, cap0)) ∨ h.length ≤ s
theorem bget_el {h : List Blk} {i j : Nat} {k l : Blk} (hi : bget h i = some k) (hj : bget h j = some l) (he : k.elem ≠ l.elem) : i ≠ j := fun e => by
  subst e; rw [hi] at hj; cases hj; exact he rfl
theorem Chan.app {h : List Blk} {b : Nat} {w : Pl} {ch : Chn} (c : Chan h b w ch) (ext : List Blk) : Chan (h ++ ext) b w ch :=
  ⟨bget_app c.b ext, bget_app c.f ext, bget_app c.g ext, c.s.imp id fun ⟨s, cap, h1, h2, h3⟩ => ⟨s, cap, h1, h2, bget_app h3 ext⟩⟩
/-- Its own block is turned. -/
theorem Chan.setb {h : List Blk} {b : Nat} {w : Pl} {ch : Chn} (c : Chan h b w ch) (ch' : Chn) (hc : ch'.c = ch.c) (hf : ch'.fd = ch.fd) (hg : ch'.g = ch.g) (hs : ch'.first = ch.first) : Chan (bset h b ⟨ch'.cells w, 55⟩) b w ch' := by
  refine ⟨bget_bset c.b _, ?_, ?_, ?_⟩
  · rw [bget_ne (bget_el c.b c.f (by show (55 : Nat) ≠ 117; decide)), hc, hf]; exact c.f
  · rw [bget_ne (bget_el c.b c.g (by show (55 : Nat) ≠ 110; decide)), hg]; exact c.g
  · rw [hs]
    exact c.s.imp id fun ⟨s, cap, h1, h2, h3⟩ => ⟨s, cap, h1, h2, by rw [bget_ne (bget_el c.b h3 (by show (55 : Nat) ≠ 2; decide))]; exact h3⟩
theorem Mv.refl (h : List Blk) (b : Nat) (w : Pl) : Mv h h b w w := ⟨.refl _ _, rfl, rfl, fun s cap e => .inl ⟨cap, e⟩⟩
theorem Mv.app {h : List Blk} {b : Nat} {w : Pl} (ext : List Blk) : Mv h (h ++ ext) b w w := ⟨.app _ _ _, rfl, rfl, fun s cap e => .inl ⟨cap, e⟩⟩
theorem Mv.setb {h : List Blk} {b : Nat} {w : Pl} (x : Blk) : Mv h (bset h b x) b w w := ⟨.set (by simp) _, rfl, rfl, fun s cap e => .inl ⟨cap, e⟩⟩
theorem Pl.mem_all {w : Pl} {j : Nat} : j ∈ w.all ↔ j = w.f ∨ j = w.g ∨ ∃ cap, w.s = some (j, cap) := by
  obtain ⟨f, g, s⟩ := w
  rcases s with _ | ⟨s, cap⟩
  · simp [Pl.all]
  · simp [Pl.all, eq_comm]
theorem Mv.trans {h h1 h2 : List Blk} {b : Nat} {w w1 w2 : Pl} (a : Mv h h1 b w w1) (c : Mv h1 h2 b w1 w2) : Mv h h2 b w w2 := by
  refine ⟨a.fr.trans' c.fr ?_, c.f.trans a.f, c.g.trans a.g, fun s cap e => ?_⟩
  · intro j hj hm
    rcases List.mem_cons.1 hm with hm | hm
    · exact List.mem_cons.2 (.inl hm)
    · refine List.mem_cons.2 (.inr (Pl.mem_all.2 ?_))
      rcases Pl.mem_all.1 hm with e | e | ⟨cap, e⟩
      · exact .inl (e.trans a.f)
      · exact .inr (.inl (e.trans a.g))
      · rcases a.s _ _ e with ⟨cap0, e0⟩ | hl
        · exact .inr (.inr ⟨cap0, e0⟩)
        · omega
  · rcases c.s s cap e with ⟨cap1, e1⟩ | hl
    · rcases a.s _ _ e1 with h' | h'
      · exact .inl h'
      · exact .inr h'
    · exact .inr (Nat.le_trans a.fr.le hl)

theorem Chan.nb {h : List Blk} {b : Nat} {w : Pl} {ch : Chn} (c : Chan h b w ch) : b ∉ w.all := by
  intro hm
  rcases Pl.mem_all.1 hm with e | e | ⟨cap, e⟩
  · exact bget_el c.b c.f (by show (55 : Nat) ≠ 117; decide) e
  · exact bget_el c.b c.g (by show (55 : Nat) ≠ 110; decide) e
  · rcases c.s with ⟨h1, _⟩ | ⟨s, cap', h1, _, h3⟩
    · rw [h1] at e; cases e
    · rw [h1] at e
      cases e
      exact bget_el c.b h3 (by show (55 : Nat) ≠ 2; decide) rfl
theorem Chan.nf {h : List Blk} {b : Nat} {w : Pl} {ch : Chn} (c : Chan h b w ch) (cap : Nat) : w.s ≠ some (w.f, cap) := by
  intro e
  rcases c.s with ⟨h1, _⟩ | ⟨s, cap', h1, _, h3⟩
  · rw [h1] at e; cases e
  · rw [h1] at e
    cases e
    exact bget_el c.f h3 (by show (117 : Nat) ≠ 2; decide) rfl
theorem Chan.ng {h : List Blk} {b : Nat} {w : Pl} {ch : Chn} (c : Chan h b w ch) (cap : Nat) : w.s ≠ some (w.g, cap) := by
  intro e
  rcases c.s with ⟨h1, _⟩ | ⟨s, cap', h1, _, h3⟩
  · rw [h1] at e; cases e
  · rw [h1] at e
    cases e
    exact bget_el c.g h3 (by show (110 : Nat) ≠ 2; decide) rfl
theorem Chan.setg {h : List Blk} {b : Nat} {w : Pl} {ch : Chn} (c : Chan h b w ch) (g : Gnd) : Chan (bset h w.g ⟨g.cells, 110⟩) b w { ch with g := g } := by
  refine ⟨?_, ?_, bget_bset c.g _, ?_⟩
  · rw [bget_ne (Ne.symm (bget_el c.b c.g (by show (55 : Nat) ≠ 110; decide)))]; exact c.b
  · rw [bget_ne (bget_el c.g c.f (by show (110 : Nat) ≠ 117; decide))]; exact c.f
  · exact c.s.imp id fun ⟨s, cap, h1, h2, h3⟩ => ⟨s, cap, h1, h2, by rw [bget_ne (bget_el c.g h3 (by show (110 : Nat) ≠ 2; decide))]; exact h3⟩
theorem Mv.setg {h : List Blk} {b : Nat} {w : Pl} (x : Blk) : Mv h (bset h w.g x) b w w := ⟨.set (List.mem_cons.2 (.inr (Pl.mem_all.2 (.inr (.inl rfl))))) _, rfl, rfl, fun s cap e => .inl ⟨cap, e⟩⟩
theorem O_first {h : List Blk} {b : Nat} {w : Pl} {ch : Chn} (c : Chan h b w ch) (hn : ch.first.length < 16) (n : Int) {fs : List Int} (hfs : ch.first ++ [n] = fs) (x : Nat) (hx : bget h x = some ⟨[I n], 2⟩) {s y : Operand} :
    OpSem Tryz.prog GD (.call { callee := .builtin .append, args := #[s, y], argTypes := #[42, 42] }) [w.sl ch.first.length, .slice x 0 1 1] h (fun ao h' => ∃ cap', fs.length ≤ cap' ∧ ao = .ret (.slice h.length 0 fs.length cap') ∧
      (∀ j, j < h.length → (∀ cap, w.s ≠ some (j, cap)) → bget h' j = bget h j) ∧ h.length < h'.length ∧ bget h' h.length = some ⟨fs.map I ++ List.replicate (cap' - fs.length) .junk, 2⟩) := by
  subst hfs
  have hl1 : (ch.first ++ [n]).length = ch.first.length + 1 := by simp
  rw [hl1]
  rcases c.s with ⟨h1, h2⟩ | ⟨sb, cap, h1, h2, h3⟩
  · have e : w.sl ch.first.length = .raw (.slice none 0 0) := by unfold Pl.sl; rw [h1]
    rw [e, h2]
    refine OpSem.mono (append_op' (bt := 8) (sz := 1) (mm := 1) (news := [I n]) undI infI (Base.nil (h := h) (e := 2) (sz := 1)) (src_own (l := 1) (off := 0) (c := 1) hx rfl) rfl rfl (by decide) (by decide) (by decide) (by decide)) ?_
    rintro ao h' ⟨cap', q1, q2, q3⟩
    subst q3
    refine ⟨cap', q1, q2, fun j hj _ => by rw [bget_eq, bget_eq]; exact List.getElem?_append_left hj, by simp, ?_⟩
    rw [bget_len]
    simp [bget_z]
  · have e : w.sl ch.first.length = .slice sb 0 ch.first.length cap := by unfold Pl.sl; rw [h1]
    rw [e]
    have hlen : (ch.first.map I ++ List.replicate (cap - ch.first.length) AV.junk).length = cap * 1 := by simp; omega
    refine OpSem.mono (append_op' (bt := 8) (sz := 1) (mm := 1) (news := [I n]) undI infI (Base.own (n := ch.first.length) (cap := cap) h3 rfl hlen h2) (src_own (l := 1) (off := 0) (c := 1) hx rfl) rfl rfl (by decide) (by decide) (by omega) (by omega)) ?_
    rintro ao h' ⟨cap', q1, q2, q3⟩
    subst q3
    refine ⟨cap', q1, q2, fun j hj hne => ?_, by rw [List.length_append, bset_length]; simp, ?_⟩
    · rw [bget_eq, List.getElem?_append_left (by rw [bset_length]; exact hj), ← bget_eq]
      exact bget_ne (fun e => hne cap (by rw [h1, e])) _
    · have := bget_len (bset h sb ⟨[], 2⟩) [⟨(ch.first.map I ++ List.replicate (cap - ch.first.length) AV.junk).take (ch.first.length * 1) ++ [I n] ++ List.replicate ((cap' - (ch.first.length + 1)) * 1) .junk, 2⟩]
      rw [bset_length] at this
      rw [this]
      simp [bget_z]
theorem H_Set' (hp : List Blk) (b : Nat) (g : Gnd) (c : Int) (hb : bget hp b = some ⟨g.cells, 110⟩) :
    HSem Tryz.prog GD 85 [.ptr b 0, I c] hp (fun ao h' => (∃ e, ao = .ret (I e)) ∧ h' = bset hp b ⟨(setF g c).cells, 110⟩) := by
  refine (H_Set hp b g c hb).mono fun ao h' ⟨h1, h2⟩ => ⟨h1, ?_⟩
  rw [h2]
  split
  · rfl
  · rename_i hn
    unfold setF
    rw [if_neg hn]
    exact (bset_same hb).symm

theorem H_seek (hp : List Blk) (b : Nat) (w : Pl) (ch : Chn) (n : Int) (hok : ch.ok) (hc : Chan hp b w ch) :
    HSem Tryz.prog GD 33 [.ptr b 0, I n] hp (fun ao h' => ao = .ret (.bool (seekF ch n).2) ∧ ∃ w', Chan h' b w' (seekF ch n).1 ∧ Mv hp h' b w w') := by
  have hb := hc.b
  obtain ⟨fs, hfs⟩ : ∃ fs, ch.first ++ [n] = fs := ⟨_, rfl⟩
  have hl1 : ch.first.length + 1 = fs.length := by rw [← hfs]; simp
  unfold seekF
  rw [hl1, hfs]
  refine HSem.of_body Tryz.func33 rfl (by kernel_rfl) ?_
  refine run_sound 4000 _ ?_
  simp -implicitDefEqProofs only [Tryz.f33, go_sem, Nat.reduceSub, Nat.reduceAdd, Nat.reduceMul, Nat.reduceDiv, Nat.reduceMod, Nat.reducePow, Nat.reduceLeDiff, Nat.reduceLT, Nat.reduceGT, Nat.reduceEqDiff, Nat.reduceBEq, Nat.reduceSubDiff, Nat.reduceBeqDiff, Int.reduceLE, Int.reduceLT, Int.reduceEq, Int.reduceToNat, Int.reduceAdd, Int.reduceSub, Int.reduceMul, Int.reduceNeg, Int.reduceGE, Int.reduceGT, Int.reduceNegSucc, hb, bget_app hb]
  have c1 := hc.app [⟨[I n], 2⟩]
  refine oper_sem rfl (O_first c1 hok.n n hfs hp.length (by simp -implicitDefEqProofs only [go_sem, Nat.reduceSub, Nat.reduceAdd, Nat.reduceMul, Nat.reduceDiv, Nat.reduceMod, Nat.reducePow, Nat.reduceLeDiff, Nat.reduceLT, Nat.reduceGT, Nat.reduceEqDiff, Nat.reduceBEq, Nat.reduceSubDiff, Nat.reduceBeqDiff, Int.reduceLE, Int.reduceLT, Int.reduceEq, Int.reduceToNat, Int.reduceAdd, Int.reduceSub, Int.reduceMul, Int.reduceNeg, Int.reduceGE, Int.reduceGT, Int.reduceNegSucc])) ?_
  rintro ao h2 ⟨cap', q1, rfl, q2, q3, q4⟩
  obtain ⟨z, hz⟩ : ∃ z, (hp ++ [⟨[I n], 2⟩] : List Blk).length = z := ⟨_, rfl⟩
  have hz' : z = hp.length + 1 := by rw [← hz]; simp
  rw [hz] at q2 q3 q4 ⊢
  have lb := bget_lt hb
  have hb2 : bget h2 b = some ⟨ch.cells w, 55⟩ := (q2 b (by omega) fun cap e => hc.nb (Pl.mem_all.2 (.inr (.inr ⟨cap, e⟩)))).trans c1.b
  have hbz : b ≠ z := by omega
  have hm : ∀ ch' : Chn, ch'.c = ch.c → ch'.fd = ch.fd → ch'.g = ch.g → ch'.first = fs → Chan (bset h2 b ⟨ch'.cells { w with s := some (z, cap') }, 55⟩) b { w with s := some (z, cap') } ch' := fun ch' e1 e2 e3 e4 => by
    refine ⟨bget_bset hb2 _, ?_, ?_, .inr ⟨z, cap', rfl, by rw [e4]; exact q1, ?_⟩⟩
    · show bget _ w.f = _
      rw [bget_ne (bget_el hc.b hc.f (by show (55 : Nat) ≠ 117; decide)), e1, e2]
      exact (q2 w.f (by have := bget_lt hc.f; omega) hc.nf).trans c1.f
    · show bget _ w.g = _
      rw [bget_ne (bget_el hc.b hc.g (by show (55 : Nat) ≠ 110; decide)), e3]
      exact (q2 w.g (by have := bget_lt hc.g; omega) hc.ng).trans c1.g
    · rw [bget_ne hbz, e4]; exact q4
  have mv : ∀ x : Blk, Mv hp (bset h2 b x) b w { w with s := some (z, cap') } := fun x => by
    refine ⟨⟨by rw [bset_length]; omega, fun j hj hn => ?_⟩, rfl, rfl, fun s cap e => .inr ?_⟩
    · rw [bget_ne (fun e => hn (by rw [e]; simp)), q2 j (by omega) fun cap e => hn (List.mem_cons.2 (.inr (Pl.mem_all.2 (.inr (.inr ⟨cap, e⟩))))), bget_eq, bget_eq]
      exact List.getElem?_append_left hj
    · cases e; omega
  by_cases h16 : fs.length < 16
  · have d1 : decide ((fs.length : Int) < 16) = true := decide_eq_true (by omega)
    rw [if_pos h16]
    refine run_sound 4000 _ ?_
    simp -implicitDefEqProofs only [go_sem, Nat.reduceSub, Nat.reduceAdd, Nat.reduceMul, Nat.reduceDiv, Nat.reduceMod, Nat.reducePow, Nat.reduceLeDiff, Nat.reduceLT, Nat.reduceGT, Nat.reduceEqDiff, Nat.reduceBEq, Nat.reduceSubDiff, Nat.reduceBeqDiff, Int.reduceLE, Int.reduceLT, Int.reduceEq, Int.reduceToNat, Int.reduceAdd, Int.reduceSub, Int.reduceMul, Int.reduceNeg, Int.reduceGE, Int.reduceGT, Int.reduceNegSucc, hb2, bget_bset hb2, d1]
    refine hdone ?_
    simp -implicitDefEqProofs only [go_sem, Nat.reduceSub, Nat.reduceAdd, Nat.reduceMul, Nat.reduceDiv, Nat.reduceMod, Nat.reducePow, Nat.reduceLeDiff, Nat.reduceLT, Nat.reduceGT, Nat.reduceEqDiff, Nat.reduceBEq, Nat.reduceSubDiff, Nat.reduceBeqDiff, Int.reduceLE, Int.reduceLT, Int.reduceEq, Int.reduceToNat, Int.reduceAdd, Int.reduceSub, Int.reduceMul, Int.reduceNeg, Int.reduceGE, Int.reduceGT, Int.reduceNegSucc]
    exact ⟨_, hm { ch with first := fs } rfl rfl rfl rfl, mv _⟩
  have d1 : decide ((fs.length : Int) < 16) = false := decide_eq_false (by omega)
  rw [if_neg h16]
  have n16 := hok.n
  refine run_sound 4000 _ ?_
  simp -implicitDefEqProofs only [go_sem, Nat.reduceSub, Nat.reduceAdd, Nat.reduceMul, Nat.reduceDiv, Nat.reduceMod, Nat.reducePow, Nat.reduceLeDiff, Nat.reduceLT, Nat.reduceGT, Nat.reduceEqDiff, Nat.reduceBEq, Nat.reduceSubDiff, Nat.reduceBeqDiff, Int.reduceLE, Int.reduceLT, Int.reduceEq, Int.reduceToNat, Int.reduceAdd, Int.reduceSub, Int.reduceMul, Int.reduceNeg, Int.reduceGE, Int.reduceGT, Int.reduceNegSucc, hb2, bget_bset hb2, d1]
  refine call_X (H_meanOf _ z cap' fs _ (by omega) ((bget_ne hbz _).trans q4)) fun h' hh => ?_
  subst hh
  obtain ⟨m, hmm⟩ : ∃ m, (meanL fs).1 = m := ⟨_, rfl⟩
  rw [hmm]
  refine run_sound 4000 _ ?_
  simp -implicitDefEqProofs only [go_sem, Nat.reduceSub, Nat.reduceAdd, Nat.reduceMul, Nat.reduceDiv, Nat.reduceMod, Nat.reducePow, Nat.reduceLeDiff, Nat.reduceLT, Nat.reduceGT, Nat.reduceEqDiff, Nat.reduceBEq, Nat.reduceSubDiff, Nat.reduceBeqDiff, Int.reduceLE, Int.reduceLT, Int.reduceEq, Int.reduceToNat, Int.reduceAdd, Int.reduceSub, Int.reduceMul, Int.reduceNeg, Int.reduceGE, Int.reduceGT, Int.reduceNegSucc]
  rw [hmm]
  refine call_E (V_Altitude m) rfl ?_
  refine run_sound 4000 _ ?_
  simp -implicitDefEqProofs only [go_sem, Nat.reduceSub, Nat.reduceAdd, Nat.reduceMul, Nat.reduceDiv, Nat.reduceMod, Nat.reducePow, Nat.reduceLeDiff, Nat.reduceLT, Nat.reduceGT, Nat.reduceEqDiff, Nat.reduceBEq, Nat.reduceSubDiff, Nat.reduceBeqDiff, Int.reduceLE, Int.reduceLT, Int.reduceEq, Int.reduceToNat, Int.reduceAdd, Int.reduceSub, Int.reduceMul, Int.reduceNeg, Int.reduceGE, Int.reduceGT, Int.reduceNegSucc, hb2, bget_bset hb2, bset_bset]
  refine call_A (V_Diag ch.c.start) rfl rfl ?_
  refine run_sound 4000 _ ?_
  simp -implicitDefEqProofs only [go_sem, Nat.reduceSub, Nat.reduceAdd, Nat.reduceMul, Nat.reduceDiv, Nat.reduceMod, Nat.reducePow, Nat.reduceLeDiff, Nat.reduceLT, Nat.reduceGT, Nat.reduceEqDiff, Nat.reduceBEq, Nat.reduceSubDiff, Nat.reduceBeqDiff, Int.reduceLE, Int.reduceLT, Int.reduceEq, Int.reduceToNat, Int.reduceAdd, Int.reduceSub, Int.reduceMul, Int.reduceNeg, Int.reduceGE, Int.reduceGT, Int.reduceNegSucc, hb2, bget_bset hb2, bset_bset]
  have cF := hm { ch with first := fs, x := ⟨(altF m).1, 0, 0⟩, p := dgn ch.c.start } rfl rfl rfl rfl
  refine call_H (H_Set' _ w.g ch.g m cF.g) fun ao h' hh => ?_
  obtain ⟨⟨e, rfl⟩, rfl⟩ := hh
  refine ⟨_, rfl, ?_⟩
  refine run_sound 4000 _ ?_
  simp -implicitDefEqProofs only [go_sem, Nat.reduceSub, Nat.reduceAdd, Nat.reduceMul, Nat.reduceDiv, Nat.reduceMod, Nat.reducePow, Nat.reduceLeDiff, Nat.reduceLT, Nat.reduceGT, Nat.reduceEqDiff, Nat.reduceBEq, Nat.reduceSubDiff, Nat.reduceBeqDiff, Int.reduceLE, Int.reduceLT, Int.reduceEq, Int.reduceToNat, Int.reduceAdd, Int.reduceSub, Int.reduceMul, Int.reduceNeg, Int.reduceGE, Int.reduceGT, Int.reduceNegSucc]
  refine hdone ?_
  simp -implicitDefEqProofs only [go_sem, Nat.reduceSub, Nat.reduceAdd, Nat.reduceMul, Nat.reduceDiv, Nat.reduceMod, Nat.reducePow, Nat.reduceLeDiff, Nat.reduceLT, Nat.reduceGT, Nat.reduceEqDiff, Nat.reduceBEq, Nat.reduceSubDiff, Nat.reduceBeqDiff, Int.reduceLE, Int.reduceLT, Int.reduceEq, Int.reduceToNat, Int.reduceAdd, Int.reduceSub, Int.reduceMul, Int.reduceNeg, Int.reduceGE, Int.reduceGT, Int.reduceNegSucc]
  exact ⟨_, cF.setg (setF ch.g m), (mv _).trans (Mv.setg (w := { w with s := some (z, cap') }) _)⟩
end Go.Proofs.YtakcibjjfkgadaaGreatDoor
