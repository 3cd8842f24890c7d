/- Layer 20: channels: runs. -/
import Derived.Test.YtakcibjjfkgadaaGreatDoorFb
set_option linter.unusedSimpArgs false
set_option linter.unusedVariables false
set_option maxRecDepth 100000
set_option pp.maxSteps 400
set_option maxHeartbeats 4000000
namespace Go.Proofs.YtakcibjjfkgadaaGreatDoor
open Go.Ev
theorem infO : tInf Tryz.prog 36 = some (9, 40, some 9) := by kernel_rfl
theorem undO : (Tryz.prog).underlying 69 = some (.slice 36) := by kernel_rfl
theorem infT : tInf Tryz.prog 39 = some (4, 32, some 4) := by kernel_rfl
theorem undT : (Tryz.prog).underlying 62 = some (.slice 39) := by kernel_rfl
theorem Chan.keep {h h' : List Blk} {b : Nat} {w : Pl} {ch : Chn} {e : Nat} (c : Chan h b w ch) (k : Keep e h h') (hb : 55 ≠ e) (hf : 117 ≠ e) (hg : 110 ≠ e) (hs : 2 ≠ e) : Chan h' b w ch :=
  ⟨k _ _ c.b hb, k _ _ c.f hf, k _ _ c.g hg, c.s.imp id fun ⟨s, cap, h1, h2, h3⟩ => ⟨s, cap, h1, h2, k _ _ h3 hs⟩⟩
/-- All that is a channel's lies behind a place. -/
def Beyond (n b : Nat) (w : Pl) : Prop := ∀ j ∈ b :: w.all, n ≤ j
theorem Mv.beyond {h h' : List Blk} {b n : Nat} {w w' : Pl} (m : Mv h h' b w w') (hn : n ≤ h.length) (y : Beyond n b w) : Beyond n b w' := by
  intro j hj
  rcases List.mem_cons.1 hj with e | hj
  · exact y j (by rw [e]; simp)
  · rcases Pl.mem_all.1 hj with e | e | ⟨cap, e⟩
    · exact y j (List.mem_cons.2 (.inr (Pl.mem_all.2 (.inl (e.trans m.f)))))
    · exact y j (List.mem_cons.2 (.inr (Pl.mem_all.2 (.inr (.inl (e.trans m.g))))))
    · rcases m.s _ _ e with ⟨cap0, e0⟩ | hl
      · exact y j (List.mem_cons.2 (.inr (Pl.mem_all.2 (.inr (.inr ⟨cap0, e0⟩)))))
      · omega

theorem H_RunI (hp : List Blk) (c : Cf) (l : List Tk) (hc : checkF c = 0) (hcI : c.In64) (hl : l.length ≤ 1000) :
    HSem Tryz.prog GD 25 [c.av, .islice l.length (tkC l)] hp (fun ao h' => ∃ sv, ao = .ret (.tuple [sv, I 0]) ∧ Sl h' 36 9 sv l.length (tdC (tellsC (newC c) l)) ∧ Frm [] hp h') := by
  have d0 : decide ((4096 : Int) < (l.length : Int)) = false := decide_eq_false (by omega)
  refine HSem.of_body Tryz.func25 rfl (by kernel_rfl) ?_
  refine run_sound 4000 _ ?_
  simp -implicitDefEqProofs only [Tryz.f25, go_sem, Nat.reduceSub, Nat.reduceAdd, Nat.reduceMul, Nat.reduceDiv, Nat.reduceMod, Nat.reducePow, Nat.reduceLeDiff, Nat.reduceLT, Nat.reduceGT, Nat.reduceEqDiff, Nat.reduceBEq, Nat.reduceSubDiff, Nat.reduceBeqDiff, Int.reduceLE, Int.reduceLT, Int.reduceEq, Int.reduceToNat, Int.reduceAdd, Int.reduceSub, Int.reduceMul, Int.reduceNeg, Int.reduceGE, Int.reduceGT, Int.reduceNegSucc]
  refine call_X (H_New _ c hc) fun h' hh => ?_
  have l1 : (hp ++ [⟨c.cells, 25⟩] : List Blk).length = hp.length + 1 := by simp
  have c0 : Chan h' (hp.length + 5) ⟨hp.length + 3, hp.length + 4, none⟩ (newC c) := by
    rw [hh]
    have := newH_chan (hp ++ [⟨c.cells, 25⟩]) c
    rw [l1] at this
    exact this
  have f0 : Frm [] hp h' := by rw [hh]; unfold newH; rw [List.append_assoc]; exact Frm.app _ _ _
  clear hh
  refine run_sound 4000 _ ?_
  simp -implicitDefEqProofs only [go_sem, Nat.reduceSub, Nat.reduceAdd, Nat.reduceMul, Nat.reduceDiv, Nat.reduceMod, Nat.reducePow, Nat.reduceLeDiff, Nat.reduceLT, Nat.reduceGT, Nat.reduceEqDiff, Nat.reduceBEq, Nat.reduceSubDiff, Nat.reduceBeqDiff, Int.reduceLE, Int.reduceLT, Int.reduceEq, Int.reduceToNat, Int.reduceAdd, Int.reduceSub, Int.reduceMul, Int.reduceNeg, Int.reduceGE, Int.reduceGT, Int.reduceNegSucc, d0]
  refine loop_ind (fun j st => ∃ (i : Nat) (h : List Blk) (w : Pl) (ov : AV) (t3 t7 t9 t10 t11 t12 t13 t14 t15 t16 t17 t18 t19 t20 t21 t22 t23 t27 t28 t29 t30 t31 t32 t33 t34 t35 t36 t37 : AV), (j + i = l.length ∧ Chan h (hp.length + 5) w (walkC (newC c) (l.take i)) ∧ Beyond hp.length (hp.length + 5) w ∧ Frm [] hp h ∧ Sl h 36 9 ov i (tdC (tellsC (newC c) (l.take i))) ∧ ∀ j, j < hp.length → ∀ m cap, ov ≠ .slice j 0 m cap) ∧ st = ⟨[c.av, .islice l.length (tkC l), .ptr hp.length 0, t3, .raw (.slice none 0 0), I 0, .ptr (hp.length + 5) 0, t7, ov, t9, t10, t11, t12, t13, t14, t15, t16, t17, t18, t19, t20, t21, t22, t23, .islice l.length (tkC l), I (l.length : Nat), I i, t27, t28, t29, t30, t31, t32, t33, t34, t35, t36, t37], h, []⟩)
    l.length ⟨0, h', ⟨hp.length + 3, hp.length + 4, none⟩, .raw (.slice none 0 0), _, _, _, _, _, _, _, _, _, _, _, _, _, _, _, _, _, _, _, _, _, _, _, _, _, _, _, _, ⟨rfl, c0, ?_, f0, .inl ⟨rfl, rfl, rfl⟩, fun j _ m cap e => by cases e⟩, rfl⟩ ?_
  · intro j hj
    simp [Pl.all] at hj
    omega
  rintro j _ ⟨i, h, w, ov, t3, t7, t9, t10, t11, t12, t13, t14, t15, t16, t17, t18, t19, t20, t21, t22, t23, t27, t28, t29, t30, t31, t32, t33, t34, t35, t36, t37, ⟨hj, hch, hbe, hfr, hsl, hov⟩, rfl⟩ ih
  by_cases hi : i < l.length
  · have d1 : decide ((i : Int) < (l.length : Int)) = true := decide_eq_true (by omega)
    have d2 : decide (0 ≤ (i : Int) ∧ (i : Int) < (l.length : Int)) = true := decide_eq_true (by omega)
    have hw : IntKind.i64.wrap ((i : Int) + 1) = ((i + 1 : Nat) : Int) := by rw [IntKind.wrap_i64]; omega
    obtain ⟨r, hr⟩ := tkC_drop l [] i hi
    rw [List.append_nil] at hr
    have d4 : List.drop ((i : Int).toNat * 4) (tkC l) = _ := hr
    refine run_sound 4000 _ ?_
    simp -implicitDefEqProofs only [go_sem, Nat.reduceSub, Nat.reduceAdd, Nat.reduceMul, Nat.reduceDiv, Nat.reduceMod, Nat.reducePow, Nat.reduceLeDiff, Nat.reduceLT, Nat.reduceGT, Nat.reduceEqDiff, Nat.reduceBEq, Nat.reduceSubDiff, Nat.reduceBeqDiff, Int.reduceLE, Int.reduceLT, Int.reduceEq, Int.reduceToNat, Int.reduceAdd, Int.reduceSub, Int.reduceMul, Int.reduceNeg, Int.reduceGE, Int.reduceGT, Int.reduceNegSucc, d1, d2, d4]
    have hta : l.take (i + 1) = l.take i ++ [l[i]] := (List.take_append_getElem hi).symm
    have hok : (walkC (newC c) (l.take i)).ok := walkC_ok (newC_ok hcI) _
    have hch1 := hch.app [⟨(l[i]).cells, 39⟩]
    refine call_X (H_Step _ (hp.length + 5) w _ l[i] hok hch1) fun h2 hh => ?_
    obtain ⟨w2, c2, m2⟩ := hh
    have f2 : Frm [] hp h2 := (hfr.trans (Frm.app _ _ _)).trans' m2.fr (fun j hj hm => absurd (hbe j hm) (by omega))
    have be2 := m2.beyond (by rw [List.length_append]; have := hfr.le; omega) hbe
    have s2 : Sl h2 36 9 ov i (tdC (tellsC (newC c) (l.take i))) := hsl.imp id fun ⟨z, cap, q1, q2, q3, q4⟩ => ⟨z, cap, q1, q2, q3, m2.oth hch1 (bget_app q4 _) (oO _)⟩
    refine run_sound 4000 _ ?_
    simp -implicitDefEqProofs only [go_sem, Nat.reduceSub, Nat.reduceAdd, Nat.reduceMul, Nat.reduceDiv, Nat.reduceMod, Nat.reducePow, Nat.reduceLeDiff, Nat.reduceLT, Nat.reduceGT, Nat.reduceEqDiff, Nat.reduceBEq, Nat.reduceSubDiff, Nat.reduceBeqDiff, Int.reduceLE, Int.reduceLT, Int.reduceEq, Int.reduceToNat, Int.reduceAdd, Int.reduceSub, Int.reduceMul, Int.reduceNeg, Int.reduceGE, Int.reduceGT, Int.reduceNegSucc]
    refine oper_sem rfl (O_app (xb := h2.length) undO infO (h := h2 ++ [⟨(tellC (walkC (newC c) (l.take i)) l[i]).cells, 36⟩]) (s2.imp id fun ⟨z, cap, q1, q2, q3, q4⟩ => ⟨z, cap, q1, q2, q3, bget_app q4 _⟩) (news := (tellC (walkC (newC c) (l.take i)) l[i]).cells) (by rw [bget_len]; rfl) rfl rfl (by decide) (by omega) (by omega)) ?_
    rintro ao h3 ⟨cap', rfl, s3, k1, k2, k3⟩
    have f3 : Frm [] hp h3 := by
      refine ⟨?_, fun j hj _ => ?_⟩
      · have := f2.le; rw [List.length_append] at k2; omega
      · have := f2.le
        rw [k1 j (by rw [List.length_append]; omega) (fun m cap => hov j hj m cap), ← f2.eq j hj (by simp), bget_eq, bget_eq]
        exact List.getElem?_append_left (by omega)
    have c3 : Chan h3 (hp.length + 5) w2 (walkC (newC c) (l.take (i + 1))) := by
      rw [hta, walkC_append]
      exact (c2.app _).keep k3 (by decide) (by decide) (by decide) (by decide)
    have s4 : tdC (tellsC (newC c) (l.take i)) ++ (tellC (walkC (newC c) (l.take i)) l[i]).cells = tdC (tellsC (newC c) (l.take (i + 1))) := by
      rw [hta, tellsC_append]
      simp [tdC, tellsC]
    rw [s4] at s3
    have hz : ∀ j, j < hp.length → ∀ m cap, (AV.slice (h2 ++ [⟨(tellC (walkC (newC c) (l.take i)) l[i]).cells, 36⟩] : List Blk).length 0 (i + 1) cap') ≠ .slice j 0 m cap := fun j hj m cap e => by
      have := f2.le
      have e1 : (h2 ++ [⟨(tellC (walkC (newC c) (l.take i)) l[i]).cells, 36⟩] : List Blk).length = j := by injection e
      rw [List.length_append] at e1
      omega
    obtain ⟨z, hz0⟩ : ∃ z, (h2 ++ [⟨(tellC (walkC (newC c) (l.take i)) l[i]).cells, 36⟩] : List Blk).length = z := ⟨_, rfl⟩
    rw [hz0] at s3 hz ⊢
    refine run_sound 4000 _ ?_
    simp -implicitDefEqProofs only [go_sem, Nat.reduceSub, Nat.reduceAdd, Nat.reduceMul, Nat.reduceDiv, Nat.reduceMod, Nat.reducePow, Nat.reduceLeDiff, Nat.reduceLT, Nat.reduceGT, Nat.reduceEqDiff, Nat.reduceBEq, Nat.reduceSubDiff, Nat.reduceBeqDiff, Int.reduceLE, Int.reduceLT, Int.reduceEq, Int.reduceToNat, Int.reduceAdd, Int.reduceSub, Int.reduceMul, Int.reduceNeg, Int.reduceGE, Int.reduceGT, Int.reduceNegSucc, hw]
    exact ih (j - 1) _ (by omega) ⟨i + 1, h3, w2, _, _, _, _, _, _, _, _, _, _, _, _, _, _, _, _, _, _, _, _, _, _, _, _, _, _, _, _, _, ⟨by omega, c3, be2, f3, s3, hz⟩, rfl⟩
  · have d1 : decide ((i : Int) < (l.length : Int)) = false := decide_eq_false (by omega)
    obtain rfl : i = l.length := by omega
    rw [List.take_length] at hsl
    refine run_sound 4000 _ ?_
    simp -implicitDefEqProofs only [go_sem, Nat.reduceSub, Nat.reduceAdd, Nat.reduceMul, Nat.reduceDiv, Nat.reduceMod, Nat.reducePow, Nat.reduceLeDiff, Nat.reduceLT, Nat.reduceGT, Nat.reduceEqDiff, Nat.reduceBEq, Nat.reduceSubDiff, Nat.reduceBeqDiff, Int.reduceLE, Int.reduceLT, Int.reduceEq, Int.reduceToNat, Int.reduceAdd, Int.reduceSub, Int.reduceMul, Int.reduceNeg, Int.reduceGE, Int.reduceGT, Int.reduceNegSucc, d1]
    refine hdone ?_
    simp -implicitDefEqProofs only [go_sem, Nat.reduceSub, Nat.reduceAdd, Nat.reduceMul, Nat.reduceDiv, Nat.reduceMod, Nat.reducePow, Nat.reduceLeDiff, Nat.reduceLT, Nat.reduceGT, Nat.reduceEqDiff, Nat.reduceBEq, Nat.reduceSubDiff, Nat.reduceBeqDiff, Int.reduceLE, Int.reduceLT, Int.reduceEq, Int.reduceToNat, Int.reduceAdd, Int.reduceSub, Int.reduceMul, Int.reduceNeg, Int.reduceGE, Int.reduceGT, Int.reduceNegSucc]
    exact ⟨_, rfl, hsl, hfr⟩
theorem H_RunS (hp : List Blk) (c : Cf) (l : List Tk) (s cap : Nat) (rest : List AV) (hsb : bget hp s = some ⟨tkC l ++ rest, 39⟩) (hc : checkF c = 0) (hcI : c.In64) (hl : l.length ≤ 1000) :
    HSem Tryz.prog GD 25 [c.av, .slice s 0 l.length cap] hp (fun ao h' => ∃ sv, ao = .ret (.tuple [sv, I 0]) ∧ Sl h' 36 9 sv l.length (tdC (tellsC (newC c) l)) ∧ Frm [] hp h') := by
  have d0 : decide ((4096 : Int) < (l.length : Int)) = false := decide_eq_false (by omega)
  refine HSem.of_body Tryz.func25 rfl (by kernel_rfl) ?_
  refine run_sound 4000 _ ?_
  simp -implicitDefEqProofs only [Tryz.f25, go_sem, Nat.reduceSub, Nat.reduceAdd, Nat.reduceMul, Nat.reduceDiv, Nat.reduceMod, Nat.reducePow, Nat.reduceLeDiff, Nat.reduceLT, Nat.reduceGT, Nat.reduceEqDiff, Nat.reduceBEq, Nat.reduceSubDiff, Nat.reduceBeqDiff, Int.reduceLE, Int.reduceLT, Int.reduceEq, Int.reduceToNat, Int.reduceAdd, Int.reduceSub, Int.reduceMul, Int.reduceNeg, Int.reduceGE, Int.reduceGT, Int.reduceNegSucc]
  refine call_X (H_New _ c hc) fun h' hh => ?_
  have l1 : (hp ++ [⟨c.cells, 25⟩] : List Blk).length = hp.length + 1 := by simp
  have c0 : Chan h' (hp.length + 5) ⟨hp.length + 3, hp.length + 4, none⟩ (newC c) := by
    rw [hh]
    have := newH_chan (hp ++ [⟨c.cells, 25⟩]) c
    rw [l1] at this
    exact this
  have f0 : Frm [] hp h' := by rw [hh]; unfold newH; rw [List.append_assoc]; exact Frm.app _ _ _
  clear hh
  refine run_sound 4000 _ ?_
  simp -implicitDefEqProofs only [go_sem, Nat.reduceSub, Nat.reduceAdd, Nat.reduceMul, Nat.reduceDiv, Nat.reduceMod, Nat.reducePow, Nat.reduceLeDiff, Nat.reduceLT, Nat.reduceGT, Nat.reduceEqDiff, Nat.reduceBEq, Nat.reduceSubDiff, Nat.reduceBeqDiff, Int.reduceLE, Int.reduceLT, Int.reduceEq, Int.reduceToNat, Int.reduceAdd, Int.reduceSub, Int.reduceMul, Int.reduceNeg, Int.reduceGE, Int.reduceGT, Int.reduceNegSucc, d0]
  refine loop_ind (fun j st => ∃ (i : Nat) (h : List Blk) (w : Pl) (ov : AV) (t3 t7 t9 t10 t11 t12 t13 t14 t15 t16 t17 t18 t19 t20 t21 t22 t23 t27 t28 t29 t30 t31 t32 t33 t34 t35 t36 t37 : AV), (j + i = l.length ∧ Chan h (hp.length + 5) w (walkC (newC c) (l.take i)) ∧ Beyond hp.length (hp.length + 5) w ∧ Frm [] hp h ∧ Sl h 36 9 ov i (tdC (tellsC (newC c) (l.take i))) ∧ ∀ j, j < hp.length → ∀ m cap, ov ≠ .slice j 0 m cap) ∧ st = ⟨[c.av, .slice s 0 l.length cap, .ptr hp.length 0, t3, .raw (.slice none 0 0), I 0, .ptr (hp.length + 5) 0, t7, ov, t9, t10, t11, t12, t13, t14, t15, t16, t17, t18, t19, t20, t21, t22, t23, .slice s 0 l.length cap, I (l.length : Nat), I i, t27, t28, t29, t30, t31, t32, t33, t34, t35, t36, t37], h, []⟩)
    l.length ⟨0, h', ⟨hp.length + 3, hp.length + 4, none⟩, .raw (.slice none 0 0), _, _, _, _, _, _, _, _, _, _, _, _, _, _, _, _, _, _, _, _, _, _, _, _, _, _, _, _, ⟨rfl, c0, ?_, f0, .inl ⟨rfl, rfl, rfl⟩, fun j _ m cap e => by cases e⟩, rfl⟩ ?_
  · intro j hj
    simp [Pl.all] at hj
    omega
  rintro j _ ⟨i, h, w, ov, t3, t7, t9, t10, t11, t12, t13, t14, t15, t16, t17, t18, t19, t20, t21, t22, t23, t27, t28, t29, t30, t31, t32, t33, t34, t35, t36, t37, ⟨hj, hch, hbe, hfr, hsl, hov⟩, rfl⟩ ih
  by_cases hi : i < l.length
  · have d1 : decide ((i : Int) < (l.length : Int)) = true := decide_eq_true (by omega)
    have d2 : decide (0 ≤ (i : Int) ∧ (i : Int) < (l.length : Int)) = true := decide_eq_true (by omega)
    have hw : IntKind.i64.wrap ((i : Int) + 1) = ((i + 1 : Nat) : Int) := by rw [IntKind.wrap_i64]; omega
    obtain ⟨r, hr⟩ := tkC_drop l rest i hi
    have d4 := hr
    rw [show i * 4 = 0 + (i : Int).toNat * 4 by rw [Nat.zero_add, Int.toNat_natCast]] at d4
    have d5 : decide (0 + (i : Int).toNat * 4 + 4 ≤ (tkC l ++ rest).length) = true := decide_eq_true (by rw [List.length_append, tkC_length, Int.toNat_natCast]; omega)
    have hs2 := hfr.get hsb (by simp)
    refine run_sound 4000 _ ?_
    simp -implicitDefEqProofs only [go_sem, Nat.reduceSub, Nat.reduceAdd, Nat.reduceMul, Nat.reduceDiv, Nat.reduceMod, Nat.reducePow, Nat.reduceLeDiff, Nat.reduceLT, Nat.reduceGT, Nat.reduceEqDiff, Nat.reduceBEq, Nat.reduceSubDiff, Nat.reduceBeqDiff, Int.reduceLE, Int.reduceLT, Int.reduceEq, Int.reduceToNat, Int.reduceAdd, Int.reduceSub, Int.reduceMul, Int.reduceNeg, Int.reduceGE, Int.reduceGT, Int.reduceNegSucc, d1, d2, d4, d5, hs2]
    have hta : l.take (i + 1) = l.take i ++ [l[i]] := (List.take_append_getElem hi).symm
    have hok : (walkC (newC c) (l.take i)).ok := walkC_ok (newC_ok hcI) _
    have hch1 := hch.app [⟨(l[i]).cells, 39⟩]
    refine call_X (H_Step _ (hp.length + 5) w _ l[i] hok hch1) fun h2 hh => ?_
    obtain ⟨w2, c2, m2⟩ := hh
    have f2 : Frm [] hp h2 := (hfr.trans (Frm.app _ _ _)).trans' m2.fr (fun j hj hm => absurd (hbe j hm) (by omega))
    have be2 := m2.beyond (by rw [List.length_append]; have := hfr.le; omega) hbe
    have s2 : Sl h2 36 9 ov i (tdC (tellsC (newC c) (l.take i))) := hsl.imp id fun ⟨z, cap, q1, q2, q3, q4⟩ => ⟨z, cap, q1, q2, q3, m2.oth hch1 (bget_app q4 _) (oO _)⟩
    refine run_sound 4000 _ ?_
    simp -implicitDefEqProofs only [go_sem, Nat.reduceSub, Nat.reduceAdd, Nat.reduceMul, Nat.reduceDiv, Nat.reduceMod, Nat.reducePow, Nat.reduceLeDiff, Nat.reduceLT, Nat.reduceGT, Nat.reduceEqDiff, Nat.reduceBEq, Nat.reduceSubDiff, Nat.reduceBeqDiff, Int.reduceLE, Int.reduceLT, Int.reduceEq, Int.reduceToNat, Int.reduceAdd, Int.reduceSub, Int.reduceMul, Int.reduceNeg, Int.reduceGE, Int.reduceGT, Int.reduceNegSucc]
    refine oper_sem rfl (O_app (xb := h2.length) undO infO (h := h2 ++ [⟨(tellC (walkC (newC c) (l.take i)) l[i]).cells, 36⟩]) (s2.imp id fun ⟨z, cap, q1, q2, q3, q4⟩ => ⟨z, cap, q1, q2, q3, bget_app q4 _⟩) (news := (tellC (walkC (newC c) (l.take i)) l[i]).cells) (by rw [bget_len]; rfl) rfl rfl (by decide) (by omega) (by omega)) ?_
    rintro ao h3 ⟨cap', rfl, s3, k1, k2, k3⟩
    have f3 : Frm [] hp h3 := by
      refine ⟨?_, fun j hj _ => ?_⟩
      · have := f2.le; rw [List.length_append] at k2; omega
      · have := f2.le
        rw [k1 j (by rw [List.length_append]; omega) (fun m cap => hov j hj m cap), ← f2.eq j hj (by simp), bget_eq, bget_eq]
        exact List.getElem?_append_left (by omega)
    have c3 : Chan h3 (hp.length + 5) w2 (walkC (newC c) (l.take (i + 1))) := by
      rw [hta, walkC_append]
      exact (c2.app _).keep k3 (by decide) (by decide) (by decide) (by decide)
    have s4 : tdC (tellsC (newC c) (l.take i)) ++ (tellC (walkC (newC c) (l.take i)) l[i]).cells = tdC (tellsC (newC c) (l.take (i + 1))) := by
      rw [hta, tellsC_append]
      simp [tdC, tellsC]
    rw [s4] at s3
    have hz : ∀ j, j < hp.length → ∀ m cap, (AV.slice (h2 ++ [⟨(tellC (walkC (newC c) (l.take i)) l[i]).cells, 36⟩] : List Blk).length 0 (i + 1) cap') ≠ .slice j 0 m cap := fun j hj m cap e => by
      have := f2.le
      have e1 : (h2 ++ [⟨(tellC (walkC (newC c) (l.take i)) l[i]).cells, 36⟩] : List Blk).length = j := by injection e
      rw [List.length_append] at e1
      omega
    obtain ⟨z, hz0⟩ : ∃ z, (h2 ++ [⟨(tellC (walkC (newC c) (l.take i)) l[i]).cells, 36⟩] : List Blk).length = z := ⟨_, rfl⟩
    rw [hz0] at s3 hz ⊢
    refine run_sound 4000 _ ?_
    simp -implicitDefEqProofs only [go_sem, Nat.reduceSub, Nat.reduceAdd, Nat.reduceMul, Nat.reduceDiv, Nat.reduceMod, Nat.reducePow, Nat.reduceLeDiff, Nat.reduceLT, Nat.reduceGT, Nat.reduceEqDiff, Nat.reduceBEq, Nat.reduceSubDiff, Nat.reduceBeqDiff, Int.reduceLE, Int.reduceLT, Int.reduceEq, Int.reduceToNat, Int.reduceAdd, Int.reduceSub, Int.reduceMul, Int.reduceNeg, Int.reduceGE, Int.reduceGT, Int.reduceNegSucc, hw]
    exact ih (j - 1) _ (by omega) ⟨i + 1, h3, w2, _, _, _, _, _, _, _, _, _, _, _, _, _, _, _, _, _, _, _, _, _, _, _, _, _, _, _, _, _, ⟨by omega, c3, be2, f3, s3, hz⟩, rfl⟩
  · have d1 : decide ((i : Int) < (l.length : Int)) = false := decide_eq_false (by omega)
    obtain rfl : i = l.length := by omega
    rw [List.take_length] at hsl
    refine run_sound 4000 _ ?_
    simp -implicitDefEqProofs only [go_sem, Nat.reduceSub, Nat.reduceAdd, Nat.reduceMul, Nat.reduceDiv, Nat.reduceMod, Nat.reducePow, Nat.reduceLeDiff, Nat.reduceLT, Nat.reduceGT, Nat.reduceEqDiff, Nat.reduceBEq, Nat.reduceSubDiff, Nat.reduceBeqDiff, Int.reduceLE, Int.reduceLT, Int.reduceEq, Int.reduceToNat, Int.reduceAdd, Int.reduceSub, Int.reduceMul, Int.reduceNeg, Int.reduceGE, Int.reduceGT, Int.reduceNegSucc, d1]
    refine hdone ?_
    simp -implicitDefEqProofs only [go_sem, Nat.reduceSub, Nat.reduceAdd, Nat.reduceMul, Nat.reduceDiv, Nat.reduceMod, Nat.reducePow, Nat.reduceLeDiff, Nat.reduceLT, Nat.reduceGT, Nat.reduceEqDiff, Nat.reduceBEq, Nat.reduceSubDiff, Nat.reduceBeqDiff, Int.reduceLE, Int.reduceLT, Int.reduceEq, Int.reduceToNat, Int.reduceAdd, Int.reduceSub, Int.reduceMul, Int.reduceNeg, Int.reduceGE, Int.reduceGT, Int.reduceNegSucc]
    exact ⟨_, rfl, hsl, hfr⟩
theorem H_RunN (hp : List Blk) (c : Cf) (hc : checkF c = 0) (hcI : c.In64) :
    HSem Tryz.prog GD 25 [c.av, .raw (.slice none 0 0)] hp (fun ao h' => ∃ sv, ao = .ret (.tuple [sv, I 0]) ∧ Sl h' 36 9 sv 0 [] ∧ Frm [] hp h') := by
  refine HSem.of_body Tryz.func25 rfl (by kernel_rfl) ?_
  refine run_sound 4000 _ ?_
  simp -implicitDefEqProofs only [Tryz.f25, go_sem, Nat.reduceSub, Nat.reduceAdd, Nat.reduceMul, Nat.reduceDiv, Nat.reduceMod, Nat.reducePow, Nat.reduceLeDiff, Nat.reduceLT, Nat.reduceGT, Nat.reduceEqDiff, Nat.reduceBEq, Nat.reduceSubDiff, Nat.reduceBeqDiff, Int.reduceLE, Int.reduceLT, Int.reduceEq, Int.reduceToNat, Int.reduceAdd, Int.reduceSub, Int.reduceMul, Int.reduceNeg, Int.reduceGE, Int.reduceGT, Int.reduceNegSucc]
  refine call_X (H_New _ c hc) fun h' hh => ?_
  have f0 : Frm [] hp h' := by rw [hh]; unfold newH; rw [List.append_assoc]; exact Frm.app _ _ _
  clear hh
  refine run_sound 4000 _ ?_
  simp -implicitDefEqProofs only [go_sem, Nat.reduceSub, Nat.reduceAdd, Nat.reduceMul, Nat.reduceDiv, Nat.reduceMod, Nat.reducePow, Nat.reduceLeDiff, Nat.reduceLT, Nat.reduceGT, Nat.reduceEqDiff, Nat.reduceBEq, Nat.reduceSubDiff, Nat.reduceBeqDiff, Int.reduceLE, Int.reduceLT, Int.reduceEq, Int.reduceToNat, Int.reduceAdd, Int.reduceSub, Int.reduceMul, Int.reduceNeg, Int.reduceGE, Int.reduceGT, Int.reduceNegSucc]
  refine loop_go ?_
  refine run_sound 4000 _ ?_
  simp -implicitDefEqProofs only [go_sem, Nat.reduceSub, Nat.reduceAdd, Nat.reduceMul, Nat.reduceDiv, Nat.reduceMod, Nat.reducePow, Nat.reduceLeDiff, Nat.reduceLT, Nat.reduceGT, Nat.reduceEqDiff, Nat.reduceBEq, Nat.reduceSubDiff, Nat.reduceBeqDiff, Int.reduceLE, Int.reduceLT, Int.reduceEq, Int.reduceToNat, Int.reduceAdd, Int.reduceSub, Int.reduceMul, Int.reduceNeg, Int.reduceGE, Int.reduceGT, Int.reduceNegSucc]
  refine hdone ?_
  simp -implicitDefEqProofs only [go_sem, Nat.reduceSub, Nat.reduceAdd, Nat.reduceMul, Nat.reduceDiv, Nat.reduceMod, Nat.reducePow, Nat.reduceLeDiff, Nat.reduceLT, Nat.reduceGT, Nat.reduceEqDiff, Nat.reduceBEq, Nat.reduceSubDiff, Nat.reduceBeqDiff, Int.reduceLE, Int.reduceLT, Int.reduceEq, Int.reduceToNat, Int.reduceAdd, Int.reduceSub, Int.reduceMul, Int.reduceNeg, Int.reduceGE, Int.reduceGT, Int.reduceNegSucc]
  exact ⟨_, rfl, .inl ⟨rfl, rfl, rfl⟩, f0⟩
theorem H_RunEI (hp : List Blk) (c : Cf) (l : List Tk) (hc : checkF c ≠ 0) :
    HSem Tryz.prog GD 25 [c.av, .islice l.length (tkC l)] hp (fun ao h' => ao = .ret (.tuple [.raw (.slice none 0 0), I 1]) ∧ Frm [] hp h') := by
  refine HSem.of_body Tryz.func25 rfl (by kernel_rfl) ?_
  refine run_sound 4000 _ ?_
  simp -implicitDefEqProofs only [Tryz.f25, go_sem, Nat.reduceSub, Nat.reduceAdd, Nat.reduceMul, Nat.reduceDiv, Nat.reduceMod, Nat.reducePow, Nat.reduceLeDiff, Nat.reduceLT, Nat.reduceGT, Nat.reduceEqDiff, Nat.reduceBEq, Nat.reduceSubDiff, Nat.reduceBeqDiff, Int.reduceLE, Int.reduceLT, Int.reduceEq, Int.reduceToNat, Int.reduceAdd, Int.reduceSub, Int.reduceMul, Int.reduceNeg, Int.reduceGE, Int.reduceGT, Int.reduceNegSucc]
  refine call_X (H_NewE _ c hc) fun h' hh => ?_
  have f0 : Frm [] hp h' := by obtain ⟨ext, rfl⟩ := hh; rw [List.append_assoc]; exact Frm.app _ _ _
  clear hh
  refine run_sound 4000 _ ?_
  simp -implicitDefEqProofs only [go_sem, Nat.reduceSub, Nat.reduceAdd, Nat.reduceMul, Nat.reduceDiv, Nat.reduceMod, Nat.reducePow, Nat.reduceLeDiff, Nat.reduceLT, Nat.reduceGT, Nat.reduceEqDiff, Nat.reduceBEq, Nat.reduceSubDiff, Nat.reduceBeqDiff, Int.reduceLE, Int.reduceLT, Int.reduceEq, Int.reduceToNat, Int.reduceAdd, Int.reduceSub, Int.reduceMul, Int.reduceNeg, Int.reduceGE, Int.reduceGT, Int.reduceNegSucc]
  refine hdone ?_
  simp -implicitDefEqProofs only [go_sem, Nat.reduceSub, Nat.reduceAdd, Nat.reduceMul, Nat.reduceDiv, Nat.reduceMod, Nat.reducePow, Nat.reduceLeDiff, Nat.reduceLT, Nat.reduceGT, Nat.reduceEqDiff, Nat.reduceBEq, Nat.reduceSubDiff, Nat.reduceBeqDiff, Int.reduceLE, Int.reduceLT, Int.reduceEq, Int.reduceToNat, Int.reduceAdd, Int.reduceSub, Int.reduceMul, Int.reduceNeg, Int.reduceGE, Int.reduceGT, Int.reduceNegSucc]
  exact f0
theorem H_RunES (hp : List Blk) (c : Cf) (l : List Tk) (s cap : Nat) (hc : checkF c ≠ 0) :
    HSem Tryz.prog GD 25 [c.av, .slice s 0 l.length cap] hp (fun ao h' => ao = .ret (.tuple [.raw (.slice none 0 0), I 1]) ∧ Frm [] hp h') := by
  refine HSem.of_body Tryz.func25 rfl (by kernel_rfl) ?_
  refine run_sound 4000 _ ?_
  simp -implicitDefEqProofs only [Tryz.f25, go_sem, Nat.reduceSub, Nat.reduceAdd, Nat.reduceMul, Nat.reduceDiv, Nat.reduceMod, Nat.reducePow, Nat.reduceLeDiff, Nat.reduceLT, Nat.reduceGT, Nat.reduceEqDiff, Nat.reduceBEq, Nat.reduceSubDiff, Nat.reduceBeqDiff, Int.reduceLE, Int.reduceLT, Int.reduceEq, Int.reduceToNat, Int.reduceAdd, Int.reduceSub, Int.reduceMul, Int.reduceNeg, Int.reduceGE, Int.reduceGT, Int.reduceNegSucc]
  refine call_X (H_NewE _ c hc) fun h' hh => ?_
  have f0 : Frm [] hp h' := by obtain ⟨ext, rfl⟩ := hh; rw [List.append_assoc]; exact Frm.app _ _ _
  clear hh
  refine run_sound 4000 _ ?_
  simp -implicitDefEqProofs only [go_sem, Nat.reduceSub, Nat.reduceAdd, Nat.reduceMul, Nat.reduceDiv, Nat.reduceMod, Nat.reducePow, Nat.reduceLeDiff, Nat.reduceLT, Nat.reduceGT, Nat.reduceEqDiff, Nat.reduceBEq, Nat.reduceSubDiff, Nat.reduceBeqDiff, Int.reduceLE, Int.reduceLT, Int.reduceEq, Int.reduceToNat, Int.reduceAdd, Int.reduceSub, Int.reduceMul, Int.reduceNeg, Int.reduceGE, Int.reduceGT, Int.reduceNegSucc]
  refine hdone ?_
  simp -implicitDefEqProofs only [go_sem, Nat.reduceSub, Nat.reduceAdd, Nat.reduceMul, Nat.reduceDiv, Nat.reduceMod, Nat.reducePow, Nat.reduceLeDiff, Nat.reduceLT, Nat.reduceGT, Nat.reduceEqDiff, Nat.reduceBEq, Nat.reduceSubDiff, Nat.reduceBeqDiff, Int.reduceLE, Int.reduceLT, Int.reduceEq, Int.reduceToNat, Int.reduceAdd, Int.reduceSub, Int.reduceMul, Int.reduceNeg, Int.reduceGE, Int.reduceGT, Int.reduceNegSucc]
  exact f0
theorem H_RunEN (hp : List Blk) (c : Cf) (hc : checkF c ≠ 0) :
    HSem Tryz.prog GD 25 [c.av, .raw (.slice none 0 0)] hp (fun ao h' => ao = .ret (.tuple [.raw (.slice none 0 0), I 1]) ∧ Frm [] hp h') := by
  refine HSem.of_body Tryz.func25 rfl (by kernel_rfl) ?_
  refine run_sound 4000 _ ?_
  simp -implicitDefEqProofs only [Tryz.f25, go_sem, Nat.reduceSub, Nat.reduceAdd, Nat.reduceMul, Nat.reduceDiv, Nat.reduceMod, Nat.reducePow, Nat.reduceLeDiff, Nat.reduceLT, Nat.reduceGT, Nat.reduceEqDiff, Nat.reduceBEq, Nat.reduceSubDiff, Nat.reduceBeqDiff, Int.reduceLE, Int.reduceLT, Int.reduceEq, Int.reduceToNat, Int.reduceAdd, Int.reduceSub, Int.reduceMul, Int.reduceNeg, Int.reduceGE, Int.reduceGT, Int.reduceNegSucc]
  refine call_X (H_NewE _ c hc) fun h' hh => ?_
  have f0 : Frm [] hp h' := by obtain ⟨ext, rfl⟩ := hh; rw [List.append_assoc]; exact Frm.app _ _ _
  clear hh
  refine run_sound 4000 _ ?_
  simp -implicitDefEqProofs only [go_sem, Nat.reduceSub, Nat.reduceAdd, Nat.reduceMul, Nat.reduceDiv, Nat.reduceMod, Nat.reducePow, Nat.reduceLeDiff, Nat.reduceLT, Nat.reduceGT, Nat.reduceEqDiff, Nat.reduceBEq, Nat.reduceSubDiff, Nat.reduceBeqDiff, Int.reduceLE, Int.reduceLT, Int.reduceEq, Int.reduceToNat, Int.reduceAdd, Int.reduceSub, Int.reduceMul, Int.reduceNeg, Int.reduceGE, Int.reduceGT, Int.reduceNegSucc]
  refine hdone ?_
  simp -implicitDefEqProofs only [go_sem, Nat.reduceSub, Nat.reduceAdd, Nat.reduceMul, Nat.reduceDiv, Nat.reduceMod, Nat.reducePow, Nat.reduceLeDiff, Nat.reduceLT, Nat.reduceGT, Nat.reduceEqDiff, Nat.reduceBEq, Nat.reduceSubDiff, Nat.reduceBeqDiff, Int.reduceLE, Int.reduceLT, Int.reduceEq, Int.reduceToNat, Int.reduceAdd, Int.reduceSub, Int.reduceMul, Int.reduceNeg, Int.reduceGE, Int.reduceGT, Int.reduceNegSucc]
  exact f0
end Go.Proofs.YtakcibjjfkgadaaGreatDoor
/- Layer 20: ticks without a count. -/
set_option linter.unusedSimpArgs false
set_option linter.unusedVariables false
set_option maxRecDepth 100000
set_option pp.maxSteps 400
set_option maxHeartbeats 4000000
namespace Go.Proofs.YtakcibjjfkgadaaGreatDoor
open Go.Ev
def nrm (t : Tk) : Tk := if (brings t).2 = true then t else { t with has := false, press := 0 }
theorem brings_nrm (t : Tk) : brings (nrm t) = brings t := by
  unfold nrm
  cases h : (brings t).2
  · rw [if_neg (by simp)]
    unfold brings at h ⊢
    split at h
    · cases h
    · rename_i hn
      rw [if_neg hn, if_neg (by simp)]
  · rw [if_pos rfl]
theorem nrm_accel (t : Tk) : (nrm t).accel = t.accel ∧ (nrm t).short = t.short := by
  unfold nrm
  split <;> exact ⟨rfl, rfl⟩
theorem midS_nrm (ch : Chn) (t : Tk) : midS ch (nrm t) = midS ch t := by
  unfold midS midF feedF
  rw [brings_nrm, (nrm_accel t).1, (nrm_accel t).2]
theorem stepC_nrm (ch : Chn) (t : Tk) : stepC ch (nrm t) = stepC ch t := by unfold stepC; rw [midS_nrm]
theorem tellC_nrm (ch : Chn) (t : Tk) : tellC ch (nrm t) = tellC ch t := by unfold tellC; rw [midS_nrm, stepC_nrm, (nrm_accel t).1]
theorem tells_nrm (l : List Tk) : ∀ ch, tellsC ch (l.map nrm) = tellsC ch l := by
  induction l with
  | nil => intro ch; rfl
  | cons t l ih => intro ch; simp only [List.map_cons, tellsC, tellC_nrm, stepC_nrm, ih]
theorem V_refGood (c : Int) : VSem Tryz.prog GD 39 [I c] (· = .bool (good c)) := by
  have e : good c = (decide (90527 < c) && decide (c < 430516)) := by
    unfold good
    congr 1 <;> (apply decide_eq_decide.2; omega)
  rw [e]
  by_cases h : 90527 < c
  · have h' := decide_eq_true h
    refine VSem.of_body Tryz.func39 rfl (by kernel_rfl) ?_
    refine run_sound 4000 _ ?_
    simp -implicitDefEqProofs only [Tryz.f39, go_sem, Nat.reduceSub, Nat.reduceAdd, Nat.reduceMul, Nat.reduceDiv, Nat.reduceMod, Nat.reducePow, Nat.reduceLeDiff, Nat.reduceLT, Nat.reduceGT, Nat.reduceEqDiff, Nat.reduceBEq, Nat.reduceSubDiff, Nat.reduceBeqDiff, Int.reduceLE, Int.reduceLT, Int.reduceEq, Int.reduceToNat, Int.reduceAdd, Int.reduceSub, Int.reduceMul, Int.reduceNeg, Int.reduceGE, Int.reduceGT, Int.reduceNegSucc, h']
    refine done_ret ?_
    simp -implicitDefEqProofs only [go_sem, Nat.reduceSub, Nat.reduceAdd, Nat.reduceMul, Nat.reduceDiv, Nat.reduceMod, Nat.reducePow, Nat.reduceLeDiff, Nat.reduceLT, Nat.reduceGT, Nat.reduceEqDiff, Nat.reduceBEq, Nat.reduceSubDiff, Nat.reduceBeqDiff, Int.reduceLE, Int.reduceLT, Int.reduceEq, Int.reduceToNat, Int.reduceAdd, Int.reduceSub, Int.reduceMul, Int.reduceNeg, Int.reduceGE, Int.reduceGT, Int.reduceNegSucc, h', Bool.true_and]
  · have h' := decide_eq_false h
    refine VSem.of_body Tryz.func39 rfl (by kernel_rfl) ?_
    refine run_sound 4000 _ ?_
    simp -implicitDefEqProofs only [Tryz.f39, go_sem, Nat.reduceSub, Nat.reduceAdd, Nat.reduceMul, Nat.reduceDiv, Nat.reduceMod, Nat.reducePow, Nat.reduceLeDiff, Nat.reduceLT, Nat.reduceGT, Nat.reduceEqDiff, Nat.reduceBEq, Nat.reduceSubDiff, Nat.reduceBeqDiff, Int.reduceLE, Int.reduceLT, Int.reduceEq, Int.reduceToNat, Int.reduceAdd, Int.reduceSub, Int.reduceMul, Int.reduceNeg, Int.reduceGE, Int.reduceGT, Int.reduceNegSucc, h']
    refine done_ret ?_
    simp -implicitDefEqProofs only [go_sem, Nat.reduceSub, Nat.reduceAdd, Nat.reduceMul, Nat.reduceDiv, Nat.reduceMod, Nat.reducePow, Nat.reduceLeDiff, Nat.reduceLT, Nat.reduceGT, Nat.reduceEqDiff, Nat.reduceBEq, Nat.reduceSubDiff, Nat.reduceBeqDiff, Int.reduceLE, Int.reduceLT, Int.reduceEq, Int.reduceToNat, Int.reduceAdd, Int.reduceSub, Int.reduceMul, Int.reduceNeg, Int.reduceGE, Int.reduceGT, Int.reduceNegSucc, h', Bool.false_and]
theorem V_refBrings (t : Tk) : VSem Tryz.prog GD 24 [t.av] (· = .tuple [I (brings t).1, .bool (brings t).2]) := by
  obtain ⟨ac, has, pr, sh⟩ := t
  cases has
  · refine VSem.of_body Tryz.func24 rfl (by kernel_rfl) ?_
    refine run_sound 4000 _ ?_
    simp -implicitDefEqProofs only [Tryz.f24, go_sem, Nat.reduceSub, Nat.reduceAdd, Nat.reduceMul, Nat.reduceDiv, Nat.reduceMod, Nat.reducePow, Nat.reduceLeDiff, Nat.reduceLT, Nat.reduceGT, Nat.reduceEqDiff, Nat.reduceBEq, Nat.reduceSubDiff, Nat.reduceBeqDiff, Int.reduceLE, Int.reduceLT, Int.reduceEq, Int.reduceToNat, Int.reduceAdd, Int.reduceSub, Int.reduceMul, Int.reduceNeg, Int.reduceGE, Int.reduceGT, Int.reduceNegSucc]
    refine done_ret ?_
    simp -implicitDefEqProofs only [go_sem, Nat.reduceSub, Nat.reduceAdd, Nat.reduceMul, Nat.reduceDiv, Nat.reduceMod, Nat.reducePow, Nat.reduceLeDiff, Nat.reduceLT, Nat.reduceGT, Nat.reduceEqDiff, Nat.reduceBEq, Nat.reduceSubDiff, Nat.reduceBeqDiff, Int.reduceLE, Int.reduceLT, Int.reduceEq, Int.reduceToNat, Int.reduceAdd, Int.reduceSub, Int.reduceMul, Int.reduceNeg, Int.reduceGE, Int.reduceGT, Int.reduceNegSucc]
    simp [brings]
  · refine VSem.of_body Tryz.func24 rfl (by kernel_rfl) ?_
    refine run_sound 4000 _ ?_
    simp -implicitDefEqProofs only [Tryz.f24, go_sem, Nat.reduceSub, Nat.reduceAdd, Nat.reduceMul, Nat.reduceDiv, Nat.reduceMod, Nat.reducePow, Nat.reduceLeDiff, Nat.reduceLT, Nat.reduceGT, Nat.reduceEqDiff, Nat.reduceBEq, Nat.reduceSubDiff, Nat.reduceBeqDiff, Int.reduceLE, Int.reduceLT, Int.reduceEq, Int.reduceToNat, Int.reduceAdd, Int.reduceSub, Int.reduceMul, Int.reduceNeg, Int.reduceGE, Int.reduceGT, Int.reduceNegSucc]
    refine call_E (V_refGood pr) rfl ?_
    cases hg : good pr
    · refine run_sound 4000 _ ?_
      simp -implicitDefEqProofs only [go_sem, Nat.reduceSub, Nat.reduceAdd, Nat.reduceMul, Nat.reduceDiv, Nat.reduceMod, Nat.reducePow, Nat.reduceLeDiff, Nat.reduceLT, Nat.reduceGT, Nat.reduceEqDiff, Nat.reduceBEq, Nat.reduceSubDiff, Nat.reduceBeqDiff, Int.reduceLE, Int.reduceLT, Int.reduceEq, Int.reduceToNat, Int.reduceAdd, Int.reduceSub, Int.reduceMul, Int.reduceNeg, Int.reduceGE, Int.reduceGT, Int.reduceNegSucc]
      refine done_ret ?_
      simp -implicitDefEqProofs only [go_sem, Nat.reduceSub, Nat.reduceAdd, Nat.reduceMul, Nat.reduceDiv, Nat.reduceMod, Nat.reducePow, Nat.reduceLeDiff, Nat.reduceLT, Nat.reduceGT, Nat.reduceEqDiff, Nat.reduceBEq, Nat.reduceSubDiff, Nat.reduceBeqDiff, Int.reduceLE, Int.reduceLT, Int.reduceEq, Int.reduceToNat, Int.reduceAdd, Int.reduceSub, Int.reduceMul, Int.reduceNeg, Int.reduceGE, Int.reduceGT, Int.reduceNegSucc]
      simp [brings, hg]
    · refine run_sound 4000 _ ?_
      simp -implicitDefEqProofs only [go_sem, Nat.reduceSub, Nat.reduceAdd, Nat.reduceMul, Nat.reduceDiv, Nat.reduceMod, Nat.reducePow, Nat.reduceLeDiff, Nat.reduceLT, Nat.reduceGT, Nat.reduceEqDiff, Nat.reduceBEq, Nat.reduceSubDiff, Nat.reduceBeqDiff, Int.reduceLE, Int.reduceLT, Int.reduceEq, Int.reduceToNat, Int.reduceAdd, Int.reduceSub, Int.reduceMul, Int.reduceNeg, Int.reduceGE, Int.reduceGT, Int.reduceNegSucc]
      refine done_ret ?_
      simp -implicitDefEqProofs only [go_sem, Nat.reduceSub, Nat.reduceAdd, Nat.reduceMul, Nat.reduceDiv, Nat.reduceMod, Nat.reducePow, Nat.reduceLeDiff, Nat.reduceLT, Nat.reduceGT, Nat.reduceEqDiff, Nat.reduceBEq, Nat.reduceSubDiff, Nat.reduceBeqDiff, Int.reduceLE, Int.reduceLT, Int.reduceEq, Int.reduceToNat, Int.reduceAdd, Int.reduceSub, Int.reduceMul, Int.reduceNeg, Int.reduceGE, Int.reduceGT, Int.reduceNegSucc]
      simp [brings, hg]
theorem V_ChannelNone (c : Cf) (ts : List Tk) (hcI : c.In64) : VSem Tryz.prog GD 7 [c.av, .islice ts.length (tkC ts)] (· = .bool true) := by
  by_cases hl : ts.length ≤ 1000
  rotate_left
  · have d0 : decide ((1000 : Int) < (ts.length : Int)) = true := decide_eq_true (by omega)
    refine VSem.of_body Tryz.func7 rfl (by kernel_rfl) ?_
    refine run_sound 4000 _ ?_
    simp -implicitDefEqProofs only [Tryz.f7, go_sem, Nat.reduceSub, Nat.reduceAdd, Nat.reduceMul, Nat.reduceDiv, Nat.reduceMod, Nat.reducePow, Nat.reduceLeDiff, Nat.reduceLT, Nat.reduceGT, Nat.reduceEqDiff, Nat.reduceBEq, Nat.reduceSubDiff, Nat.reduceBeqDiff, Int.reduceLE, Int.reduceLT, Int.reduceEq, Int.reduceToNat, Int.reduceAdd, Int.reduceSub, Int.reduceMul, Int.reduceNeg, Int.reduceGE, Int.reduceGT, Int.reduceNegSucc, d0]
    refine call_E V_Fixed rfl ?_
    refine run_sound 4000 _ ?_
    simp -implicitDefEqProofs only [go_sem, Nat.reduceSub, Nat.reduceAdd, Nat.reduceMul, Nat.reduceDiv, Nat.reduceMod, Nat.reducePow, Nat.reduceLeDiff, Nat.reduceLT, Nat.reduceGT, Nat.reduceEqDiff, Nat.reduceBEq, Nat.reduceSubDiff, Nat.reduceBeqDiff, Int.reduceLE, Int.reduceLT, Int.reduceEq, Int.reduceToNat, Int.reduceAdd, Int.reduceSub, Int.reduceMul, Int.reduceNeg, Int.reduceGE, Int.reduceGT, Int.reduceNegSucc]
    refine done_ret ?_
    simp -implicitDefEqProofs only [go_sem, Nat.reduceSub, Nat.reduceAdd, Nat.reduceMul, Nat.reduceDiv, Nat.reduceMod, Nat.reducePow, Nat.reduceLeDiff, Nat.reduceLT, Nat.reduceGT, Nat.reduceEqDiff, Nat.reduceBEq, Nat.reduceSubDiff, Nat.reduceBeqDiff, Int.reduceLE, Int.reduceLT, Int.reduceEq, Int.reduceToNat, Int.reduceAdd, Int.reduceSub, Int.reduceMul, Int.reduceNeg, Int.reduceGE, Int.reduceGT, Int.reduceNegSucc]
  have d0 : decide ((1000 : Int) < (ts.length : Int)) = false := decide_eq_false (by omega)
  refine VSem.of_body Tryz.func7 rfl (by kernel_rfl) ?_
  refine run_sound 4000 _ ?_
  simp -implicitDefEqProofs only [Tryz.f7, go_sem, Nat.reduceSub, Nat.reduceAdd, Nat.reduceMul, Nat.reduceDiv, Nat.reduceMod, Nat.reducePow, Nat.reduceLeDiff, Nat.reduceLT, Nat.reduceGT, Nat.reduceEqDiff, Nat.reduceBEq, Nat.reduceSubDiff, Nat.reduceBeqDiff, Int.reduceLE, Int.reduceLT, Int.reduceEq, Int.reduceToNat, Int.reduceAdd, Int.reduceSub, Int.reduceMul, Int.reduceNeg, Int.reduceGE, Int.reduceGT, Int.reduceNegSucc, d0]
  refine loop_ind (fun j st => ∃ (i : Nat) (h : List Blk) (ov : AV) (l : List AV), st = ⟨l, h, []⟩ ∧ (l.length = 77 ∧ lget l 0 = c.av ∧ lget l 1 = .islice ts.length (tkC ts) ∧ lget l 2 = .ptr 0 0 ∧ lget l 4 = .bool false ∧ lget l 5 = ov ∧ lget l 19 = .islice ts.length (tkC ts) ∧ lget l 20 = I (ts.length : Nat) ∧ lget l 21 = I i) ∧ (j + i = ts.length ∧ bget h 0 = some ⟨c.cells, 25⟩ ∧ Sl h 39 4 ov i (tkC ((ts.take i).map nrm))))
    ts.length ⟨0, _, .raw (.slice none 0 0), _, rfl, ⟨rfl, rfl, rfl, rfl, rfl, rfl, rfl, rfl, rfl⟩, ⟨rfl, rfl, .inl ⟨rfl, rfl, rfl⟩⟩⟩ ?_
  rintro j _ ⟨i, h, ov, l, rfl, ⟨hlen, g0, g1, g2, g4, g5, g19, g20, g21⟩, ⟨hj, h0, hsl⟩⟩ ih
  have hle : l = [c.av, .islice ts.length (tkC ts), .ptr 0 0, lget l 3, .bool false, ov, lget l 6, lget l 7, lget l 8, lget l 9, lget l 10, lget l 11, lget l 12, lget l 13, lget l 14, lget l 15, lget l 16, lget l 17, lget l 18, .islice ts.length (tkC ts), I (ts.length : Nat), I i, lget l 22, lget l 23, lget l 24, lget l 25, lget l 26, lget l 27, lget l 28, lget l 29, lget l 30, lget l 31, lget l 32, lget l 33, lget l 34, lget l 35, lget l 36, lget l 37, lget l 38, lget l 39, lget l 40, lget l 41, lget l 42, lget l 43, lget l 44, lget l 45, lget l 46, lget l 47, lget l 48, lget l 49, lget l 50, lget l 51, lget l 52, lget l 53, lget l 54, lget l 55, lget l 56, lget l 57, lget l 58, lget l 59, lget l 60, lget l 61, lget l 62, lget l 63, lget l 64, lget l 65, lget l 66, lget l 67, lget l 68, lget l 69, lget l 70, lget l 71, lget l 72, lget l 73, lget l 74, lget l 75, lget l 76] := by
    refine (list_eta hlen).trans ?_
    show [lget l 0, lget l 1, lget l 2, lget l 3, lget l 4, lget l 5, lget l 6, lget l 7, lget l 8, lget l 9, lget l 10, lget l 11, lget l 12, lget l 13, lget l 14, lget l 15, lget l 16, lget l 17, lget l 18, lget l 19, lget l 20, lget l 21, lget l 22, lget l 23, lget l 24, lget l 25, lget l 26, lget l 27, lget l 28, lget l 29, lget l 30, lget l 31, lget l 32, lget l 33, lget l 34, lget l 35, lget l 36, lget l 37, lget l 38, lget l 39, lget l 40, lget l 41, lget l 42, lget l 43, lget l 44, lget l 45, lget l 46, lget l 47, lget l 48, lget l 49, lget l 50, lget l 51, lget l 52, lget l 53, lget l 54, lget l 55, lget l 56, lget l 57, lget l 58, lget l 59, lget l 60, lget l 61, lget l 62, lget l 63, lget l 64, lget l 65, lget l 66, lget l 67, lget l 68, lget l 69, lget l 70, lget l 71, lget l 72, lget l 73, lget l 74, lget l 75, lget l 76] = _
    rw [g0, g1, g2, g4, g5, g19, g20, g21]
  rw [hle]
  clear hle hlen g0 g1 g2 g4 g5 g19 g20 g21
  by_cases hi : i < ts.length
  · have d1 : decide ((i : Int) < (ts.length : Int)) = true := decide_eq_true (by omega)
    have d2 : decide (0 ≤ (i : Int) ∧ (i : Int) < (ts.length : Int)) = true := decide_eq_true (by omega)
    have hw : IntKind.i64.wrap ((i : Int) + 1) = ((i + 1 : Nat) : Int) := by rw [IntKind.wrap_i64]; omega
    obtain ⟨r, hr⟩ := tkC_drop ts [] i hi
    rw [List.append_nil] at hr
    have d4 : List.drop ((i : Int).toNat * 4) (tkC ts) = _ := hr
    have hta : (ts.take (i + 1)).map nrm = (ts.take i).map nrm ++ [nrm ts[i]] := by rw [← List.take_append_getElem hi, List.map_append]; rfl
    have s4 : tkC ((ts.take i).map nrm) ++ (nrm ts[i]).cells = tkC ((ts.take (i + 1)).map nrm) := by rw [hta]; unfold tkC; rw [List.flatMap_append]; simp only [List.flatMap_cons, List.flatMap_nil, List.append_nil]
    refine run_sound 4000 _ ?_
    simp -implicitDefEqProofs only [go_sem, Nat.reduceSub, Nat.reduceAdd, Nat.reduceMul, Nat.reduceDiv, Nat.reduceMod, Nat.reducePow, Nat.reduceLeDiff, Nat.reduceLT, Nat.reduceGT, Nat.reduceEqDiff, Nat.reduceBEq, Nat.reduceSubDiff, Nat.reduceBeqDiff, Int.reduceLE, Int.reduceLT, Int.reduceEq, Int.reduceToNat, Int.reduceAdd, Int.reduceSub, Int.reduceMul, Int.reduceNeg, Int.reduceGE, Int.reduceGT, Int.reduceNegSucc, d1, d2, d4]
    refine call_A (V_refBrings ts[i]) rfl rfl ?_
    cases hb : (brings ts[i]).2
    · have hn : nrm ts[i] = { ts[i] with has := false, press := 0 } := by unfold nrm; rw [hb]; rfl
      refine run_sound 4000 _ ?_
      simp -implicitDefEqProofs only [go_sem, Nat.reduceSub, Nat.reduceAdd, Nat.reduceMul, Nat.reduceDiv, Nat.reduceMod, Nat.reducePow, Nat.reduceLeDiff, Nat.reduceLT, Nat.reduceGT, Nat.reduceEqDiff, Nat.reduceBEq, Nat.reduceSubDiff, Nat.reduceBeqDiff, Int.reduceLE, Int.reduceLT, Int.reduceEq, Int.reduceToNat, Int.reduceAdd, Int.reduceSub, Int.reduceMul, Int.reduceNeg, Int.reduceGE, Int.reduceGT, Int.reduceNegSucc]
      refine oper_sem rfl (O_app2 (sz := 4) (e := 39) (n := i) (cells := tkC ((ts.take i).map nrm)) (xb := h.length + 1) undT infT ?_ (news := (nrm ts[i]).cells) ?_ rfl rfl (by decide) (by omega) (by omega)) ?_
      · exact hsl.imp id fun ⟨z, cap, q1, q2, q3, q4⟩ => ⟨z, cap, q1, q2, q3, bget_app q4 _⟩
      · rw [hn, bget_add]; rfl
      rintro ao h3 ⟨z, cap', rfl, s3, k1, k2, k3, hz⟩
      have h03 : bget h3 0 = some ⟨c.cells, 25⟩ := k3 0 _ (bget_app h0 _) (by show (25 : Nat) ≠ 39; decide)
      rw [s4] at s3
      refine run_sound 4000 _ ?_
      simp -implicitDefEqProofs only [go_sem, Nat.reduceSub, Nat.reduceAdd, Nat.reduceMul, Nat.reduceDiv, Nat.reduceMod, Nat.reducePow, Nat.reduceLeDiff, Nat.reduceLT, Nat.reduceGT, Nat.reduceEqDiff, Nat.reduceBEq, Nat.reduceSubDiff, Nat.reduceBeqDiff, Int.reduceLE, Int.reduceLT, Int.reduceEq, Int.reduceToNat, Int.reduceAdd, Int.reduceSub, Int.reduceMul, Int.reduceNeg, Int.reduceGE, Int.reduceGT, Int.reduceNegSucc, hw]
      exact ih (j - 1) _ (by omega) ⟨i + 1, h3, _, _, rfl, ⟨rfl, rfl, rfl, rfl, rfl, rfl, rfl, rfl, rfl⟩, ⟨by omega, h03, s3⟩⟩
    · have hn : nrm ts[i] = ts[i] := by unfold nrm; rw [hb]; rfl
      refine run_sound 4000 _ ?_
      simp -implicitDefEqProofs only [go_sem, Nat.reduceSub, Nat.reduceAdd, Nat.reduceMul, Nat.reduceDiv, Nat.reduceMod, Nat.reducePow, Nat.reduceLeDiff, Nat.reduceLT, Nat.reduceGT, Nat.reduceEqDiff, Nat.reduceBEq, Nat.reduceSubDiff, Nat.reduceBeqDiff, Int.reduceLE, Int.reduceLT, Int.reduceEq, Int.reduceToNat, Int.reduceAdd, Int.reduceSub, Int.reduceMul, Int.reduceNeg, Int.reduceGE, Int.reduceGT, Int.reduceNegSucc]
      refine oper_sem rfl (O_app2 (sz := 4) (e := 39) (n := i) (cells := tkC ((ts.take i).map nrm)) (xb := h.length + 1) undT infT ?_ (news := (nrm ts[i]).cells) ?_ rfl rfl (by decide) (by omega) (by omega)) ?_
      · exact hsl.imp id fun ⟨z, cap, q1, q2, q3, q4⟩ => ⟨z, cap, q1, q2, q3, bget_app q4 _⟩
      · rw [hn, bget_add]; rfl
      rintro ao h3 ⟨z, cap', rfl, s3, k1, k2, k3, hz⟩
      have h03 : bget h3 0 = some ⟨c.cells, 25⟩ := k3 0 _ (bget_app h0 _) (by show (25 : Nat) ≠ 39; decide)
      rw [s4] at s3
      refine run_sound 4000 _ ?_
      simp -implicitDefEqProofs only [go_sem, Nat.reduceSub, Nat.reduceAdd, Nat.reduceMul, Nat.reduceDiv, Nat.reduceMod, Nat.reducePow, Nat.reduceLeDiff, Nat.reduceLT, Nat.reduceGT, Nat.reduceEqDiff, Nat.reduceBEq, Nat.reduceSubDiff, Nat.reduceBeqDiff, Int.reduceLE, Int.reduceLT, Int.reduceEq, Int.reduceToNat, Int.reduceAdd, Int.reduceSub, Int.reduceMul, Int.reduceNeg, Int.reduceGE, Int.reduceGT, Int.reduceNegSucc, hw]
      exact ih (j - 1) _ (by omega) ⟨i + 1, h3, _, _, rfl, ⟨rfl, rfl, rfl, rfl, rfl, rfl, rfl, rfl, rfl⟩, ⟨by omega, h03, s3⟩⟩
  have d1 : decide ((i : Int) < (ts.length : Int)) = false := decide_eq_false (by omega)
  obtain rfl : i = ts.length := by omega
  rw [List.take_length] at hsl
  refine run_sound 4000 _ ?_
  simp -implicitDefEqProofs only [go_sem, Nat.reduceSub, Nat.reduceAdd, Nat.reduceMul, Nat.reduceDiv, Nat.reduceMod, Nat.reducePow, Nat.reduceLeDiff, Nat.reduceLT, Nat.reduceGT, Nat.reduceEqDiff, Nat.reduceBEq, Nat.reduceSubDiff, Nat.reduceBeqDiff, Int.reduceLE, Int.reduceLT, Int.reduceEq, Int.reduceToNat, Int.reduceAdd, Int.reduceSub, Int.reduceMul, Int.reduceNeg, Int.reduceGE, Int.reduceGT, Int.reduceNegSucc, d1, h0]
  by_cases hc : checkF c = 0
  rotate_left
  · refine call_X (H_RunEI h c ts hc) fun h1 f1 => ?_
    have h01 := f1.get h0 (by simp)
    refine run_sound 4000 _ ?_
    simp -implicitDefEqProofs only [go_sem, Nat.reduceSub, Nat.reduceAdd, Nat.reduceMul, Nat.reduceDiv, Nat.reduceMod, Nat.reducePow, Nat.reduceLeDiff, Nat.reduceLT, Nat.reduceGT, Nat.reduceEqDiff, Nat.reduceBEq, Nat.reduceSubDiff, Nat.reduceBeqDiff, Int.reduceLE, Int.reduceLT, Int.reduceEq, Int.reduceToNat, Int.reduceAdd, Int.reduceSub, Int.reduceMul, Int.reduceNeg, Int.reduceGE, Int.reduceGT, Int.reduceNegSucc, h01]
    rcases hsl with ⟨n0, rfl, _⟩ | ⟨zo, co, rfl, _, _, _⟩
    · refine call_X (H_RunEN h1 c hc) fun h2 f2 => ?_
      refine run_sound 4000 _ ?_
      simp -implicitDefEqProofs only [go_sem, Nat.reduceSub, Nat.reduceAdd, Nat.reduceMul, Nat.reduceDiv, Nat.reduceMod, Nat.reducePow, Nat.reduceLeDiff, Nat.reduceLT, Nat.reduceGT, Nat.reduceEqDiff, Nat.reduceBEq, Nat.reduceSubDiff, Nat.reduceBeqDiff, Int.reduceLE, Int.reduceLT, Int.reduceEq, Int.reduceToNat, Int.reduceAdd, Int.reduceSub, Int.reduceMul, Int.reduceNeg, Int.reduceGE, Int.reduceGT, Int.reduceNegSucc]
      refine loop_go ?_
      refine run_sound 4000 _ ?_
      simp -implicitDefEqProofs only [go_sem, Nat.reduceSub, Nat.reduceAdd, Nat.reduceMul, Nat.reduceDiv, Nat.reduceMod, Nat.reducePow, Nat.reduceLeDiff, Nat.reduceLT, Nat.reduceGT, Nat.reduceEqDiff, Nat.reduceBEq, Nat.reduceSubDiff, Nat.reduceBeqDiff, Int.reduceLE, Int.reduceLT, Int.reduceEq, Int.reduceToNat, Int.reduceAdd, Int.reduceSub, Int.reduceMul, Int.reduceNeg, Int.reduceGE, Int.reduceGT, Int.reduceNegSucc]
      refine call_E V_Fixed rfl ?_
      refine run_sound 4000 _ ?_
      simp -implicitDefEqProofs only [go_sem, Nat.reduceSub, Nat.reduceAdd, Nat.reduceMul, Nat.reduceDiv, Nat.reduceMod, Nat.reducePow, Nat.reduceLeDiff, Nat.reduceLT, Nat.reduceGT, Nat.reduceEqDiff, Nat.reduceBEq, Nat.reduceSubDiff, Nat.reduceBeqDiff, Int.reduceLE, Int.reduceLT, Int.reduceEq, Int.reduceToNat, Int.reduceAdd, Int.reduceSub, Int.reduceMul, Int.reduceNeg, Int.reduceGE, Int.reduceGT, Int.reduceNegSucc]
      refine done_ret ?_
      simp -implicitDefEqProofs only [go_sem, Nat.reduceSub, Nat.reduceAdd, Nat.reduceMul, Nat.reduceDiv, Nat.reduceMod, Nat.reducePow, Nat.reduceLeDiff, Nat.reduceLT, Nat.reduceGT, Nat.reduceEqDiff, Nat.reduceBEq, Nat.reduceSubDiff, Nat.reduceBeqDiff, Int.reduceLE, Int.reduceLT, Int.reduceEq, Int.reduceToNat, Int.reduceAdd, Int.reduceSub, Int.reduceMul, Int.reduceNeg, Int.reduceGE, Int.reduceGT, Int.reduceNegSucc]
    · refine call_X (H_RunES h1 c ts zo co hc) fun h2 f2 => ?_
      refine run_sound 4000 _ ?_
      simp -implicitDefEqProofs only [go_sem, Nat.reduceSub, Nat.reduceAdd, Nat.reduceMul, Nat.reduceDiv, Nat.reduceMod, Nat.reducePow, Nat.reduceLeDiff, Nat.reduceLT, Nat.reduceGT, Nat.reduceEqDiff, Nat.reduceBEq, Nat.reduceSubDiff, Nat.reduceBeqDiff, Int.reduceLE, Int.reduceLT, Int.reduceEq, Int.reduceToNat, Int.reduceAdd, Int.reduceSub, Int.reduceMul, Int.reduceNeg, Int.reduceGE, Int.reduceGT, Int.reduceNegSucc]
      refine loop_go ?_
      refine run_sound 4000 _ ?_
      simp -implicitDefEqProofs only [go_sem, Nat.reduceSub, Nat.reduceAdd, Nat.reduceMul, Nat.reduceDiv, Nat.reduceMod, Nat.reducePow, Nat.reduceLeDiff, Nat.reduceLT, Nat.reduceGT, Nat.reduceEqDiff, Nat.reduceBEq, Nat.reduceSubDiff, Nat.reduceBeqDiff, Int.reduceLE, Int.reduceLT, Int.reduceEq, Int.reduceToNat, Int.reduceAdd, Int.reduceSub, Int.reduceMul, Int.reduceNeg, Int.reduceGE, Int.reduceGT, Int.reduceNegSucc]
      refine call_E V_Fixed rfl ?_
      refine run_sound 4000 _ ?_
      simp -implicitDefEqProofs only [go_sem, Nat.reduceSub, Nat.reduceAdd, Nat.reduceMul, Nat.reduceDiv, Nat.reduceMod, Nat.reducePow, Nat.reduceLeDiff, Nat.reduceLT, Nat.reduceGT, Nat.reduceEqDiff, Nat.reduceBEq, Nat.reduceSubDiff, Nat.reduceBeqDiff, Int.reduceLE, Int.reduceLT, Int.reduceEq, Int.reduceToNat, Int.reduceAdd, Int.reduceSub, Int.reduceMul, Int.reduceNeg, Int.reduceGE, Int.reduceGT, Int.reduceNegSucc]
      refine done_ret ?_
      simp -implicitDefEqProofs only [go_sem, Nat.reduceSub, Nat.reduceAdd, Nat.reduceMul, Nat.reduceDiv, Nat.reduceMod, Nat.reducePow, Nat.reduceLeDiff, Nat.reduceLT, Nat.reduceGT, Nat.reduceEqDiff, Nat.reduceBEq, Nat.reduceSubDiff, Nat.reduceBeqDiff, Int.reduceLE, Int.reduceLT, Int.reduceEq, Int.reduceToNat, Int.reduceAdd, Int.reduceSub, Int.reduceMul, Int.reduceNeg, Int.reduceGE, Int.reduceGT, Int.reduceNegSucc]
  refine call_H (H_RunI h c ts hc hcI hl) fun ao h1 hh => ?_
  obtain ⟨sva, rfl, ha, f1⟩ := hh
  refine ⟨_, rfl, ?_⟩
  have h01 := f1.get h0 (by simp)
  have hso : Sl h1 39 4 ov ts.length (tkC (ts.map nrm)) := hsl.imp id fun ⟨z, cap, q1, q2, q3, q4⟩ => ⟨z, cap, q1, q2, q3, f1.get q4 (by simp)⟩
  clear hsl
  refine run_sound 4000 _ ?_
  simp -implicitDefEqProofs only [go_sem, Nat.reduceSub, Nat.reduceAdd, Nat.reduceMul, Nat.reduceDiv, Nat.reduceMod, Nat.reducePow, Nat.reduceLeDiff, Nat.reduceLT, Nat.reduceGT, Nat.reduceEqDiff, Nat.reduceBEq, Nat.reduceSubDiff, Nat.reduceBeqDiff, Int.reduceLE, Int.reduceLT, Int.reduceEq, Int.reduceToNat, Int.reduceAdd, Int.reduceSub, Int.reduceMul, Int.reduceNeg, Int.reduceGE, Int.reduceGT, Int.reduceNegSucc, h01]
  have run2 : HSem Tryz.prog GD 25 [c.av, ov] h1 (fun ao h' => ∃ sv, ao = .ret (.tuple [sv, I 0]) ∧ Sl h' 36 9 sv ts.length (tdC (tellsC (newC c) ts)) ∧ Frm [] h1 h') := by
    rcases hso with ⟨n0, rfl, _⟩ | ⟨zo, co, rfl, q1, q2, q3⟩
    · obtain rfl : ts = [] := List.eq_nil_of_length_eq_zero n0
      exact H_RunN h1 c hc hcI
    · have := H_RunS h1 c (ts.map nrm) zo co _ q3 hc hcI (by rw [List.length_map]; exact hl)
      rw [List.length_map, tells_nrm] at this
      exact this
  refine call_H run2 fun ao h2 hh => ?_
  obtain ⟨svb, rfl, hbq, f2⟩ := hh
  refine ⟨_, rfl, ?_⟩
  have ha2 : Sl h2 36 9 sva ts.length (tdC (tellsC (newC c) ts)) := ha.imp id fun ⟨z, cap, q1, q2, q3, q4⟩ => ⟨z, cap, q1, q2, q3, f2.get q4 (by simp)⟩
  clear run2 ha
  have h02 := f2.get h01 (by simp)
  have hlen := tellsC_length ts (newC c)
  obtain ⟨tds, htd⟩ : ∃ tds, tellsC (newC c) ts = tds := ⟨_, rfl⟩
  rw [htd] at ha2 hbq hlen
  rcases ha2 with ⟨n0, rfl, _⟩ | ⟨za, ca, rfl, p1, p2, p3⟩
  · rw [n0] at hbq
    rcases hbq with ⟨_, rfl, _⟩ | ⟨zb, cb, rfl, q1, q2, q3⟩
    all_goals
      refine run_sound 4000 _ ?_
      simp -implicitDefEqProofs only [go_sem, Nat.reduceSub, Nat.reduceAdd, Nat.reduceMul, Nat.reduceDiv, Nat.reduceMod, Nat.reducePow, Nat.reduceLeDiff, Nat.reduceLT, Nat.reduceGT, Nat.reduceEqDiff, Nat.reduceBEq, Nat.reduceSubDiff, Nat.reduceBeqDiff, Int.reduceLE, Int.reduceLT, Int.reduceEq, Int.reduceToNat, Int.reduceAdd, Int.reduceSub, Int.reduceMul, Int.reduceNeg, Int.reduceGE, Int.reduceGT, Int.reduceNegSucc]
      refine loop_go ?_
      refine run_sound 4000 _ ?_
      simp -implicitDefEqProofs only [go_sem, Nat.reduceSub, Nat.reduceAdd, Nat.reduceMul, Nat.reduceDiv, Nat.reduceMod, Nat.reducePow, Nat.reduceLeDiff, Nat.reduceLT, Nat.reduceGT, Nat.reduceEqDiff, Nat.reduceBEq, Nat.reduceSubDiff, Nat.reduceBeqDiff, Int.reduceLE, Int.reduceLT, Int.reduceEq, Int.reduceToNat, Int.reduceAdd, Int.reduceSub, Int.reduceMul, Int.reduceNeg, Int.reduceGE, Int.reduceGT, Int.reduceNegSucc]
      refine call_E V_Fixed rfl ?_
      refine run_sound 4000 _ ?_
      simp -implicitDefEqProofs only [go_sem, Nat.reduceSub, Nat.reduceAdd, Nat.reduceMul, Nat.reduceDiv, Nat.reduceMod, Nat.reducePow, Nat.reduceLeDiff, Nat.reduceLT, Nat.reduceGT, Nat.reduceEqDiff, Nat.reduceBEq, Nat.reduceSubDiff, Nat.reduceBeqDiff, Int.reduceLE, Int.reduceLT, Int.reduceEq, Int.reduceToNat, Int.reduceAdd, Int.reduceSub, Int.reduceMul, Int.reduceNeg, Int.reduceGE, Int.reduceGT, Int.reduceNegSucc]
      refine done_ret ?_
      simp -implicitDefEqProofs only [go_sem, Nat.reduceSub, Nat.reduceAdd, Nat.reduceMul, Nat.reduceDiv, Nat.reduceMod, Nat.reducePow, Nat.reduceLeDiff, Nat.reduceLT, Nat.reduceGT, Nat.reduceEqDiff, Nat.reduceBEq, Nat.reduceSubDiff, Nat.reduceBeqDiff, Int.reduceLE, Int.reduceLT, Int.reduceEq, Int.reduceToNat, Int.reduceAdd, Int.reduceSub, Int.reduceMul, Int.reduceNeg, Int.reduceGE, Int.reduceGT, Int.reduceNegSucc]
  rcases hbq with ⟨n0, rfl, _⟩ | ⟨zb, cb, rfl, q1, q2, q3⟩
  · rw [n0]
    refine run_sound 4000 _ ?_
    simp -implicitDefEqProofs only [go_sem, Nat.reduceSub, Nat.reduceAdd, Nat.reduceMul, Nat.reduceDiv, Nat.reduceMod, Nat.reducePow, Nat.reduceLeDiff, Nat.reduceLT, Nat.reduceGT, Nat.reduceEqDiff, Nat.reduceBEq, Nat.reduceSubDiff, Nat.reduceBeqDiff, Int.reduceLE, Int.reduceLT, Int.reduceEq, Int.reduceToNat, Int.reduceAdd, Int.reduceSub, Int.reduceMul, Int.reduceNeg, Int.reduceGE, Int.reduceGT, Int.reduceNegSucc]
    refine loop_go ?_
    refine run_sound 4000 _ ?_
    simp -implicitDefEqProofs only [go_sem, Nat.reduceSub, Nat.reduceAdd, Nat.reduceMul, Nat.reduceDiv, Nat.reduceMod, Nat.reducePow, Nat.reduceLeDiff, Nat.reduceLT, Nat.reduceGT, Nat.reduceEqDiff, Nat.reduceBEq, Nat.reduceSubDiff, Nat.reduceBeqDiff, Int.reduceLE, Int.reduceLT, Int.reduceEq, Int.reduceToNat, Int.reduceAdd, Int.reduceSub, Int.reduceMul, Int.reduceNeg, Int.reduceGE, Int.reduceGT, Int.reduceNegSucc]
    refine call_E V_Fixed rfl ?_
    refine run_sound 4000 _ ?_
    simp -implicitDefEqProofs only [go_sem, Nat.reduceSub, Nat.reduceAdd, Nat.reduceMul, Nat.reduceDiv, Nat.reduceMod, Nat.reducePow, Nat.reduceLeDiff, Nat.reduceLT, Nat.reduceGT, Nat.reduceEqDiff, Nat.reduceBEq, Nat.reduceSubDiff, Nat.reduceBeqDiff, Int.reduceLE, Int.reduceLT, Int.reduceEq, Int.reduceToNat, Int.reduceAdd, Int.reduceSub, Int.reduceMul, Int.reduceNeg, Int.reduceGE, Int.reduceGT, Int.reduceNegSucc]
    refine done_ret ?_
    simp -implicitDefEqProofs only [go_sem, Nat.reduceSub, Nat.reduceAdd, Nat.reduceMul, Nat.reduceDiv, Nat.reduceMod, Nat.reducePow, Nat.reduceLeDiff, Nat.reduceLT, Nat.reduceGT, Nat.reduceEqDiff, Nat.reduceBEq, Nat.reduceSubDiff, Nat.reduceBeqDiff, Int.reduceLE, Int.reduceLT, Int.reduceEq, Int.reduceToNat, Int.reduceAdd, Int.reduceSub, Int.reduceMul, Int.reduceNeg, Int.reduceGE, Int.reduceGT, Int.reduceNegSucc]
  have dn : decide ((ts.length : Int) = (ts.length : Int)) = true := decide_eq_true rfl
  refine run_sound 4000 _ ?_
  simp -implicitDefEqProofs only [go_sem, Nat.reduceSub, Nat.reduceAdd, Nat.reduceMul, Nat.reduceDiv, Nat.reduceMod, Nat.reducePow, Nat.reduceLeDiff, Nat.reduceLT, Nat.reduceGT, Nat.reduceEqDiff, Nat.reduceBEq, Nat.reduceSubDiff, Nat.reduceBeqDiff, Int.reduceLE, Int.reduceLT, Int.reduceEq, Int.reduceToNat, Int.reduceAdd, Int.reduceSub, Int.reduceMul, Int.reduceNeg, Int.reduceGE, Int.reduceGT, Int.reduceNegSucc, dn]
  refine loop_ind (fun j st => ∃ (i : Nat) (l : List AV), st = ⟨l, h2, []⟩ ∧ (l.length = 77 ∧ lget l 2 = .ptr 0 0 ∧ lget l 10 = .slice za 0 ts.length ca ∧ lget l 12 = .slice zb 0 ts.length cb ∧ lget l 61 = .slice za 0 ts.length ca ∧ lget l 62 = I (ts.length : Nat) ∧ lget l 63 = I i) ∧ (j + i = ts.length)) ts.length ⟨0, _, rfl, ⟨rfl, rfl, rfl, rfl, rfl, rfl, rfl⟩, rfl⟩ ?_
  rintro j _ ⟨i, l, rfl, ⟨hlen, g2, g10, g12, g61, g62, g63⟩, hj⟩ ih
  have hle : l = [lget l 0, lget l 1, .ptr 0 0, lget l 3, lget l 4, lget l 5, lget l 6, lget l 7, lget l 8, lget l 9, .slice za 0 ts.length ca, lget l 11, .slice zb 0 ts.length cb, lget l 13, lget l 14, lget l 15, lget l 16, lget l 17, lget l 18, lget l 19, lget l 20, lget l 21, lget l 22, lget l 23, lget l 24, lget l 25, lget l 26, lget l 27, lget l 28, lget l 29, lget l 30, lget l 31, lget l 32, lget l 33, lget l 34, lget l 35, lget l 36, lget l 37, lget l 38, lget l 39, lget l 40, lget l 41, lget l 42, lget l 43, lget l 44, lget l 45, lget l 46, lget l 47, lget l 48, lget l 49, lget l 50, lget l 51, lget l 52, lget l 53, lget l 54, lget l 55, lget l 56, lget l 57, lget l 58, lget l 59, lget l 60, .slice za 0 ts.length ca, I (ts.length : Nat), I i, lget l 64, lget l 65, lget l 66, lget l 67, lget l 68, lget l 69, lget l 70, lget l 71, lget l 72, lget l 73, lget l 74, lget l 75, lget l 76] := by
    refine (list_eta hlen).trans ?_
    show [lget l 0, lget l 1, lget l 2, lget l 3, lget l 4, lget l 5, lget l 6, lget l 7, lget l 8, lget l 9, lget l 10, lget l 11, lget l 12, lget l 13, lget l 14, lget l 15, lget l 16, lget l 17, lget l 18, lget l 19, lget l 20, lget l 21, lget l 22, lget l 23, lget l 24, lget l 25, lget l 26, lget l 27, lget l 28, lget l 29, lget l 30, lget l 31, lget l 32, lget l 33, lget l 34, lget l 35, lget l 36, lget l 37, lget l 38, lget l 39, lget l 40, lget l 41, lget l 42, lget l 43, lget l 44, lget l 45, lget l 46, lget l 47, lget l 48, lget l 49, lget l 50, lget l 51, lget l 52, lget l 53, lget l 54, lget l 55, lget l 56, lget l 57, lget l 58, lget l 59, lget l 60, lget l 61, lget l 62, lget l 63, lget l 64, lget l 65, lget l 66, lget l 67, lget l 68, lget l 69, lget l 70, lget l 71, lget l 72, lget l 73, lget l 74, lget l 75, lget l 76] = _
    rw [g2, g10, g12, g61, g62, g63]
  rw [hle]
  clear hle hlen g2 g10 g12 g61 g62 g63
  by_cases hi : i < ts.length
  · have d1 : decide ((i : Int) < (ts.length : Int)) = true := decide_eq_true (by omega)
    have d3 : decide (0 ≤ (i : Int) ∧ (i : Int) < (ts.length : Int)) = true := decide_eq_true (by omega)
    have hw : IntKind.i64.wrap ((i : Int) + 1) = ((i + 1 : Nat) : Int) := by rw [IntKind.wrap_i64]; omega
    refine run_sound 4000 _ ?_
    simp -implicitDefEqProofs only [go_sem, Nat.reduceSub, Nat.reduceAdd, Nat.reduceMul, Nat.reduceDiv, Nat.reduceMod, Nat.reducePow, Nat.reduceLeDiff, Nat.reduceLT, Nat.reduceGT, Nat.reduceEqDiff, Nat.reduceBEq, Nat.reduceSubDiff, Nat.reduceBeqDiff, Int.reduceLE, Int.reduceLT, Int.reduceEq, Int.reduceToNat, Int.reduceAdd, Int.reduceSub, Int.reduceMul, Int.reduceNeg, Int.reduceGE, Int.reduceGT, Int.reduceNegSucc, d1]
    refine draw_sem mixed [] (fun _ _ _ => True) [(0, []), (1, []), (2, []), (3, []), (4, []), (5, []), (6, []), (7, []), (8, [])] (by kernel_rfl) ?_
    simp -implicitDefEqProofs only [go_sem, Nat.reduceSub, Nat.reduceAdd, Nat.reduceMul, Nat.reduceDiv, Nat.reduceMod, Nat.reducePow, Nat.reduceLeDiff, Nat.reduceLT, Nat.reduceGT, Nat.reduceEqDiff, Nat.reduceBEq, Nat.reduceSubDiff, Nat.reduceBeqDiff, Int.reduceLE, Int.reduceLT, Int.reduceEq, Int.reduceToNat, Int.reduceAdd, Int.reduceSub, Int.reduceMul, Int.reduceNeg, Int.reduceGE, Int.reduceGT, Int.reduceNegSucc]
    have hit : i < tds.length := by omega
    obtain ⟨r1, hr1⟩ := tdC_drop tds (List.replicate ((ca - ts.length) * 9) .junk) i hit
    obtain ⟨r2, hr2⟩ := tdC_drop tds (List.replicate ((cb - ts.length) * 9) .junk) i hit
    rw [show i * 9 = 0 + (i : Int).toNat * 9 by rw [Nat.zero_add, Int.toNat_natCast]] at hr1 hr2
    have d5 : decide (0 + (i : Int).toNat * 9 + 9 ≤ (tdC tds ++ List.replicate ((ca - ts.length) * 9) AV.junk).length) = true := decide_eq_true (by rw [List.length_append, tdC_length, Int.toNat_natCast]; omega)
    have d6 : decide (0 + (i : Int).toNat * 9 + 9 ≤ (tdC tds ++ List.replicate ((cb - ts.length) * 9) AV.junk).length) = true := decide_eq_true (by rw [List.length_append, tdC_length, Int.toNat_natCast]; omega)
    have bs : ∀ x : Bool, (x == x) = true := fun x => beq_self_eq_true x
    simp -implicitDefEqProofs only [go_sem, Nat.reduceSub, Nat.reduceAdd, Nat.reduceMul, Nat.reduceDiv, Nat.reduceMod, Nat.reducePow, Nat.reduceLeDiff, Nat.reduceLT, Nat.reduceGT, Nat.reduceEqDiff, Nat.reduceBEq, Nat.reduceSubDiff, Nat.reduceBeqDiff, Int.reduceLE, Int.reduceLT, Int.reduceEq, Int.reduceToNat, Int.reduceAdd, Int.reduceSub, Int.reduceMul, Int.reduceNeg, Int.reduceGE, Int.reduceGT, Int.reduceNegSucc, d3, p3, q3, hr1, hr2, d5, d6]
    refine run_sound 4000 _ ?_
    simp -implicitDefEqProofs only [go_sem, Nat.reduceSub, Nat.reduceAdd, Nat.reduceMul, Nat.reduceDiv, Nat.reduceMod, Nat.reducePow, Nat.reduceLeDiff, Nat.reduceLT, Nat.reduceGT, Nat.reduceEqDiff, Nat.reduceBEq, Nat.reduceSubDiff, Nat.reduceBeqDiff, Int.reduceLE, Int.reduceLT, Int.reduceEq, Int.reduceToNat, Int.reduceAdd, Int.reduceSub, Int.reduceMul, Int.reduceNeg, Int.reduceGE, Int.reduceGT, Int.reduceNegSucc, hw, bs, Bool.and_self, Bool.not_true]
    refine ih (j - 1) _ (by omega) ⟨i + 1, _, rfl, ?_, by omega⟩
    exact ⟨rfl, rfl, rfl, rfl, rfl, rfl, rfl⟩
  · have d1 : decide ((i : Int) < (ts.length : Int)) = false := decide_eq_false (by omega)
    refine run_sound 4000 _ ?_
    simp -implicitDefEqProofs only [go_sem, Nat.reduceSub, Nat.reduceAdd, Nat.reduceMul, Nat.reduceDiv, Nat.reduceMod, Nat.reducePow, Nat.reduceLeDiff, Nat.reduceLT, Nat.reduceGT, Nat.reduceEqDiff, Nat.reduceBEq, Nat.reduceSubDiff, Nat.reduceBeqDiff, Int.reduceLE, Int.reduceLT, Int.reduceEq, Int.reduceToNat, Int.reduceAdd, Int.reduceSub, Int.reduceMul, Int.reduceNeg, Int.reduceGE, Int.reduceGT, Int.reduceNegSucc, d1]
    refine call_E V_Fixed rfl ?_
    refine run_sound 4000 _ ?_
    simp -implicitDefEqProofs only [go_sem, Nat.reduceSub, Nat.reduceAdd, Nat.reduceMul, Nat.reduceDiv, Nat.reduceMod, Nat.reducePow, Nat.reduceLeDiff, Nat.reduceLT, Nat.reduceGT, Nat.reduceEqDiff, Nat.reduceBEq, Nat.reduceSubDiff, Nat.reduceBeqDiff, Int.reduceLE, Int.reduceLT, Int.reduceEq, Int.reduceToNat, Int.reduceAdd, Int.reduceSub, Int.reduceMul, Int.reduceNeg, Int.reduceGE, Int.reduceGT, Int.reduceNegSucc]
    refine done_ret ?_
    simp -implicitDefEqProofs only [go_sem, Nat.reduceSub, Nat.reduceAdd, Nat.reduceMul, Nat.reduceDiv, Nat.reduceMod, Nat.reducePow, Nat.reduceLeDiff, Nat.reduceLT, Nat.reduceGT, Nat.reduceEqDiff, Nat.reduceBEq, Nat.reduceSubDiff, Nat.reduceBeqDiff, Int.reduceLE, Int.reduceLT, Int.reduceEq, Int.reduceToNat, Int.reduceAdd, Int.reduceSub, Int.reduceMul, Int.reduceNeg, Int.reduceGE, Int.reduceGT, Int.reduceNegSucc]
end Go.Proofs.YtakcibjjfkgadaaGreatDoor
