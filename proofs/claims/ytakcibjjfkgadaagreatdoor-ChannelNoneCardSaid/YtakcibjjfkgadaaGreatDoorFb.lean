/- Layer 20: channels: a tick. -/
import Derived.Test.YtakcibjjfkgadaaGreatDoorFa
set_option linter.unusedSimpArgs false
set_option linter.unusedVariables false
set_option maxRecDepth 100000
set_option pp.maxSteps 3000
set_option maxHeartbeats 4000000
namespace Go.Proofs.YtakcibjjfkgadaaGreatDoor
open Go.Ev

theorem Chan.setf {h : List Blk} {b : Nat} {w : Pl} {ch : Chn} (c : Chan h b w ch) (f : Fed) : Chan (bset h w.f ⟨f.cells ch.c, 117⟩) b w { ch with fd := f } := by
  refine ⟨?_, bget_bset c.f _, ?_, ?_⟩
  · rw [bget_ne (Ne.symm (bget_el c.b c.f (by show (55 : Nat) ≠ 117; decide)))]; exact c.b
  · rw [bget_ne (Ne.symm (bget_el c.g c.f (by show (110 : Nat) ≠ 117; decide)))]; exact c.g
  · exact c.s.imp id fun ⟨s, cap, h1, h2, h3⟩ => ⟨s, cap, h1, h2, by rw [bget_ne (bget_el c.f h3 (by show (117 : Nat) ≠ 2; decide))]; exact h3⟩
theorem Mv.setf {h : List Blk} {b : Nat} {w : Pl} (x : Blk) : Mv h (bset h w.f x) b w w := ⟨.set (List.mem_cons.2 (.inr (Pl.mem_all.2 (.inl rfl)))) _, rfl, rfl, fun s cap e => .inl ⟨cap, e⟩⟩
/-- A block of another kind. -/
structure Oth (k : Blk) : Prop where
  b : k.elem ≠ 55
  f : k.elem ≠ 117
  g : k.elem ≠ 110
  s : k.elem ≠ 2
theorem Chan.oth {h : List Blk} {b : Nat} {w : Pl} {ch : Chn} (c : Chan h b w ch) {j : Nat} {k : Blk} (hj : bget h j = some k) (o : Oth k) : j ∉ b :: w.all := by
  intro hm
  rcases List.mem_cons.1 hm with e | hm
  · exact bget_el hj c.b o.b e
  · rcases Pl.mem_all.1 hm with e | e | ⟨cap, e⟩
    · exact bget_el hj c.f o.f e
    · exact bget_el hj c.g o.g e
    · rcases c.s with ⟨h1, _⟩ | ⟨s, cap', h1, _, h3⟩
      · rw [h1] at e; cases e
      · rw [h1] at e
        cases e
        exact bget_el hj h3 o.s rfl
theorem Mv.oth {h h' : List Blk} {b : Nat} {w w' : Pl} {ch : Chn} (m : Mv h h' b w w') (c : Chan h b w ch) {j : Nat} {k : Blk} (hj : bget h j = some k) (o : Oth k) : bget h' j = some k := m.fr.get hj (c.oth hj o)
theorem Chan.setj {h : List Blk} {b : Nat} {w : Pl} {ch : Chn} (c : Chan h b w ch) {j : Nat} {k : Blk} (hj : bget h j = some k) (o : Oth k) (x : Blk) : Chan (bset h j x) b w ch := by
  refine ⟨?_, ?_, ?_, ?_⟩
  · rw [bget_ne (bget_el hj c.b o.b)]; exact c.b
  · rw [bget_ne (bget_el hj c.f o.f)]; exact c.f
  · rw [bget_ne (bget_el hj c.g o.g)]; exact c.g
  · exact c.s.imp id fun ⟨s, cap, h1, h2, h3⟩ => ⟨s, cap, h1, h2, by rw [bget_ne (bget_el hj h3 o.s)]; exact h3⟩
theorem Mv.setn {h h1 : List Blk} {b : Nat} {w w1 : Pl} (m : Mv h h1 b w w1) {j : Nat} (hj : h.length ≤ j) (x : Blk) : Mv h (bset h1 j x) b w w1 :=
  ⟨⟨by rw [bset_length]; exact m.fr.le, fun i hi hn => (bget_ne (by omega) _).trans (m.fr.eq i hi hn)⟩, m.f, m.g, m.s⟩
theorem oT (cs : List AV) : Oth ⟨cs, 39⟩ := ⟨by show (39 : Nat) ≠ _; decide, by show (39 : Nat) ≠ _; decide, by show (39 : Nat) ≠ _; decide, by show (39 : Nat) ≠ _; decide⟩
theorem oO (cs : List AV) : Oth ⟨cs, 36⟩ := ⟨by show (36 : Nat) ≠ _; decide, by show (36 : Nat) ≠ _; decide, by show (36 : Nat) ≠ _; decide, by show (36 : Nat) ≠ _; decide⟩

theorem Chan.clear {h : List Blk} {b : Nat} {w : Pl} {ch : Chn} (c : Chan h b w ch) : Chan (bset h b ⟨({ ch with first := [] } : Chn).cells { w with s := none }, 55⟩) b { w with s := none } { ch with first := [] } := by
  refine ⟨bget_bset c.b _, ?_, ?_, .inl ⟨rfl, rfl⟩⟩
  · show bget _ w.f = _
    rw [bget_ne (bget_el c.b c.f (by show (55 : Nat) ≠ 117; decide))]; exact c.f
  · show bget _ w.g = _
    rw [bget_ne (bget_el c.b c.g (by show (55 : Nat) ≠ 110; decide))]; exact c.g
theorem Mv.clear {h h1 : List Blk} {b : Nat} {w w1 : Pl} (m : Mv h h1 b w w1) (x : Blk) : Mv h (bset h1 b x) b w { w1 with s := none } :=
  ⟨m.fr.trans' (Frm.set (l := [b]) (by simp) x) (fun j _ hj => by simp at hj; rw [hj]; simp), m.f, m.g, fun _ _ e => by cases e⟩
theorem H_Step (hp : List Blk) (b : Nat) (w : Pl) (ch : Chn) (t : Tk) (hok : ch.ok) (hc : Chan hp b w ch) :
    HSem Tryz.prog GD 14 [.ptr b 0, t.av] hp (fun ao h' => ao = .ret (tellC ch t).av ∧ ∃ w', Chan h' b w' (stepC ch t) ∧ Mv hp h' b w w') := by
  refine HSem.of_body Tryz.func14 rfl (by kernel_rfl) ?_
  refine run_sound 4000 _ ?_
  simp -implicitDefEqProofs only [Tryz.f14, go_sem, Nat.reduceSub, Nat.reduceAdd, Nat.reduceMul, Nat.reduceDiv, Nat.reduceMod, Nat.reducePow, Nat.reduceLeDiff, Nat.reduceLT, Nat.reduceGT, Nat.reduceEqDiff, Nat.reduceBEq, Nat.reduceSubDiff, Nat.reduceBeqDiff, Int.reduceLE, Int.reduceLT, Int.reduceEq, Int.reduceToNat, Int.reduceAdd, Int.reduceSub, Int.reduceMul, Int.reduceNeg, Int.reduceGE, Int.reduceGT, Int.reduceNegSucc]
  refine draw_sem mixed [] (fun _ _ _ => True) [(0, []), (1, []), (2, []), (3, []), (4, []), (5, []), (6, []), (7, []), (8, []), (9, []), (10, []), (11, []), (12, []), (13, [])] (by kernel_rfl) ?_
  simp -implicitDefEqProofs only [go_sem, Nat.reduceSub, Nat.reduceAdd, Nat.reduceMul, Nat.reduceDiv, Nat.reduceMod, Nat.reducePow, Nat.reduceLeDiff, Nat.reduceLT, Nat.reduceGT, Nat.reduceEqDiff, Nat.reduceBEq, Nat.reduceSubDiff, Nat.reduceBeqDiff, Int.reduceLE, Int.reduceLT, Int.reduceEq, Int.reduceToNat, Int.reduceAdd, Int.reduceSub, Int.reduceMul, Int.reduceNeg, Int.reduceGE, Int.reduceGT, Int.reduceNegSucc]
  simp -implicitDefEqProofs only [go_sem, Nat.reduceSub, Nat.reduceAdd, Nat.reduceMul, Nat.reduceDiv, Nat.reduceMod, Nat.reducePow, Nat.reduceLeDiff, Nat.reduceLT, Nat.reduceGT, Nat.reduceEqDiff, Nat.reduceBEq, Nat.reduceSubDiff, Nat.reduceBeqDiff, Int.reduceLE, Int.reduceLT, Int.reduceEq, Int.reduceToNat, Int.reduceAdd, Int.reduceSub, Int.reduceMul, Int.reduceNeg, Int.reduceGE, Int.reduceGT, Int.reduceNegSucc, bget_app hc.b]
  refine dcall_H (by rfl) (H_In _ w.f ch.c ch.fd t.accel (bget_app hc.f _)) fun ao h' hh => ?_
  obtain ⟨rfl, rfl⟩ := hh
  refine ⟨_, rfl, ?_⟩
  obtain ⟨hF, hhF⟩ : ∃ hF, bset hp w.f ⟨(inF ch.c ch.fd t.accel).1.cells ch.c, 117⟩ = hF := ⟨_, rfl⟩
  have hl : hF.length = hp.length := by rw [← hhF, bset_length]
  have cF : Chan hF b w (feedF ch t) := by
    rw [← hhF]
    exact hc.setf _
  have mF : Mv hp hF b w w := by
    rw [← hhF]
    exact Mv.setf _
  rw [bset_app hc.f, hhF, ← hl]
  have hmok := midF_ok (hok.feed t) (inF ch.c ch.fd t.accel).2.1 (inF ch.c ch.fd t.accel).2.2.1 (inF ch.c ch.fd t.accel).2.2.2 t
  have hcF : (feedF ch t).k = ch.k := rfl
  unfold tellC stepC midS
  obtain ⟨⟨f1, th, held, lost⟩, hfi⟩ : ∃ fi, inF ch.c ch.fd t.accel = fi := ⟨_, rfl⟩
  rw [hfi] at hmok ⊢
  obtain ⟨m, hm⟩ : ∃ m, midF (feedF ch t) th held lost t = m := ⟨_, rfl⟩
  have hmok : m.ok := by rw [← hm]; exact hmok
  have cb := bget_app cF.b
  have hbr := V_Brings t
  obtain ⟨⟨n, ok⟩, hbe⟩ : ∃ x, brings t = x := ⟨_, rfl⟩
  rw [hbe] at hbr
  simp -implicitDefEqProofs only [go_sem, Nat.reduceSub, Nat.reduceAdd, Nat.reduceMul, Nat.reduceDiv, Nat.reduceMod, Nat.reducePow, Nat.reduceLeDiff, Nat.reduceLT, Nat.reduceGT, Nat.reduceEqDiff, Nat.reduceBEq, Nat.reduceSubDiff, Nat.reduceBeqDiff, Int.reduceLE, Int.reduceLT, Int.reduceEq, Int.reduceToNat, Int.reduceAdd, Int.reduceSub, Int.reduceMul, Int.reduceNeg, Int.reduceGE, Int.reduceGT, Int.reduceNegSucc]
  refine run_sound 4000 _ ?_
  simp -implicitDefEqProofs only [go_sem, Nat.reduceSub, Nat.reduceAdd, Nat.reduceMul, Nat.reduceDiv, Nat.reduceMod, Nat.reducePow, Nat.reduceLeDiff, Nat.reduceLT, Nat.reduceGT, Nat.reduceEqDiff, Nat.reduceBEq, Nat.reduceSubDiff, Nat.reduceBeqDiff, Int.reduceLE, Int.reduceLT, Int.reduceEq, Int.reduceToNat, Int.reduceAdd, Int.reduceSub, Int.reduceMul, Int.reduceNeg, Int.reduceGE, Int.reduceGT, Int.reduceNegSucc]
  refine call_A hbr rfl rfl ?_
  refine run_sound 4000 _ ?_
  simp -implicitDefEqProofs only [go_sem, Nat.reduceSub, Nat.reduceAdd, Nat.reduceMul, Nat.reduceDiv, Nat.reduceMod, Nat.reducePow, Nat.reduceLeDiff, Nat.reduceLT, Nat.reduceGT, Nat.reduceEqDiff, Nat.reduceBEq, Nat.reduceSubDiff, Nat.reduceBeqDiff, Int.reduceLE, Int.reduceLT, Int.reduceEq, Int.reduceToNat, Int.reduceAdd, Int.reduceSub, Int.reduceMul, Int.reduceNeg, Int.reduceGE, Int.reduceGT, Int.reduceNegSucc, cb]
  refine call_A (V_Seeks ch.k) rfl rfl ?_
  refine run_sound 5 _ ?_
  simp -implicitDefEqProofs only [go_sem, Nat.reduceSub, Nat.reduceAdd, Nat.reduceMul, Nat.reduceDiv, Nat.reduceMod, Nat.reducePow, Nat.reduceLeDiff, Nat.reduceLT, Nat.reduceGT, Nat.reduceEqDiff, Nat.reduceBEq, Nat.reduceSubDiff, Nat.reduceBeqDiff, Int.reduceLE, Int.reduceLT, Int.reduceEq, Int.reduceToNat, Int.reduceAdd, Int.reduceSub, Int.reduceMul, Int.reduceNeg, Int.reduceGE, Int.reduceGT, Int.reduceNegSucc, bset_add]
  refine CfgSem.gen fun h0 e0 => ?_
  have d3 : bget h0 hF.length = some ⟨t.cells, 39⟩ := by rw [e0, bget_len]; rfl
  have d4 : bget h0 (hF.length + 1) = some ⟨[I 0, .bool false, .bool false, .bool false, .bool false, .bool false, I 0, I 0, I 0], 36⟩ := by rw [e0, bget_add]; rfl
  have d5 : bget h0 (hF.length + 2) = some ⟨[I 0, .bool false, .bool false, .bool false, .bool held, .bool false, I 0, I 0, I 0], 36⟩ := by rw [e0, bget_add]; rfl
  have c0 : Chan h0 b w (feedF ch t) := by rw [e0]; exact cF.app _
  have m0 : Mv hF h0 b w w := by rw [e0]; exact Mv.app _
  clear e0
  have ok0 := hok.feed t
  have cb0 := c0.b
  rw [hm]
  unfold midF at hm
  rw [hcF, hbe] at hm
  refine cut (fun st' => ∃ (h2 : List Blk) (w2 : Pl) (l : List AV), st' = ⟨l, h2, []⟩ ∧ (l.length = 146 ∧ lget l 0 = .ptr b 0 ∧ lget l 1 = t.av ∧ lget l 3 = .ptr hF.length 0 ∧ lget l 4 = .ptr (hF.length + 1) 0 ∧ lget l 5 = .ptr (hF.length + 2) 0 ∧ lget l 11 = I m.ev ∧ lget l 12 = .bool (sks ch.k.m)) ∧ (Chan h2 b w2 m.ch ∧ Mv hF h2 b w w2 ∧ bget h2 (hF.length + 1) = some ⟨[I 0, .bool false, .bool false, .bool false, .bool false, .bool false, I 0, I 0, I 0], 36⟩ ∧
    bget h2 (hF.length + 2) = some ⟨[I 0, .bool false, .bool m.acc, .bool m.ref, .bool held, .bool m.gr, I 0, I 0, I 0], 36⟩)) ?_ ?_
  · cases lost
    rotate_left
    · rw [if_pos rfl] at hm
      subst hm
      refine run_sound 4000 _ ?_
      simp -implicitDefEqProofs only [go_sem, Nat.reduceSub, Nat.reduceAdd, Nat.reduceMul, Nat.reduceDiv, Nat.reduceMod, Nat.reducePow, Nat.reduceLeDiff, Nat.reduceLT, Nat.reduceGT, Nat.reduceEqDiff, Nat.reduceBEq, Nat.reduceSubDiff, Nat.reduceBeqDiff, Int.reduceLE, Int.reduceLT, Int.reduceEq, Int.reduceToNat, Int.reduceAdd, Int.reduceSub, Int.reduceMul, Int.reduceNeg, Int.reduceGE, Int.reduceGT, Int.reduceNegSucc]
      exact ⟨rfl, h0, w, _, rfl, ⟨rfl, rfl, rfl, rfl, rfl, rfl, rfl, rfl⟩, ⟨c0, m0, d4, d5⟩⟩
    rw [if_neg (by simp)] at hm
    cases hs : sks ch.k.m
    rotate_left
    · rw [if_pos hs] at hm
      cases ok
      · rw [if_neg (by simp)] at hm
        subst hm
        refine run_sound 4000 _ ?_
        simp -implicitDefEqProofs only [go_sem, Nat.reduceSub, Nat.reduceAdd, Nat.reduceMul, Nat.reduceDiv, Nat.reduceMod, Nat.reducePow, Nat.reduceLeDiff, Nat.reduceLT, Nat.reduceGT, Nat.reduceEqDiff, Nat.reduceBEq, Nat.reduceSubDiff, Nat.reduceBeqDiff, Int.reduceLE, Int.reduceLT, Int.reduceEq, Int.reduceToNat, Int.reduceAdd, Int.reduceSub, Int.reduceMul, Int.reduceNeg, Int.reduceGE, Int.reduceGT, Int.reduceNegSucc]
        exact ⟨rfl, h0, w, _, rfl, ⟨rfl, rfl, rfl, rfl, rfl, rfl, rfl, rfl⟩, ⟨c0, m0, d4, d5⟩⟩
      · rw [if_pos rfl] at hm
        refine run_sound 4000 _ ?_
        simp -implicitDefEqProofs only [go_sem, Nat.reduceSub, Nat.reduceAdd, Nat.reduceMul, Nat.reduceDiv, Nat.reduceMod, Nat.reducePow, Nat.reduceLeDiff, Nat.reduceLT, Nat.reduceGT, Nat.reduceEqDiff, Nat.reduceBEq, Nat.reduceSubDiff, Nat.reduceBeqDiff, Int.reduceLE, Int.reduceLT, Int.reduceEq, Int.reduceToNat, Int.reduceAdd, Int.reduceSub, Int.reduceMul, Int.reduceNeg, Int.reduceGE, Int.reduceGT, Int.reduceNegSucc]
        have hS := H_seek h0 b w (feedF ch t) n ok0 c0
        obtain ⟨⟨ch2, ent⟩, hsk⟩ : ∃ sk, seekF (feedF ch t) n = sk := ⟨_, rfl⟩
        rw [hsk] at hS
        simp only [hsk] at hm
        refine call_X hS fun h' hh => ?_
        obtain ⟨w', c', m'⟩ := hh
        have d4' := m'.oth c0 d4 (oO _)
        have d5' := m'.oth c0 d5 (oO _)
        cases ent
        · subst hm
          refine run_sound 4000 _ ?_
          simp -implicitDefEqProofs only [go_sem, Nat.reduceSub, Nat.reduceAdd, Nat.reduceMul, Nat.reduceDiv, Nat.reduceMod, Nat.reducePow, Nat.reduceLeDiff, Nat.reduceLT, Nat.reduceGT, Nat.reduceEqDiff, Nat.reduceBEq, Nat.reduceSubDiff, Nat.reduceBeqDiff, Int.reduceLE, Int.reduceLT, Int.reduceEq, Int.reduceToNat, Int.reduceAdd, Int.reduceSub, Int.reduceMul, Int.reduceNeg, Int.reduceGE, Int.reduceGT, Int.reduceNegSucc]
          exact ⟨rfl, h', w', _, rfl, ⟨rfl, rfl, rfl, rfl, rfl, rfl, rfl, rfl⟩, ⟨c', m0.trans m', d4', d5'⟩⟩
        · subst hm
          refine run_sound 4000 _ ?_
          simp -implicitDefEqProofs only [go_sem, Nat.reduceSub, Nat.reduceAdd, Nat.reduceMul, Nat.reduceDiv, Nat.reduceMod, Nat.reducePow, Nat.reduceLeDiff, Nat.reduceLT, Nat.reduceGT, Nat.reduceEqDiff, Nat.reduceBEq, Nat.reduceSubDiff, Nat.reduceBeqDiff, Int.reduceLE, Int.reduceLT, Int.reduceEq, Int.reduceToNat, Int.reduceAdd, Int.reduceSub, Int.reduceMul, Int.reduceNeg, Int.reduceGE, Int.reduceGT, Int.reduceNegSucc, d5']
          exact ⟨rfl, _, w', _, rfl, ⟨rfl, rfl, rfl, rfl, rfl, rfl, rfl, rfl⟩, ⟨c'.setj d5' (oO _) _, (m0.trans m').setn (by omega) _, (bget_ne (by omega) _).trans d4', bget_bset d5' _⟩⟩
    · rw [if_neg (by rw [hs]; simp)] at hm
      refine run_sound 4000 _ ?_
      simp -implicitDefEqProofs only [go_sem, Nat.reduceSub, Nat.reduceAdd, Nat.reduceMul, Nat.reduceDiv, Nat.reduceMod, Nat.reducePow, Nat.reduceLeDiff, Nat.reduceLT, Nat.reduceGT, Nat.reduceEqDiff, Nat.reduceBEq, Nat.reduceSubDiff, Nat.reduceBeqDiff, Int.reduceLE, Int.reduceLT, Int.reduceEq, Int.reduceToNat, Int.reduceAdd, Int.reduceSub, Int.reduceMul, Int.reduceNeg, Int.reduceGE, Int.reduceGT, Int.reduceNegSucc]
      refine call_X (H_move h0 b w (feedF ch t) th held ok0 c0.b c0.f) fun h' hh => ?_
      have okm := moveF_ok ok0 th held
      have c1 : Chan h' b w (moveF (feedF ch t) th held) := by
        obtain ⟨ext, e⟩ := hh
        rw [e]
        exact (c0.setb (moveF (feedF ch t) th held) rfl rfl rfl rfl).app _
      have m1 : Mv h0 h' b w w := by
        obtain ⟨ext, e⟩ := hh
        rw [e]
        exact (Mv.setb _).trans (Mv.app _)
      clear hh
      have d3' := m1.oth c0 d3 (oT _)
      have d4' := m1.oth c0 d4 (oO _)
      have d5' := m1.oth c0 d5 (oO _)
      obtain ⟨chm, hcm⟩ : ∃ chm, moveF (feedF ch t) th held = chm := ⟨_, rfl⟩
      rw [hcm] at okm c1 hm
      cases ok
      · rw [if_neg (by simp)] at hm
        subst hm
        refine run_sound 4000 _ ?_
        simp -implicitDefEqProofs only [go_sem, Nat.reduceSub, Nat.reduceAdd, Nat.reduceMul, Nat.reduceDiv, Nat.reduceMod, Nat.reducePow, Nat.reduceLeDiff, Nat.reduceLT, Nat.reduceGT, Nat.reduceEqDiff, Nat.reduceBEq, Nat.reduceSubDiff, Nat.reduceBeqDiff, Int.reduceLE, Int.reduceLT, Int.reduceEq, Int.reduceToNat, Int.reduceAdd, Int.reduceSub, Int.reduceMul, Int.reduceNeg, Int.reduceGE, Int.reduceGT, Int.reduceNegSucc, d5']
        exact ⟨rfl, h', w, _, rfl, ⟨rfl, rfl, rfl, rfl, rfl, rfl, rfl, rfl⟩, ⟨c1, m0.trans m1, d4', d5'⟩⟩
      · rw [if_pos rfl] at hm
        refine run_sound 4000 _ ?_
        simp -implicitDefEqProofs only [go_sem, Nat.reduceSub, Nat.reduceAdd, Nat.reduceMul, Nat.reduceDiv, Nat.reduceMod, Nat.reducePow, Nat.reduceLeDiff, Nat.reduceLT, Nat.reduceGT, Nat.reduceEqDiff, Nat.reduceBEq, Nat.reduceSubDiff, Nat.reduceBeqDiff, Int.reduceLE, Int.reduceLT, Int.reduceEq, Int.reduceToNat, Int.reduceAdd, Int.reduceSub, Int.reduceMul, Int.reduceNeg, Int.reduceGE, Int.reduceGT, Int.reduceNegSucc, d3']
        have hT := H_take h' b w chm n t.short okm c1.b c1.g
        obtain ⟨x, p, hkeep⟩ := takeF_keep chm n t.short
        obtain ⟨⟨ch3, tkn, nr⟩, htk⟩ : ∃ tk, takeF chm n t.short = tk := ⟨_, rfl⟩
        rw [htk] at hT hkeep
        simp only [htk] at hm
        simp only at hkeep
        refine call_X hT fun h'' hh => ?_
        have c2 : Chan h'' b w ch3 := by
          obtain ⟨ext, e⟩ := hh
          rw [e, hkeep]
          exact (c1.setb { chm with x := x, p := p } rfl rfl rfl rfl).app _
        have m2 : Mv h' h'' b w w := by
          obtain ⟨ext, e⟩ := hh
          rw [e]
          exact (Mv.setb _).trans (Mv.app _)
        clear hh
        have d4'' := m2.oth c1 d4' (oO _)
        have d5'' := m2.oth c1 d5' (oO _)
        cases tkn
        all_goals
          subst hm
          refine run_sound 4000 _ ?_
          simp -implicitDefEqProofs only [go_sem, Nat.reduceSub, Nat.reduceAdd, Nat.reduceMul, Nat.reduceDiv, Nat.reduceMod, Nat.reducePow, Nat.reduceLeDiff, Nat.reduceLT, Nat.reduceGT, Nat.reduceEqDiff, Nat.reduceBEq, Nat.reduceSubDiff, Nat.reduceBeqDiff, Int.reduceLE, Int.reduceLT, Int.reduceEq, Int.reduceToNat, Int.reduceAdd, Int.reduceSub, Int.reduceMul, Int.reduceNeg, Int.reduceGE, Int.reduceGT, Int.reduceNegSucc, d5'', bget_bset d5'', bset_bset]
          exact ⟨rfl, _, w, _, rfl, ⟨rfl, rfl, rfl, rfl, rfl, rfl, rfl, rfl⟩, ⟨c2.setj d5'' (oO _) _, ((m0.trans m1).trans m2).setn (by omega) _, (bget_ne (by omega) _).trans d4'', bget_bset d5'' _⟩⟩
  · rintro _ ⟨h2, w2, l, rfl, ⟨hlen, g0, g1, g3, g4, g5, g11, g12⟩, ⟨c2, m2, q4, q5⟩⟩
    have hle : l = [.ptr b 0, t.av, lget l 2, .ptr hF.length 0, .ptr (hF.length + 1) 0, .ptr (hF.length + 2) 0, lget l 6, lget l 7, lget l 8, lget l 9, lget l 10, I m.ev, .bool (sks ch.k.m), lget l 13, lget l 14, lget l 15, lget l 16, lget l 17, lget l 18, lget l 19, lget l 20, lget l 21, lget l 22, lget l 23, lget l 24, lget l 25, lget l 26, lget l 27, lget l 28, lget l 29, lget l 30, lget l 31, lget l 32, lget l 33, lget l 34, lget l 35, lget l 36, lget l 37, lget l 38, lget l 39, lget l 40, lget l 41, lget l 42, lget l 43, lget l 44, lget l 45, lget l 46, lget l 47, lget l 48, lget l 49, lget l 50, lget l 51, lget l 52, lget l 53, lget l 54, lget l 55, lget l 56, lget l 57, lget l 58, lget l 59, lget l 60, lget l 61, lget l 62, lget l 63, lget l 64, lget l 65, lget l 66, lget l 67, lget l 68, lget l 69, lget l 70, lget l 71, lget l 72, lget l 73, lget l 74, lget l 75, lget l 76, lget l 77, lget l 78, lget l 79, lget l 80, lget l 81, lget l 82, lget l 83, lget l 84, lget l 85, lget l 86, lget l 87, lget l 88, lget l 89, lget l 90, lget l 91, lget l 92, lget l 93, lget l 94, lget l 95, lget l 96, lget l 97, lget l 98, lget l 99, lget l 100, lget l 101, lget l 102, lget l 103, lget l 104, lget l 105, lget l 106, lget l 107, lget l 108, lget l 109, lget l 110, lget l 111, lget l 112, lget l 113, lget l 114, lget l 115, lget l 116, lget l 117, lget l 118, lget l 119, lget l 120, lget l 121, lget l 122, lget l 123, lget l 124, lget l 125, lget l 126, lget l 127, lget l 128, lget l 129, lget l 130, lget l 131, lget l 132, lget l 133, lget l 134, lget l 135, lget l 136, lget l 137, lget l 138, lget l 139, lget l 140, lget l 141, lget l 142, lget l 143, lget l 144, lget l 145] := by
      refine (list_eta hlen).trans ?_
      show [lget l 0, lget l 1, lget l 2, lget l 3, lget l 4, lget l 5, lget l 6, lget l 7, lget l 8, lget l 9, lget l 10, lget l 11, lget l 12, lget l 13, lget l 14, lget l 15, lget l 16, lget l 17, lget l 18, lget l 19, lget l 20, lget l 21, lget l 22, lget l 23, lget l 24, lget l 25, lget l 26, lget l 27, lget l 28, lget l 29, lget l 30, lget l 31, lget l 32, lget l 33, lget l 34, lget l 35, lget l 36, lget l 37, lget l 38, lget l 39, lget l 40, lget l 41, lget l 42, lget l 43, lget l 44, lget l 45, lget l 46, lget l 47, lget l 48, lget l 49, lget l 50, lget l 51, lget l 52, lget l 53, lget l 54, lget l 55, lget l 56, lget l 57, lget l 58, lget l 59, lget l 60, lget l 61, lget l 62, lget l 63, lget l 64, lget l 65, lget l 66, lget l 67, lget l 68, lget l 69, lget l 70, lget l 71, lget l 72, lget l 73, lget l 74, lget l 75, lget l 76, lget l 77, lget l 78, lget l 79, lget l 80, lget l 81, lget l 82, lget l 83, lget l 84, lget l 85, lget l 86, lget l 87, lget l 88, lget l 89, lget l 90, lget l 91, lget l 92, lget l 93, lget l 94, lget l 95, lget l 96, lget l 97, lget l 98, lget l 99, lget l 100, lget l 101, lget l 102, lget l 103, lget l 104, lget l 105, lget l 106, lget l 107, lget l 108, lget l 109, lget l 110, lget l 111, lget l 112, lget l 113, lget l 114, lget l 115, lget l 116, lget l 117, lget l 118, lget l 119, lget l 120, lget l 121, lget l 122, lget l 123, lget l 124, lget l 125, lget l 126, lget l 127, lget l 128, lget l 129, lget l 130, lget l 131, lget l 132, lget l 133, lget l 134, lget l 135, lget l 136, lget l 137, lget l 138, lget l 139, lget l 140, lget l 141, lget l 142, lget l 143, lget l 144, lget l 145] = _
      rw [g0, g1, g3, g4, g5, g11, g12]
    rw [hle]
    clear hle hlen
    have cb2 := c2.b
    refine run_sound 4000 _ ?_
    simp -implicitDefEqProofs only [go_sem, Nat.reduceSub, Nat.reduceAdd, Nat.reduceMul, Nat.reduceDiv, Nat.reduceMod, Nat.reducePow, Nat.reduceLeDiff, Nat.reduceLT, Nat.reduceGT, Nat.reduceEqDiff, Nat.reduceBEq, Nat.reduceSubDiff, Nat.reduceBeqDiff, Int.reduceLE, Int.reduceLT, Int.reduceEq, Int.reduceToNat, Int.reduceAdd, Int.reduceSub, Int.reduceMul, Int.reduceNeg, Int.reduceGE, Int.reduceGT, Int.reduceNegSucc]
    refine draw_sem mixed [36] (fun _ _ v => v = (onF m.ch.k m.ev m.ch.c.coast m.ch.c.out).av) [(0, []), (1, []), (2, []), (3, []), (4, []), (5, []), (6, []), (7, []), (8, []), (9, []), (10, []), (11, []), (12, []), (13, []), (14, []), (15, []), (16, []), (17, []), (18, []), (19, [])] (by kernel_rfl) ?_
    simp -implicitDefEqProofs only [go_sem, Nat.reduceSub, Nat.reduceAdd, Nat.reduceMul, Nat.reduceDiv, Nat.reduceMod, Nat.reducePow, Nat.reduceLeDiff, Nat.reduceLT, Nat.reduceGT, Nat.reduceEqDiff, Nat.reduceBEq, Nat.reduceSubDiff, Nat.reduceBeqDiff, Int.reduceLE, Int.reduceLT, Int.reduceEq, Int.reduceToNat, Int.reduceAdd, Int.reduceSub, Int.reduceMul, Int.reduceNeg, Int.reduceGE, Int.reduceGT, Int.reduceNegSucc]
    simp -implicitDefEqProofs only [go_sem, Nat.reduceSub, Nat.reduceAdd, Nat.reduceMul, Nat.reduceDiv, Nat.reduceMod, Nat.reducePow, Nat.reduceLeDiff, Nat.reduceLT, Nat.reduceGT, Nat.reduceEqDiff, Nat.reduceBEq, Nat.reduceSubDiff, Nat.reduceBeqDiff, Int.reduceLE, Int.reduceLT, Int.reduceEq, Int.reduceToNat, Int.reduceAdd, Int.reduceSub, Int.reduceMul, Int.reduceNeg, Int.reduceGE, Int.reduceGT, Int.reduceNegSucc, cb2]
    refine dcall_A (V_On m.ch.k hmok.k m.ev hmok.e m.ch.c.coast m.ch.c.out) rfl rfl rfl (fun _ => Iff.rfl) ?_
    simp -implicitDefEqProofs only [go_sem, Nat.reduceSub, Nat.reduceAdd, Nat.reduceMul, Nat.reduceDiv, Nat.reduceMod, Nat.reducePow, Nat.reduceLeDiff, Nat.reduceLT, Nat.reduceGT, Nat.reduceEqDiff, Nat.reduceBEq, Nat.reduceSubDiff, Nat.reduceBeqDiff, Int.reduceLE, Int.reduceLT, Int.reduceEq, Int.reduceToNat, Int.reduceAdd, Int.reduceSub, Int.reduceMul, Int.reduceNeg, Int.reduceGE, Int.reduceGT, Int.reduceNegSucc, cb2]
    refine run_sound 2 _ ?_
    simp -implicitDefEqProofs only [go_sem, Nat.reduceSub, Nat.reduceAdd, Nat.reduceMul, Nat.reduceDiv, Nat.reduceMod, Nat.reducePow, Nat.reduceLeDiff, Nat.reduceLT, Nat.reduceGT, Nat.reduceEqDiff, Nat.reduceBEq, Nat.reduceSubDiff, Nat.reduceBeqDiff, Int.reduceLE, Int.reduceLT, Int.reduceEq, Int.reduceToNat, Int.reduceAdd, Int.reduceSub, Int.reduceMul, Int.reduceNeg, Int.reduceGE, Int.reduceGT, Int.reduceNegSucc]
    refine CfgSem.gen fun h3 e3 => ?_
    obtain ⟨k', hk'⟩ : ∃ k', onF m.ch.k m.ev m.ch.c.coast m.ch.c.out = k' := ⟨_, rfl⟩
    rw [hk'] at e3
    try simp only [hk']
    have lb := bget_lt cF.b
    have c3 : Chan h3 b w2 { m.ch with k := k' } := by rw [e3]; exact c2.setb { m.ch with k := k' } rfl rfl rfl rfl
    have m3 : Mv hF h3 b w w2 := by rw [e3]; exact m2.trans (Mv.setb _)
    have r4 : bget h3 (hF.length + 1) = some ⟨[I 0, .bool false, .bool false, .bool false, .bool false, .bool false, I 0, I 0, I 0], 36⟩ := by rw [e3]; exact (bget_ne (by omega) _).trans q4
    have r5 : bget h3 (hF.length + 2) = some ⟨[I 0, .bool false, .bool m.acc, .bool m.ref, .bool held, .bool m.gr, I 0, I 0, I 0], 36⟩ := by rw [e3]; exact (bget_ne (by omega) _).trans q5
    clear e3
    have cb3 := c3.b
    have hEy : (m.ev = 0 ∨ m.ev = 3 ∨ (sks k'.m = true ∧ sks ch.k.m = false)) → endF m (sks ch.k.m) = { m.ch with k := k', first := [] } := fun h => by
      unfold endF; rw [hk', if_pos h]
    have hEn : ¬ (m.ev = 0 ∨ m.ev = 3 ∨ (sks k'.m = true ∧ sks ch.k.m = false)) → endF m (sks ch.k.m) = { m.ch with k := k' } := fun h => by
      unfold endF; rw [hk', if_neg h]
    have hEk : (endF m (sks ch.k.m)).k = k' := hk'
    have hEx : (endF m (sks ch.k.m)).x = m.ch.x := rfl
    unfold toldF
    obtain ⟨sought, hso⟩ : ∃ x, sks ch.k.m = x := ⟨_, rfl⟩
    rw [hso] at hEy hEn hEk hEx
    try simp only [hso]
    obtain ⟨chE, hE⟩ : ∃ x, endF m sought = x := ⟨_, rfl⟩
    rw [hE] at hEy hEn hEk hEx
    have ok4 : chE.ok := by rw [← hE]; exact endF_ok hmok _
    rw [hE]
    rw [hEk]
    have yes : ∀ (_ : m.ev = 0 ∨ m.ev = 3 ∨ (sks k'.m = true ∧ sought = false)), Chan (bset h3 b ⟨({ m.ch with k := k', first := [] } : Chn).cells { w2 with s := none }, 55⟩) b { w2 with s := none } chE := fun h => by
      rw [hEy h]; exact c3.clear
    refine cut (fun st' => ∃ (h2 : List Blk) (w2 : Pl) (l : List AV), st' = ⟨l, h2, []⟩ ∧ (l.length = 146 ∧ lget l 0 = .ptr b 0 ∧ lget l 4 = .ptr (hF.length + 1) 0 ∧ lget l 5 = .ptr (hF.length + 2) 0) ∧ (Chan h2 b w2 chE ∧ Mv hF h2 b w w2 ∧ bget h2 (hF.length + 1) = some ⟨[I 0, .bool false, .bool false, .bool false, .bool false, .bool false, I 0, I 0, I 0], 36⟩ ∧
      bget h2 (hF.length + 2) = some ⟨[I 0, .bool false, .bool m.acc, .bool m.ref, .bool held, .bool m.gr, I 0, I 0, I 0], 36⟩)) ?_ ?_
    · by_cases a0 : m.ev = 0
      · have a0' := decide_eq_true a0
        refine run_sound 4000 _ ?_
        simp -implicitDefEqProofs only [go_sem, Nat.reduceSub, Nat.reduceAdd, Nat.reduceMul, Nat.reduceDiv, Nat.reduceMod, Nat.reducePow, Nat.reduceLeDiff, Nat.reduceLT, Nat.reduceGT, Nat.reduceEqDiff, Nat.reduceBEq, Nat.reduceSubDiff, Nat.reduceBeqDiff, Int.reduceLE, Int.reduceLT, Int.reduceEq, Int.reduceToNat, Int.reduceAdd, Int.reduceSub, Int.reduceMul, Int.reduceNeg, Int.reduceGE, Int.reduceGT, Int.reduceNegSucc, a0', cb3]
        exact ⟨rfl, _, { w2 with s := none }, _, rfl, ⟨rfl, rfl, rfl, rfl⟩, ⟨yes (.inl a0), m3.clear _, (bget_ne (by omega) _).trans r4, (bget_ne (by omega) _).trans r5⟩⟩
      have a0' := decide_eq_false a0
      by_cases a3 : m.ev = 3
      · have a3' := decide_eq_true a3
        refine run_sound 4000 _ ?_
        simp -implicitDefEqProofs only [go_sem, Nat.reduceSub, Nat.reduceAdd, Nat.reduceMul, Nat.reduceDiv, Nat.reduceMod, Nat.reducePow, Nat.reduceLeDiff, Nat.reduceLT, Nat.reduceGT, Nat.reduceEqDiff, Nat.reduceBEq, Nat.reduceSubDiff, Nat.reduceBeqDiff, Int.reduceLE, Int.reduceLT, Int.reduceEq, Int.reduceToNat, Int.reduceAdd, Int.reduceSub, Int.reduceMul, Int.reduceNeg, Int.reduceGE, Int.reduceGT, Int.reduceNegSucc, a0', a3', cb3]
        exact ⟨rfl, _, { w2 with s := none }, _, rfl, ⟨rfl, rfl, rfl, rfl⟩, ⟨yes (.inr (.inl a3)), m3.clear _, (bget_ne (by omega) _).trans r4, (bget_ne (by omega) _).trans r5⟩⟩
      have a3' := decide_eq_false a3
      refine run_sound 4000 _ ?_
      simp -implicitDefEqProofs only [go_sem, Nat.reduceSub, Nat.reduceAdd, Nat.reduceMul, Nat.reduceDiv, Nat.reduceMod, Nat.reducePow, Nat.reduceLeDiff, Nat.reduceLT, Nat.reduceGT, Nat.reduceEqDiff, Nat.reduceBEq, Nat.reduceSubDiff, Nat.reduceBeqDiff, Int.reduceLE, Int.reduceLT, Int.reduceEq, Int.reduceToNat, Int.reduceAdd, Int.reduceSub, Int.reduceMul, Int.reduceNeg, Int.reduceGE, Int.reduceGT, Int.reduceNegSucc, a0', a3', cb3]
      refine call_A (V_Seeks k') rfl rfl ?_
      cases hsk : sks k'.m
      · refine run_sound 4000 _ ?_
        simp -implicitDefEqProofs only [go_sem, Nat.reduceSub, Nat.reduceAdd, Nat.reduceMul, Nat.reduceDiv, Nat.reduceMod, Nat.reducePow, Nat.reduceLeDiff, Nat.reduceLT, Nat.reduceGT, Nat.reduceEqDiff, Nat.reduceBEq, Nat.reduceSubDiff, Nat.reduceBeqDiff, Int.reduceLE, Int.reduceLT, Int.reduceEq, Int.reduceToNat, Int.reduceAdd, Int.reduceSub, Int.reduceMul, Int.reduceNeg, Int.reduceGE, Int.reduceGT, Int.reduceNegSucc, cb3]
        refine ⟨rfl, _, w2, _, rfl, ⟨rfl, rfl, rfl, rfl⟩, ⟨?_, m3, r4, r5⟩⟩
        rw [hEn (by rintro (h | h | h); exact a0 h; exact a3 h; rw [hsk] at h; cases h.1)]
        exact c3
      cases sought
      · refine run_sound 4000 _ ?_
        simp -implicitDefEqProofs only [go_sem, Nat.reduceSub, Nat.reduceAdd, Nat.reduceMul, Nat.reduceDiv, Nat.reduceMod, Nat.reducePow, Nat.reduceLeDiff, Nat.reduceLT, Nat.reduceGT, Nat.reduceEqDiff, Nat.reduceBEq, Nat.reduceSubDiff, Nat.reduceBeqDiff, Int.reduceLE, Int.reduceLT, Int.reduceEq, Int.reduceToNat, Int.reduceAdd, Int.reduceSub, Int.reduceMul, Int.reduceNeg, Int.reduceGE, Int.reduceGT, Int.reduceNegSucc, cb3]
        exact ⟨rfl, _, { w2 with s := none }, _, rfl, ⟨rfl, rfl, rfl, rfl⟩, ⟨yes (.inr (.inr ⟨hsk, rfl⟩)), m3.clear _, (bget_ne (by omega) _).trans r4, (bget_ne (by omega) _).trans r5⟩⟩
      · refine run_sound 4000 _ ?_
        simp -implicitDefEqProofs only [go_sem, Nat.reduceSub, Nat.reduceAdd, Nat.reduceMul, Nat.reduceDiv, Nat.reduceMod, Nat.reducePow, Nat.reduceLeDiff, Nat.reduceLT, Nat.reduceGT, Nat.reduceEqDiff, Nat.reduceBEq, Nat.reduceSubDiff, Nat.reduceBeqDiff, Int.reduceLE, Int.reduceLT, Int.reduceEq, Int.reduceToNat, Int.reduceAdd, Int.reduceSub, Int.reduceMul, Int.reduceNeg, Int.reduceGE, Int.reduceGT, Int.reduceNegSucc, cb3]
        refine ⟨rfl, _, w2, _, rfl, ⟨rfl, rfl, rfl, rfl⟩, ⟨?_, m3, r4, r5⟩⟩
        rw [hEn (by rintro (h | h | h); exact a0 h; exact a3 h; cases h.2)]
        exact c3
    · clear yes hEy hEn c3 m3 r4 r5 cb3 c2 m2 q4 q5 cb2
      rintro _ ⟨h4, w4, l, rfl, ⟨hlen, g0, g4, g5⟩, ⟨c4, m4, q4, q5⟩⟩
      have hle : l = [.ptr b 0, lget l 1, lget l 2, lget l 3, .ptr (hF.length + 1) 0, .ptr (hF.length + 2) 0, lget l 6, lget l 7, lget l 8, lget l 9, lget l 10, lget l 11, lget l 12, lget l 13, lget l 14, lget l 15, lget l 16, lget l 17, lget l 18, lget l 19, lget l 20, lget l 21, lget l 22, lget l 23, lget l 24, lget l 25, lget l 26, lget l 27, lget l 28, lget l 29, lget l 30, lget l 31, lget l 32, lget l 33, lget l 34, lget l 35, lget l 36, lget l 37, lget l 38, lget l 39, lget l 40, lget l 41, lget l 42, lget l 43, lget l 44, lget l 45, lget l 46, lget l 47, lget l 48, lget l 49, lget l 50, lget l 51, lget l 52, lget l 53, lget l 54, lget l 55, lget l 56, lget l 57, lget l 58, lget l 59, lget l 60, lget l 61, lget l 62, lget l 63, lget l 64, lget l 65, lget l 66, lget l 67, lget l 68, lget l 69, lget l 70, lget l 71, lget l 72, lget l 73, lget l 74, lget l 75, lget l 76, lget l 77, lget l 78, lget l 79, lget l 80, lget l 81, lget l 82, lget l 83, lget l 84, lget l 85, lget l 86, lget l 87, lget l 88, lget l 89, lget l 90, lget l 91, lget l 92, lget l 93, lget l 94, lget l 95, lget l 96, lget l 97, lget l 98, lget l 99, lget l 100, lget l 101, lget l 102, lget l 103, lget l 104, lget l 105, lget l 106, lget l 107, lget l 108, lget l 109, lget l 110, lget l 111, lget l 112, lget l 113, lget l 114, lget l 115, lget l 116, lget l 117, lget l 118, lget l 119, lget l 120, lget l 121, lget l 122, lget l 123, lget l 124, lget l 125, lget l 126, lget l 127, lget l 128, lget l 129, lget l 130, lget l 131, lget l 132, lget l 133, lget l 134, lget l 135, lget l 136, lget l 137, lget l 138, lget l 139, lget l 140, lget l 141, lget l 142, lget l 143, lget l 144, lget l 145] := by
        refine (list_eta hlen).trans ?_
        show [lget l 0, lget l 1, lget l 2, lget l 3, lget l 4, lget l 5, lget l 6, lget l 7, lget l 8, lget l 9, lget l 10, lget l 11, lget l 12, lget l 13, lget l 14, lget l 15, lget l 16, lget l 17, lget l 18, lget l 19, lget l 20, lget l 21, lget l 22, lget l 23, lget l 24, lget l 25, lget l 26, lget l 27, lget l 28, lget l 29, lget l 30, lget l 31, lget l 32, lget l 33, lget l 34, lget l 35, lget l 36, lget l 37, lget l 38, lget l 39, lget l 40, lget l 41, lget l 42, lget l 43, lget l 44, lget l 45, lget l 46, lget l 47, lget l 48, lget l 49, lget l 50, lget l 51, lget l 52, lget l 53, lget l 54, lget l 55, lget l 56, lget l 57, lget l 58, lget l 59, lget l 60, lget l 61, lget l 62, lget l 63, lget l 64, lget l 65, lget l 66, lget l 67, lget l 68, lget l 69, lget l 70, lget l 71, lget l 72, lget l 73, lget l 74, lget l 75, lget l 76, lget l 77, lget l 78, lget l 79, lget l 80, lget l 81, lget l 82, lget l 83, lget l 84, lget l 85, lget l 86, lget l 87, lget l 88, lget l 89, lget l 90, lget l 91, lget l 92, lget l 93, lget l 94, lget l 95, lget l 96, lget l 97, lget l 98, lget l 99, lget l 100, lget l 101, lget l 102, lget l 103, lget l 104, lget l 105, lget l 106, lget l 107, lget l 108, lget l 109, lget l 110, lget l 111, lget l 112, lget l 113, lget l 114, lget l 115, lget l 116, lget l 117, lget l 118, lget l 119, lget l 120, lget l 121, lget l 122, lget l 123, lget l 124, lget l 125, lget l 126, lget l 127, lget l 128, lget l 129, lget l 130, lget l 131, lget l 132, lget l 133, lget l 134, lget l 135, lget l 136, lget l 137, lget l 138, lget l 139, lget l 140, lget l 141, lget l 142, lget l 143, lget l 144, lget l 145] = _
        rw [g0, g4, g5]
      rw [hle]
      clear hle hlen
      have cb4 := c4.b
      rw [← hEx, ← hEk]
      clear hEx hEk hE
      have x4 : ∀ x : Blk, bget (bset h4 (hF.length + 2) x) b = some ⟨chE.cells w4, 55⟩ := fun x => (bget_ne (by omega) _).trans cb4
      have x5 : ∀ x : Blk, bget (bset h4 (hF.length + 2) x) (hF.length + 2) = some x := fun x => bget_bset q5 x
      have x6 : ∀ x : Blk, bget (bset h4 (hF.length + 2) x) (hF.length + 1) = some ⟨[I 0, .bool false, .bool false, .bool false, .bool false, .bool false, I 0, I 0, I 0], 36⟩ := fun x => (bget_ne (by omega) _).trans q4
      have x7 : ∀ x y : Blk, bget (bset (bset h4 (hF.length + 2) x) (hF.length + 1) y) (hF.length + 1) = some y := fun x y => bget_bset (x6 x) y
      have x8 := bset_bset h4 (hF.length + 2)
      have fin : ∀ x y : Blk, ∃ w', Chan (bset (bset h4 (hF.length + 2) x) (hF.length + 1) y) b w' chE ∧ Mv hp (bset (bset h4 (hF.length + 2) x) (hF.length + 1) y) b w w' := fun x y =>
        ⟨w4, (c4.setj q5 (oO _) _).setj (x6 x) (oO _) _, mF.trans ((m4.setn (by omega) _).setn (by omega) _)⟩
      refine run_sound 4000 _ ?_
      simp -implicitDefEqProofs only [go_sem, Nat.reduceSub, Nat.reduceAdd, Nat.reduceMul, Nat.reduceDiv, Nat.reduceMod, Nat.reducePow, Nat.reduceLeDiff, Nat.reduceLT, Nat.reduceGT, Nat.reduceEqDiff, Nat.reduceBEq, Nat.reduceSubDiff, Nat.reduceBeqDiff, Int.reduceLE, Int.reduceLT, Int.reduceEq, Int.reduceToNat, Int.reduceAdd, Int.reduceSub, Int.reduceMul, Int.reduceNeg, Int.reduceGE, Int.reduceGT, Int.reduceNegSucc]
      refine draw_sem mixed [37] (fun _ _ v => v = .bool (vld chE.k.m)) [(0, []), (1, []), (2, []), (3, []), (4, []), (5, []), (6, []), (7, []), (8, []), (9, []), (10, []), (11, []), (12, []), (13, [])] (by kernel_rfl) ?_
      simp -implicitDefEqProofs only [go_sem, Nat.reduceSub, Nat.reduceAdd, Nat.reduceMul, Nat.reduceDiv, Nat.reduceMod, Nat.reducePow, Nat.reduceLeDiff, Nat.reduceLT, Nat.reduceGT, Nat.reduceEqDiff, Nat.reduceBEq, Nat.reduceSubDiff, Nat.reduceBeqDiff, Int.reduceLE, Int.reduceLT, Int.reduceEq, Int.reduceToNat, Int.reduceAdd, Int.reduceSub, Int.reduceMul, Int.reduceNeg, Int.reduceGE, Int.reduceGT, Int.reduceNegSucc]
      simp -implicitDefEqProofs only [go_sem, Nat.reduceSub, Nat.reduceAdd, Nat.reduceMul, Nat.reduceDiv, Nat.reduceMod, Nat.reducePow, Nat.reduceLeDiff, Nat.reduceLT, Nat.reduceGT, Nat.reduceEqDiff, Nat.reduceBEq, Nat.reduceSubDiff, Nat.reduceBeqDiff, Int.reduceLE, Int.reduceLT, Int.reduceEq, Int.reduceToNat, Int.reduceAdd, Int.reduceSub, Int.reduceMul, Int.reduceNeg, Int.reduceGE, Int.reduceGT, Int.reduceNegSucc, cb4, q5, x5, x8]
      refine dcall_A (V_Valid chE.k) rfl rfl rfl (fun _ => Iff.rfl) ?_
      simp -implicitDefEqProofs only [go_sem, Nat.reduceSub, Nat.reduceAdd, Nat.reduceMul, Nat.reduceDiv, Nat.reduceMod, Nat.reducePow, Nat.reduceLeDiff, Nat.reduceLT, Nat.reduceGT, Nat.reduceEqDiff, Nat.reduceBEq, Nat.reduceSubDiff, Nat.reduceBeqDiff, Int.reduceLE, Int.reduceLT, Int.reduceEq, Int.reduceToNat, Int.reduceAdd, Int.reduceSub, Int.reduceMul, Int.reduceNeg, Int.reduceGE, Int.reduceGT, Int.reduceNegSucc, cb4, q5, x5, x8]
      cases hv : vld chE.k.m
      · refine run_sound 4000 _ ?_
        simp -implicitDefEqProofs only [go_sem, Nat.reduceSub, Nat.reduceAdd, Nat.reduceMul, Nat.reduceDiv, Nat.reduceMod, Nat.reducePow, Nat.reduceLeDiff, Nat.reduceLT, Nat.reduceGT, Nat.reduceEqDiff, Nat.reduceBEq, Nat.reduceSubDiff, Nat.reduceBeqDiff, Int.reduceLE, Int.reduceLT, Int.reduceEq, Int.reduceToNat, Int.reduceAdd, Int.reduceSub, Int.reduceMul, Int.reduceNeg, Int.reduceGE, Int.reduceGT, Int.reduceNegSucc, cb4, q5, x4, x5, x6, x7, x8]
        refine hdone ?_
        simp -implicitDefEqProofs only [go_sem, Nat.reduceSub, Nat.reduceAdd, Nat.reduceMul, Nat.reduceDiv, Nat.reduceMod, Nat.reducePow, Nat.reduceLeDiff, Nat.reduceLT, Nat.reduceGT, Nat.reduceEqDiff, Nat.reduceBEq, Nat.reduceSubDiff, Nat.reduceBeqDiff, Int.reduceLE, Int.reduceLT, Int.reduceEq, Int.reduceToNat, Int.reduceAdd, Int.reduceSub, Int.reduceMul, Int.reduceNeg, Int.reduceGE, Int.reduceGT, Int.reduceNegSucc, x7]
        exact ⟨rfl, fin _ _⟩
      · refine run_sound 4000 _ ?_
        simp -implicitDefEqProofs only [go_sem, Nat.reduceSub, Nat.reduceAdd, Nat.reduceMul, Nat.reduceDiv, Nat.reduceMod, Nat.reducePow, Nat.reduceLeDiff, Nat.reduceLT, Nat.reduceGT, Nat.reduceEqDiff, Nat.reduceBEq, Nat.reduceSubDiff, Nat.reduceBeqDiff, Int.reduceLE, Int.reduceLT, Int.reduceEq, Int.reduceToNat, Int.reduceAdd, Int.reduceSub, Int.reduceMul, Int.reduceNeg, Int.reduceGE, Int.reduceGT, Int.reduceNegSucc, cb4, q5, x4, x5, x6, x7, x8]
        refine draw_sem mixed [38] (fun _ ar v => ∃ x, ar = [I x] ∧ v = I (outF x)) [(0, []), (1, []), (2, []), (3, []), (4, []), (5, []), (6, []), (7, []), (8, []), (9, []), (10, []), (11, []), (12, []), (13, []), (14, []), (15, []), (16, []), (17, []), (18, []), (19, []), (20, []), (21, []), (22, []), (23, []), (24, []), (25, []), (26, [])] (by kernel_rfl) ?_
        simp -implicitDefEqProofs only [go_sem, Nat.reduceSub, Nat.reduceAdd, Nat.reduceMul, Nat.reduceDiv, Nat.reduceMod, Nat.reducePow, Nat.reduceLeDiff, Nat.reduceLT, Nat.reduceGT, Nat.reduceEqDiff, Nat.reduceBEq, Nat.reduceSubDiff, Nat.reduceBeqDiff, Int.reduceLE, Int.reduceLT, Int.reduceEq, Int.reduceToNat, Int.reduceAdd, Int.reduceSub, Int.reduceMul, Int.reduceNeg, Int.reduceGE, Int.reduceGT, Int.reduceNegSucc]
        simp -implicitDefEqProofs only [go_sem, Nat.reduceSub, Nat.reduceAdd, Nat.reduceMul, Nat.reduceDiv, Nat.reduceMod, Nat.reducePow, Nat.reduceLeDiff, Nat.reduceLT, Nat.reduceGT, Nat.reduceEqDiff, Nat.reduceBEq, Nat.reduceSubDiff, Nat.reduceBeqDiff, Int.reduceLE, Int.reduceLT, Int.reduceEq, Int.reduceToNat, Int.reduceAdd, Int.reduceSub, Int.reduceMul, Int.reduceNeg, Int.reduceGE, Int.reduceGT, Int.reduceNegSucc, cb4, q5, x4, x5, x8]
        refine dcall_E (V_Out chE.x.x ok4.x.1) rfl rfl (fun v => ⟨fun ⟨y, e, hy⟩ => by cases e; exact hy, fun e => ⟨_, rfl, e⟩⟩) ?_
        simp -implicitDefEqProofs only [go_sem, Nat.reduceSub, Nat.reduceAdd, Nat.reduceMul, Nat.reduceDiv, Nat.reduceMod, Nat.reducePow, Nat.reduceLeDiff, Nat.reduceLT, Nat.reduceGT, Nat.reduceEqDiff, Nat.reduceBEq, Nat.reduceSubDiff, Nat.reduceBeqDiff, Int.reduceLE, Int.reduceLT, Int.reduceEq, Int.reduceToNat, Int.reduceAdd, Int.reduceSub, Int.reduceMul, Int.reduceNeg, Int.reduceGE, Int.reduceGT, Int.reduceNegSucc, cb4, q5, x4, x5, x8]
        refine dcall_E (V_Out chE.x.y ok4.x.2.1) rfl rfl (fun v => ⟨fun ⟨y, e, hy⟩ => by cases e; exact hy, fun e => ⟨_, rfl, e⟩⟩) ?_
        simp -implicitDefEqProofs only [go_sem, Nat.reduceSub, Nat.reduceAdd, Nat.reduceMul, Nat.reduceDiv, Nat.reduceMod, Nat.reducePow, Nat.reduceLeDiff, Nat.reduceLT, Nat.reduceGT, Nat.reduceEqDiff, Nat.reduceBEq, Nat.reduceSubDiff, Nat.reduceBeqDiff, Int.reduceLE, Int.reduceLT, Int.reduceEq, Int.reduceToNat, Int.reduceAdd, Int.reduceSub, Int.reduceMul, Int.reduceNeg, Int.reduceGE, Int.reduceGT, Int.reduceNegSucc, cb4, q5, x4, x5, x8]
        refine dcall_E (V_Out chE.x.z ok4.x.2.2) rfl rfl (fun v => ⟨fun ⟨y, e, hy⟩ => by cases e; exact hy, fun e => ⟨_, rfl, e⟩⟩) ?_
        simp -implicitDefEqProofs only [go_sem, Nat.reduceSub, Nat.reduceAdd, Nat.reduceMul, Nat.reduceDiv, Nat.reduceMod, Nat.reducePow, Nat.reduceLeDiff, Nat.reduceLT, Nat.reduceGT, Nat.reduceEqDiff, Nat.reduceBEq, Nat.reduceSubDiff, Nat.reduceBeqDiff, Int.reduceLE, Int.reduceLT, Int.reduceEq, Int.reduceToNat, Int.reduceAdd, Int.reduceSub, Int.reduceMul, Int.reduceNeg, Int.reduceGE, Int.reduceGT, Int.reduceNegSucc, cb4, q5, x4, x5, x8]
        refine run_sound 4000 _ ?_
        simp -implicitDefEqProofs only [go_sem, Nat.reduceSub, Nat.reduceAdd, Nat.reduceMul, Nat.reduceDiv, Nat.reduceMod, Nat.reducePow, Nat.reduceLeDiff, Nat.reduceLT, Nat.reduceGT, Nat.reduceEqDiff, Nat.reduceBEq, Nat.reduceSubDiff, Nat.reduceBeqDiff, Int.reduceLE, Int.reduceLT, Int.reduceEq, Int.reduceToNat, Int.reduceAdd, Int.reduceSub, Int.reduceMul, Int.reduceNeg, Int.reduceGE, Int.reduceGT, Int.reduceNegSucc, cb4, q5, x4, x5, x6, x7, x8]
        refine hdone ?_
        simp -implicitDefEqProofs only [go_sem, Nat.reduceSub, Nat.reduceAdd, Nat.reduceMul, Nat.reduceDiv, Nat.reduceMod, Nat.reducePow, Nat.reduceLeDiff, Nat.reduceLT, Nat.reduceGT, Nat.reduceEqDiff, Nat.reduceBEq, Nat.reduceSubDiff, Nat.reduceBeqDiff, Int.reduceLE, Int.reduceLT, Int.reduceEq, Int.reduceToNat, Int.reduceAdd, Int.reduceSub, Int.reduceMul, Int.reduceNeg, Int.reduceGE, Int.reduceGT, Int.reduceNegSucc, x7]
        exact fin _ _
end Go.Proofs.YtakcibjjfkgadaaGreatDoor
/- Layer 20: channels: new ones, the chapter's example. -/
set_option linter.unusedSimpArgs false
set_option linter.unusedVariables false
set_option maxRecDepth 100000
set_option pp.maxSteps 400
set_option maxHeartbeats 4000000
namespace Go.Proofs.YtakcibjjfkgadaaGreatDoor
open Go.Ev
def newH (hp : List Blk) (c : Cf) : List Blk := hp ++ [⟨c.cells, 25⟩, ⟨c.cells, 25⟩, ⟨Fed.cells ⟨0, 0⟩ c, 117⟩, ⟨(newC c).g.cells, 110⟩, ⟨(newC c).cells ⟨hp.length + 2, hp.length + 3, none⟩, 55⟩]
theorem newH_chan (hp : List Blk) (c : Cf) : Chan (newH hp c) (hp.length + 4) ⟨hp.length + 2, hp.length + 3, none⟩ (newC c) := by
  refine ⟨?_, ?_, ?_, .inl ⟨rfl, rfl⟩⟩
  all_goals
    unfold newH
    rw [bget_add]
    rfl
theorem H_New (hp : List Blk) (c : Cf) (hc : checkF c = 0) : HSem Tryz.prog GD 12 [c.av] hp (fun ao h' => ao = .ret (.tuple [.ptr (hp.length + 4) 0, I 0]) ∧ h' = newH hp c) := by
  refine HSem.of_body Tryz.func12 rfl (by kernel_rfl) ?_
  refine run_sound 4000 _ ?_
  simp -implicitDefEqProofs only [Tryz.f12, go_sem, Nat.reduceSub, Nat.reduceAdd, Nat.reduceMul, Nat.reduceDiv, Nat.reduceMod, Nat.reducePow, Nat.reduceLeDiff, Nat.reduceLT, Nat.reduceGT, Nat.reduceEqDiff, Nat.reduceBEq, Nat.reduceSubDiff, Nat.reduceBeqDiff, Int.reduceLE, Int.reduceLT, Int.reduceEq, Int.reduceToNat, Int.reduceAdd, Int.reduceSub, Int.reduceMul, Int.reduceNeg, Int.reduceGE, Int.reduceGT, Int.reduceNegSucc]
  refine call_X (H_FNew _ c hc) fun h' hh => ?_
  subst hh
  refine run_sound 4000 _ ?_
  simp -implicitDefEqProofs only [go_sem, Nat.reduceSub, Nat.reduceAdd, Nat.reduceMul, Nat.reduceDiv, Nat.reduceMod, Nat.reducePow, Nat.reduceLeDiff, Nat.reduceLT, Nat.reduceGT, Nat.reduceEqDiff, Nat.reduceBEq, Nat.reduceSubDiff, Nat.reduceBeqDiff, Int.reduceLE, Int.reduceLT, Int.reduceEq, Int.reduceToNat, Int.reduceAdd, Int.reduceSub, Int.reduceMul, Int.reduceNeg, Int.reduceGE, Int.reduceGT, Int.reduceNegSucc]
  refine draw_sem mixed [1000029] (fun _ _ _ => True) [(0, []), (1, []), (2, []), (3, []), (4, []), (5, []), (6, []), (7, []), (8, []), (9, []), (10, []), (11, []), (12, [])] (by kernel_rfl) ?_
  simp -implicitDefEqProofs only [go_sem, Nat.reduceSub, Nat.reduceAdd, Nat.reduceMul, Nat.reduceDiv, Nat.reduceMod, Nat.reducePow, Nat.reduceLeDiff, Nat.reduceLT, Nat.reduceGT, Nat.reduceEqDiff, Nat.reduceBEq, Nat.reduceSubDiff, Nat.reduceBeqDiff, Int.reduceLE, Int.reduceLT, Int.reduceEq, Int.reduceToNat, Int.reduceAdd, Int.reduceSub, Int.reduceMul, Int.reduceNeg, Int.reduceGE, Int.reduceGT, Int.reduceNegSucc]
  refine dcall_RK (by rfl) (H_GNew _ c.band c.r c.rg) ?_
  simp -implicitDefEqProofs only [go_sem, Nat.reduceSub, Nat.reduceAdd, Nat.reduceMul, Nat.reduceDiv, Nat.reduceMod, Nat.reducePow, Nat.reduceLeDiff, Nat.reduceLT, Nat.reduceGT, Nat.reduceEqDiff, Nat.reduceBEq, Nat.reduceSubDiff, Nat.reduceBeqDiff, Int.reduceLE, Int.reduceLT, Int.reduceEq, Int.reduceToNat, Int.reduceAdd, Int.reduceSub, Int.reduceMul, Int.reduceNeg, Int.reduceGE, Int.reduceGT, Int.reduceNegSucc]
  refine run_sound 4000 _ ?_
  simp -implicitDefEqProofs only [go_sem, Nat.reduceSub, Nat.reduceAdd, Nat.reduceMul, Nat.reduceDiv, Nat.reduceMod, Nat.reducePow, Nat.reduceLeDiff, Nat.reduceLT, Nat.reduceGT, Nat.reduceEqDiff, Nat.reduceBEq, Nat.reduceSubDiff, Nat.reduceBeqDiff, Int.reduceLE, Int.reduceLT, Int.reduceEq, Int.reduceToNat, Int.reduceAdd, Int.reduceSub, Int.reduceMul, Int.reduceNeg, Int.reduceGE, Int.reduceGT, Int.reduceNegSucc]
  refine hdone ?_
  simp -implicitDefEqProofs only [go_sem, Nat.reduceSub, Nat.reduceAdd, Nat.reduceMul, Nat.reduceDiv, Nat.reduceMod, Nat.reducePow, Nat.reduceLeDiff, Nat.reduceLT, Nat.reduceGT, Nat.reduceEqDiff, Nat.reduceBEq, Nat.reduceSubDiff, Nat.reduceBeqDiff, Int.reduceLE, Int.reduceLT, Int.reduceEq, Int.reduceToNat, Int.reduceAdd, Int.reduceSub, Int.reduceMul, Int.reduceNeg, Int.reduceGE, Int.reduceGT, Int.reduceNegSucc]
  rfl
theorem H_NewE (hp : List Blk) (c : Cf) (hc : checkF c ≠ 0) : HSem Tryz.prog GD 12 [c.av] hp (fun ao h' => ao = .ret (.tuple [.raw (.pointer none), I 1]) ∧ ∃ ext, h' = hp ++ ext) := by
  refine HSem.of_body Tryz.func12 rfl (by kernel_rfl) ?_
  refine run_sound 4000 _ ?_
  simp -implicitDefEqProofs only [Tryz.f12, go_sem, Nat.reduceSub, Nat.reduceAdd, Nat.reduceMul, Nat.reduceDiv, Nat.reduceMod, Nat.reducePow, Nat.reduceLeDiff, Nat.reduceLT, Nat.reduceGT, Nat.reduceEqDiff, Nat.reduceBEq, Nat.reduceSubDiff, Nat.reduceBeqDiff, Int.reduceLE, Int.reduceLT, Int.reduceEq, Int.reduceToNat, Int.reduceAdd, Int.reduceSub, Int.reduceMul, Int.reduceNeg, Int.reduceGE, Int.reduceGT, Int.reduceNegSucc]
  refine call_X (H_FNew1 _ c hc) fun h' hh => ?_
  subst hh
  refine run_sound 4000 _ ?_
  simp -implicitDefEqProofs only [go_sem, Nat.reduceSub, Nat.reduceAdd, Nat.reduceMul, Nat.reduceDiv, Nat.reduceMod, Nat.reducePow, Nat.reduceLeDiff, Nat.reduceLT, Nat.reduceGT, Nat.reduceEqDiff, Nat.reduceBEq, Nat.reduceSubDiff, Nat.reduceBeqDiff, Int.reduceLE, Int.reduceLT, Int.reduceEq, Int.reduceToNat, Int.reduceAdd, Int.reduceSub, Int.reduceMul, Int.reduceNeg, Int.reduceGE, Int.reduceGT, Int.reduceNegSucc]
  refine hdone ?_
  simp -implicitDefEqProofs only [go_sem, Nat.reduceSub, Nat.reduceAdd, Nat.reduceMul, Nat.reduceDiv, Nat.reduceMod, Nat.reducePow, Nat.reduceLeDiff, Nat.reduceLT, Nat.reduceGT, Nat.reduceEqDiff, Nat.reduceBEq, Nat.reduceSubDiff, Nat.reduceBeqDiff, Int.reduceLE, Int.reduceLT, Int.reduceEq, Int.reduceToNat, Int.reduceAdd, Int.reduceSub, Int.reduceMul, Int.reduceNeg, Int.reduceGE, Int.reduceGT, Int.reduceNegSucc]
  exact ⟨_, rfl⟩
theorem V_Fixed : VSem Tryz.prog GD 11 [] (· = .bool true) := by
  refine VSem.of_body Tryz.func11 rfl (by kernel_rfl) ?_
  refine run_sound 4000 _ ?_
  simp -implicitDefEqProofs only [Tryz.f11, go_sem, Nat.reduceSub, Nat.reduceAdd, Nat.reduceMul, Nat.reduceDiv, Nat.reduceMod, Nat.reducePow, Nat.reduceLeDiff, Nat.reduceLT, Nat.reduceGT, Nat.reduceEqDiff, Nat.reduceBEq, Nat.reduceSubDiff, Nat.reduceBeqDiff, Int.reduceLE, Int.reduceLT, Int.reduceEq, Int.reduceToNat, Int.reduceAdd, Int.reduceSub, Int.reduceMul, Int.reduceNeg, Int.reduceGE, Int.reduceGT, Int.reduceNegSucc]
  refine call_E V_Default rfl ?_
  refine run_sound 4000 _ ?_
  simp -implicitDefEqProofs only [go_sem, Nat.reduceSub, Nat.reduceAdd, Nat.reduceMul, Nat.reduceDiv, Nat.reduceMod, Nat.reducePow, Nat.reduceLeDiff, Nat.reduceLT, Nat.reduceGT, Nat.reduceEqDiff, Nat.reduceBEq, Nat.reduceSubDiff, Nat.reduceBeqDiff, Int.reduceLE, Int.reduceLT, Int.reduceEq, Int.reduceToNat, Int.reduceAdd, Int.reduceSub, Int.reduceMul, Int.reduceNeg, Int.reduceGE, Int.reduceGT, Int.reduceNegSucc]
  refine call_X (H_New [] defaultC check_default) fun h' hh => ?_
  have c0 : Chan h' 4 ⟨2, 3, none⟩ (newC defaultC) := by rw [hh]; exact newH_chan [] defaultC
  have l0 : h'.length = 5 := by rw [hh]; rfl
  clear hh
  refine run_sound 4000 _ ?_
  simp -implicitDefEqProofs only [go_sem, Nat.reduceSub, Nat.reduceAdd, Nat.reduceMul, Nat.reduceDiv, Nat.reduceMod, Nat.reducePow, Nat.reduceLeDiff, Nat.reduceLT, Nat.reduceGT, Nat.reduceEqDiff, Nat.reduceBEq, Nat.reduceSubDiff, Nat.reduceBeqDiff, Int.reduceLE, Int.reduceLT, Int.reduceEq, Int.reduceToNat, Int.reduceAdd, Int.reduceSub, Int.reduceMul, Int.reduceNeg, Int.reduceGE, Int.reduceGT, Int.reduceNegSucc, l0]
  refine loop_ind (fun j st => ∃ (i : Nat) (h : List Blk) (w : Pl) (td : Td) (t2 t4 t5 t6 t7 t8 t9 t10 t11 t12 t13 t14 t16 t17 t18 t19 t20 t21 t22 t23 : AV), (j + i = 16 ∧ Chan h 4 w (walkC (newC defaultC) (List.replicate i fixT)) ∧ bget h 5 = some ⟨td.cells, 36⟩ ∧ ∀ i', i = i' + 1 → td = tellC (walkC (newC defaultC) (List.replicate i' fixT)) fixT) ∧ st = ⟨[.bool false, .ptr 4 0, t2, .ptr 5 0, t4, t5, t6, t7, t8, t9, t10, t11, t12, t13, t14, I i, t16, t17, t18, t19, t20, t21, t22, t23], h, []⟩)
    16 ⟨0, _, ⟨2, 3, none⟩, ⟨0, false, false, false, false, false, 0, 0, 0⟩, _, _, _, _, _, _, _, _, _, _, _, _, _, _, _, _, _, _, _, _, ⟨rfl, c0.app _, by rw [show (5 : Nat) = h'.length from l0.symm, bget_len]; rfl, fun i' h => by omega⟩, rfl⟩ ?_
  rintro j _ ⟨i, h, w, td, t2, t4, t5, t6, t7, t8, t9, t10, t11, t12, t13, t14, t16, t17, t18, t19, t20, t21, t22, t23, ⟨hj, hc, h5, htd⟩, rfl⟩ ih
  by_cases hi : i < 16
  · have d1 : decide ((i : Int) < 16) = true := decide_eq_true (by omega)
    have hw : IntKind.i64.wrap ((i : Int) + 1) = ((i + 1 : Nat) : Int) := by rw [IntKind.wrap_i64]; omega
    refine run_sound 4000 _ ?_
    simp -implicitDefEqProofs only [go_sem, Nat.reduceSub, Nat.reduceAdd, Nat.reduceMul, Nat.reduceDiv, Nat.reduceMod, Nat.reducePow, Nat.reduceLeDiff, Nat.reduceLT, Nat.reduceGT, Nat.reduceEqDiff, Nat.reduceBEq, Nat.reduceSubDiff, Nat.reduceBeqDiff, Int.reduceLE, Int.reduceLT, Int.reduceEq, Int.reduceToNat, Int.reduceAdd, Int.reduceSub, Int.reduceMul, Int.reduceNeg, Int.reduceGE, Int.reduceGT, Int.reduceNegSucc, d1]
    have hok : (walkC (newC defaultC) (List.replicate i fixT)).ok := walkC_ok (newC_ok defaultC_in) _
    refine call_X (H_Step h 4 w _ fixT hok hc) fun h2 hh => ?_
    obtain ⟨w2, c2, m2⟩ := hh
    have h52 := m2.oth hc h5 (oO _)
    refine run_sound 4000 _ ?_
    simp -implicitDefEqProofs only [go_sem, Nat.reduceSub, Nat.reduceAdd, Nat.reduceMul, Nat.reduceDiv, Nat.reduceMod, Nat.reducePow, Nat.reduceLeDiff, Nat.reduceLT, Nat.reduceGT, Nat.reduceEqDiff, Nat.reduceBEq, Nat.reduceSubDiff, Nat.reduceBeqDiff, Int.reduceLE, Int.reduceLT, Int.reduceEq, Int.reduceToNat, Int.reduceAdd, Int.reduceSub, Int.reduceMul, Int.reduceNeg, Int.reduceGE, Int.reduceGT, Int.reduceNegSucc, h52, hw]
    refine ih (j - 1) _ (by omega) ⟨i + 1, _, w2, _, _, _, _, _, _, _, _, _, _, _, _, _, _, _, _, _, _, _, _, _, ⟨by omega, ?_, bget_bset h52 _, fun i' e => ?_⟩, rfl⟩
    · rw [List.replicate_succ', walkC_append]
      exact c2.setj h52 (oO _) _
    · obtain rfl : i = i' := by omega
      rfl
  · have d1 : decide ((i : Int) < 16) = false := decide_eq_false (by omega)
    obtain rfl : i = 16 := by omega
    have := (htd 15 rfl).trans fix_told
    subst this
    refine run_sound 4000 _ ?_
    simp -implicitDefEqProofs only [go_sem, Nat.reduceSub, Nat.reduceAdd, Nat.reduceMul, Nat.reduceDiv, Nat.reduceMod, Nat.reducePow, Nat.reduceLeDiff, Nat.reduceLT, Nat.reduceGT, Nat.reduceEqDiff, Nat.reduceBEq, Nat.reduceSubDiff, Nat.reduceBeqDiff, Int.reduceLE, Int.reduceLT, Int.reduceEq, Int.reduceToNat, Int.reduceAdd, Int.reduceSub, Int.reduceMul, Int.reduceNeg, Int.reduceGE, Int.reduceGT, Int.reduceNegSucc, d1, h5]
    refine done_ret ?_
    simp -implicitDefEqProofs only [go_sem, Nat.reduceSub, Nat.reduceAdd, Nat.reduceMul, Nat.reduceDiv, Nat.reduceMod, Nat.reducePow, Nat.reduceLeDiff, Nat.reduceLT, Nat.reduceGT, Nat.reduceEqDiff, Nat.reduceBEq, Nat.reduceSubDiff, Nat.reduceBeqDiff, Int.reduceLE, Int.reduceLT, Int.reduceEq, Int.reduceToNat, Int.reduceAdd, Int.reduceSub, Int.reduceMul, Int.reduceNeg, Int.reduceGE, Int.reduceGT, Int.reduceNegSucc]
end Go.Proofs.YtakcibjjfkgadaaGreatDoor
