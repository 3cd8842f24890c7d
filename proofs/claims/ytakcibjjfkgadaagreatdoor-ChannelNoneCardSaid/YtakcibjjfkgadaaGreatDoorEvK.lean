/- Deferred calls. -/
import Derived.Test.YtakcibjjfkgadaaGreatDoorEvT
set_option linter.unusedVariables false
set_option linter.unusedSimpArgs false
namespace Go.Ev

section
variable {r : Option Nat} {P : Program} {G : Glob} {n0 : Nat} {R : AX → St → Prop} {m : List Nat} {im : Nat → Prop} {w : World}

/-- **defer.** -/
theorem defer_sem {o : Oper} {c : Call} {x : Operand} {all rest : List Oper} {k : List Fr} {t : List AV} {h : List Blk} {d : List Dfr} {f : FuncId} {cap : List AV} (ho : o.op = .defer c) (hg : o.guard = none) (hc : c.callee = .value x)
    (hx : evO G t x = .fn f cap) (hk : CfgSem none P G n0 ⟨.ops all rest, k, ⟨putT t o.dst (.raw undef), h, .call f cap (mapA (evO G t) c.args.toList) :: d⟩⟩ R) : StopSem none P G n0 (.more ⟨.ops all (o :: rest), k, ⟨t, h, d⟩⟩) R := by
  intro m im a w Q hS hn hQ
  obtain ⟨us, h1, h2⟩ := hS.tm
  have he : ∀ x, VR m w im (evO G t x) (a.eval x) := fun x => evO_sound hS.hp h1 h2 x
  have hxv := he x
  rw [hx] at hxv
  simp only [VR] at hxv
  obtain ⟨cs, hxe, hcs⟩ := hxv
  show wpListIn (wideR none) 0 P all.toArray (kwp none P k Q) (o :: rest) a w
  unfold wpListIn
  rw [if_pos (by simp [Region.wanted, hg])]
  refine ⟨fun _ _ => trivial, ?_⟩
  have hrun : (o.semAt (wideR none).round a.eval).run P w = .ok (.defer { target := .fn (.func f) cs.toArray, args := (c.args.toList.map a.eval).toArray }) w := by
    show (o.semAt none a.eval).run P w = _
    rw [Oper.semAt_none]
    obtain ⟨dst, op, ty, pos, after, guard⟩ := o
    simp only at ho
    subst ho
    obtain ⟨callee, as, tys⟩ := c
    simp only at hc
    subst hc
    unfold execOp
    dsimp only
    simp only [resolve, hxe, Deferred.ofValue, Sem.run_bind, Sem.run_pure, Result.andThen_ok]
    congr 3
    apply Array.ext'
    simp
  rw [hrun, Oper.uponIn_defer]
  have hS' : SR G m im ⟨putT t o.dst (.raw undef), h, .call f cap (mapA (evO G t) c.args.toList) :: d⟩ (({ a with defers := { target := .fn (.func f) cs.toArray, args := (c.args.toList.map a.eval).toArray } :: a.defers } : Act).put o.dst undef) w := by
    have h3 : SR G m im ⟨t, h, .call f cap (mapA (evO G t) c.args.toList) :: d⟩ { a with defers := { target := .fn (.func f) cs.toArray, args := (c.args.toList.map a.eval).toArray } :: a.defers } w :=
      ⟨⟨us, h1, h2⟩, ⟨⟨cs, _, hcs, mapA_sound he _, rfl⟩, hS.df, fun D hD => by cases hD⟩, hS.hp⟩
    exact h3.put (Stay.refl _ _ _) hS.hp VR_raw o.dst
  exact hk m im _ w Q hS' hn hQ

/-- The contract of a deferred call: what becomes of the memory. -/
def DSem (P : Program) (G : Glob) (f : FuncId) (args : List AV) (h : List Blk) (Rc : List Blk → Prop) : Prop :=
  callable P f = true ∧ ∀ m im w vs u, HR G m im h w → VRs m w im args vs → CallsDIn (wideR none) 0 P f vs.toArray u w fun e u' w' =>
    u' = u ∧ ∃ r m' im' h', e = .returned r ∧ Rc h' ∧ HR G m' im' h' w' ∧ Ext m.length m im w m' im' w' ∧ m.length ≤ m'.length

/-- The end of a body that runs as a deferred call. -/
def DEnd (R : List Blk → Prop) (e : AX) (st : St) : Prop := (e = .normal ∨ e = .ret) ∧ st.dfs = [] ∧ R st.heap

theorem DSem.of_body {f : FuncId} {fn : Func} {c : Code} {args : List AV} {hp : List Blk} {R : List Blk → Prop} (hf : P.funcs[f]? = some fn) (hb : fn.body = some c) (hc : callable P f = true) (hres : fn.results = #[])
    (h : CfgSem none P G hp.length ⟨.code c, [], ⟨enterT fn.ntmps args, hp, []⟩⟩ (DEnd R)) : DSem P G f args hp R := by
  refine ⟨hc, fun m im w vs u hH hv => callsDIn_of_wp hf hb trivial ?_⟩
  have hS : SR G m im ⟨enterT fn.ntmps args, hp, []⟩ { tmps := vs.toArray ++ Array.replicate (fn.ntmps - vs.toArray.size) undef, defers := [] } w := by
    refine ⟨⟨vs ++ List.replicate (fn.ntmps - args.length) undef, hv.append (VRs.replicate VR_raw _), ?_⟩, trivial, hH⟩
    apply Array.ext'
    simp [hv.length]
  refine h m im _ w (bodyPost P fn _) hS (Nat.le_of_eq hH.ln.symm) fun e st' m' im' a' w' ⟨he, hd, hR⟩ hs' hn' hE => ?_
  have hdf : a'.defers = [] := by
    have := hs'.df
    rw [hd] at this
    cases hq : a'.defers with
    | nil => rfl
    | cons x l => rw [hq] at this; exact this.elim
  rw [← hH.ln] at hE hn'
  have fin : bodyPost P fn (fun e w' => ∃ r m' im' h', e = .returned r ∧ R h' ∧ HR G m' im' h' w' ∧ Ext m.length m im w m' im' w' ∧ m.length ≤ m'.length) .ret a' w' :=
    ⟨hdf, .tuple #[], by simp [results, hres], _, m', im', st'.heap, rfl, hR, hs'.hp, hE, hn'⟩
  rcases he with rfl | rfl
  · exact fin
  · exact fin

/-- What is left to be done when a body has come to its end. -/
def LeaveD (P : Program) (G : Glob) (res : List ResultVar) (R : AO → List Blk → Prop) (t : List AV) : List Dfr → List Blk → Prop
  | [], h => ∃ v, resF P t h res = some v ∧ R (.ret v) h
  | .call f cap args :: ds, h => ∃ Rc, DSem P G f (args ++ cap) h Rc ∧ ∀ h', Rc h' → LeaveD P G res R t ds h'
  | .mark :: _, _ => False
def HEndD (P : Program) (G : Glob) (res : List ResultVar) (R : AO → List Blk → Prop) (e : AX) (st : St) : Prop := (e = .normal ∨ e = .ret) ∧ LeaveD P G res R st.tmps st.dfs st.heap

theorem leaves_D {fn : Func} {R : AO → List Blk → Prop} {m0 : List Nat} {im0 : Nat → Prop} {w0 : World} {us : List Value} {t : List AV} : ∀ (ds : List Dfr) (xs : List Deferred) (h : List Blk) (m : List Nat) (im : Nat → Prop) (w : World),
    LeaveD P G fn.results.toList R t ds h → HR G m im h w → VRs m w im t us → DRs m w im ds xs → Ext m0.length m0 im0 w0 m im w → m0.length ≤ m.length →
    LeavesInM (wideR none) 0 P fn us.toArray (fun e w' => ∃ ao m' im' h', R ao h' ∧ HR G m' im' h' w' ∧ Ext m0.length m0 im0 w0 m' im' w' ∧ m0.length ≤ m'.length ∧
        match ao with
        | .ret v => ∃ r, e = .returned r ∧ VR m' w' im' v r
        | .pan v => e = .panicked [{ v, recovered := false }]) xs .returning w
  | [], [], h, m, im, w, ⟨v, h1, h2⟩, hH, ht, _, hE, hl => by
    obtain ⟨u, g3, g4⟩ := resF_sound (P := P) hH ht h1
    exact ⟨u, g3, .ret v, m, im, h, h2, hH, hE, hl, u, rfl, g4⟩
  | .call f cap args :: ds, x :: xs, h, m, im, w, ⟨Rc, ⟨hc, hD⟩, hk⟩, hH, ht, hd, hE, hl => by
    obtain ⟨⟨cs, vs, h1, h2, rfl⟩, hd, _⟩ := hd
    refine ⟨by simp, .inr ⟨fun h => (by cases h), .func f, cs.toArray, f, (vs ++ cs).toArray, rfl, ?_, fun _ _ => trivial, ?_⟩⟩
    · simp only [invoke]
      rw [show vs.toArray ++ cs.toArray = (vs ++ cs).toArray from by apply Array.ext'; simp]
      exact run_callFunc hc _ _
    · obtain ⟨q1, q2⟩ := hD m im w (vs ++ cs) .returning hH (h2.append h1)
      refine ⟨q1, fun c cs' hm hr => ?_⟩
      obtain ⟨e, u', w', fr, ⟨rfl, r, m', im', h', rfl, hR, hH', hE', hl'⟩, hs, hk1, hk2, hk3⟩ := q2 c cs' hm hr
      have st : Stay m w im m' w' im' := ⟨fun b r hb => hE'.pre b r (by
          rcases Nat.lt_or_ge b m.length with h' | h'
          · exact h'
          · rw [List.getElem?_eq_none h'] at hb; cases hb) hb, fun r hr => ⟨hE'.imm r hr, hE'.keep r (hH.imx r hr).1 (hH.imx r hr).2⟩⟩
      exact ⟨_, _, w', fr, leaves_D ds xs h' m' im' w' (hk h' hR) hH' (ht.stay st) (hd.stay st) (hE.trans (hE'.less hl)) (Nat.le_trans hl hl'), hs, hk1, hk2, hk3⟩
  | .mark :: _, _, _, _, _, _, h, _, _, _, _, _ => h.elim
  | [], _ :: _, _, _, _, _, _, _, _, hd, _, _ => hd.elim
  | .call _ _ _ :: _, [], _, _, _, _, _, _, _, hd, _, _ => hd.elim

theorem HSem.of_bodyD {f : FuncId} {fn : Func} {c : Code} {args : List AV} {hp : List Blk} {R : AO → List Blk → Prop} (hf : P.funcs[f]? = some fn) (hb : fn.body = some c) (hc : callable P f = true)
    (h : CfgSem none P G hp.length ⟨.code c, [], ⟨enterT fn.ntmps args, hp, []⟩⟩ (HEndD P G fn.results.toList R)) : HSem P G f args hp R := by
  refine fun m im w vs hH hv => .inl ⟨hc, (callsIn_wide (n := 0)).1 (callsIn_of_wp_marks hf hb trivial ?_)⟩
  have hS : SR G m im ⟨enterT fn.ntmps args, hp, []⟩ { tmps := vs.toArray ++ Array.replicate (fn.ntmps - vs.toArray.size) undef, defers := [] } w := by
    refine ⟨⟨vs ++ List.replicate (fn.ntmps - args.length) undef, hv.append (VRs.replicate VR_raw _), ?_⟩, trivial, hH⟩
    apply Array.ext'
    simp [hv.length]
  refine h m im _ w (bodyPostM (wideR none) 0 P fn _) hS (Nat.le_of_eq hH.ln.symm) fun e st' m' im' a' w' ⟨he, hL⟩ hs' hn' hE => ?_
  obtain ⟨us, g1, g2⟩ := hs'.tm
  rw [← hH.ln] at hE hn'
  have := leaves_D (fn := fn) (R := R) (m0 := m) (im0 := im) (w0 := w) (us := us) st'.dfs a'.defers st'.heap m' im' w' hL hs'.hp g1 hs'.df hE hn'
  rcases he with rfl | rfl
  · show LeavesInM (wideR none) 0 P fn a'.tmps _ a'.defers .returning w'
    rw [g2]; exact this
  · show LeavesInM (wideR none) 0 P fn a'.tmps _ a'.defers .returning w'
    rw [g2]; exact this
end
end Go.Ev
