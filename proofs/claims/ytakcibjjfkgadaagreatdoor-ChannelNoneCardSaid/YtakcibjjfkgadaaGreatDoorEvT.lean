/- Ranges over a function: the loop's statement, and the call of its yield, as rules of the abstract run. -/
import Derived.Test.YtakcibjjfkgadaaGreatDoorEvS
import Derived.RangeFuncIn
import Derived.RangeFuncOwn
set_option linter.unusedVariables false
set_option linter.unusedSimpArgs false
namespace Go.Ev

section
variable {r : Option Nat} {P : Program} {G : Glob} {n0 : Nat} {R : AX → St → Prop} {m : List Nat} {im : Nat → Prop} {w : World}

theorem DRs.old {h : List Blk} (hH : HR G m im h w) : ∀ {ds : List Dfr} {xs : List Deferred}, DRs m w im ds xs → ∀ y ∈ xs, ∀ D, y.target = .collected D → D < w.heap.size
  | [], [], _, y, hy, _, _ => by cases hy
  | d :: ds, x :: xs, hd, y, hy, D, hD => by
    rcases List.mem_cons.1 hy with rfl | hy
    · have := hd.1
      cases d with
      | call f cap args => obtain ⟨us, vs, _, _, rfl⟩ := this; cases hD
      | mark =>
        obtain ⟨D', h1, _, rfl⟩ := this
        cases hD
        exact (hH.imx _ h1).1
    · exact DRs.old hH hd.2.1 y hy D hD
  | [], _ :: _, h, _, _, _, _ => h.elim
  | _ :: _, [], h, _, _, _, _ => h.elim

/-- **A range over a function**: the iterator's contract at this loop's yield; behind it the memory bears no yield. -/
theorem range_sem {x : Operand} {ps : Array Tmp} {asg body : Code} {k : List Fr} {t : List AV} {h : List Blk} {d : List Dfr} {gf : FuncId} {cap : List AV} (hx : evO G t x = .fn gf cap) (hc : callable P gf = true)
    (hcall : HSem P G gf (.yld ⟨ps, asg, body⟩ t :: cap) h fun ao h' => (∃ v, ao = .ret v) ∧ hnoY h' = true ∧ CfgSem none P G n0 ⟨.exit .normal, k, ⟨t, h', .mark :: d⟩⟩ R) :
    StopSem none P G n0 (.more ⟨.code (.rangeFunc x ps asg body), k, ⟨t, h, d⟩⟩) R := by
  intro m im a w Q hs hn hQ
  obtain ⟨us, h1, h2⟩ := hs.tm
  have he := evO_sound (a := a) hs.hp h1 h2 x
  rw [hx] at he
  simp only [VR] at he
  obtain ⟨lb, hxe, hcap⟩ := he
  show (Code.rangeFunc x ps asg body).wpIn (wideR none) 0 P (kwp none P k Q) a w
  refine wpIn_rangeFunc fun fn _ => ?_
  obtain ⟨rec, hrec⟩ : ∃ rec : LoopState → Loop, rec = fun st => { state := st, pending := none, fn, tmps := us.toArray, params := ps, assign := asg, body, defers := w.heap.size } := ⟨_, rfl⟩
  obtain ⟨W1, hW1⟩ : ∃ W1, (w.alloc (.deferred (some []))).alloc (.loop (rec .ready)) = W1 := ⟨_, rfl⟩
  have hsz : W1.heap.size = w.heap.size + 2 := by rw [← hW1, World.size_alloc, World.size_alloc]
  have hL1 : W1.heap[w.heap.size + 1]? = some (.loop (rec .ready)) := by
    rw [← hW1]; have := World.alloc_heap_new (w.alloc (.deferred (some []))) (.loop (rec .ready)); rwa [World.size_alloc] at this
  have hold : ∀ r, r < w.heap.size → W1.heap[r]? = w.heap[r]? := fun r hr => by
    rw [← hW1]; simp only [World.alloc, Array.getElem?_push, Array.size_push]
    rw [if_neg (by omega), if_neg (by omega)]
  have hD1 : W1.heap[w.heap.size]? = some (.deferred (some [])) := by
    rw [← hW1]; simp only [World.alloc, Array.getElem?_push, Array.size_push]
    rw [if_neg (by omega), if_pos trivial]
  refine ⟨w.heap.size + 1, [{ target := .collected w.heap.size, args := #[] }], W1, { target := .fn (.func gf) lb.toArray, args := #[.func (.yield (w.heap.size + 1)) #[] #[]] }, W1, gf,
    #[.func (.yield (w.heap.size + 1)) #[] #[]] ++ lb.toArray, W1, ?_, ?_, fun _ _ => trivial, ?_, fun h => (by cases h), ?_⟩
  · rw [← hW1, hrec, h2]; exact run_enterLoop_outer _ _ _ _ _
  · simp only [resolve, hxe]
    simp [go_sem, Deferred.ofValue]
  · simp only [invoke]
    exact run_callFunc hc _ _
  · obtain ⟨im1, him1⟩ : ∃ im1 : Nat → Prop, im1 = fun r => im r ∨ r = w.heap.size ∨ r = w.heap.size + 1 := ⟨_, rfl⟩
    have st1 : Stay m w im m W1 im1 := ⟨fun _ _ h => h, fun r hr => ⟨by rw [him1]; exact .inl hr, hold r (hs.hp.imx r hr).1⟩⟩
    have hH1 : HR G m im1 h W1 := hs.hp.later (by omega) hold (fun r hr => by rw [him1]; exact .inl hr) fun r hr => by
      rw [him1] at hr
      rcases hr with hr | hr | hr
      · exact .inl hr
      · exact .inr (by omega)
      · exact .inr (by omega)
    have hA : VRs m W1 im1 (.yld ⟨ps, asg, body⟩ t :: cap) (Value.func (.yield (w.heap.size + 1)) #[] #[] :: lb) := by
      simp only [VRs, VR]
      exact ⟨⟨w.heap.size + 1, fn, w.heap.size, us, by rw [him1]; exact .inr (.inr rfl), rfl, by rw [hL1, hrec], h1.stay st1⟩, hcap.stay st1⟩
    have hC := hcall m im1 W1 _ hH1 hA
    have e2 : (Value.func (.yield (w.heap.size + 1)) #[] #[] :: lb).toArray = #[Value.func (.yield (w.heap.size + 1)) #[] #[]] ++ lb.toArray := by
      apply Array.ext'; simp
    rw [← e2]
    refine callsIn_R ?_
    rcases hC with ⟨_, hC⟩ | ⟨u, hu, _⟩
    rotate_left
    · rw [run_callFunc hc] at hu; cases hu
    refine hC.mono ?_
    rintro e w' ⟨ao, m', im', h', ⟨⟨v, rfl⟩, hY, hK⟩, hH', hE, hlen, r0, rfl, _⟩
    have hl' : w'.heap[w.heap.size + 1]? = some (.loop (rec .ready)) := by
      rw [hE.keep _ (by omega) (fun hx => by have := hs.hp.lt hx; omega)]; exact hL1
    have hD' : w'.heap[w.heap.size]? = some (.deferred (some [])) := by
      rw [hE.keep _ (by omega) (fun hx => by have := hs.hp.lt hx; omega)]; exact hD1
    have hend := run_endLoop (P := P) hl' (by rw [hrec]; simp)
    obtain ⟨W4, hW4⟩ : ∃ W4, w'.putObj (w.heap.size + 1) (.loop { rec .ready with state := .exhausted }) = W4 := ⟨_, rfl⟩
    rw [hW4] at hend
    refine ⟨none, W4, by rw [hend, hrec], ?_⟩
    have hs4 : W4.heap.size = w'.heap.size := by rw [← hW4]; simp
    have ho4 : ∀ r, r ≠ w.heap.size + 1 → W4.heap[r]? = w'.heap[r]? := fun r hr => by rw [← hW4]; exact World.putObj_heap_other hr
    obtain ⟨im4, him4⟩ : ∃ im4 : Nat → Prop, im4 = fun r => im' r ∧ r ≠ w.heap.size + 1 := ⟨_, rfl⟩
    have hsw : w.heap.size + 2 ≤ w'.heap.size := by have := hE.size; omega
    have hk4 : ∀ r, r < w.heap.size → r ∉ m → W4.heap[r]? = w.heap[r]? := fun r hr hm => by
      rw [ho4 r (by omega), hE.keep r (by omega) hm, hold r hr]
    have st4 : Stay m w im m' W4 im4 := ⟨fun b r hb => hE.pre b r (by
        rcases Nat.lt_or_ge b m.length with h' | h'
        · exact h'
        · rw [List.getElem?_eq_none h'] at hb; cases hb) hb, fun r hr => ⟨by
          rw [him4]
          exact ⟨hE.imm r (by rw [him1]; exact .inl hr), by have := (hs.hp.imx r hr).1; omega⟩, hk4 r (hs.hp.imx r hr).1 (hs.hp.imx r hr).2⟩⟩
    have hlm : w.heap.size + 1 ∉ m' := fun hx => by
      have hl := hH'.imx (w.heap.size + 1) (hE.imm _ (by rw [him1]; exact .inr (.inr rfl)))
      exact hl.2 hx
    have hH4 : HR G m' im4 h' W4 := by
      refine hH'.shift (b := false) (fun r hr => ?_) (fun r hr => ho4 r fun e => hlm (e ▸ hr)) (.inr hY) (fun r hr => ?_) (hs.hp.gl.stay ⟨fun _ _ h => h, st4.imm⟩)
      · by_cases e : r = w.heap.size + 1
        · subst e
          exact .inr ⟨fun _ _ _ h => (by rw [hl'] at h; cases h), fun h => by cases h⟩
        · exact .inl ⟨by rw [him4]; exact ⟨hr, e⟩, ho4 r e⟩
      · rw [him4] at hr
        rw [hs4]
        exact hH'.imx r hr.1
    have hS4 : SR G m' im4 ⟨t, h', .mark :: d⟩ { a with defers := [{ target := .collected w.heap.size, args := #[] }] ++ a.defers } W4 := by
      refine ⟨⟨us, h1.stay st4, h2⟩, ⟨⟨w.heap.size, ?_, ?_, rfl⟩, hs.df.stay st4, ?_⟩, hH4⟩
      · rw [him4]
        exact ⟨hE.imm _ (by rw [him1]; exact .inr (.inl rfl)), by omega⟩
      · rw [ho4 _ (by omega)]; exact hD'
      · intro D hD y hy hyD
        cases hD
        have := DRs.old hs.hp hs.df y hy _ hyD
        omega
    refine hK m' im4 _ W4 Q hS4 (Nat.le_trans hn hlen) fun e2 st2 m2 im2 a2 w2 hr2 hs2 hn2 he2 => hQ e2 st2 m2 im2 a2 w2 hr2 hs2 hn2 (Ext.trans ?_ he2)
    exact { os := by rw [← hW4]; show w'.os = _; rw [hE.os, ← hW1]; rfl
            tape := by rw [← hW4]; show w'.tape = _; rw [hE.tape, ← hW1]; rfl
            output := by rw [← hW4]; show w'.output = _; rw [hE.output, ← hW1]; rfl
            size := by omega
            pre := fun b r hb e => hE.pre b r (Nat.lt_of_lt_of_le hb hn) e
            keep := hk4
            newm := fun r hr => (hE.newm r hr).imp id fun h => by omega
            imm := fun r hr => (st4.imm r hr).1
            newim := fun r hr => by
              rw [him4] at hr
              rcases hE.newim r hr.1 with h | h
              · rw [him1] at h
                rcases h with h | h | h
                · exact .inl h
                · exact .inr (by omega)
                · exact .inr (by omega)
              · exact .inr (by omega) }

/-- Where yield's arguments go. -/
def putPs : List Tmp → List AV → List AV → List AV
  | p :: ps, x :: xs, t => putPs ps xs (lset t p x)
  | _, _, t => t
theorem putPs_sound : ∀ (ps : List Tmp) (xs : List AV) (vs : List Value) (t : List AV) (us : List Value), VRs m w im xs vs → VRs m w im t us → xs.length = ps.length →
    ∃ us', (ps.zip vs).foldl (fun (tm : Array Value) (p : Tmp × Value) => tm.setIfInBounds p.1 p.2) us.toArray = us'.toArray ∧ VRs m w im (putPs ps xs t) us'
  | [], [], _, t, us, _, ht, _ => ⟨us, by simp, by simpa [putPs] using ht⟩
  | p :: ps, x :: xs, v :: vs, t, us, hx, ht, hl => by
    simp only [VRs] at hx
    obtain ⟨us', h1, h2⟩ := putPs_sound ps xs vs (lset t p x) (us.set p v) hx.2 (by rw [lset_eq]; exact ht.set p hx.1) (by simpa using hl)
    refine ⟨us', ?_, by simpa [putPs] using h2⟩
    rw [← h1]
    simp
  | [], _ :: _, _, _, _, _, _, hl => by simp at hl
  | _ :: _, [], _, _, _, _, _, hl => by simp at hl
  | _ :: _, _ :: _, [], _, _, hx, _, _ => by simp only [VRs] at hx

theorem putObj_os (w : World) (l : Nat) (o : Obj) : (w.putObj l o).os = w.os := rfl

/-- An object that is none of the own ones, nor one of those that nobody writes, is written. -/
theorem HR.other {h : List Blk} (hH : HR G m im h w) {l : Nat} (o : Obj) (h1 : l ∉ m) (h2 : ¬ im l) : HR G m im h (w.putObj l o) ∧ Stay m w im m (w.putObj l o) im := by
  have hk : ∀ r, r ≠ l → (w.putObj l o).heap[r]? = w.heap[r]? := fun r hr => World.putObj_heap_other hr
  have st : Stay m w im m (w.putObj l o) im := ⟨fun _ _ h => h, fun r hr => ⟨hr, hk r fun e => h2 (e ▸ hr)⟩⟩
  refine ⟨⟨hH.ln, fun b k r hb hr => ?_, hH.inj, fun r hr => ?_, hH.gl.stay ⟨fun _ _ h => h, st.imm⟩⟩, st⟩
  · obtain ⟨arr, us, g1, g2, g3⟩ := hH.bl b k r hb hr
    exact ⟨arr, us, by rw [hk r fun e => h1 (e ▸ List.mem_of_getElem? hr)]; exact g1, g2.stay st, g3⟩
  · rw [World.putObj_size]; exact hH.imx r hr

/-- **The call of a loop's yield**: one round of the loop, which ends at its end. -/
theorem yield_sem (hG : GY G) {o : Oper} {c : Call} {x : Operand} {all rest : List Oper} {k : List Fr} {t : List AV} {h : List Blk} {d : List Dfr} {y : YD} {cs args : List AV} (ho : o.op = .call c) (hg : o.guard = none) (hcal : c.callee = .value x) (hx : evO G t x = .yld y cs)
    (hargs : mapA (evO G t) c.args.toList = args) (hl : args.length = y.ps.size) (hY : hnoY h = true) (hYc : noYs cs = true) (hYa : noYs args = true)
    (hround : ∀ l, CfgSem (some l) P G h.length ⟨.code y.assign, [], ⟨putPs y.ps.toList args cs, h, []⟩⟩ fun e st1 => e = .normal ∧
      CfgSem (some l) P G h.length ⟨.code y.body, [], st1⟩ fun e st2 => e = .normal ∧ CfgSem r P G n0 ⟨.ops all rest, k, ⟨putT t o.dst (.bool true), st2.heap, d⟩⟩ R) :
    StopSem r P G n0 (.more ⟨.ops all (o :: rest), k, ⟨t, h, d⟩⟩) R := by
  intro m im a w Q hs hn hQ
  obtain ⟨us, h1, h2⟩ := hs.tm
  have he : ∀ x, VR m w im (evO G t x) (a.eval x) := fun x => evO_sound hs.hp h1 h2 x
  have hxv := he x
  rw [hx] at hxv
  simp only [VR] at hxv
  obtain ⟨l, fn, D, ts, hil, hxe, hll, hts⟩ := hxv
  have hav : VRs m w im args (c.args.toList.map a.eval) := by rw [← hargs]; exact mapA_sound he _
  have hll' := hll
  obtain ⟨lt, lm⟩ := hs.hp.imx l hil
  show wpListIn (wideR r) 0 P all.toArray (kwp r P k Q) (o :: rest) a w
  unfold wpListIn
  rw [if_pos (by simp [Region.wanted, hg])]
  refine ⟨fun _ _ => trivial, ?_⟩
  rw [Oper.semAt_eq _ _ _ (by rw [ho]; intro _ h; cases h)]
  obtain ⟨rec, hrec⟩ : ∃ rec : LoopState → Loop, rec = fun st => { state := st, pending := none, fn, tmps := ts.toArray, params := y.ps, assign := y.assign, body := y.body, defers := D } := ⟨_, rfl⟩
  have hL : w.heap[l]? = some (.loop (rec .ready)) := by rw [hll, hrec]
  have hrun : (execOp a.eval o).run P w = (Instr.yield l (c.args.toList.map a.eval).toArray).run P w := by
    obtain ⟨dst, op, ty, pos, after, guard⟩ := o
    simp only at ho
    subst ho
    obtain ⟨callee, as, tys⟩ := c
    simp only at hcal
    subst hcal
    unfold execOp
    dsimp only
    simp only [resolve, hxe, Deferred.ofValue, Sem.run_bind, Sem.run_pure, Result.andThen_ok, invoke]
    congr 2
    apply Array.ext'
    simp
  have hlen : (c.args.toList.map a.eval).length = y.ps.size := by rw [← hav.length]; exact hl
  rw [hrun, run_yield hL (by rw [hrec]; simpa using hlen), Oper.uponIn_round]
  refine ⟨fun h => (by cases h), ?_⟩
  -- the round's state
  obtain ⟨im0, him0⟩ : ∃ im0 : Nat → Prop, im0 = fun r => im r ∧ r ≠ l := ⟨_, rfl⟩
  have sh : Shift false w im w im0 := fun r hr => by
    by_cases e : r = l
    · subst e
      exact .inr ⟨fun _ _ _ h => (by rw [hL] at h; cases h), fun h => by cases h⟩
    · exact .inl ⟨by rw [him0]; exact ⟨hr, e⟩, rfl⟩
  have i0 : ∀ r, im0 r → im r := fun r hr => by rw [him0] at hr; exact hr.1
  have il : ¬ im0 l := fun h => by rw [him0] at h; exact h.2 rfl
  have hH0 : HR G m im0 h w := hs.hp.shift sh (fun _ _ => rfl) (.inr hY) (fun r hr => hs.hp.imx r (i0 r hr)) (hs.hp.gl.shift (.inr hG) sh)
  obtain ⟨us0, hf0, ht0⟩ := putPs_sound y.ps.toList args _ cs ts (VRs.shift sh _ _ (.inr hYa) hav) (VRs.shift sh _ _ (.inr hYc) hts) (by simpa using hl)
  have hfold : (((rec .ready).params.zip (c.args.toList.map a.eval).toArray).foldl (fun tmps (t, a) => tmps.setIfInBounds t a) (rec .ready).tmps) = us0.toArray := by
    rw [hrec]
    simp only
    rw [← hf0, ← Array.foldl_toList]
    simp
  rw [hfold]
  have hS0 : SR G m im0 ⟨putPs y.ps.toList args cs, h, []⟩ { tmps := us0.toArray, defers := [] } w := ⟨⟨us0, ht0, rfl⟩, trivial, hH0⟩
  refine roundIn_of_wpIn (F := wideR r) trivial ?_
  have hasg : (rec .ready).assign = y.assign := by rw [hrec]
  have hbod : (rec .ready).body = y.body := by rw [hrec]
  rw [hasg, hbod]
  refine hround l m im0 _ w _ hS0 (Nat.le_of_eq hs.hp.ln.symm) ?_
  rintro e1 st1 m1 im1 a1 w1 ⟨rfl, hbody⟩ hs1 hn1 hE1
  have lm1 : l ∉ m1 := fun hx => by
    rcases hE1.newm l hx with h | h
    · exact lm h
    · omega
  have il1 : ¬ im1 l := fun hx => by
    rcases hE1.newim l hx with h | h
    · exact il h
    · omega
  have hL1 : w1.heap[l]? = some (.loop (rec .ready)) := by rw [hE1.keep l lt lm]; exact hL
  show ∃ w₂, (Instr.beginRound l).run P w1 = .ok () w₂ ∧ _
  refine ⟨_, run_beginRound hL1 (by rw [hrec]), ?_⟩
  obtain ⟨W2, hW2⟩ : ∃ W2, w1.putObj l (.loop { rec .ready with state := .busy }) = W2 := ⟨_, rfl⟩
  rw [hW2]
  obtain ⟨hH2, st12⟩ := hs1.hp.other (.loop { rec .ready with state := .busy }) lm1 il1
  rw [hW2] at hH2 st12
  have hs2 : W2.heap.size = w1.heap.size := by rw [← hW2]; simp
  have hL2 : W2.heap[l]? = some (.loop { rec .ready with state := .busy }) := by
    rw [← hW2]; exact World.putObj_heap_same (Nat.lt_of_lt_of_le lt hE1.size)
  obtain ⟨us1, h11, h12⟩ := hs1.tm
  refine hbody m1 im1 a1 W2 _ ⟨⟨us1, h11.stay st12, h12⟩, hs1.df.stay st12, hH2⟩ hn1 ?_
  rintro e2 st2 m2 im2 a2 w2 ⟨rfl, hK⟩ hs3 hn2 hE2
  have lm2 : l ∉ m2 := fun hx => by
    rcases hE2.newm l hx with h | h
    · exact lm1 h
    · have := hE1.size; omega
  have il2 : ¬ im2 l := fun hx => by
    rcases hE2.newim l hx with h | h
    · exact il1 h
    · have := hE1.size; omega
  have hL3 : w2.heap[l]? = some (.loop { rec .ready with state := .busy }) := by
    rw [hE2.keep l (by have := hE1.size; omega) lm1]; exact hL2
  refine ⟨_, _, run_endRound none hL3, ?_⟩
  show wpListIn (wideR r) 0 P all.toArray (kwp r P k Q) rest _ _
  obtain ⟨W4, hW4⟩ : ∃ W4, w2.putObj l (.loop (rec .ready)) = W4 := ⟨_, rfl⟩
  have e4 : (w2.putObj l (.loop { { rec .ready with state := .busy } with state := if (none : Option Code).isNone then .ready else .done, pending := none })) = W4 := by
    rw [← hW4, hrec]; rfl
  rw [e4]
  have hs4 : W4.heap.size = w2.heap.size := by rw [← hW4]; simp
  have l2 : l < w2.heap.size := by have := hE1.size; have := hE2.size; omega
  have hL4 : W4.heap[l]? = some (.loop (rec .ready)) := by rw [← hW4]; exact World.putObj_heap_same l2
  have ho4 : ∀ r, r ≠ l → W4.heap[r]? = w2.heap[r]? := fun r hr => by rw [← hW4]; exact World.putObj_heap_other hr
  have ho2 : ∀ r, r ≠ l → W2.heap[r]? = w1.heap[r]? := fun r hr => by rw [← hW2]; exact World.putObj_heap_other hr
  have keep : ∀ r, r < w.heap.size → r ∉ m → W4.heap[r]? = w.heap[r]? := fun r hr hm => by
    by_cases e : r = l
    · subst e; rw [hL4, hL]
    · have m1r : r ∉ m1 := fun hx => by
        rcases hE1.newm r hx with h | h
        · exact hm h
        · omega
      rw [ho4 r e, hE2.keep r (by have := hE1.size; omega) m1r, ho2 r e, hE1.keep r hr hm]
  obtain ⟨im4, him4⟩ : ∃ im4 : Nat → Prop, im4 = fun r => im2 r ∨ r = l := ⟨_, rfl⟩
  have hS4 : HR G m2 im4 st2.heap W4 := by
    obtain ⟨g1, g2⟩ := hs3.hp.other (.loop (rec .ready)) lm2 il2
    rw [hW4] at g1
    have s4 : Stay m2 W4 im2 m2 W4 im4 := ⟨fun _ _ h => h, fun r hr => ⟨by rw [him4]; exact .inl hr, rfl⟩⟩
    refine ⟨g1.ln, fun b k r hb hr => ?_, g1.inj, fun r hr => ?_, g1.gl.stay ⟨fun _ _ h => h, s4.imm⟩⟩
    · obtain ⟨arr, vs, q1, q2, q3⟩ := g1.bl b k r hb hr
      exact ⟨arr, vs, q1, q2.stay s4, q3⟩
    · rw [him4] at hr
      rcases hr with hr | rfl
      · exact g1.imx r hr
      · exact ⟨by omega, lm2⟩
  have pre : ∀ (b r : Nat), b < h.length → m[b]? = some r → m2[b]? = some r := fun b r hb e => hE2.pre b r hb (hE1.pre b r hb e)
  have imm : ∀ r, im r → im4 r := fun r hr => by
    rw [him4]
    by_cases e : r = l
    · exact .inr e
    · exact .inl (hE2.imm r (hE1.imm r (by rw [him0]; exact ⟨hr, e⟩)))
  have st4 : Stay m w im m2 W4 im4 := ⟨fun b r hb => pre b r (by
      rcases Nat.lt_or_ge b h.length with h' | h'
      · exact h'
      · rw [← hs.hp.ln] at h'; rw [List.getElem?_eq_none h'] at hb; cases hb) hb, fun r hr => ⟨imm r hr, keep r (hs.hp.imx r hr).1 (hs.hp.imx r hr).2⟩⟩
  have hE4 : Ext n0 m im w m2 im4 W4 := { os := by rw [← hW4]; show w2.os = _; rw [hE2.os, ← hW2]; show w1.os = _; exact hE1.os
                                          tape := by rw [← hW4]; show w2.tape = _; rw [hE2.tape, ← hW2]; show w1.tape = _; exact hE1.tape
                                          output := by rw [← hW4]; show w2.output = _; rw [hE2.output, ← hW2]; show w1.output = _; exact hE1.output
                                          size := by have := hE1.size; have := hE2.size; omega
                                          pre := fun b r hb e => pre b r (by have := hs.hp.ln; simp only at this hn; omega) e
                                          keep := keep
                                          newm := fun r hr => by
                                            rcases hE2.newm r hr with h | h
                                            · exact hE1.newm r h
                                            · exact .inr (by have := hE1.size; omega)
                                          imm := imm
                                          newim := fun r hr => by
                                            rw [him4] at hr
                                            rcases hr with hr | rfl
                                            · rcases hE2.newim r hr with h | h
                                              · rcases hE1.newim r h with h | h
                                                · exact .inl (i0 r h)
                                                · exact .inr h
                                              · exact .inr (by have := hE1.size; omega)
                                            · exact .inl hil }
  have hn4 : n0 ≤ m2.length := Nat.le_trans (by have := hs.hp.ln; simp only at this hn; omega) hn2
  have := hK m2 im4 (a.put o.dst (.bool true)) W4 Q (hs.put st4 hS4 VR_bool o.dst) hn4 fun e3 st3 m3 im3 a3 w3 hr3 hs3 hn3 he3 => hQ e3 st3 m3 im3 a3 w3 hr3 hs3 hn3 (hE4.trans he3)
  exact this

/-- The contract of any other operation: xs: what its operands are. -/
def OpSem (P : Program) (G : Glob) (op : Op) (xs : List AV) (h : List Blk) (Rc : AO → List Blk → Prop) : Prop :=
  ∀ (r : Option Nat) (n0 : Nat) (o : Oper) (m : List Nat) (im : Nat → Prop) (a : Act) (w : World) (next : Act → World → Prop) (Q : Exit → Act → World → Prop), o.op = op → n0 ≤ m.length → HR G m im h w → VRs m w im xs (op.operands.toList.map a.eval) →
    (∀ ao m' im' h' w', Rc ao h' → HR G m' im' h' w' → Stay m w im m' w' im' → Ext n0 m im w m' im' w' → n0 ≤ m'.length → match ao with
      | .ret v => ∀ u, VR m' w' im' v u → next (a.put o.dst u) w'
      | .pan x => Q (.panic [{ v := x, recovered := false }]) a w') → o.wpIn (wideR r) 0 P a w next Q

theorem mapA_eq (ρ : Operand → AV) : ∀ l : List Operand, mapA ρ l = l.map ρ
  | [] => rfl
  | x :: l => by simp [mapA, mapA_eq ρ l]

/-- **An operation by its contract.** -/
theorem oper_sem {o : Oper} {all rest : List Oper} {k : List Fr} {t : List AV} {h : List Blk} {d : List Dfr} {Rc : AO → List Blk → Prop} (hg : o.guard = none) (ho : OpSem P G o.op (mapA (evO G t) o.op.operands.toList) h Rc)
    (hk : ∀ ao h', Rc ao h' → match ao with
      | .ret v => CfgSem r P G n0 ⟨.ops all rest, k, ⟨putT t o.dst v, h', d⟩⟩ R
      | .pan v => CfgSem r P G n0 ⟨.exit (.panic v), k, ⟨t, h', d⟩⟩ R) : StopSem r P G n0 (.more ⟨.ops all (o :: rest), k, ⟨t, h, d⟩⟩) R := by
  intro m im a w Q hS hn hQ
  obtain ⟨us, h1, h2⟩ := hS.tm
  have he : ∀ x, VR m w im (evO G t x) (a.eval x) := fun x => evO_sound hS.hp h1 h2 x
  show wpListIn (wideR r) 0 P all.toArray (kwp r P k Q) (o :: rest) a w
  unfold wpListIn
  rw [if_pos (by simp [Region.wanted, hg])]
  refine ho r n0 o m im a w _ _ rfl hn hS.hp (mapA_sound he _) fun ao m' im' h' w' hR hH hst hE hl => ?_
  have := hk ao h' hR
  cases ao with
  | ret v => exact fun u hu => this m' im' _ w' Q (hS.put hst hH hu o.dst) hl fun e2 st2 m2 im2 a2 w2 hr2 hs2 hn2 he2 => hQ e2 st2 m2 im2 a2 w2 hr2 hs2 hn2 (hE.trans he2)
  | pan v => exact this m' im' a w' Q ⟨⟨us, h1.stay hst, h2⟩, hS.df.stay hst, hH⟩ hl fun e2 st2 m2 im2 a2 w2 hr2 hs2 hn2 he2 => hQ e2 st2 m2 im2 a2 w2 hr2 hs2 hn2 (hE.trans he2)
end
end Go.Ev
