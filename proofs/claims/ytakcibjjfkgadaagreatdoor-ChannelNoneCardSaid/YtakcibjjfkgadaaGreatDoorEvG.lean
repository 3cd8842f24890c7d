/- Configurations of the abstract run: what is still to be done, by a stack; each step of it is one of the machine's wp. -/
import Derived.Test.YtakcibjjfkgadaaGreatDoorEvF
import Derived.Scope
import Derived.TacticsIn
import Derived.RangeFuncNested
set_option linter.unusedVariables false
set_option linter.unusedSimpArgs false
namespace Go.Ev

/-- How a part of a run ends. -/
inductive AX where
  | normal
  | exit (id : Nat)
  | goto (l : Nat)
  | ret
  | panic (v : Value)

def AX.conc : AX → Exit
  | .normal => .normal
  | .exit id => .exit id
  | .goto l => .goto l
  | .ret => .ret
  | .panic v => .panic [{ v, recovered := false }]

/-- What stands behind. -/
inductive Fr where
  | seq (b : Code)
  | blk (id : Nat)
  | lp (c : Code)
  | scp (c : Code)

/-- No bounds; the activation may be a round's. -/
def wideR (r : Option Nat) : Fence := { Fence.wide with round := r }
theorem roomR {r : Option Nat} (n : Nat) : (wideR r).room n := fun _ hd => by cases hd
theorem calmR {r : Option Nat} {P : Program} {fr : Frame} {cs : List Frame} {w : World} (ha : fr.about P w = none) : (lone fr cs w).fenced P (wideR r) := fenced_calm (n := 0) trivial (roomR _) ha
theorem callsIn_R {r : Option Nat} {n : Nat} {P : Program} {f : FuncId} {args : Array Value} {w : World} {R : Ending → World → Prop} (h : Calls P f args w R) : CallsIn (wideR r) n P f args w R :=
  (callsIn_wide (n := n)).2 h

section
variable (r : Option Nat) (P : Program)

/-- A loop's further rounds. -/
def wpIn (c : Code) (Q : Exit → Act → World → Prop) (a : Act) (w : World) : Prop :=
  ∀ (b : Frame) (k : List Item) (cs : List Frame), b.roundOf = r → ∃ e a' w', Q e a' w' ∧ ArrivesIn (Machine.fenced P (wideR r)) P (lone (b.atR a (.inLoop c :: k)) cs w) b k cs e a' w'
/-- From a label on. -/
def wpJ (c rest : Code) (Q : Exit → Act → World → Prop) (a : Act) (w : World) : Prop :=
  ∀ (b : Frame) (k : List Item) (cs : List Frame), b.roundOf = r → ∃ e a' w', Q e a' w' ∧ ArrivesIn (Machine.fenced P (wideR r)) P (lone (b.atR a (.code rest :: .inScope c :: k)) cs w) b k cs e a' w'
def scpPost (c : Code) (Q : Exit → Act → World → Prop) : Exit → Act → World → Prop
  | .goto l, a, w => ∃ rest, findLabel c l = some rest ∧ wpJ r P c rest Q a w
  | e, a, w => Q e a w

def kwp : List Fr → (Exit → Act → World → Prop) → (Exit → Act → World → Prop)
  | [], Q => Q
  | .seq b :: k, Q => Exit.then (b.wpIn (wideR r) 0 P (kwp k Q)) (kwp k Q)
  | .blk id :: k, Q => Exit.inBlock id (kwp k Q)
  | .lp c :: k, Q => Exit.then (wpIn r P c (kwp k Q)) (kwp k Q)
  | .scp c :: k, Q => scpPost r P c (kwp k Q)
end

section
variable {r : Option Nat} {P : Program} {Q : Exit → Act → World → Prop} {a : Act} {w : World}

theorem wp_round {c : Code} (h : c.wpIn (wideR r) 0 P (Exit.then (wpIn r P c Q) Q) a w) : ∀ (b : Frame) (k : List Item) (cs : List Frame), b.roundOf = r →
    ∃ e a' w', Q e a' w' ∧ ArrivesIn (Machine.fenced P (wideR r)) P (lone (b.atR a (.code c :: .inLoop c :: k)) cs w) b k cs e a' w' := by
  intro b k cs hb
  obtain ⟨e, a₁, w₁, hq, harr⟩ := h b (.inLoop c :: k) cs hb trivial (roomR _)
  cases e with
  | normal =>
    obtain ⟨e₂, a₂, w₂, hq₂, harr₂⟩ := hq b k cs hb
    exact ⟨e₂, a₂, w₂, hq₂, .of_steps harr harr₂⟩
  | exit id => exact ⟨_, a₁, w₁, hq, .pass (x := .inLoop c) rfl (fun _ _ => .inl (by simp)) harr⟩
  | goto l => exact ⟨_, a₁, w₁, hq, .pass (x := .inLoop c) rfl (fun _ _ => .inl (by simp)) harr⟩
  | ret => exact ⟨_, a₁, w₁, hq, .pass (x := .inLoop c) rfl (fun _ _ => .inl (by simp)) harr⟩
  | panic ch => exact ⟨_, a₁, w₁, hq, .pass (x := .inLoop c) rfl (fun _ _ => .inl (by simp)) harr⟩
  | outgrown => exact ⟨_, a₁, w₁, hq, .pass (x := .inLoop c) rfl (fun _ _ => .inl (by simp)) harr⟩

theorem wp_loop_in {c : Code} (h : c.wpIn (wideR r) 0 P (Exit.then (wpIn r P c Q) Q) a w) : (Code.loop c).wpIn (wideR r) 0 P Q a w := fun b k cs hb _ _ =>
  let ⟨e, a', w', hq, harr⟩ := wp_round h b k cs hb
  ⟨e, a', w', hq, .of_steps (.one (calmR rfl) stepR_loop) harr⟩
theorem wpIn_of {c : Code} (h : c.wpIn (wideR r) 0 P (Exit.then (wpIn r P c Q) Q) a w) : wpIn r P c Q a w := fun b k cs hb =>
  let ⟨e, a', w', hq, harr⟩ := wp_round h b k cs hb
  ⟨e, a', w', hq, .of_steps (.one (calmR rfl) stepR_inLoop) harr⟩

theorem stepR_scope {b : Frame} {k : List Item} {cs : List Frame} {c : Code} : step P (lone (b.atR a (.code (.scope c) :: k)) cs w) = .next (lone (b.atR a (.code c :: .inScope c :: k)) cs w) :=
  step_lone_go (by simp [stepG, stepG.exec, Frame.atR])
theorem stepR_inScope {b : Frame} {k : List Item} {cs : List Frame} {c : Code} : step P (lone (b.atR a (.inScope c :: k)) cs w) = .next (lone (b.atR a k) cs w) :=
  step_lone_go (by simp [stepG, stepG.exec, Frame.atR])

theorem wpJ_of {c rest : Code} (h : rest.wpIn (wideR r) 0 P (scpPost r P c Q) a w) : wpJ r P c rest Q a w := by
  intro b k cs hb
  obtain ⟨e, a₁, w₁, hq, harr⟩ := h b (.inScope c :: k) cs hb trivial (roomR _)
  cases e with
  | normal => exact ⟨.normal, a₁, w₁, hq, StepsIn.trans harr (.one (calmR rfl) stepR_inScope)⟩
  | exit id => exact ⟨.exit id, a₁, w₁, hq, fun k' hk => harr.1 k' (by simp [exitTo, hk]), fun hr hk => harr.2 hr (by simp [exitTo, hk])⟩
  | goto l =>
    obtain ⟨rest', hf, hj⟩ := hq
    obtain ⟨e₂, a₂, w₂, hq₂, harr₂⟩ := hj b k cs hb
    exact ⟨e₂, a₂, w₂, hq₂, .of_steps (harr.1 _ (by simp [gotoIn, hf])) harr₂⟩
  | ret => exact ⟨_, a₁, w₁, hq, harr⟩
  | panic ch => exact ⟨_, a₁, w₁, hq, harr⟩
  | outgrown => exact ⟨_, a₁, w₁, hq, harr⟩
theorem wp_scope_j {c : Code} (h : c.wpIn (wideR r) 0 P (scpPost r P c Q) a w) : (Code.scope c).wpIn (wideR r) 0 P Q a w := fun b k cs hb _ _ =>
  let ⟨e, a', w', hq, harr⟩ := wpJ_of h b k cs hb
  ⟨e, a', w', hq, .of_steps (.one (calmR rfl) stepR_scope) harr⟩
end

/-- What is done next. -/
inductive Cur where
  | code (c : Code)
  | exit (e : AX)
  | ops (all rest : List Oper)

structure Cfg where
  cur : Cur
  k : List Fr
  st : St

def CurWp (r : Option Nat) (P : Program) : Cur → (Exit → Act → World → Prop) → Act → World → Prop
  | .code c, Q, a, w => c.wpIn (wideR r) 0 P Q a w
  | .exit e, Q, a, w => Q e.conc a w
  | .ops all rest, Q, a, w => wpListIn (wideR r) 0 P all.toArray Q rest a w

/-- From this configuration on the run comes to an end that R tells of. -/
def CfgSem (r : Option Nat) (P : Program) (G : Glob) (n0 : Nat) (c : Cfg) (R : AX → St → Prop) : Prop :=
  ∀ m im a w Q, SR G m im c.st a w → n0 ≤ m.length →
    (∀ e st' m' im' a' w', R e st' → SR G m' im' st' a' w' → n0 ≤ m'.length → Ext n0 m im w m' im' w' → Q (AX.conc e) a' w') → CurWp r P c.cur (kwp r P c.k Q) a w

/-- How a call ends. -/
inductive AO where
  | ret (v : AV)
  | pan (v : Value)

def callable (P : Program) (f : FuncId) : Bool :=
  match P.funcs[f]? with
  | some fn => !(fn.name == "runtime.NumGoroutine") && fn.body.isSome
  | none => false

theorem run_callFunc {P : Program} {f : FuncId} (h : callable P f = true) (args : Array Value) (w : World) : (callFunc f args).run P w = .ok (.enter f args) w := by
  unfold callable at h
  split at h
  · rename_i fn hf
    simp only [Bool.and_eq_true, Bool.not_eq_true'] at h
    simp only [callFunc, Sem.run_bind, run_program, Result.andThen_ok, hf]
    rw [if_neg (by rw [h.1]; simp)]
    rw [if_neg (by
      cases hb : fn.body with
      | none => rw [hb] at h; simp at h
      | some b => simp)]
    rfl
  · cases h

/-- A call of a function with a body, or of one that the machine answers itself. -/
def CallR (P : Program) (f : FuncId) (vs : Array Value) (w : World) (R : Ending → World → Prop) : Prop :=
  (callable P f = true ∧ Calls P f vs w R) ∨ ∃ u, (callFunc f vs).run P w = .ok (.value u) w ∧ R (.returned u) w
theorem CallR.mono {P : Program} {f : FuncId} {vs : Array Value} {w : World} {R R' : Ending → World → Prop} (h : CallR P f vs w R) (hr : ∀ e w', R e w' → R' e w') : CallR P f vs w R' := by
  rcases h with ⟨h1, h2⟩ | ⟨u, h1, h2⟩
  · exact .inl ⟨h1, h2.mono hr⟩
  · exact .inr ⟨u, h1, hr _ _ h2⟩

/-- A call's contract: h: the memory ahead of it. -/
def HSem (P : Program) (G : Glob) (f : FuncId) (args : List AV) (h : List Blk) (Rc : AO → List Blk → Prop) : Prop :=
  ∀ m im w vs, HR G m im h w → VRs m w im args vs → CallR P f vs.toArray w fun e w' =>
    ∃ ao m' im' h', Rc ao h' ∧ HR G m' im' h' w' ∧ Ext m.length m im w m' im' w' ∧ m.length ≤ m'.length ∧
      match ao with
      | .ret v => ∃ r, e = .returned r ∧ VR m' w' im' v r
      | .pan v => e = .panicked [{ v, recovered := false }]

/-- Where the run of a configuration stops. -/
inductive Stop where
  | done (e : AX) (st : St)
  | call (f : FuncId) (args : List AV) (dst : Option Tmp) (all rest : List Oper) (k : List Fr) (st : St)
  | loop (c : Code) (k : List Fr) (st : St)
  | jump (c rest : Code) (k : List Fr) (st : St)
  | draw (id : Nat) (ops : Array Oper) (k : List Fr) (st : St)
  | more (c : Cfg)
  | stuck

def putT (l : List AV) (dst : Option Tmp) (v : AV) : List AV :=
  match dst with
  | some d => lset l d v
  | none => l

def St.put (st : St) (dst : Option Tmp) (v : AV) : St := ⟨putT st.tmps dst v, st.heap, st.dfs⟩

def StopSem (r : Option Nat) (P : Program) (G : Glob) (n0 : Nat) : Stop → (AX → St → Prop) → Prop
  | .done e st, R => R e st
  | .call f args dst all rest k st, R => ∃ Rc, HSem P G f args st.heap Rc ∧ ∀ ao h', Rc ao h' →
      match ao with
      | .ret v => CfgSem r P G n0 ⟨.ops all rest, k, ⟨putT st.tmps dst v, h', st.dfs⟩⟩ R
      | .pan v => CfgSem r P G n0 ⟨.exit (.panic v), k, ⟨st.tmps, h', st.dfs⟩⟩ R
  | .loop c k st, R => CfgSem r P G n0 ⟨.code c, .lp c :: k, st⟩ R
  | .jump c rest k st, R => CfgSem r P G n0 ⟨.code rest, .scp c :: k, st⟩ R
  | .draw id ops k st, R => CfgSem r P G n0 ⟨.code (.region id ops true), k, st⟩ R
  | .more c, R => CfgSem r P G n0 c R
  | .stuck, _ => False

def brk (r : Cfg → Stop) (c : Bool) (k1 k2 : Cfg) : Stop :=
  match c with
  | true => r k1
  | false => r k2
def needK (r : Cfg → Stop) (c : Bool) (k : Cfg) : Stop :=
  match c with
  | true => r k
  | false => .stuck

/-- What a guard says. -/
def oget : List Oper → Nat → Option Oper
  | [], _ => none
  | o :: _, 0 => some o
  | _ :: l, n + 1 => oget l n
theorem oget_eq (l : List Oper) (n : Nat) : oget l n = l[n]? := by
  induction l generalizing n with
  | nil => simp [oget]
  | cons x l ih => cases n <;> simp [oget, ih]
def guardB (want : Bool) : AV → Option Bool
  | .bool b => some (b == want)
  | .raw (.tuple _) => some false
  | _ => none
theorem guardB_bool (want b : Bool) : guardB want (.bool b) = some (b == want) := rfl
theorem guardB_undef (want : Bool) : guardB want (.raw undef) = some false := rfl
def guardT (t : List AV) (want : Bool) : Option Tmp → Option Bool
  | some d => guardB want (lget t d)
  | none => none
def guardO (t : List AV) (want : Bool) : Option Oper → Option Bool
  | some o => guardT t want o.dst
  | none => none
def guardA (all : List Oper) (t : List AV) : Option (Nat × Bool) → Option Bool
  | none => some true
  | some (j, want) => guardO t want (oget all j)

def finD (r : Cfg → Stop) (dst : Option Tmp) (all rest : List Oper) (k : List Fr) (st : St) : Option (Bool × AV × List Blk) → Stop
  | some (c, v, h') => needK r c ⟨.ops all rest, k, ⟨putT st.tmps dst v, h', st.dfs⟩⟩
  | none => .stuck
def finReq (r : Cfg → Stop) (dst : Option Tmp) (o : Oper) (all rest : List Oper) (k : List Fr) (st : St) : Req → Stop
  | .call f args => .call f args dst all rest k st
  | .val c v => needK r c ⟨.ops all rest, k, ⟨putT st.tmps dst v, st.heap, st.dfs⟩⟩
  | .rd b off n g => finD r dst all rest k st (doReq (.rd b off n g) st.heap)
  | .wr b off cs => finD r dst all rest k st (doReq (.wr b off cs) st.heap)
  | .push cs e sl => finD r dst all rest k st (doReq (.push cs e sl) st.heap)
  | .bad => .more ⟨.ops all (o :: rest), k, st⟩
def runOp (P : Program) (G : Glob) (r : Cfg → Stop) (all : List Oper) (o : Oper) (rest : List Oper) (k : List Fr) (st : St) : Stop :=
  finReq r o.dst o all rest k st (reqOf P (evO G st.tmps) o.op)
def condS (r : Cfg → Stop) (k1 k2 : Cfg) : AV → Stop
  | .bool c => brk r c k1 k2
  | _ => .stuck
def guardS (r : Cfg → Stop) (k1 k2 : Cfg) : Option Bool → Stop
  | some c => brk r c k1 k2
  | none => .stuck
def gtag (all : List Oper) (o : Oper) (rest : List Oper) (k : List Fr) (st : St) : Cfg := ⟨.ops all ({ o with guard := none } :: rest), k, st⟩

theorem runOp_eq (P : Program) (G : Glob) (r : Cfg → Stop) (all : List Oper) (o : Oper) (rest : List Oper) (k : List Fr) (st : St) :
    runOp P G r all o rest k st = match reqOf P (evO G st.tmps) o.op with
      | .call f args => .call f args o.dst all rest k st
      | .bad => .more ⟨.ops all (o :: rest), k, st⟩
      | q => match doReq q st.heap with
        | some (c, v, h') => needK r c ⟨.ops all rest, k, ⟨putT st.tmps o.dst v, h', st.dfs⟩⟩
        | none => .stuck := by
  unfold runOp
  cases reqOf P (evO G st.tmps) o.op <;> simp only [finReq, doReq] <;> (repeat' split) <;> simp_all [finD]

/-- The run. -/
def run (P : Program) (G : Glob) : Nat → Cfg → Stop
  | 0, c => .more c
  | n + 1, ⟨.code c, k, st⟩ => match c with
    | .skip => run P G n ⟨.exit .normal, k, st⟩
    | .label _ => run P G n ⟨.exit .normal, k, st⟩
    | .seq a b => run P G n ⟨.code a, .seq b :: k, st⟩
    | .cond x a b => condS (run P G n) ⟨.code a, k, st⟩ ⟨.code b, k, st⟩ (evO G st.tmps x)
    | .block id b => run P G n ⟨.code b, .blk id :: k, st⟩
    | .loop b => .loop b k st
    | .exit id => run P G n ⟨.exit (.exit id), k, st⟩
    | .goto l => run P G n ⟨.exit (.goto l), k, st⟩
    | .ret => run P G n ⟨.exit .ret, k, st⟩
    | .scope b => run P G n ⟨.code b, .scp b :: k, st⟩
    | .region id ops true => .draw id ops k st
    | .region _ ops false => run P G n ⟨.ops ops.toList ops.toList, k, st⟩
    | .rangeFunc f ps x y => .more ⟨.code (.rangeFunc f ps x y), k, st⟩
    | _ => .stuck
  | n + 1, ⟨.exit e, k, st⟩ => match k with
    | [] => .done e st
    | .seq b :: k => match e with
      | .normal => run P G n ⟨.code b, k, st⟩
      | e => run P G n ⟨.exit e, k, st⟩
    | .blk id :: k => match e with
      | .exit id' => brk (run P G n) (decide (id' = id)) ⟨.exit .normal, k, st⟩ ⟨.exit (.exit id'), k, st⟩
      | e => run P G n ⟨.exit e, k, st⟩
    | .lp c :: k => match e with
      | .normal => .loop c k st
      | e => run P G n ⟨.exit e, k, st⟩
    | .scp c :: k => match e with
      | .goto l => match findLabel c l with
        | some rest => .jump c rest k st
        | none => .stuck
      | e => run P G n ⟨.exit e, k, st⟩
  | n + 1, ⟨.ops all rest, k, st⟩ => match rest with
    | [] => run P G n ⟨.exit .normal, k, st⟩
    | o :: rest => match o.guard with
      | none => runOp P G (run P G n) all o rest k st
      | some g => guardS (run P G n) (gtag all o rest k st) ⟨.ops all rest, k, ⟨putT st.tmps o.dst (.raw undef), st.heap, st.dfs⟩⟩ (guardA all st.tmps (some g))

section
variable {r : Option Nat} {P : Program} {G : Glob} {n0 : Nat} {R : AX → St → Prop}

theorem SR.put {m : List Nat} {im : Nat → Prop} {st : St} {a : Act} {w : World} (h : SR G m im st a w) {m' : List Nat} {im' : Nat → Prop} {w' : World} {h' : List Blk} (s : Stay m w im m' w' im')
    (hh : HR G m' im' h' w') {v : AV} {u : Value} (hv : VR m' w' im' v u) (dst : Option Tmp) : SR G m' im' ⟨putT st.tmps dst v, h', st.dfs⟩ (a.put dst u) w' := by
  obtain ⟨us, h1, h2⟩ := h.tm
  cases dst with
  | none => exact ⟨⟨us, h1.stay s, h2⟩, h.df.stay s, hh⟩
  | some d =>
    refine ⟨⟨us.set d u, ?_, ?_⟩, h.df.stay s, hh⟩
    · simp only [putT]
      rw [lset_eq]
      exact (h1.stay s).set d hv
    · simp only [Act.put, h2]
      apply Array.ext'
      simp

theorem brk_sem {n : Nat} {c : Bool} {k1 k2 : Cfg} (h1 : c = true → StopSem r P G n0 (run P G n k1) R) (h2 : c = false → StopSem r P G n0 (run P G n k2) R) : StopSem r P G n0 (brk (run P G n) c k1 k2) R := by
  cases c
  · exact h2 rfl
  · exact h1 rfl
theorem need_sem {n : Nat} {c : Bool} {k : Cfg} (hc : c = true) (h : StopSem r P G n0 (run P G n k) R) : StopSem r P G n0 (needK (run P G n) c k) R := by
  subst hc
  exact h

theorem kwpIn_ret {k : List Fr} {Q : Exit → Act → World → Prop} {a : Act} {w : World} (h : Q .ret a w) : kwp r P k Q .ret a w := by
  induction k with
  | nil => exact h
  | cons f k ih => cases f <;> exact ih
theorem kwp_panic {k : List Fr} {Q : Exit → Act → World → Prop} {a : Act} {w : World} {ch : List PanicEntry} (h : Q (.panic ch) a w) : kwp r P k Q (.panic ch) a w := by
  induction k with
  | nil => exact h
  | cons f k ih => cases f <;> exact ih

theorem yielded_of {all : List Oper} {t : List AV} {m : List Nat} {im : Nat → Prop} {w : World} {us : List Value} (h : VRs m w im t us) {j : Nat} {want c : Bool} (hg : guardA all t (some (j, want)) = some c) :
    (yielded all.toArray us.toArray j == some want) = c := by
  simp only [guardA, oget_eq] at hg
  cases ho : all[j]? with
  | none => rw [ho] at hg; cases hg
  | some o =>
    rw [ho] at hg
    simp only [guardO] at hg
    cases hd : o.dst with
    | none => rw [hd] at hg; cases hg
    | some d =>
      rw [hd] at hg
      simp only [guardT] at hg
      have := h.lget d
      unfold guardB at hg
      split at hg
      · rename_i b hb
        cases hg
        rw [hb] at this
        simp only [VR] at this
        have hlt : us[d]? = some (.bool b) := by
          rcases Nat.lt_or_ge d us.length with h' | h'
          · simp [h'] at this; rw [List.getElem?_eq_getElem h', this]
          · exfalso
            simp [Nat.not_lt.2 h', undef] at this
        simp [yielded, ho, hd, hlt]
      · rename_i x hb
        cases hg
        rw [hb] at this
        simp only [VR] at this
        rcases Nat.lt_or_ge d us.length with h' | h'
        · simp [h'] at this
          simp [yielded, ho, hd, List.getElem?_eq_getElem h', this]
        · simp [yielded, ho, hd, List.getElem?_eq_none h']
      · cases hg

theorem call_req {ρ : Operand → AV} {o : Op} {f : FuncId} {args : List AV} (h : reqOf P ρ o = .call f args) : ∃ c x cap, o = .call c ∧ c.callee = .value x ∧ ρ x = .fn f cap ∧ args = mapA ρ c.args.toList ++ cap := by
  have hk := kind_of P ρ o
  rw [h] at hk
  simp only [Req.kind] at hk
  split at hk
  · simp only [reqOf] at h
    split at h
    all_goals cases h
  · simp only [reqOf] at h
    repeat' (split at h)
    all_goals cases h
  · simp only [reqOf] at h
    split at h <;> cases h
  · simp only [reqOf] at h
    split at h <;> cases h
  · simp only [reqOf] at h
    repeat' (split at h)
    all_goals cases h
  · rename_i c
    simp only [reqOf] at h
    unfold callA at h
    split at h
    · rename_i x hx
      split at h
      · rename_i f' cap hf
        injection h with e1 e2
        subst e1
        exact ⟨c, x, cap, rfl, hx, hf, e2.symm⟩
      · cases h
    · exfalso
      split at h
      · have := kind_lenA P ‹_› (ρ ‹_›); rw [h] at this; cases this
      · cases h
    all_goals (exfalso; repeat' (split at h))
    all_goals cases h
  · cases hk

/-- One operation. -/
theorem op_sound {all rest : List Oper} {o : Oper} {k : List Fr} {st : St} {n : Nat}
    (hg : o.guard = none) (ih : ∀ c, StopSem r P G n0 (run P G n c) R → CfgSem r P G n0 c R) (hs : StopSem r P G n0 (runOp P G (run P G n) all o rest k st) R)
    {m : List Nat} {im : Nat → Prop} {a : Act} {w : World} {Q : Exit → Act → World → Prop} (h : SR G m im st a w) (hn : n0 ≤ m.length)
    (hQ : ∀ e st' m' im' a' w', R e st' → SR G m' im' st' a' w' → n0 ≤ m'.length → Ext n0 m im w m' im' w' → Q (AX.conc e) a' w') :
    o.wpIn (wideR r) 0 P a w (wpListIn (wideR r) 0 P all.toArray (kwp r P k Q) rest) (kwp r P k Q) := by
  obtain ⟨us, h1, h2⟩ := h.tm
  have he : ∀ x, VR m w im (evO G st.tmps x) (a.eval x) := fun x => evO_sound h.hp h1 h2 x
  rw [runOp_eq] at hs
  split at hs
  · -- a call
    rename_i f args hq
    obtain ⟨c, x, cap, ho, hx, hf, rfl⟩ := call_req hq
    obtain ⟨Rc, hsem, hk⟩ := hs
    have hxv := he x
    rw [hf] at hxv
    simp only [VR] at hxv
    obtain ⟨cs, hxe, hcs⟩ := hxv
    have hargs : VRs m w im (mapA (evO G st.tmps) c.args.toList ++ cap) (c.args.toList.map a.eval ++ cs) := (mapA_sound he _).append hcs
    have hC := hsem m im w _ h.hp hargs
    refine ⟨fun _ _ => trivial, ?_⟩
    rw [Oper.semAt_eq _ _ _ (by rw [ho]; intro _ h; cases h)]
    have hrun : (execOp a.eval o).run P w = (callFunc f (c.args.toList.map a.eval ++ cs).toArray).run P w := by
      obtain ⟨dst, op, ty, pos, after, guard⟩ := o
      simp only at ho
      subst ho
      obtain ⟨callee, as, tys⟩ := c
      simp only at hx
      subst hx
      unfold execOp
      dsimp only
      simp only [resolve, hxe, Deferred.ofValue, Sem.run_bind, Sem.run_pure, Result.andThen_ok, invoke]
      congr 2
      apply Array.ext'
      simp
    rw [hrun]
    have go : ∀ (e : Ending) (w' : World), (∃ ao m' im' h', Rc ao h' ∧ HR G m' im' h' w' ∧ Ext m.length m im w m' im' w' ∧ m.length ≤ m'.length ∧
        match ao with
        | .ret v => ∃ r, e = .returned r ∧ VR m' w' im' v r
        | .pan v => e = .panicked [{ v, recovered := false }]) → (match e with
      | .returned v => wpListIn (wideR r) 0 P all.toArray (kwp r P k Q) rest (a.put o.dst v) w'
      | .panicked chain => kwp r P k Q (.panic chain) a w'
      | .outgrown => LetsOut (kwp r P k Q)) := by
      rintro e w' ⟨ao, m', im', h', hR, hH, hE, hl, hao⟩
      have st' : Stay m w im m' w' im' := ⟨fun b r hb => hE.pre b r (by
          rcases Nat.lt_or_ge b m.length with h' | h'
          · exact h'
          · rw [List.getElem?_eq_none h'] at hb; cases hb) hb, fun r hr => ⟨hE.imm r hr, hE.keep r (h.hp.imx r hr).1 (h.hp.imx r hr).2⟩⟩
      have hk' := hk ao h' hR
      cases ao with
      | ret v =>
        obtain ⟨r, rfl, hv⟩ := hao
        exact hk' m' im' _ w' Q (h.put st' hH hv o.dst) (Nat.le_trans hn hl) fun e st2 m2 im2 a2 w2 hr2 hs2 hn2 he2 => hQ e st2 m2 im2 a2 w2 hr2 hs2 hn2 ((hE.less hn).trans he2)
      | pan v =>
        simp only at hao
        subst hao
        exact hk' m' im' a w' Q ⟨⟨us, h1.stay st', h2⟩, h.df.stay st', hH⟩ (Nat.le_trans hn hl) fun e st2 m2 im2 a2 w2 hr2 hs2 hn2 he2 => hQ e st2 m2 im2 a2 w2 hr2 hs2 hn2 ((hE.less hn).trans he2)
    rcases hC with ⟨hcall, hC⟩ | ⟨u, hr, hR⟩
    · rw [run_callFunc hcall, Oper.uponIn_enter]
      refine ⟨fun h => (by cases h), callsIn_R (hC.mono fun e w' h => ?_)⟩
      have := go e w' h
      cases e <;> exact this
    · rw [hr, Oper.uponIn_value]
      exact go _ _ hR
  · -- another one
    have := hs m im a w Q h hn hQ
    simp only [CurWp] at this
    unfold wpListIn at this
    rwa [if_pos (by simp [Region.wanted, hg])] at this
  · split at hs
    · rename_i c v h' hd
      have hc : c = true := by
        cases c
        · exact hs.elim
        · rfl
      subst hc
      obtain ⟨m', w', nx, u, hrun, hnx, hv, hH, hst, hE⟩ := req_sound hn h.hp he hd rfl
      have hlen : n0 ≤ m'.length := by
        rcases Nat.lt_or_ge m'.length n0 with hlt | hge
        · have := hE.pre m'.length (m[m'.length]'(by omega)) hlt (List.getElem?_eq_getElem (by omega))
          simp at this
        · exact hge
      have hC := ih _ hs m' im (a.put o.dst u) w' Q (h.put hst hH hv o.dst) hlen fun e st2 m2 im2 a2 w2 hr2 hs2 hn2 he2 => hQ e st2 m2 im2 a2 w2 hr2 hs2 hn2 (hE.trans he2)
      refine ⟨fun _ _ => trivial, ?_⟩
      rw [Oper.semAt_eq _ _ _ (by
        intro c hc
        have : reqOf P (evO G st.tmps) o.op = .bad := by rw [hc]; simp [reqOf]
        rw [this] at hd
        cases hd)]
      rw [hrun]
      rcases hnx with rfl | ⟨rfl, rfl⟩
      · exact hC
      · exact hC
    · exact hs.elim

/-- **What the run says holds.** -/
theorem run_sound : ∀ (n : Nat) (c : Cfg), StopSem r P G n0 (run P G n c) R → CfgSem r P G n0 c R := by
  intro n
  induction n with
  | zero => intro c h; exact h
  | succ n ih =>
    rintro ⟨cur, k, st⟩ h
    cases cur with
    | code c =>
      cases c with
      | skip => exact fun m im a w Q hs hn hQ => wpIn_skip (ih _ h m im a w Q hs hn hQ)
      | label l => exact fun m im a w Q hs hn hQ => wpIn_label (ih _ h m im a w Q hs hn hQ)
      | seq x y => exact fun m im a w Q hs hn hQ => wpIn_seq (ih _ h m im a w Q hs hn hQ)
      | block id b => exact fun m im a w Q hs hn hQ => wpIn_block (ih _ h m im a w Q hs hn hQ)
      | exit id => exact fun m im a w Q hs hn hQ => wpIn_exit (ih _ h m im a w Q hs hn hQ)
      | goto l => exact fun m im a w Q hs hn hQ => wpIn_goto (ih _ h m im a w Q hs hn hQ)
      | ret => exact fun m im a w Q hs hn hQ => wpIn_ret (ih _ h m im a w Q hs hn hQ)
      | scope b => exact fun m im a w Q hs hn hQ => wp_scope_j (ih _ h m im a w Q hs hn hQ)
      | loop b => exact fun m im a w Q hs hn hQ => wp_loop_in (h m im a w Q hs hn hQ)
      | refuse s => exact h.elim
      | rangeFunc f ps x y => exact h
      | region id ops draw =>
        cases draw with
        | true => exact h
        | false => exact fun m im a w Q hs hn hQ => wpIn_region_list (by simpa [CurWp] using ih _ h m im a w Q hs hn hQ)
      | cond x c1 c2 =>
        intro m im a w Q hs hn hQ
        simp only [run] at h
        unfold condS at h
        split at h
        · rename_i b hb
          obtain ⟨us, h1, h2⟩ := hs.tm
          have hx := evO_sound (a := a) hs.hp h1 h2 x
          rw [hb] at hx
          simp only [VR] at hx
          cases b with
          | true => exact wpIn_cond (t := true) hx (ih _ h m im a w Q hs hn hQ)
          | false => exact wpIn_cond (t := false) hx (ih _ h m im a w Q hs hn hQ)
        · exact h.elim
    | exit e =>
      intro m im a w Q hs hn hQ
      cases k with
      | nil => exact hQ e st m im a w h hs hn (Ext.refl _ _ _ _)
      | cons f k =>
        cases f with
        | seq b => cases e <;> exact ih _ h m im a w Q hs hn hQ
        | blk id =>
          cases e with
          | exit id' =>
            simp only [run] at h
            simp only [CurWp, kwp, AX.conc, Exit.inBlock]
            by_cases hid : id' = id
            · rw [decide_eq_true hid] at h
              rw [if_pos hid]
              exact ih _ h m im a w Q hs hn hQ
            · rw [decide_eq_false hid] at h
              rw [if_neg hid]
              exact ih _ h m im a w Q hs hn hQ
          | normal => exact ih _ h m im a w Q hs hn hQ
          | goto l => exact ih _ h m im a w Q hs hn hQ
          | ret => exact ih _ h m im a w Q hs hn hQ
          | panic v => exact ih _ h m im a w Q hs hn hQ
        | lp c =>
          cases e with
          | normal => exact wpIn_of (h m im a w Q hs hn hQ)
          | exit id => exact ih _ h m im a w Q hs hn hQ
          | goto l => exact ih _ h m im a w Q hs hn hQ
          | ret => exact ih _ h m im a w Q hs hn hQ
          | panic v => exact ih _ h m im a w Q hs hn hQ
        | scp c =>
          cases e with
          | goto l =>
            simp only [run] at h
            split at h
            · rename_i rest hf
              exact ⟨rest, hf, wpJ_of (h m im a w Q hs hn hQ)⟩
            · exact h.elim
          | normal => exact ih _ h m im a w Q hs hn hQ
          | exit id => exact ih _ h m im a w Q hs hn hQ
          | ret => exact ih _ h m im a w Q hs hn hQ
          | panic v => exact ih _ h m im a w Q hs hn hQ
    | ops all rest =>
      cases rest with
      | nil => exact fun m im a w Q hs hn hQ => ih _ h m im a w Q hs hn hQ
      | cons o rest =>
        intro m im a w Q hs hn hQ
        simp only [run] at h
        show wpListIn (wideR r) 0 P all.toArray (kwp r P k Q) (o :: rest) a w
        cases hg : o.guard with
        | none =>
          rw [hg] at h
          simp only at h
          unfold wpListIn
          rw [if_pos (by simp [Region.wanted, hg])]
          exact op_sound hg ih h hs hn hQ
        | some g =>
          obtain ⟨j, want⟩ := g
          rw [hg] at h
          simp only at h
          unfold guardS at h
          split at h
          · rename_i c hc
            obtain ⟨us, h1, h2⟩ := hs.tm
            have hy := yielded_of h1 hc
            rw [← h2] at hy
            unfold wpListIn
            cases c with
            | true =>
              rw [if_pos (by simp only [Region.wanted, hg]; exact hy)]
              have := ih _ h m im a w Q hs hn hQ
              simp only [CurWp, gtag] at this
              unfold wpListIn at this
              rw [if_pos (by simp [Region.wanted])] at this
              exact this
            | false =>
              rw [if_neg (by simp only [Region.wanted, hg]; rw [hy]; simp)]
              exact ⟨fun _ _ => trivial, ih _ h m im (a.put o.dst undef) w Q (hs.put (Stay.refl _ _ _) hs.hp VR_raw o.dst) hn hQ⟩
          · exact h.elim

/-- A part of a run by itself. -/
theorem kwp_append {k1 k2 : List Fr} {Q : Exit → Act → World → Prop} : kwp r P (k1 ++ k2) Q = kwp r P k1 (kwp r P k2 Q) := by
  induction k1 with
  | nil => rfl
  | cons f k ih => cases f <;> simp only [List.cons_append, kwp, ih]

theorem CfgSem.bind {cur : Cur} {k1 k2 : List Fr} {st : St} {R1 : AX → St → Prop} (h : CfgSem r P G n0 ⟨cur, k1, st⟩ R1) (h2 : ∀ e st', R1 e st' → CfgSem r P G n0 ⟨.exit e, k2, st'⟩ R) : CfgSem r P G n0 ⟨cur, k1 ++ k2, st⟩ R := by
  intro m im a w Q hs hn hQ
  simp only [kwp_append]
  refine h m im a w (kwp r P k2 Q) hs hn fun e st' m' im' a' w' hR hs' hn' hE => ?_
  exact h2 e st' hR m' im' a' w' Q hs' hn' fun e2 st2 m2 im2 a2 w2 hr2 hs2 hn2 he2 => hQ e2 st2 m2 im2 a2 w2 hr2 hs2 hn2 (hE.trans he2)

theorem CfgSem.mono {c : Cfg} {R1 : AX → St → Prop} (h : CfgSem r P G n0 c R1) (hr : ∀ e st, R1 e st → R e st) : CfgSem r P G n0 c R :=
  fun m im a w Q hs hn hQ => h m im a w Q hs hn fun e st' m' im' a' w' hR => hQ e st' m' im' a' w' (hr e st' hR)
end
end Go.Ev
