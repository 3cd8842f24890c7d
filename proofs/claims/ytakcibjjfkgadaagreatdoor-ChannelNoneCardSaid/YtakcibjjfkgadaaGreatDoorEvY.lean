/- Regions that draw their order (concluded): a run in the plan's order serves for all orders. -/
import Derived.Test.YtakcibjjfkgadaaGreatDoorEvX
set_option linter.unusedVariables false
set_option linter.unusedSimpArgs false
namespace Go.Ev

section
variable {r : Option Nat} {P : Program} {G : Glob} {vf : List FuncId} {Kt : FuncId → List AV → AV → Prop} {n0 : Nat}

theorem mapA_congr {ρ ρ' : Operand → AV} : ∀ (l : List Operand), (∀ x ∈ l, ρ x = ρ' x) → mapA ρ l = mapA ρ' l
  | [], _ => rfl
  | x :: l, h => by simp only [mapA]; rw [h x (by simp), mapA_congr l fun y hy => h y (by simp [hy])]
theorem zipA_congr {ρ ρ' : Operand → AV} : ∀ (l : List (Nat × Operand)), (∀ x ∈ l.map (·.2), ρ x = ρ' x) → zipA ρ l = zipA ρ' l
  | [], _ => rfl
  | (i, x) :: l, h => by simp only [zipA]; rw [h x (by simp), zipA_congr l fun y hy => h y (by simp at hy ⊢; exact .inr hy)]
theorem bndA_congr {ρ ρ' : Operand → AV} {x : Option Operand} {d : Int} (h : ∀ y, x = some y → ρ y = ρ' y) : bndA ρ x d = bndA ρ' x d := by
  cases x with
  | none => rfl
  | some y => simp only [bndA, h y rfl]

theorem reqOf_congr {ρ ρ' : Operand → AV} (o : Op) (h : ∀ x ∈ o.operands, ρ x = ρ' x) : reqOf P ρ o = reqOf P ρ' o := by
  cases o <;> simp only [Op.operands] at h <;> try rfl
  case move x => simp only [reqOf, h x (by simp)]
  case assign x => simp only [reqOf, h x (by simp)]
  case pick c a b => simp only [reqOf, h c (by simp), h a (by simp), h b (by simp)]
  case box t x => simp only [reqOf, h x (by simp)]
  case build t ps => simp only [reqOf]; rw [zipA_congr ps.toList fun x hx => h x (by simpa using hx)]
  case buildSlice t n ps => simp only [reqOf]; rw [zipA_congr ps.toList fun x hx => h x (by simpa using hx)]
  case load t x => simp only [reqOf, h x (by simp)]
  case store t x y => simp only [reqOf, h x (by simp), h y (by simp)]
  case nilCheck x => simp only [reqOf, h x (by simp)]
  case binOp op t x y u => simp only [reqOf, h x (by simp), h y (by simp)]
  case unOp op t x => simp only [reqOf, h x (by simp)]
  case convert s d x => simp only [reqOf, h x (by simp)]
  case makeFunc fn first cap =>
    cases fn <;> try rfl
    simp only [reqOf]
    rw [mapA_congr cap.toList fun x hx => h x (by simp; exact .inr (by simpa using hx))]
  case fieldAddr s x f => simp only [reqOf, h x (by simp)]
  case field s x f => simp only [reqOf, h x (by simp)]
  case indexAddr t x i => simp only [reqOf, h x (by simp), h i (by simp)]
  case index t x i => simp only [reqOf, h x (by simp), h i (by simp)]
  case extract x i => simp only [reqOf, h x (by simp)]
  case slice t x lo hi mx =>
    cases mx with
    | some _ => rfl
    | none =>
      simp only [reqOf]
      rw [h x (by simp), bndA_congr (x := lo) fun y hy => h y (by simp [hy]), bndA_congr (x := hi) fun y hy => h y (by simp [hy])]
  case call c =>
    simp only [reqOf, callA]
    have hargs : ∀ x ∈ c.args.toList, ρ x = ρ' x := fun x hx => h x (by simp [Call.operands]; exact .inr (by simpa using hx))
    cases hc : c.callee with
    | value f =>
      have hf := h f (by simp [Call.operands, hc])
      simp only [hf, mapA_congr _ hargs]
    | invoke r m => rfl
    | builtin b =>
      generalize c.args.toList = l at hargs
      generalize c.argTypes.toList = ts
      cases b <;> try rfl
      · rcases l with _ | ⟨x, _ | ⟨y, l⟩⟩ <;> rcases ts with _ | ⟨t, _ | ⟨u, ts⟩⟩ <;> try rfl
        show lenA P t (ρ x) = lenA P t (ρ' x)
        rw [hargs x (by simp)]
      all_goals
        rcases l with _ | ⟨x, _ | ⟨y, _ | ⟨z, l⟩⟩⟩ <;> try rfl
        have e1 := hargs x (by simp)
        have e2 := hargs y (by simp)
        simp only [e1, e2]

theorem evO_put {t : List AV} {d : Option Tmp} {v : AV} {x : Operand} (h : ∀ i, d = some i → x ≠ .tmp i) : evO G (putT t d v) x = evO G t x := by
  cases d with
  | none => rfl
  | some i =>
    cases x with
    | tmp j =>
      have hne : i ≠ j := fun e => h i rfl (by rw [e])
      simp only [evO, putT]
      rw [lset_eq]
      have : ∀ (l : List AV) (i j : Nat), i ≠ j → lget (l.set i v) j = lget l j := fun l => by
        induction l with
        | nil => intro i j _; rfl
        | cons a l ih =>
          intro i j hne
          cases i <;> cases j <;> simp only [List.set, lget]
          · exact absurd rfl hne
          · exact ih _ _ (by omega)
      exact this t i j hne
    | _ => rfl

theorem eff_put {all : List Oper} {o : Oper} {t : List AV} {d : Option Tmp} {v : AV} (h : ∀ i, d = some i → i ∉ o.looksAt all.toArray) : eff P G all o (putT t d v) = eff P G all o t := by
  have h0 : ∀ x ∈ o.op.operands, evO G (putT t d v) x = evO G t x := fun x hx => evO_put fun i hi e => h i hi (by
    subst e
    simp only [Oper.looksAt, List.mem_append, List.mem_filterMap]
    exact .inl ⟨.tmp i, by simpa using hx, rfl⟩)
  have h1 : reqOf P (evO G (putT t d v)) o.op = reqOf P (evO G t) o.op := reqOf_congr o.op h0
  have h3 : mapA (evO G (putT t d v)) o.op.operands.toList = mapA (evO G t) o.op.operands.toList := mapA_congr _ fun x hx => h0 x (by simpa using hx)
  have h2 : guardA all (putT t d v) o.guard = guardA all t o.guard := by
    cases hg : o.guard with
    | none => rfl
    | some g =>
      obtain ⟨j, want⟩ := g
      simp only [guardA, oget_eq]
      cases ho : all[j]? with
      | none => rfl
      | some q =>
        simp only [guardO]
        cases hd : q.dst with
        | none => rfl
        | some e =>
          simp only [guardT]
          have : lget (putT t d v) e = lget t e := evO_put (G := G) (x := .tmp e) fun i hi e' => by
            cases e'
            exact h e hi (by
              simp only [Oper.looksAt, List.mem_append]
              refine .inr ?_
              simp [hg, ho, hd])
          rw [this]
  simp only [eff, h1, h2, h3]

/-- All that the listed ones wait for is listed. -/
def Closed (ops : Array Oper) (listed : Array Bool) : Prop := ∀ (i : Nat) (o : Oper), ops[i]? = some o → listed.getD i false = true → ∀ e ∈ o.after, Region.binds .any e = true → listed.getD e.on false = true

theorem dep_unready {ops : Array Oper} {listed : Array Bool} (hc : Closed ops listed) {k : Nat} (hk : listed.getD k false = false) : ∀ (n j : Nat) (o : Oper), ops[j]? = some o → depB ops n j k = true →
    (∀ e ∈ o.after, Region.binds .any e = true → listed.getD e.on false = true) → False
  | 0, _, _, _, h, _ => by simp [depB] at h
  | n + 1, j, o, ho, h, hall => by
    simp only [depB, ho, Array.any_eq_true'] at h
    obtain ⟨e, he, h⟩ := h
    simp only [Bool.and_eq_true, Bool.or_eq_true, beq_iff_eq, decide_eq_true_eq] at h
    have hl := hall e he h.1
    rcases h.2 with h2 | ⟨_, h2⟩
    · rw [h2, hk] at hl; cases hl
    · cases hoe : ops[e.on]? with
      | none => cases n <;> simp [depB, hoe] at h2
      | some o' => exact dep_unready hc hk n e.on o' hoe h2 (hc e.on o' hoe hl)

theorem closed_set {ops : Array Oper} {listed : Array Bool} (hc : Closed ops listed) {k : Nat} (hk : k ∈ Region.ready .any ops listed) : Closed ops (listed.setIfInBounds k true) := by
  intro i o ho hl e he hb
  by_cases hik : i = k
  · subst hik
    obtain ⟨_, o', ho', hall⟩ := mem_ready.1 hk
    rw [ho] at ho'; cases ho'
    exact getD_set_true (hall e he hb)
  · rw [getD_set_ne false (Ne.symm hik)] at hl
    exact getD_set_true (hc i o ho hl e he hb)

/-- What is asked of the others when number k is taken first. -/
structure Cond (vf : List FuncId) (G : Glob) (all : List Oper) (k : Nat) (ok : Oper) (dyn : List Tmp) (listed : Array Bool) (t : List AV) : Prop where
  st : ∀ (j : Nat) (oj : Oper), all[j]? = some oj → j ≠ k → listed.getD j true = false → depB all.toArray all.length j k = false → ok.apart all.toArray oj = true ∧ ∃ u, (∀ i, i ∈ u ↔ i < all.length ∧ listed.getD i true = false) ∧ commB vf ok oj dyn u all.toArray = true
  dy : ∀ x, loadOpd ok.op = some x → ∀ y ∈ dyn, ∀ b off, evO G t x = .ptr b off → ∃ b' off', evO G t (.tmp y) = .ptr b' off' ∧ b ≠ b'
  dt : ∀ y ∈ dyn, ∀ i o, all[i]? = some o → listed.getD i true = false → o.dst ≠ some y

theorem AEx.some_state {dst : Option Tmp} {st : St} {K : St → Prop} {E : Eff} (h : AEx P G vf Kt dst st K E) (hE : ∀ f a, E = .req (.call f a) → vf.contains f = true ∨ rdF vf f = true) (hO : ∀ op xs, E ≠ .oth op xs) : ∃ s, K s := by
  cases E with
  | oth op xs => exact absurd rfl (hO op xs)
  | und => exact ⟨_, h⟩
  | req q =>
    cases q with
    | call f args =>
      cases hv : vf.contains f with
      | true => obtain ⟨_, _, ⟨v, hv⟩, h4⟩ := h.1 hv; exact ⟨_, h4 v hv⟩
      | false =>
        obtain ⟨Rc, _, gr, _, g2⟩ := h.2 hv
        obtain ⟨⟨ao, h', hr⟩, _⟩ := gr ((hE f args rfl).resolve_left (by rw [hv]; simp))
        obtain ⟨v, _, hK⟩ := g2 ao h' hr
        exact ⟨_, hK⟩
    | val c v => obtain ⟨v, h', e, hh⟩ := h; exact ⟨_, hh⟩
    | rd b off n g => obtain ⟨v, h', e, hh⟩ := h; exact ⟨_, hh⟩
    | wr b off cs => obtain ⟨v, h', e, hh⟩ := h; exact ⟨_, hh⟩
    | push cs e sl => obtain ⟨v, h', e, hh⟩ := h; exact ⟨_, hh⟩
    | bad => obtain ⟨v, h', e, hh⟩ := h; exact ⟨_, hh⟩

theorem take_first {all : List Oper} {k : Nat} {ok : Oper} {dyn : List Tmp} {F : St → Prop} (hk : all[k]? = some ok) : ∀ (n : Nat) (listed : Array Bool) (st : St), Closed all.toArray listed → k ∈ Region.ready .any all.toArray listed → Cond vf G all k ok dyn listed st.tmps →
    (∀ f a, eff P G all ok st.tmps = .req (.call f a) → vf.contains f = true ∨ rdF vf f = true) → (∀ op xs, eff P G all ok st.tmps ≠ .oth op xs) →
    AEx P G vf Kt ok.dst st (AbsAny P G vf Kt all F n (listed.setIfInBounds k true)) (eff P G all ok st.tmps) → AbsAny P G vf Kt all F (n + 1) listed st := by
  intro n
  induction n with
  | zero =>
    intro listed st hcl hr hcond hcall hoth h
    refine ⟨fun h0 => (by rw [h0] at hr; cases hr), fun j hj => ?_⟩
    by_cases hjk : j = k
    · subst hjk
      unfold AStep
      simp only [List.getElem?_toArray, hk]
      exact h
    · obtain ⟨s, hs⟩ := h.some_state hcall hoth
      have := ready_mono hj hjk
      rw [hs.1] at this
      cases this
  | succ n ih =>
    intro listed st hcl hr hcond hcall hoth h
    refine ⟨fun h0 => (by rw [h0] at hr; cases hr), fun j hj => ?_⟩
    by_cases hjk : j = k
    · subst hjk
      unfold AStep
      simp only [List.getElem?_toArray, hk]
      exact h
    · obtain ⟨hjun, oj, hoj, hall⟩ := mem_ready.1 hj
      have hoj' : all[j]? = some oj := by simpa using hoj
      have hkun : listed.getD k false = false := by
        have := (mem_ready.1 hr).1
        rcases Nat.lt_or_ge k listed.size with h' | h'
        · simp [h'] at this ⊢; exact this
        · simp [Array.getElem?_eq_none h'] at this
      have hdep : depB all.toArray all.length j k = false := by
        cases hd : depB all.toArray all.length j k with
        | false => rfl
        | true => exact (dep_unready hcl hkun _ j oj hoj hd hall).elim
      obtain ⟨hap, u, hu, hcomm⟩ := hcond.st j oj hoj' hjk hjun hdep
      obtain ⟨a1, a2, a3⟩ := Oper.apart_spec hap
      -- j behind k
      have h1 : AEx P G vf Kt ok.dst st (fun s => AEx P G vf Kt oj.dst s (AbsAny P G vf Kt all F n ((listed.setIfInBounds k true).setIfInBounds j true)) (eff P G all oj st.tmps)) (eff P G all ok st.tmps) := by
        refine h.mono fun s ⟨v, hs⟩ hA => ?_
        have := hA.2 j (ready_mono hj hjk)
        unfold AStep at this
        simp only [List.getElem?_toArray, hoj'] at this
        rw [hs, eff_put a1] at this
        exact this
      have hsw := ax_swap (fun x hx => a2 x hx) (swap_of hcomm hcond.dy) h1
      unfold AStep
      simp only [List.getElem?_toArray, hoj']
      refine hsw.mono fun s ⟨v, hs⟩ hA => ?_
      have hA' : AEx P G vf Kt ok.dst s (AbsAny P G vf Kt all F n ((listed.setIfInBounds j true).setIfInBounds k true)) (eff P G all ok s.tmps) := by
        rw [hs, eff_put a3, Array.setIfInBounds_comm _ _ hjk]
        exact hA
      refine ih (listed.setIfInBounds j true) s (closed_set hcl hj) (ready_mono hr (Ne.symm hjk)) ?_ (by rw [hs, eff_put a3]; exact hcall) (by rw [hs, eff_put a3]; exact hoth) hA'
      refine ⟨fun i oi hoi hik hiun hid => ?_, ?_, fun y hy i o ho hiun => ?_⟩
      · have hij : i ≠ j := fun e => by
          subst e
          rcases Nat.lt_or_ge i listed.size with h' | h'
          · simp [h'] at hiun
          · simp [Array.getElem?_eq_none h'] at hjun
        rw [getD_set_ne true (Ne.symm hij)] at hiun
        obtain ⟨q1, u', q2, q3⟩ := hcond.st i oi hoi hik hiun hid
        refine ⟨q1, u'.filter (· != j), fun x => ?_, ?_⟩
        · simp only [List.mem_filter, q2, bne_iff_ne]
          constructor
          · rintro ⟨⟨x1, x2⟩, x3⟩
            exact ⟨x1, by rw [getD_set_ne true (Ne.symm x3)]; exact x2⟩
          · rintro ⟨x1, x2⟩
            have hxj : x ≠ j := fun e => by
              subst e
              rcases Nat.lt_or_ge x listed.size with h' | h'
              · simp [h'] at x2
              · simp [Array.getElem?_eq_none h'] at hjun
            exact ⟨⟨x1, by rwa [getD_set_ne true (Ne.symm hxj)] at x2⟩, hxj⟩
        · unfold commB at q3 ⊢
          split at q3 <;> try exact q3
          split at q3
          · simp only [Bool.and_eq_true, List.all_eq_true, List.mem_filter] at q3 ⊢
            exact ⟨q3.1, fun x hx => q3.2 x hx.1⟩
          · exact q3
      · intro x hx y hy b off hb
        have hxp : evO G s.tmps x = evO G st.tmps x := by
          rw [hs]
          refine evO_put fun i hi e => a3 i hi ?_
          subst e
          simp only [Oper.looksAt, List.mem_append, List.mem_filterMap]
          refine .inl ⟨.tmp i, ?_, rfl⟩
          cases hop : ok.op <;> rw [hop] at hx <;> simp only [loadOpd] at hx <;> cases hx
          simp [Op.operands]
        have hyp : evO G s.tmps (.tmp y) = evO G st.tmps (.tmp y) := by
          rw [hs]
          exact evO_put fun i hi e => hcond.dt y hy j oj hoj' hjun (by cases e; exact hi)
        rw [hxp] at hb
        rw [hyp]
        exact hcond.dy x hx y hy b off hb
      · by_cases hij : i = j
        · subst hij
          exact hcond.dt y hy i o ho hjun
        · rw [getD_set_ne true (Ne.symm hij)] at hiun
          exact hcond.dt y hy i o ho hiun

/-! ### The run in the plan's order -/
def dynOK (G : Glob) (t : List AV) (o : Op) : List Tmp → Bool
  | [] => true
  | y :: l => (match o with
      | .load _ x => match evO G t x, lget t y with
        | .ptr b _, .ptr b' _ => !(b == b')
        | .cptr _, .ptr _ _ => true
        | _, _ => false
      | _ => false) && dynOK G t o l

def DRun (P : Program) (G : Glob) (vf : List FuncId) (Kt : FuncId → List AV → AV → Prop) (all : List Oper) : List (Nat × List Tmp) → St → (St → Prop) → Prop
  | [], st, F => F st
  | (k, dyn) :: l, st, F => match all[k]? with
    | some o => dynOK G st.tmps o.op dyn = true ∧ AEx P G vf Kt o.dst st (fun s => DRun P G vf Kt all l s F) (eff P G all o st.tmps)
    | none => False

theorem dyn_of {t : List AV} {o : Op} {dyn : List Tmp} (h : dynOK G t o dyn = true) : ∀ x, loadOpd o = some x → ∀ y ∈ dyn, ∀ b off, evO G t x = .ptr b off → ∃ b' off', evO G t (.tmp y) = .ptr b' off' ∧ b ≠ b' := by
  intro x hx y hy b off hb
  induction dyn with
  | nil => cases hy
  | cons z l ih =>
    simp only [dynOK, Bool.and_eq_true] at h
    rcases List.mem_cons.1 hy with rfl | hy
    · cases o <;> simp only [loadOpd] at hx <;> cases hx
      have h1 := h.1
      simp only [hb] at h1
      split at h1
      · rename_i b1 o1 b2 o2 e1 e2
        cases e1
        exact ⟨b2, o2, e2, by simpa using h1⟩
      · rename_i e1 _; cases e1
      · cases h1
    · exact ih h.2 hy

theorem mem_unl {ops : Array Oper} {listed : Array Bool} {i : Nat} : i ∈ unl ops listed ↔ i < ops.size ∧ listed.getD i true = false := by
  simp [unl]

theorem AbsAny.done {all : List Oper} {F : St → Prop} {listed : Array Bool} {st : St} (hr : Region.ready .any all.toArray listed = []) (h : F st) : ∀ n, AbsAny P G vf Kt all F n listed st
  | 0 => ⟨hr, h⟩
  | _ + 1 => ⟨fun _ => h, by rw [hr]; simp⟩

theorem drun_any {all : List Oper} {F : St → Prop} : ∀ (plan : List (Nat × List Tmp)) (listed : Array Bool) (st : St), Closed all.toArray listed → planB vf all.toArray plan listed = true →
    DRun P G vf Kt all plan st F → AbsAny P G vf Kt all F plan.length listed st
  | [], listed, st, _, hp, h => by
    simp only [planB, List.isEmpty_iff] at hp
    exact AbsAny.done hp h _
  | (k, dyn) :: l, listed, st, hcl, hp, h => by
    simp only [planB, Bool.and_eq_true] at hp
    obtain ⟨hs, hp⟩ := hp
    simp only [DRun] at h
    cases hk : all[k]? with
    | none => rw [hk] at h; exact h.elim
    | some ok =>
      rw [hk] at h
      obtain ⟨hdyn, hx⟩ := h
      unfold stepB at hs
      simp only [List.getElem?_toArray, hk, Bool.and_eq_true, Bool.or_eq_true] at hs
      obtain ⟨hr, hs⟩ := hs
      have hr : k ∈ Region.ready .any all.toArray listed := by simpa using hr
      have hcl' := closed_set hcl hr
      have hx' : AEx P G vf Kt ok.dst st (AbsAny P G vf Kt all F l.length (listed.setIfInBounds k true)) (eff P G all ok st.tmps) :=
        hx.mono fun s _ hd => drun_any l _ s hcl' hp hd
      rcases hs with hs | hs
      · have hs : Region.ready .any all.toArray listed = [k] := by simpa using hs
        refine ⟨fun h0 => (by rw [h0] at hs; cases hs), fun i hi => ?_⟩
        rw [hs] at hi
        simp at hi
        subst hi
        unfold AStep
        simp only [List.getElem?_toArray, hk]
        exact hx'
      · by_cases hone : Region.ready .any all.toArray listed = [k]
        · refine ⟨fun h0 => (by rw [h0] at hone; cases hone), fun i hi => ?_⟩
          rw [hone] at hi
          simp at hi
          subst hi
          unfold AStep
          simp only [List.getElem?_toArray, hk]
          exact hx'
        · -- another one may come up too: so number k is of a kind that may be taken first
          have hst : ∀ (j : Nat) (oj : Oper), all[j]? = some oj → j ≠ k → listed.getD j true = false → depB all.toArray all.length j k = false →
              ok.apart all.toArray oj = true ∧ commB vf ok oj dyn (unl all.toArray listed) all.toArray = true := fun j oj hoj hjk hjun hdep => by
            have hlt : j < all.length := by
              rcases Nat.lt_or_ge j all.length with h' | h'
              · exact h'
              · rw [List.getElem?_eq_none h'] at hoj; cases hoj
            have := List.all_eq_true.1 hs j (mem_unl.2 ⟨by simpa using hlt, hjun⟩)
            simp only [List.getElem?_toArray, hoj, Bool.or_eq_true, beq_iff_eq, Bool.and_eq_true, List.size_toArray] at this
            rcases this with (h1 | h1) | h1
            · exact absurd h1 hjk
            · rw [hdep] at h1; cases h1
            · exact h1
          -- some other one is ready
          have hoth : ∃ j, j ∈ Region.ready .any all.toArray listed ∧ j ≠ k := by
            apply Classical.byContradiction
            intro hno
            have hall : ∀ j ∈ Region.ready .any all.toArray listed, j = k := fun j hj => Classical.byContradiction fun hne => hno ⟨j, hj, hne⟩
            have hnd : (Region.ready .any all.toArray listed).Nodup := by
              unfold Region.ready
              exact List.Pairwise.filter _ List.nodup_range
            match hq : Region.ready .any all.toArray listed with
            | [] => rw [hq] at hr; cases hr
            | [x] => rw [hq] at hall; exact hone (by rw [hq, hall x (by simp)])
            | x :: y :: r =>
              rw [hq] at hall hnd
              have e1 := hall x (by simp)
              have e2 := hall y (by simp)
              simp [e1, e2] at hnd
          obtain ⟨j, hj, hjk⟩ := hoth
          obtain ⟨hjun, oj, hoj, hjall⟩ := mem_ready.1 hj
          have hkun : listed.getD k false = false := by
            have := (mem_ready.1 hr).1
            rcases Nat.lt_or_ge k listed.size with h' | h'
            · simp [h'] at this ⊢; exact this
            · simp [Array.getElem?_eq_none h'] at this
          have hdep : depB all.toArray all.length j k = false := by
            cases hd : depB all.toArray all.length j k with
            | false => rfl
            | true => exact (dep_unready hcl hkun _ j oj hoj hd hjall).elim
          have hkk := (hst j oj (by simpa using hoj) hjk hjun hdep).2
          refine take_first (dyn := dyn.filter fun y => (unl all.toArray listed).all fun i => !(((all.toArray[i]?).bind (·.dst)) == some y)) hk l.length listed st hcl hr ⟨fun j oj hoj hjk hjun hdep => ?_, fun x hx y hy => dyn_of hdyn x hx y (List.mem_filter.1 hy).1, fun y hy i o ho hiun => ?_⟩ ?_ ?_ hx'
          · obtain ⟨q1, q2⟩ := hst j oj hoj hjk hjun hdep
            refine ⟨q1, unl all.toArray listed, fun i => by rw [mem_unl]; simp, ?_⟩
            unfold commB at q2 ⊢
            split at q2 <;> try exact q2
            split at q2
            · rename_i t ht
              simp only [Bool.and_eq_true] at q2 ⊢
              refine ⟨?_, q2.2⟩
              simp only [List.contains_iff_mem, List.mem_filter] at q2 ⊢
              exact ⟨q2.1, q2.2⟩
            · exact q2
          · have := (List.mem_filter.1 hy).2
            have hlt : i < all.length := by
              rcases Nat.lt_or_ge i all.length with h' | h'
              · exact h'
              · rw [List.getElem?_eq_none h'] at ho; cases ho
            have := List.all_eq_true.1 this i (mem_unl.2 ⟨by simpa using hlt, hiun⟩)
            simpa [ho] using this
          · intro f a he
            -- its kind is not 5
            unfold commB at hkk
            unfold eff at he
            split at he
            · cases he
            · split at hkk
              · rename_i h0
                rw [effQ_of h0 (by decide)] at he
                injection he with he
                have := kind0_of (P := P) (ρ := evO G st.tmps) h0; rw [he] at this; cases this
              all_goals try (cases hkk; done)
              all_goals rename_i h0 _
              all_goals rw [effQ_of h0 (by decide)] at he
              all_goals injection he with he
              all_goals first
                | (obtain ⟨ty, x, _, h1 | h1⟩ := load_req (P := P) (ρ := evO G st.tmps) h0
                   · obtain ⟨_, _, _, _, _, hq⟩ := h1; rw [he] at hq; cases hq
                   · rw [he] at h1; cases h1)
                | (obtain ⟨f', a', hq, hv⟩ := callV_req (P := P) (ρ := evO G st.tmps) h0 (fun _ => rfl)
                   rw [he] at hq; cases hq; exact .inl hv)
                | (obtain ⟨f', a', hq, hv⟩ := callR_req (P := P) (ρ := evO G st.tmps) h0 (fun _ => rfl)
                   rw [he] at hq; cases hq; exact .inr hv)
                | (obtain ⟨f', a', hq, hv, _⟩ := callS_req (P := P) (ρ := evO G st.tmps) h0 (fun _ => rfl)
                   rw [he] at hq; cases hq; exact .inr hv)
            · cases he
          · intro op xs he
            unfold commB at hkk
            unfold eff at he
            split at he
            · cases he
            · split at hkk
              · rename_i h0
                rw [effQ_of h0 (by decide)] at he
                cases he
              all_goals try (cases hkk; done)
              all_goals rename_i h0 _
              all_goals rw [effQ_of h0 (by decide)] at he
              all_goals cases he
            · cases he

theorem closed_none {ops : Array Oper} (n : Nat) : Closed ops (Array.replicate n false) := by
  intro i o _ h
  rcases Nat.lt_or_ge i n with h' | h'
  · simp [h'] at h
  · simp [Nat.not_lt.2 h'] at h

/-- **A region that draws its order, run in the plan's order.** -/
theorem draw_sem {id : Nat} {ops : Array Oper} {k : List Fr} {st : St} {R : AX → St → Prop} (hm : P.follows .mixedOrders = true) (vf : List FuncId) (Kt : FuncId → List AV → AV → Prop) (plan : List (Nat × List Tmp)) (hp : planOK vf ops plan = true)
    (h : DRun P G vf Kt ops.toList plan st (fun st' => CfgSem r P G n0 ⟨.exit .normal, k, st'⟩ R)) : StopSem r P G n0 (.draw id ops k st) R := by
  intro m im a w Q hs hn hQ
  simp only [planOK, Bool.and_eq_true, decide_eq_true_eq] at hp
  obtain ⟨⟨_, hl⟩, hp⟩ := hp
  show (Code.region id ops true).wpIn (wideR r) 0 P (kwp r P k Q) a w
  refine wpIn_region_any hm ?_
  have hs' : SR G m im st a { w with drawn := w.drawn + 1 } := by
    have st' : Stay m w im m { w with drawn := w.drawn + 1 } im := ⟨fun _ _ h => h, fun r hr => ⟨hr, rfl⟩⟩
    obtain ⟨us, h1, h2⟩ := hs.tm
    exact ⟨⟨us, h1.stay st', h2⟩, hs.df.stay st', hs.hp.later (Nat.le_refl _) (fun _ _ => rfl) (fun _ h => h) (fun _ h => .inl h)⟩
  have hA := drun_any (P := P) (G := G) (Kt := Kt) plan (Array.replicate ops.size false) st (by simpa using closed_none ops.size) (by simpa using hp) h
  rw [hl] at hA
  have := abs_sound (r := r) (n0 := n0) (Q := kwp r P k Q) _ _ _ hA m im a _ hs' hn fun st' m' im' a' w' hF hs2 hn2 hE => by
    refine hF m' im' a' w' Q hs2 hn2 fun e st2 m2 im2 a2 w2 hr2 hs3 hn3 hE3 => hQ e st2 m2 im2 a2 w2 hr2 hs3 hn3 ?_
    have hE0 : Ext n0 m im w m' im' w' := { os := hE.os, tape := hE.tape, output := hE.output, size := hE.size, pre := hE.pre, keep := hE.keep, newm := hE.newm, imm := hE.imm, newim := hE.newim }
    exact hE0.trans hE3
  simpa using this
end
end Go.Ev
