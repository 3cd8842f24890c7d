/- Regions that draw their order (continued): the plan, and that it serves. -/
import Derived.Test.YtakcibjjfkgadaaGreatDoorEvW
set_option linter.unusedVariables false
set_option linter.unusedSimpArgs false
namespace Go.Ev

/-- The kinds of operations: 0: looks at its operands alone; 1: a load; 2: a store; 3: a new block; 4: a call between values; 5: all else. -/
def kindO (vf : List FuncId) : Op → Nat
  | .move _ | .assign _ | .pick .. | .build .. | .nilCheck _ | .binOp .. | .unOp .. | .convert .. | .makeFunc .. | .fieldAddr .. | .field .. | .indexAddr .. | .index .. | .slice .. | .extract .. => 0
  | .load .. => 1
  | .store .. => 2
  | .alloc _ | .box .. | .buildSlice .. => 3
  | .call c => match c.callee with
    | .builtin .len | .builtin .max | .builtin .min => 0
    | .value (.func f) => if vf.contains f then 4 else if rdF vf f then (if stF vf f then 7 else 6) else 5
    | _ => 5
  | _ => 5

/-- j waits for k, maybe by others. -/
def depB (ops : Array Oper) : Nat → Nat → Nat → Bool
  | 0, _, _ => false
  | n + 1, j, k => match ops[j]? with
    | some o => o.after.any fun e => Region.binds .any e && (e.on == k || (decide (k < e.on) && depB ops n e.on k))
    | none => false

/-- An operation's dst. -/
def storeTmp : Op → Option Tmp
  | .store _ (.tmp t) _ => some t
  | _ => none
def loadOpd : Op → Option Operand
  | .load _ x => some x
  | _ => none

def commB (vf : List FuncId) (ok oj : Oper) (dyn : List Tmp) (unlisted : List Nat) (ops : Array Oper) : Bool :=
  match kindO vf ok.op, kindO vf oj.op with
  | 0, _ => true
  | 1, 0 => true
  | 1, 1 => true
  | 1, 3 => true
  | 1, 4 => true
  | 1, 2 => match storeTmp oj.op with
    | some t => dyn.contains t && unlisted.all fun i => !(((ops[i]?).bind (·.dst)) == some t)
    | none => false
  | 1, 6 => true
  | 6, 0 => true
  | 6, 4 => true
  | 1, 7 => true
  | 7, 0 => true
  | 7, 1 => true
  | 7, 3 => true
  | 7, 4 => true
  | 4, 0 => true
  | 4, 1 => true
  | 4, 2 => true
  | 4, 3 => true
  | 4, 4 => true
  | _, _ => false

def unl (ops : Array Oper) (listed : Array Bool) : List Nat := (List.range ops.size).filter fun j => !listed.getD j true

def stepB (vf : List FuncId) (ops : Array Oper) (listed : Array Bool) (k : Nat) (dyn : List Tmp) : Bool :=
  match ops[k]? with
  | none => false
  | some ok => let u := unl ops listed
    (Region.ready .any ops listed).contains k &&
    ((Region.ready .any ops listed == [k]) ||
      (u.all fun j => j == k || depB ops ops.size j k || (match ops[j]? with
        | some oj => ok.apart ops oj && commB vf ok oj dyn u ops
        | none => true)))

def planB (vf : List FuncId) (ops : Array Oper) : List (Nat × List Tmp) → Array Bool → Bool
  | [], listed => (Region.ready .any ops listed).isEmpty
  | (k, dyn) :: l, listed => stepB vf ops listed k dyn && planB vf ops l (listed.setIfInBounds k true)

def planOK (vf : List FuncId) (ops : Array Oper) (plan : List (Nat × List Tmp)) : Bool :=
  Region.noSelect ops && decide (plan.length = ops.size) && planB vf ops plan (Array.replicate ops.size false)

section
variable {r : Option Nat} {P : Program} {G : Glob} {vf : List FuncId} {Kt : FuncId → List AV → AV → Prop} {n0 : Nat}

theorem kind0_of {ρ : Operand → AV} {o : Op} (h : kindO vf o = 0) : (reqOf P ρ o).kind = 0 := by
  have hk := kind_of P ρ o
  cases o <;> simp only [kindO] at h <;> try (cases h; done)
  all_goals try exact hk
  case call c =>
    simp only [reqOf]
    unfold callA
    split at h
    · rename_i hc; rw [hc]; simp only; split; exact kind_lenA _ _ _; rfl
    · rename_i hc; rw [hc]; simp only; repeat' split
      all_goals rfl
    · rename_i hc; rw [hc]; simp only; repeat' split
      all_goals rfl
    · split at h
      · cases h
      · split at h
        · split at h <;> cases h
        · cases h
    · cases h

theorem load_req {ρ : Operand → AV} {o : Op} (h : kindO vf o = 1) : ∃ t x, o = .load t x ∧ ((∃ b off n g, ρ x = .ptr b off ∧ reqOf P ρ o = .rd b off n g) ∨ (reqOf P ρ o).kind = 0) := by
  cases o <;> simp only [kindO] at h <;> try (cases h; done)
  case load t x =>
    refine ⟨t, x, rfl, ?_⟩
    simp only [reqOf]
    split
    · rename_i b off n g hq _ _; exact .inl ⟨b, off, _, _, hq, rfl⟩
    all_goals exact .inr rfl
  case call c => exfalso; revert h; split <;> try (intro h; cases h; done)
                 split
                 · intro h; cases h
                 · split
                   · split <;> (intro h; cases h)
                   · intro h; cases h

theorem store_req {ρ : Operand → AV} {o : Op} (h : kindO vf o = 2) : ∃ t x y, o = .store t x y ∧ ((∃ b off cs, ρ x = .ptr b off ∧ reqOf P ρ o = .wr b off cs) ∨ reqOf P ρ o = .bad) := by
  cases o <;> simp only [kindO] at h <;> try (cases h; done)
  case store t x y =>
    refine ⟨t, x, y, rfl, ?_⟩
    simp only [reqOf]
    split
    · rename_i b off cs n hq _ _
      split
      · exact .inl ⟨b, off, cs, hq, rfl⟩
      · exact .inr rfl
    · exact .inr rfl
  case call c => exfalso; revert h; split <;> try (intro h; cases h; done)
                 split
                 · intro h; cases h
                 · split
                   · split <;> (intro h; cases h)
                   · intro h; cases h

theorem new_req {ρ : Operand → AV} {o : Op} (h : kindO vf o = 3) : (∃ cs e sl, reqOf P ρ o = .push cs e sl) ∨ reqOf P ρ o = .bad := by
  cases o <;> simp only [kindO] at h <;> try (cases h; done)
  case alloc t => simp only [reqOf]; split; exact .inl ⟨_, _, _, rfl⟩; exact .inr rfl
  case box t x => simp only [reqOf]; split; exact .inl ⟨_, _, _, rfl⟩; exact .inr rfl
  case buildSlice t n ps =>
    simp only [reqOf]
    repeat' split
    all_goals first | exact .inl ⟨_, _, _, rfl⟩ | exact .inr rfl
  case call c => exfalso; revert h; split <;> try (intro h; cases h; done)
                 split
                 · intro h; cases h
                 · split
                   · split <;> (intro h; cases h)
                   · intro h; cases h

theorem callV_req {ρ : Operand → AV} {o : Op} (h : kindO vf o = 4) (hρ : ∀ f, ρ (.func f) = .fn f []) : ∃ f a, reqOf P ρ o = .call f a ∧ vf.contains f = true := by
  cases o <;> simp only [kindO] at h <;> try (cases h; done)
  case call c =>
    split at h <;> try (cases h; done)
    rename_i f hc
    split at h
    · rename_i hv
      refine ⟨f, mapA ρ c.args.toList ++ [], ?_, hv⟩
      simp only [reqOf, callA, hc, hρ]
    · split at h
      · split at h <;> cases h
      · cases h
theorem callR_req {ρ : Operand → AV} {o : Op} (h : kindO vf o = 6) (hρ : ∀ f, ρ (.func f) = .fn f []) : ∃ f a, reqOf P ρ o = .call f a ∧ rdF vf f = true := by
  cases o <;> simp only [kindO] at h <;> try (cases h; done)
  case call c =>
    split at h <;> try (cases h; done)
    rename_i f hc
    split at h
    · cases h
    · split at h
      · rename_i hv
        split at h
        · cases h
        · refine ⟨f, mapA ρ c.args.toList ++ [], ?_, hv⟩
          simp only [reqOf, callA, hc, hρ]
      · cases h
theorem callS_req {ρ : Operand → AV} {o : Op} (h : kindO vf o = 7) (hρ : ∀ f, ρ (.func f) = .fn f []) : ∃ f a, reqOf P ρ o = .call f a ∧ rdF vf f = true ∧ stF vf f = true := by
  cases o <;> simp only [kindO] at h <;> try (cases h; done)
  case call c =>
    split at h <;> try (cases h; done)
    rename_i f hc
    split at h
    · cases h
    · split at h
      · rename_i hv
        split at h
        · rename_i hs
          refine ⟨f, mapA ρ c.args.toList ++ [], ?_, hv, hs⟩
          simp only [reqOf, callA, hc, hρ]
        · cases h
      · cases h

theorem effQ_of {op : Op} {n : Nat} (h : kindO vf op = n) (hn : n ≠ 5) (xs : List AV) (q : Req) : effQ op xs q = .req q := by
  have ho : othO op = false := by
    cases op <;> simp only [kindO] at h <;> first | rfl | (exact absurd h.symm hn) | skip
    rename_i c
    simp only [othO]
    split at h
    all_goals first | (rename_i hc; rw [hc]; done) | (rename_i hc; rw [hc]) | exact absurd h.symm hn
  cases q <;> simp [effQ, ho]

/-- What is not taken: where the kinds say so, and the store's block is another one than the load's. -/
theorem swap_of {all : List Oper} {ok oj : Oper} {dyn : List Tmp} {u : List Nat} {t : List AV} (hc : commB vf ok oj dyn u all.toArray = true)
    (hdyn : ∀ x, loadOpd ok.op = some x → ∀ y ∈ dyn, ∀ b off, evO G t x = .ptr b off → ∃ b' off', evO G t (.tmp y) = .ptr b' off' ∧ b ≠ b') :
    swapOK vf (eff P G all ok t) (eff P G all oj t) := by
  have hf : ∀ f, evO G t (.func f) = .fn f [] := fun f => rfl
  have req0 : ∀ q : Req, q.kind = 0 → (∃ c v, q = .val c v) ∨ q = .bad := fun q hq => by cases q <;> simp [Req.kind] at hq; exact .inl ⟨_, _, rfl⟩; exact .inr rfl
  have triv : ∀ (q : Req) (E : Eff), q.kind = 0 → swapOK vf (.req q) E := fun q E hq => by
    rcases req0 q hq with ⟨c, v, rfl⟩ | rfl <;> simp [swapOK]
  unfold eff
  split
  · simp [swapOK]
  · -- the first one is carried out
    unfold commB at hc
    split at hc
    · rename_i hk; simp only [effQ_of hk (by decide)]; exact triv _ _ (kind0_of hk)
    all_goals try (cases hc; done)
    · -- load, 0
      rename_i hk hj
      simp only [effQ_of hk (by decide), effQ_of hj (by decide)]
      obtain ⟨ty, x, ho, h1 | h1⟩ := load_req (P := P) (ρ := evO G t) hk
      · obtain ⟨b, off, n, g, _, hq⟩ := h1
        rw [hq]
        split
        · simp [swapOK]
        · rcases req0 _ (kind0_of (P := P) (ρ := evO G t) hj) with ⟨c, v, e⟩ | e <;> rw [e] <;> simp [swapOK]
        · simp [swapOK]
      · exact triv _ _ h1
    · rename_i hk hj
      simp only [effQ_of hk (by decide), effQ_of hj (by decide)]
      obtain ⟨ty, x, ho, h1 | h1⟩ := load_req (P := P) (ρ := evO G t) hk
      · obtain ⟨b, off, n, g, _, hq⟩ := h1
        rw [hq]
        split
        · simp [swapOK]
        · obtain ⟨ty2, x2, ho2, h2 | h2⟩ := load_req (P := P) (ρ := evO G t) hj
          · obtain ⟨b2, off2, n2, g2, _, hq2⟩ := h2
            rw [hq2]; simp [swapOK]
          · rcases req0 _ h2 with ⟨c, v, e⟩ | e <;> rw [e] <;> simp [swapOK]
        · simp [swapOK]
      · exact triv _ _ h1
    · rename_i hk hj
      simp only [effQ_of hk (by decide), effQ_of hj (by decide)]
      obtain ⟨ty, x, ho, h1 | h1⟩ := load_req (P := P) (ρ := evO G t) hk
      · obtain ⟨b, off, n, g, _, hq⟩ := h1
        rw [hq]
        split
        · simp [swapOK]
        · rcases new_req (P := P) (ρ := evO G t) hj with ⟨cs, e, sl, e2⟩ | e2 <;> rw [e2] <;> simp [swapOK]
        · simp [swapOK]
      · exact triv _ _ h1
    · rename_i hk hj
      simp only [effQ_of hk (by decide), effQ_of hj (by decide)]
      obtain ⟨ty, x, ho, h1 | h1⟩ := load_req (P := P) (ρ := evO G t) hk
      · obtain ⟨b, off, n, g, _, hq⟩ := h1
        rw [hq]
        split
        · simp [swapOK]
        · obtain ⟨f, a, e, hv⟩ := callV_req (P := P) hj hf
          rw [e]; exact .inl hv
        · simp [swapOK]
      · exact triv _ _ h1
    · -- load, store
      rename_i hk hj
      simp only [effQ_of hk (by decide), effQ_of hj (by decide)]
      split at hc
      · rename_i y hy
        simp only [Bool.and_eq_true] at hc
        obtain ⟨ty, x, ho, h1 | h1⟩ := load_req (P := P) (ρ := evO G t) hk
        · obtain ⟨b, off, n, g, hx, hq⟩ := h1
          rw [hq]
          split
          · simp [swapOK]
          · obtain ⟨ty2, x2, z2, ho2, h2 | h2⟩ := store_req (P := P) (ρ := evO G t) hj
            · obtain ⟨b2, off2, cs2, hx2, hq2⟩ := h2
              rw [hq2]
              obtain ⟨b', off', e1, e2⟩ := hdyn x (by rw [ho]; rfl) y (by simpa using hc.1) b off hx
              rw [ho2] at hy
              cases x2 <;> simp only [storeTmp] at hy <;> cases hy
              rw [hx2] at e1
              cases e1
              exact e2
            · rw [h2]; simp [swapOK]
          · simp [swapOK]
        · exact triv _ _ h1
      · cases hc
    · -- load, a call that looks
      rename_i hk hj
      simp only [effQ_of hk (by decide), effQ_of hj (by decide)]
      obtain ⟨ty, x, ho, h1 | h1⟩ := load_req (P := P) (ρ := evO G t) hk
      · obtain ⟨b, off, n, g, _, hq⟩ := h1
        rw [hq]
        split
        · simp [swapOK]
        · obtain ⟨f, a, e, hv⟩ := callR_req (P := P) hj hf
          rw [e]; exact .inr hv
        · simp [swapOK]
      · exact triv _ _ h1
    · rename_i hk hj
      simp only [effQ_of hk (by decide), effQ_of hj (by decide)]
      obtain ⟨f, a, e, hv⟩ := callR_req (P := P) hk hf
      rw [e]
      split
      · exact .inr hv
      · rcases req0 _ (kind0_of (P := P) (ρ := evO G t) hj) with ⟨c, v, e⟩ | e <;> rw [e] <;> exact .inr hv
      · exact .inr hv
    · rename_i hk hj
      simp only [effQ_of hk (by decide), effQ_of hj (by decide)]
      obtain ⟨f, a, e, hv⟩ := callR_req (P := P) hk hf
      rw [e]
      split
      · exact .inr hv
      · obtain ⟨f2, a2, e2, hv2⟩ := callV_req (P := P) hj hf
        rw [e2]; exact ⟨.inr hv, hv2⟩
      · exact .inr hv
    · -- load, a call that changes nothing
      rename_i hk hj
      simp only [effQ_of hk (by decide), effQ_of hj (by decide)]
      obtain ⟨ty, x, ho, h1 | h1⟩ := load_req (P := P) (ρ := evO G t) hk
      · obtain ⟨b, off, n, g, _, hq⟩ := h1
        rw [hq]
        split
        · simp [swapOK]
        · obtain ⟨f, a, e, hv, _⟩ := callS_req (P := P) hj hf
          rw [e]; exact .inr hv
        · simp [swapOK]
      · exact triv _ _ h1
    · rename_i hk hj
      simp only [effQ_of hk (by decide), effQ_of hj (by decide)]
      obtain ⟨f, a, e, hv, hs⟩ := callS_req (P := P) hk hf
      rw [e]
      split
      · exact .inr hv
      · rcases req0 _ (kind0_of (P := P) (ρ := evO G t) hj) with ⟨c, v, e⟩ | e <;> rw [e] <;> exact .inr hv
      · exact .inr hv
    · rename_i hk hj
      simp only [effQ_of hk (by decide), effQ_of hj (by decide)]
      obtain ⟨f, a, e, hv, hs⟩ := callS_req (P := P) hk hf
      rw [e]
      split
      · exact .inr hv
      · obtain ⟨ty2, x2, ho2, h2 | h2⟩ := load_req (P := P) (ρ := evO G t) hj
        · obtain ⟨b2, off2, n2, g2, _, hq2⟩ := h2
          rw [hq2]; exact .inr ⟨hv, hs⟩
        · rcases req0 _ h2 with ⟨c, v, e⟩ | e <;> rw [e] <;> exact .inr hv
      · exact .inr hv
    · rename_i hk hj
      simp only [effQ_of hk (by decide), effQ_of hj (by decide)]
      obtain ⟨f, a, e, hv, hs⟩ := callS_req (P := P) hk hf
      rw [e]
      split
      · exact .inr hv
      · rcases new_req (P := P) (ρ := evO G t) hj with ⟨cs, e, sl, e2⟩ | e2 <;> rw [e2]
        · exact .inr ⟨hv, hs⟩
        · exact .inr hv
      · exact .inr hv
    · rename_i hk hj
      simp only [effQ_of hk (by decide), effQ_of hj (by decide)]
      obtain ⟨f, a, e, hv, hs⟩ := callS_req (P := P) hk hf
      rw [e]
      split
      · exact .inr hv
      · obtain ⟨f2, a2, e2, hv2⟩ := callV_req (P := P) hj hf
        rw [e2]; exact ⟨.inr hv, hv2⟩
      · exact .inr hv
    all_goals
      rename_i hk hj
      simp only [effQ_of hk (by decide), effQ_of hj (by decide)]
      obtain ⟨f, a, e, hv⟩ := callV_req (P := P) hk hf
      rw [e]
      split
      · exact .inl hv
      · first
        | (rcases req0 _ (kind0_of (P := P) (ρ := evO G t) hj) with ⟨c, v, e⟩ | e <;> rw [e] <;> exact .inl hv)
        | (obtain ⟨ty2, x2, ho2, h2 | h2⟩ := load_req (P := P) (ρ := evO G t) hj
           · obtain ⟨b2, off2, n2, g2, _, hq2⟩ := h2
             rw [hq2]; first | exact hv | exact .inl hv
           · rcases req0 _ h2 with ⟨c, v, e⟩ | e <;> rw [e] <;> exact .inl hv)
        | (obtain ⟨ty2, x2, z2, ho2, h2 | h2⟩ := store_req (P := P) (ρ := evO G t) hj
           · obtain ⟨b2, off2, cs2, hx2, hq2⟩ := h2
             rw [hq2]; exact hv
           · rw [h2]; exact .inl hv)
        | (rcases new_req (P := P) (ρ := evO G t) hj with ⟨cs, e, sl, e2⟩ | e2 <;> rw [e2] <;> first | exact hv | exact .inl hv)
        | (obtain ⟨f2, a2, e2, hv2⟩ := callV_req (P := P) hj hf
           rw [e2]; exact ⟨.inl hv, hv2⟩)
      · exact .inl hv
  · simp [swapOK]
end
end Go.Ev
