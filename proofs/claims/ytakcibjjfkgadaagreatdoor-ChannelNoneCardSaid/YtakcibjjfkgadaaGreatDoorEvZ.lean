/- The rules by which a region that draws its order is run. -/
import Derived.Test.YtakcibjjfkgadaaGreatDoorEvY
set_option linter.unusedVariables false
set_option linter.unusedSimpArgs false
namespace Go.Ev

section
variable (P : Program) (G : Glob) (vf : List FuncId) (Kt : FuncId → List AV → AV → Prop)

def DCall (f : FuncId) (args : List AV) (dst : Option Tmp) (all : List Oper) (l : List (Nat × List Tmp)) (st : St) (F : St → Prop) : Prop :=
  AEx P G vf Kt dst st (fun s => DRun P G vf Kt all l s F) (.req (.call f args))
def DN (c : Bool) (X : Prop) : Prop := c = true ∧ X
def D2 (dst : Option Tmp) (all : List Oper) (l : List (Nat × List Tmp)) (st : St) (F : St → Prop) : Option (Bool × AV × List Blk) → Prop
  | some (c, v, h) => DN c (DRun P G vf Kt all l ⟨putT st.tmps dst v, h, st.dfs⟩ F)
  | none => False
def DQ (dst : Option Tmp) (all : List Oper) (l : List (Nat × List Tmp)) (st : St) (F : St → Prop) : Req → Prop
  | .call f args => DCall P G vf Kt f args dst all l st F
  | .val c v => DN c (DRun P G vf Kt all l ⟨putT st.tmps dst v, st.heap, st.dfs⟩ F)
  | .rd b off n g => D2 P G vf Kt dst all l st F (doReq (.rd b off n g) st.heap)
  | .wr b off cs => D2 P G vf Kt dst all l st F (doReq (.wr b off cs) st.heap)
  | .push cs e sl => D2 P G vf Kt dst all l st F (doReq (.push cs e sl) st.heap)
  | .bad => False
/-- Of another operation. -/
def DOth (dst : Option Tmp) (op : Op) (xs : List AV) (all : List Oper) (l : List (Nat × List Tmp)) (st : St) (F : St → Prop) : Prop :=
  AEx P G vf Kt dst st (fun s => DRun P G vf Kt all l s F) (.oth op xs)
def DQO (dst : Option Tmp) (op : Op) (all : List Oper) (l : List (Nat × List Tmp)) (st : St) (F : St → Prop) : Req → Prop
  | .bad => othO op = true ∧ DOth P G vf Kt dst op (mapA (evO G st.tmps) op.operands.toList) all l st F
  | q => DQ P G vf Kt dst all l st F q
def DG (dst : Option Tmp) (op : Op) (all : List Oper) (l : List (Nat × List Tmp)) (st : St) (F : St → Prop) : Option Bool → Prop
  | some true => DQO P G vf Kt dst op all l st F (reqOf P (evO G st.tmps) op)
  | some false => DRun P G vf Kt all l ⟨putT st.tmps dst (.raw undef), st.heap, st.dfs⟩ F
  | none => False
def DO (dyn : List Tmp) (all : List Oper) (l : List (Nat × List Tmp)) (st : St) (F : St → Prop) : Option Oper → Prop
  | some o => DN (dynOK G st.tmps o.op dyn) (DG P G vf Kt o.dst o.op all l st F (guardA all st.tmps o.guard))
  | none => False
end

section
variable {r : Option Nat} {P : Program} {G : Glob} {vf : List FuncId} {Kt : FuncId → List AV → AV → Prop}

theorem DN_t (X : Prop) : DN true X = X := by simp [DN]
theorem DN_intro {c : Bool} {X : Prop} (h : c = true) (hx : X) : DN c X := ⟨h, hx⟩

theorem D2_of {dst : Option Tmp} {all : List Oper} {l : List (Nat × List Tmp)} {st : St} {F : St → Prop} {o : Option (Bool × AV × List Blk)} (h : D2 P G vf Kt dst all l st F o) :
    ∃ v h', o = some (true, v, h') ∧ DRun P G vf Kt all l ⟨putT st.tmps dst v, h', st.dfs⟩ F := by
  cases o with
  | none => exact h.elim
  | some x =>
    obtain ⟨c, v, h'⟩ := x
    obtain ⟨h1, h2⟩ := h
    subst h1
    exact ⟨v, h', rfl, h2⟩

theorem drun_nil {all : List Oper} {st : St} {F : St → Prop} : DRun P G vf Kt all [] st F = F st := rfl
theorem drun_cons {all : List Oper} {k : Nat} {dyn : List Tmp} {l : List (Nat × List Tmp)} {st : St} {F : St → Prop} :
    DRun P G vf Kt all ((k, dyn) :: l) st F = DO P G vf Kt dyn all l st F (oget all k) := by
  simp only [DRun, oget_eq]
  cases hk : all[k]? with
  | none => rfl
  | some o =>
    simp only [DO, DN]
    congr 1
    unfold eff
    rcases hg : guardA all st.tmps o.guard with _ | _ | _
    · simp [DG, AEx, doReq]
    · rfl
    · simp only [DG]
      cases hq : reqOf P (evO G st.tmps) o.op with
      | call f a => rfl
      | val c v =>
        simp only [effQ, AEx, doReq, DQO, DQ, DN, Option.some.injEq, Prod.mk.injEq]
        apply propext
        constructor
        · rintro ⟨v', h', ⟨rfl, rfl, rfl⟩, h⟩; exact ⟨rfl, h⟩
        · rintro ⟨rfl, h⟩; exact ⟨_, _, ⟨rfl, rfl, rfl⟩, h⟩
      | bad =>
        simp only [effQ, DQO]
        cases othO o.op
        · simp [AEx, doReq]
        · simp [DOth]
      | rd b off n g =>
        simp only [effQ, AEx, DQO, DQ]
        apply propext
        constructor
        · rintro ⟨v, h', e, h⟩; rw [e]; exact ⟨rfl, h⟩
        · exact D2_of
      | wr b off cs =>
        simp only [effQ, AEx, DQO, DQ]
        apply propext
        constructor
        · rintro ⟨v, h', e, h⟩; rw [e]; exact ⟨rfl, h⟩
        · exact D2_of
      | push cs e sl =>
        simp only [effQ, AEx, DQO, DQ]
        apply propext
        constructor
        · rintro ⟨v, h', e, h⟩; rw [e]; exact ⟨rfl, h⟩
        · exact D2_of

theorem DO_some {dyn : List Tmp} {all : List Oper} {l : List (Nat × List Tmp)} {st : St} {F : St → Prop} {o : Oper} :
    DO P G vf Kt dyn all l st F (some o) = DN (dynOK G st.tmps o.op dyn) (DG P G vf Kt o.dst o.op all l st F (guardA all st.tmps o.guard)) := rfl
theorem DG_t {dst : Option Tmp} {op : Op} {all : List Oper} {l : List (Nat × List Tmp)} {st : St} {F : St → Prop} :
    DG P G vf Kt dst op all l st F (some true) = DQO P G vf Kt dst op all l st F (reqOf P (evO G st.tmps) op) := rfl
theorem DG_f {dst : Option Tmp} {op : Op} {all : List Oper} {l : List (Nat × List Tmp)} {st : St} {F : St → Prop} :
    DG P G vf Kt dst op all l st F (some false) = DRun P G vf Kt all l ⟨putT st.tmps dst (.raw undef), st.heap, st.dfs⟩ F := rfl
theorem DG_split {dst : Option Tmp} {op : Op} {all : List Oper} {l : List (Nat × List Tmp)} {st : St} {F : St → Prop} {c : Bool}
    (h1 : c = true → DQO P G vf Kt dst op all l st F (reqOf P (evO G st.tmps) op)) (h2 : c = false → DRun P G vf Kt all l ⟨putT st.tmps dst (.raw undef), st.heap, st.dfs⟩ F) : DG P G vf Kt dst op all l st F (some c) := by
  cases c
  · exact h2 rfl
  · exact h1 rfl
theorem DQO_call {dst : Option Tmp} {op : Op} {all : List Oper} {l : List (Nat × List Tmp)} {st : St} {F : St → Prop} {f : FuncId} {a : List AV} : DQO P G vf Kt dst op all l st F (.call f a) = DQ P G vf Kt dst all l st F (.call f a) := rfl
theorem DQ_call {dst : Option Tmp} {all : List Oper} {l : List (Nat × List Tmp)} {st : St} {F : St → Prop} {f : FuncId} {a : List AV} : DQ P G vf Kt dst all l st F (.call f a) = DCall P G vf Kt f a dst all l st F := rfl
theorem DQO_val {dst : Option Tmp} {op : Op} {all : List Oper} {l : List (Nat × List Tmp)} {st : St} {F : St → Prop} {c : Bool} {v : AV} : DQO P G vf Kt dst op all l st F (.val c v) = DQ P G vf Kt dst all l st F (.val c v) := rfl
theorem DQ_val {dst : Option Tmp} {all : List Oper} {l : List (Nat × List Tmp)} {st : St} {F : St → Prop} {c : Bool} {v : AV} : DQ P G vf Kt dst all l st F (.val c v) = DN c (DRun P G vf Kt all l ⟨putT st.tmps dst v, st.heap, st.dfs⟩ F) := rfl
theorem DQO_rd {dst : Option Tmp} {op : Op} {all : List Oper} {l : List (Nat × List Tmp)} {st : St} {F : St → Prop} {b off n : Nat} {g : Bool} : DQO P G vf Kt dst op all l st F (.rd b off n g) = DQ P G vf Kt dst all l st F (.rd b off n g) := rfl
theorem DQ_rd {dst : Option Tmp} {all : List Oper} {l : List (Nat × List Tmp)} {st : St} {F : St → Prop} {b off n : Nat} {g : Bool} : DQ P G vf Kt dst all l st F (.rd b off n g) = D2 P G vf Kt dst all l st F (doReq (.rd b off n g) st.heap) := rfl
theorem DQO_wr {dst : Option Tmp} {op : Op} {all : List Oper} {l : List (Nat × List Tmp)} {st : St} {F : St → Prop} {b off : Nat} {cs : List AV} : DQO P G vf Kt dst op all l st F (.wr b off cs) = DQ P G vf Kt dst all l st F (.wr b off cs) := rfl
theorem DQ_wr {dst : Option Tmp} {all : List Oper} {l : List (Nat × List Tmp)} {st : St} {F : St → Prop} {b off : Nat} {cs : List AV} : DQ P G vf Kt dst all l st F (.wr b off cs) = D2 P G vf Kt dst all l st F (doReq (.wr b off cs) st.heap) := rfl
theorem DQO_push {dst : Option Tmp} {op : Op} {all : List Oper} {l : List (Nat × List Tmp)} {st : St} {F : St → Prop} {cs : List AV} {e : TypeId} {sl : Option Nat} : DQO P G vf Kt dst op all l st F (.push cs e sl) = DQ P G vf Kt dst all l st F (.push cs e sl) := rfl
theorem DQ_push {dst : Option Tmp} {all : List Oper} {l : List (Nat × List Tmp)} {st : St} {F : St → Prop} {cs : List AV} {e : TypeId} {sl : Option Nat} : DQ P G vf Kt dst all l st F (.push cs e sl) = D2 P G vf Kt dst all l st F (doReq (.push cs e sl) st.heap) := rfl
theorem D2_some {dst : Option Tmp} {all : List Oper} {l : List (Nat × List Tmp)} {st : St} {F : St → Prop} {c : Bool} {v : AV} {h : List Blk} : D2 P G vf Kt dst all l st F (some (c, v, h)) = DN c (DRun P G vf Kt all l ⟨putT st.tmps dst v, h, st.dfs⟩ F) := rfl

theorem doth {op : Op} {xs : List AV} {dst : Option Tmp} {all : List Oper} {l : List (Nat × List Tmp)} {t : List AV} {h : List Blk} {d : List Dfr} {F : St → Prop} {Rc : AO → List Blk → Prop} (hs : OpSem P G op xs h Rc)
    (hk : ∀ ao h', Rc ao h' → ∃ v, ao = .ret v ∧ DRun P G vf Kt all l ⟨putT t dst v, h', d⟩ F) : DOth P G vf Kt dst op xs all l ⟨t, h, d⟩ F := ⟨Rc, hs, hk⟩
/-- A call between values. -/
theorem dcall_V {f : FuncId} {args : List AV} {dst : Option Tmp} {all : List Oper} {l : List (Nat × List Tmp)} {t : List AV} {h : List Blk} {d : List Dfr} {F : St → Prop} (hv : vf.contains f = true) (hm : mfrees args = true)
    (hs : VSem P G f args (Kt f args)) (he : ∃ v, Kt f args v) (hk : ∀ v, Kt f args v → DRun P G vf Kt all l ⟨putT t dst v, h, d⟩ F) : DCall P G vf Kt f args dst all l ⟨t, h, d⟩ F :=
  ⟨fun _ => ⟨hm, hs, he, hk⟩, fun hc => by rw [hv] at hc; cases hc⟩
/-- A call that may turn the memory. -/
theorem dcall_H {f : FuncId} {args : List AV} {dst : Option Tmp} {all : List Oper} {l : List (Nat × List Tmp)} {t : List AV} {h : List Blk} {d : List Dfr} {F : St → Prop} {Rc : AO → List Blk → Prop} (hv : vf.contains f = false)
    (hs : HSem P G f args h Rc) (hk : ∀ ao h', Rc ao h' → ∃ v, ao = .ret v ∧ DRun P G vf Kt all l ⟨putT t dst v, h', d⟩ F) (hr : rdF vf f = false := by rfl) (hr2 : stF vf f = false := by rfl) : DCall P G vf Kt f args dst all l ⟨t, h, d⟩ F :=
  ⟨fun hc => (by rw [hv] at hc; cases hc), fun _ => ⟨Rc, hs, fun h => (by rw [hr] at h; cases h), fun h => (by rw [hr2] at h; cases h), hk⟩⟩
/-- A call that only looks at the memory, and maybe adds to it. -/
theorem dcall_R {f : FuncId} {args : List AV} {dst : Option Tmp} {all : List Oper} {l : List (Nat × List Tmp)} {t : List AV} {h : List Blk} {d : List Dfr} {F : St → Prop} {u : AV} (hv : vf.contains f = false)
    (hs : HSem P G f args h (fun ao h' => ao = .ret u ∧ ∃ ext, h' = h ++ ext)) (hk : ∀ ext, DRun P G vf Kt all l ⟨putT t dst u, h ++ ext, d⟩ F) (hr2 : stF vf f = false := by rfl) : DCall P G vf Kt f args dst all l ⟨t, h, d⟩ F :=
  ⟨fun hc => (by rw [hv] at hc; cases hc), fun _ => ⟨_, hs, fun _ => ⟨⟨.ret u, h, rfl, [], by simp⟩, fun ao h' ⟨_, he⟩ => he⟩, fun h => (by rw [hr2] at h; cases h), fun ao h' ⟨e, ext, he⟩ => ⟨u, e, by rw [he]; exact hk ext⟩⟩⟩
/-- A call that only looks at the memory, adds nothing, and yields the same however much lies behind. -/
theorem dcall_S {f : FuncId} {args : List AV} {dst : Option Tmp} {all : List Oper} {l : List (Nat × List Tmp)} {t : List AV} {h : List Blk} {d : List Dfr} {F : St → Prop} {u : AV} (hv : vf.contains f = false)
    (hs : ∀ ext, HSem P G f args (h ++ ext) (fun ao h' => ao = .ret u ∧ h' = h ++ ext)) (hk : DRun P G vf Kt all l ⟨putT t dst u, h, d⟩ F) : DCall P G vf Kt f args dst all l ⟨t, h, d⟩ F :=
  ⟨fun hc => (by rw [hv] at hc; cases hc), fun _ => ⟨fun ao h' => ao = .ret u ∧ h' = h, by simpa using hs [], fun _ => ⟨⟨_, _, rfl, rfl⟩, fun ao h' hr => ⟨[], by rw [hr.2]; simp⟩⟩, fun _ => ⟨u, fun _ _ => Iff.rfl, hs⟩,
    fun ao h' ⟨e, he⟩ => ⟨u, e, by rw [he]; exact hk⟩⟩⟩
end

attribute [go_sem] DQO_call DQO_val DQO_rd DQO_wr DQO_push DN_t drun_nil drun_cons DO_some DG_t DG_f DQ_call DQ_val DQ_rd DQ_wr DQ_push D2_some dynOK
end Go.Ev
