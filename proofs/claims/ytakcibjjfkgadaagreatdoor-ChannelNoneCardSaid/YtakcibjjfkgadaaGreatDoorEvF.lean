/- An operation of the abstract run that asks for a value, a load, a store or a new block is one of the machine. -/
import Derived.Test.YtakcibjjfkgadaaGreatDoorEvE
set_option linter.unusedVariables false
set_option linter.unusedSimpArgs false
namespace Go.Ev

section
variable {P : Program} {G : Glob} {m : List Nat} {im : Nat → Prop} {w : World}

theorem VRs_of_ofV (l : List Value) : VRs m w im (l.map ofV) l := by
  induction l with
  | nil => simp [VRs]
  | cons x l ih => simp only [List.map_cons, VRs]; exact ⟨VR_ofV x, ih⟩

theorem run_loadCells_row {r off n : Nat} {us : List Value} (h : Row w r off us) (hn : n ≤ us.length) : (loadCells ⟨r, off, none⟩ n).run P w = .ok (us.take n).toArray w := by
  have := run_loadCells_list (P := P) w ⟨r, off, none⟩ (us.take n) (fun j v hj => by
    rw [add_none]
    rw [List.getElem?_take] at hj
    split at hj
    · exact cell?_row h hj
    · cases hj)
  rwa [List.length_take, Nat.min_eq_left hn] at this

theorem load_agg {t r off n : Nat} {us : List Value} (ha : tAgg P t = some true) (hs : tSz P t = some n) (h : Row w r off us) (hn : n ≤ us.length) :
    (Instr.loadAt t (.pointer (some ⟨r, off, none⟩))).run P w = .ok (.agg (us.take n).toArray) w := by
  simp only [Instr.loadAt, Instr.sureAddr, Sem.run_bind, Sem.run_pure, Result.andThen_ok, loadVar, run_isAgg' ha, if_true, run_sizeOf' hs, run_loadCells_row h hn]

theorem load_one {t r off : Nat} {us : List Value} {u : Value} (ha : tAgg P t = some false) (h : Row w r off us) (hu : us[0]? = some u) :
    (Instr.loadAt t (.pointer (some ⟨r, off, none⟩))).run P w = .ok u w := by
  have := cell?_row h hu
  simp only [Nat.add_zero] at this
  simp only [Instr.loadAt, Instr.sureAddr, Sem.run_bind, Sem.run_pure, Result.andThen_ok, loadVar, run_isAgg' ha, Bool.false_eq_true, if_false, run_load, this]

theorem HR.glob {hp : List Blk} (h : HR G m im hp w) {g : Nat} {cs : List AV} (e : G g = some cs) : VR m w im (.cptr cs) (.pointer (some ⟨g, 0, none⟩)) := by
  obtain ⟨h1, us, h2, h3⟩ := h.gl g cs e
  simp only [VR]
  exact ⟨g, 0, us, h1, rfl, h2.stay ⟨fun _ _ h => by simp at h, fun r hr => ⟨hr, rfl⟩⟩, h3⟩

theorem evO_sound {hp : List Blk} {tmps : List AV} {a : Act} (h : HR G m im hp w) {us : List Value} (ht : VRs m w im tmps us) (ha : a.tmps = us.toArray) (x : Operand) :
    VR m w im (evO G tmps x) (a.eval x) := by
  cases x with
  | tmp t => simp only [evO, Act.eval, ha]; exact ht.lget t
  | const v => exact VR_ofV v
  | global g =>
    simp only [evO, Act.eval]
    cases hg : G g with
    | none => simp [VR]
    | some cs => exact h.glob hg
  | func f => simp [evO, Act.eval, VR, VRs]

theorem run_mk {α : Type} {s : Sem α} {x : α} (f : α → Next) (h : s.run P w = .ok x w) : (do pure (f (← s)) : Sem Next).run P w = .ok (f x) w := by
  simp [h]

theorem run_max2 {k k' : IntKind} {a b : Int} (ts : Array TypeId) (t : TypeId) : (Builtin.max_ ts t #[.int k a, .int k' b]).run P w = .ok (.int k (if b > a then b else a)) w := by
  simp [Builtin.max_, List.foldlM, Builtin.max2]
theorem run_min2 {k k' : IntKind} {a b : Int} (ts : Array TypeId) (t : TypeId) : (Builtin.min_ ts t #[.int k a, .int k' b]).run P w = .ok (.int k (if b < a then b else a)) w := by
  simp [Builtin.min_, List.foldlM, Builtin.min2]

theorem arr1 {α : Type} {l : Array α} {x : α} (h : l.toList = [x]) : l = #[x] := by
  apply Array.ext'; simpa using h
theorem arr2 {α : Type} {l : Array α} {x y : α} (h : l.toList = [x, y]) : l = #[x, y] := by
  apply Array.ext'; simpa using h
theorem arr0 {α : Type} {l : Array α} (h : l.toList = []) : l = #[] := by
  apply Array.ext'; simpa using h

/-- A value asked for. -/
theorem val_sound {ρ : Operand → AV} {e : Operand → Value} (he : ∀ x, VR m w im (ρ x) (e x)) {o : Oper} {c : Bool} {v : AV} (h : reqOf P ρ o.op = .val c v) (hc : c = true) :
    ∃ u, (execOp e o).run P w = .ok (.value u) w ∧ VR m w im v u := by
  obtain ⟨dst, op, ty, pos, after, guard⟩ := o
  simp only at h
  unfold execOp
  cases op <;> simp only [reqOf] at h <;> dsimp only
  case move x => injection h with h1 h2; subst h2; exact ⟨_, rfl, he x⟩
  case assign x => injection h with h1 h2; subst h2; exact ⟨_, rfl, he x⟩
  case pick cc a b =>
    split at h
    · rename_i q hq
      injection h with h1 h2; subst h2
      have := he cc
      rw [hq] at this
      simp only [VR] at this
      cases q
      · exact ⟨e b, by simp [this, asBool], he b⟩
      · exact ⟨e a, by simp [this, asBool], he a⟩
    · cases h
  case alloc t => split at h <;> cases h
  case box t x => split at h <;> cases h
  case build t parts =>
    split at h
    · rename_i z hz
      split at h
      · rename_i n el ha
        split at h
        · rename_i sz hs
          split at h
          · rename_i cs hf
            injection h with h1 h2; subst h2
            obtain ⟨us, h1, h2⟩ := build_arr he hz ha hs hf
            exact ⟨_, run_mk .value h1, by simp only [VR]; exact ⟨us.toList, by simp, h2⟩⟩
          · cases h
        · cases h
      · split at h
        · rename_i pl hp
          split at h
          · rename_i cs hf
            injection h with h1 h2; subst h2
            obtain ⟨us, h1, h2⟩ := build_struct he hz hp hf
            exact ⟨_, run_mk .value h1, by simp only [VR]; exact ⟨us.toList, by simp, h2⟩⟩
          · cases h
        · cases h
    · cases h
  case buildSlice t len parts => 
    repeat' (split at h)
    all_goals cases h
  case load t x =>
    have hx := he x
    split at h
    · cases h
    · rename_i cs n hq ha hs
      injection h with h1 h2; subst h1; subst h2
      simp at hc
      rw [hq] at hx
      simp only [VR] at hx
      obtain ⟨r, off, us, hr, hv, h1, h2⟩ := hx
      refine ⟨_, run_mk .value (by rw [hv]; exact load_agg ha hs h2 (by rw [← h1.length]; exact hc)), ?_⟩
      simp only [VR]
      exact ⟨_, rfl, h1.take n⟩
    · rename_i cs hq ha
      injection h with h1 h2; subst h1; subst h2
      simp at hc
      rw [hq] at hx
      simp only [VR] at hx
      obtain ⟨r, off, us, hr, hv, h1, h2⟩ := hx
      obtain ⟨u, hu, hvu⟩ := zeroCell_lt h1 hc
      exact ⟨u, run_mk .value (by rw [hv]; exact load_one ha h2 hu), hvu⟩
    · cases h
  case store t x y =>
    split at h
    · split at h <;> cases h
    · cases h
  case nilCheck x =>
    have hx := he x
    split at h
    · rename_i b off hq
      injection h with h1 h2; subst h2
      rw [hq] at hx
      have hx' := hx
      simp only [VR] at hx'
      obtain ⟨r, _, hv⟩ := hx'
      rw [hv] at hx
      refine ⟨_, ?_, hx⟩
      simp only [hv]
      rfl
    · rename_i cs hq
      injection h with h1 h2; subst h2
      rw [hq] at hx
      have hx' := hx
      simp only [VR] at hx'
      obtain ⟨r, off, us, _, hv, _⟩ := hx'
      rw [hv] at hx
      refine ⟨_, ?_, hx⟩
      simp only [hv]
      rfl
    · rename_i f cs hq
      injection h with h1 h2; subst h2
      rw [hq] at hx
      have hx' := hx
      simp only [VR] at hx'
      obtain ⟨us, hv, _⟩ := hx'
      rw [hv] at hx
      refine ⟨_, ?_, hx⟩
      simp only [hv]
      rfl
    · cases h
  case binOp op t x y yt =>
    obtain ⟨u, h1, h2⟩ := bin_sound h hc (he x) (he y) x y
    exact ⟨u, run_mk .value h1, h2⟩
  case unOp op t x =>
    obtain ⟨u, h1, h2⟩ := un_sound h (he x)
    exact ⟨u, run_mk .value h1, h2⟩
  case convert s d x =>
    have hx := he x
    split at h
    · rename_i k0 n k1 k hq hs hd
      injection h with h1 h2; subst h2
      rw [hq] at hx
      simp only [VR] at hx
      refine ⟨_, ?_, VR_int⟩
      rw [hx]
      apply run_mk
      simp [convert, run_underlying' (int_of hs), run_underlying' (int_of hd), Conv.intToInt]
    · cases h
  case makeFunc fn first cap =>
    cases fn <;> simp only at h <;> try (cases h; done)
    split at h
    · rename_i hq
      injection h with h1 h2; subst h2
      have := arr0 hq
      subst this
      refine ⟨_, rfl, ?_⟩
      simp only [VR]
      refine ⟨_, ?_, mapA_sound he cap.toList⟩
      congr 1
      all_goals (apply Array.ext'; simp)
    · cases h
  case fieldAddr s x f =>
    have hx := he x
    split at h
    · rename_i off ft b o hf hq
      split at h
      · rename_i q hs
        injection h with h1 h2; subst h2
        obtain ⟨fs, fx, hu, hfx, rfl, rfl⟩ := fld_of hf
        rw [hq] at hx
        simp only [VR] at hx
        obtain ⟨r, hm, hv⟩ := hx
        refine ⟨.pointer (some ⟨r, o + fx.offset, none⟩), ?_, by simp only [VR]; exact ⟨r, hm, rfl⟩⟩
        rw [hv]
        apply run_mk
        simp [Instr.fieldAt, run_underlying' hu, hfx, Instr.sureAddr, fieldPlace, run_sizeOf' hs, add_none]
      · cases h
    · rename_i off ft cs hf hq
      split at h
      · rename_i q hs
        injection h with h1 h2; subst h2
        obtain ⟨fs, fx, hu, hfx, rfl, rfl⟩ := fld_of hf
        rw [hq] at hx
        simp only [VR] at hx
        obtain ⟨r, o, us, hr, hv, h1, h2⟩ := hx
        refine ⟨.pointer (some ⟨r, o + fx.offset, none⟩), ?_, by simp only [VR]; exact ⟨r, _, _, hr, rfl, h1.drop _, h2.drop _⟩⟩
        rw [hv]
        apply run_mk
        simp [Instr.fieldAt, run_underlying' hu, hfx, Instr.sureAddr, fieldPlace, run_sizeOf' hs, add_none]
      · cases h
    · cases h
  case field t x f =>
    have hx := he x
    split at h
    · rename_i off ft cs hf hq
      obtain ⟨fs, fx, hu, hfx, rfl, rfl⟩ := fld_of hf
      rw [hq] at hx
      simp only [VR] at hx
      obtain ⟨us, hv, h1⟩ := hx
      obtain ⟨u, h2, h3⟩ := partA_sound h hc h1
      refine ⟨u, ?_, h3⟩
      rw [hv]
      apply run_mk
      simp [Instr.field, run_underlying' hu, hfx, asAgg, h2]
    · cases h
  case indexAddr t x i =>
    obtain ⟨u, h1, h2⟩ := idxA_sound h hc (he x) (he i)
    exact ⟨u, run_mk .value h1, h2⟩
  case index t x i =>
    obtain ⟨u, h1, h2⟩ := idxV_sound h hc (he x) (he i)
    exact ⟨u, run_mk .value h1, h2⟩
  case slice t x lo hi mx =>
    split at h
    · obtain ⟨u, h1, h2⟩ := sliceA_sound he (he x) h hc
      exact ⟨u, run_mk .value h1, h2⟩
    · cases h
  case extract x i =>
    have hx := he x
    split at h
    · rename_i vs hq
      injection h with h1 h2; subst h1; subst h2
      simp at hc
      rw [hq] at hx
      simp only [VR] at hx
      obtain ⟨us, hv, h1⟩ := hx
      obtain ⟨u, hu, hvu⟩ := zeroCell_lt h1 hc
      refine ⟨u, ?_, hvu⟩
      rw [hv]
      apply run_mk
      simp [Instr.extract, hu]
    · cases h
  case call cl =>
    obtain ⟨callee, args, tys⟩ := cl
    unfold callA at h
    simp only at h
    split at h
    · split at h <;> cases h
    · split at h
      · rename_i x t hx ht
        rw [arr1 hx, arr1 ht]
        obtain ⟨u, h1, h2⟩ := lenA_sound (he x) h ty
        refine ⟨u, ?_, h2⟩
        simp [resolve, invoke, builtin, h1]
      · cases h
    · split at h
      · rename_i x y hx
        rw [arr2 hx]
        have h1 := he x
        have h2 := he y
        split at h
        · rename_i k a k' b q1 q2
          injection h with e1 e2; subst e2
          rw [q1] at h1; rw [q2] at h2
          simp only [VR] at h1 h2
          refine ⟨_, ?_, VR_int⟩
          simp [resolve, invoke, builtin, h1, h2, run_max2]
        · cases h
      · cases h
    · split at h
      · rename_i x y hx
        rw [arr2 hx]
        have h1 := he x
        have h2 := he y
        split at h
        · rename_i k a k' b q1 q2
          injection h with e1 e2; subst e2
          rw [q1] at h1; rw [q2] at h2
          simp only [VR] at h1 h2
          refine ⟨_, ?_, VR_int⟩
          simp [resolve, invoke, builtin, h1, h2, run_min2]
        · cases h
      · cases h
    · cases h
  all_goals cases h

/-- Whether it asks for a load, a store, a new block. -/
def Req.kind : Req → Nat
  | .val _ _ => 0
  | .rd _ _ _ _ => 1
  | .wr _ _ _ => 2
  | .push _ _ _ => 3
  | .call _ _ => 4
  | .bad => 0

theorem kind_ibin (op : BinOp) (k : IntKind) (x y : Int) : (ibin op k x y).kind = 0 := by cases op <;> rfl
theorem kind_eqReq (op : BinOp) (r : Option Bool) : (eqReq op r).kind = 0 := by unfold eqReq; split <;> rfl
theorem kind_bin (P : Program) (op : BinOp) (t : TypeId) (x y : AV) : (bin P op t x y).kind = 0 := by
  unfold bin
  split
  · split
    · rfl
    · rfl
    · split
      · exact kind_ibin _ _ _ _
      · rfl
  · split <;> rfl
  · unfold strBin; split <;> rfl
  all_goals first | rfl | (split <;> first | rfl | exact kind_eqReq _ _)
theorem kind_un (op : UnOp) (x : AV) : (un op x).kind = 0 := by unfold un; split <;> rfl
theorem kind_partA (P : Program) (t : TypeId) (cs : List AV) (off : Nat) : (partA P t cs off).kind = 0 := by unfold partA; split <;> rfl
theorem kind_idxA (P : Program) (t : TypeId) (x i : AV) : (idxA P t x i).kind = 0 := by
  unfold idxA
  repeat' split
  all_goals rfl
theorem kind_idxV (P : Program) (t : TypeId) (x i : AV) : (idxV P t x i).kind = 0 := by
  unfold idxV
  repeat' split
  all_goals rfl
theorem kind_sliceA (P : Program) (t : TypeId) (x : AV) (lo hi : Option Int) : (sliceA P t x lo hi).kind = 0 := by
  unfold sliceA
  repeat' split
  all_goals rfl
theorem kind_lenA (P : Program) (t : TypeId) (x : AV) : (lenA P t x).kind = 0 := by
  unfold lenA
  repeat' split
  all_goals rfl
theorem kind_callA (P : Program) (ρ : Operand → AV) (c : Call) : (callA P ρ c).kind = 0 ∨ (callA P ρ c).kind = 4 := by
  unfold callA
  repeat' split
  all_goals first | (left; rfl) | (right; rfl) | (left; exact kind_lenA _ _ _)

theorem kind_of (P : Program) (ρ : Operand → AV) (o : Op) : (reqOf P ρ o).kind = match o with
    | .load _ _ => (reqOf P ρ o).kind
    | .store _ _ _ => (reqOf P ρ o).kind
    | .alloc _ => (reqOf P ρ o).kind
    | .box _ _ => (reqOf P ρ o).kind
    | .buildSlice _ _ _ => (reqOf P ρ o).kind
    | .call _ => (reqOf P ρ o).kind
    | _ => 0 := by
  cases o <;> try rfl
  case makeFunc fn a b =>
    cases fn <;> try rfl
    simp only [reqOf]
    split <;> rfl
  all_goals simp only [reqOf]
  case binOp => exact kind_bin _ _ _ _ _
  case unOp => exact kind_un _ _
  case indexAddr => exact kind_idxA _ _ _ _
  case index => exact kind_idxV _ _ _ _
  case field => split; exact kind_partA _ _ _ _; rfl
  case slice => split; exact kind_sliceA _ _ _ _ _; rfl
  all_goals (repeat' split)
  all_goals rfl

theorem rd_load {ρ : Operand → AV} {o : Op} {b off n : Nat} {g : Bool} (h : reqOf P ρ o = .rd b off n g) : ∃ t x, o = .load t x ∧ ρ x = .ptr b off ∧ tAgg P t = some g ∧ tSz P t = some n := by
  have hk := kind_of P ρ o
  rw [h] at hk
  simp only [Req.kind] at hk
  split at hk
  · rename_i t x
    simp only [reqOf] at h
    split at h
    · rename_i h1 h2 h3
      injection h with e1 e2 e3 e4
      subst e1; subst e2; subst e3; subst e4
      exact ⟨t, x, rfl, h1, h2, h3⟩
    all_goals cases h
  · simp only [reqOf] at h
    repeat' (split at h)
    all_goals cases h
  · simp only [reqOf] at h
    split at h <;> cases h
  · simp only [reqOf] at h
    split at h <;> cases h
  · simp only [reqOf] at h
    repeat' (split at h)
    all_goals cases h
  · simp only [reqOf] at h
    rcases kind_callA P ρ _ with hx | hx <;> (rw [h] at hx; cases hx)
  · cases hk

theorem wr_store {ρ : Operand → AV} {o : Op} {b off : Nat} {cs : List AV} (h : reqOf P ρ o = .wr b off cs) : ∃ t x y, o = .store t x y ∧ ρ x = .ptr b off ∧ cellsA (ρ y) = some cs ∧ tSz P t = some cs.length := by
  have hk := kind_of P ρ o
  rw [h] at hk
  simp only [Req.kind] at hk
  split at hk
  · simp only [reqOf] at h
    split at h
    all_goals cases h
  · rename_i t x y
    simp only [reqOf] at h
    split at h
    · rename_i h1 h2 h3
      split at h
      · rename_i hl
        injection h with e1 e2 e3
        subst e1; subst e2; subst e3
        exact ⟨t, x, y, rfl, h1, h2, by rw [hl]; exact h3⟩
      · cases h
    · cases h
  · simp only [reqOf] at h
    split at h <;> cases h
  · simp only [reqOf] at h
    split at h <;> cases h
  · simp only [reqOf] at h
    repeat' (split at h)
    all_goals cases h
  · simp only [reqOf] at h
    rcases kind_callA P ρ _ with hx | hx <;> (rw [h] at hx; cases hx)
  · cases hk

theorem push_new {ρ : Operand → AV} {o : Op} {cs : List AV} {el : TypeId} {sl : Option Nat} (h : reqOf P ρ o = .push cs el sl) :
    (o = .alloc el ∧ tZero P el = some cs ∧ sl = none) ∨ (∃ x, o = .box el x ∧ cellsA (ρ x) = some cs ∧ sl = none) ∨
    ∃ t len parts sz z, o = .buildSlice t len parts ∧ tSlc P t = some el ∧ tSz P el = some sz ∧ tZero P el = some z ∧ (len * sz ≤ 16777216 ∧ z.length = sz) ∧
      fillA (fun i => some (i * sz, sz)) (List.replicate len z).flatten (zipA ρ parts.toList) = some cs ∧ sl = some len := by
  have hk := kind_of P ρ o
  rw [h] at hk
  simp only [Req.kind] at hk
  split at hk
  · simp only [reqOf] at h
    split at h
    all_goals cases h
  · simp only [reqOf] at h
    repeat' (split at h)
    all_goals cases h
  · rename_i t
    simp only [reqOf] at h
    split at h
    · rename_i hz
      injection h with e1 e2 e3
      subst e1; subst e2; subst e3
      exact .inl ⟨rfl, hz, rfl⟩
    · cases h
  · rename_i t x
    simp only [reqOf] at h
    split at h
    · rename_i hz
      injection h with e1 e2 e3
      subst e1; subst e2; subst e3
      exact .inr (.inl ⟨x, rfl, hz, rfl⟩)
    · cases h
  · rename_i t len parts
    simp only [reqOf] at h
    split at h
    · rename_i e1 hs
      split at h
      · rename_i sz z h1 h2
        split at h
        · rename_i hc
          split at h
          · rename_i cs' hf
            injection h with e1 e2 e3
            subst e1; subst e2; subst e3
            exact .inr (.inr ⟨t, len, parts, sz, z, rfl, hs, h1, h2, hc, hf, rfl⟩)
          · cases h
        · cases h
      · cases h
    · cases h
  · simp only [reqOf] at h
    rcases kind_callA P ρ _ with hx | hx <;> (rw [h] at hx; cases hx)
  · cases hk

theorem run_skip {α : Type} {s : Sem α} {x : α} {w' : World} (h : s.run P w = .ok x w') : (do let _ ← s; pure .skip : Sem Next).run P w = .ok .skip w' := by
  simp [h]
theorem run_mk' {α : Type} {s : Sem α} {x : α} {w' : World} (f : α → Next) (h : s.run P w = .ok x w') : (do pure (f (← s)) : Sem Next).run P w = .ok (f x) w' := by
  simp [h]

theorem zeros_eq (z : Array Value) (len : Nat) (sz : Nat) (hz : z.size = sz) : ((Array.range (len * sz)).map (z[· % z.size]!)).toList = (List.replicate len z.toList).flatten := by
  subst hz
  induction len with
  | zero => simp
  | succ n ih =>
    rw [List.replicate_succ', List.flatten_append, ← ih]
    apply List.ext_getElem?
    intro i
    simp only [Array.toList_map, Array.toList_range, List.getElem?_map, List.flatten_cons, List.flatten_nil, List.append_nil]
    rw [List.getElem?_append]
    simp only [List.length_map, List.length_range]
    by_cases hi : i < n * z.size
    · rw [if_pos hi]
      simp only [List.getElem?_map]
      rw [List.getElem?_range (by rw [Nat.succ_mul]; omega), List.getElem?_range hi]
    · rw [if_neg hi]
      by_cases hi2 : i < (n + 1) * z.size
      · rw [List.getElem?_range hi2]
        rw [Nat.succ_mul] at hi2
        have h1 : i - n * z.size < z.size := by omega
        have h2 : i % z.size = i - n * z.size := by
          have : i = (i - n * z.size) + z.size * n := by rw [Nat.mul_comm z.size n]; omega
          rw [this, Nat.add_mul_mod_self_left, Nat.mod_eq_of_lt h1]
          rw [Nat.mul_comm z.size n]; omega
        simp [h2, h1]
      · have : ¬ i < (List.range ((n + 1) * z.size)).length := by simpa using hi2
        rw [List.getElem?_eq_none (by omega)]
        rw [Nat.succ_mul] at hi2
        rw [List.getElem?_eq_none (by simp; omega)]
        rfl

theorem VRs.flatten_replicate {z : List AV} {zs : List Value} (h : VRs m w im z zs) : ∀ n, VRs m w im (List.replicate n z).flatten (List.replicate n zs).flatten
  | 0 => by simp [VRs]
  | n + 1 => by simp only [List.replicate_succ, List.flatten_cons]; exact h.append (VRs.flatten_replicate h n)

/-- What an operation that isn't a call leaves. -/
theorem req_sound {hp hp' : List Blk} {n0 : Nat} (hn : n0 ≤ m.length) (hr : HR G m im hp w) {ρ : Operand → AV} {e : Operand → Value} (he : ∀ x, VR m w im (ρ x) (e x)) {o : Oper} {c : Bool} {v : AV}
    (h : doReq (reqOf P ρ o.op) hp = some (c, v, hp')) (hc : c = true) :
    ∃ m' w' n u, (execOp e o).run P w = .ok n w' ∧ (n = .value u ∨ (n = .skip ∧ u = undef)) ∧ VR m' w' im v u ∧ HR G m' im hp' w' ∧ Stay m w im m' w' im ∧ Ext n0 m im w m' im w' := by
  cases hq : reqOf P ρ o.op with
  | val c' v' =>
    rw [hq] at h
    simp only [doReq, Option.some.injEq, Prod.mk.injEq] at h
    obtain ⟨h1, h2, h3⟩ := h
    subst h1; subst h2; subst h3
    obtain ⟨u, h1, h2⟩ := val_sound (w := w) he hq hc
    exact ⟨m, w, _, u, h1, .inl rfl, h2, hr, Stay.refl _ _ _, Ext.refl _ _ _ _⟩
  | call f args => rw [hq] at h; cases h
  | bad => rw [hq] at h; cases h
  | rd b off n g =>
    rw [hq] at h
    simp only [doReq] at h
    rw [bget_eq] at h
    obtain ⟨t, x, ho, hx, ha, hs⟩ := rd_load hq
    obtain ⟨dst, op, ty, pos, after, guard⟩ := o
    simp only at ho
    subst ho
    have hxv := he x
    rw [hx] at hxv
    simp only [VR] at hxv
    obtain ⟨r, hm, hv⟩ := hxv
    cases hb : hp[b]? with
    | none => rw [hb] at h; cases h
    | some k =>
      rw [hb] at h
      obtain ⟨us, h1, h2⟩ := (hr.bl b k r hb hm).row
      have h2' := h2.drop off
      simp only [Nat.zero_add] at h2'
      cases g
      · simp only [Option.some.injEq, Prod.mk.injEq] at h
        obtain ⟨e1, e2, e3⟩ := h
        subst e1; subst e2; subst e3
        simp at hc
        obtain ⟨u, hu, hvu⟩ := zeroCell_lt h1 hc
        refine ⟨m, w, _, u, ?_, .inl rfl, hvu, hr, Stay.refl _ _ _, Ext.refl _ _ _ _⟩
        unfold execOp
        dsimp only
        rw [hv]
        exact run_mk .value (load_one ha h2' (by rw [List.getElem?_drop]; simpa using hu))
      · simp only [Option.some.injEq, Prod.mk.injEq] at h
        obtain ⟨e1, e2, e3⟩ := h
        subst e1; subst e2; subst e3
        simp at hc
        refine ⟨m, w, _, .agg ((us.drop off).take n).toArray, ?_, .inl rfl, ?_, hr, Stay.refl _ _ _, Ext.refl _ _ _ _⟩
        · unfold execOp
          dsimp only
          rw [hv]
          exact run_mk .value (load_agg ha hs h2' (by have := h1.length; simp; omega))
        · simp only [VR]
          exact ⟨_, rfl, (h1.drop off).take n⟩
  | wr b off cs =>
    rw [hq] at h
    simp only [doReq] at h
    rw [bget_eq] at h
    obtain ⟨t, x, y, ho, hx, hy, hs⟩ := wr_store hq
    obtain ⟨dst, op, ty, pos, after, guard⟩ := o
    simp only at ho
    subst ho
    have hxv := he x
    rw [hx] at hxv
    simp only [VR] at hxv
    obtain ⟨r, hm, hv⟩ := hxv
    cases hb : hp[b]? with
    | none => rw [hb] at h; cases h
    | some k =>
      rw [hb] at h
      simp only [Option.some.injEq, Prod.mk.injEq] at h
      obtain ⟨e1, e2, e3⟩ := h
      subst e1; subst e2; subst e3
      simp at hc
      have hcells := (he y).cells hy
      obtain ⟨w', h1, h2, h3, h4⟩ := run_storeCells P n0 cs (e y).cells.toList hp w b off 0 k hr hb hm (by omega) hc.2 hcells
      refine ⟨m, w', .skip, undef, ?_, .inr ⟨rfl, rfl⟩, by simp [VR], by rw [bset_eq]; simpa using h2, h3, h4⟩
      unfold execOp
      dsimp only
      rw [hv]
      refine run_skip (x := ()) ?_
      simp only [Instr.storeAt, Instr.sureAddr, Sem.run_bind, Sem.run_pure, Result.andThen_ok, storeVar, run_sizeOf' hs]
      have : (e y).cells.size = cs.length := by have := hcells.length; simpa using this.symm
      rw [if_neg (by simp [this])]
      exact h1
  | push cs el sl =>
    rw [hq] at h
    obtain ⟨dst, op, ty, pos, after, guard⟩ := o
    simp only at hq
    rcases push_new hq with ⟨rfl, hz, rfl⟩ | ⟨x, rfl, hz, rfl⟩ | ⟨t, len, parts, sz, z, rfl, hsl, hsz, hz, hlen, hf, rfl⟩
    · simp only [doReq, Option.some.injEq, Prod.mk.injEq] at h
      obtain ⟨e1, e2, e3⟩ := h
      subst e1; subst e2; subst e3
      obtain ⟨zv, h1, h2⟩ := run_zero' (P := P) (w := w) (m := m) (im := im) hz
      obtain ⟨h3, h4⟩ := hr.push h2 el
      refine ⟨_, _, _, .pointer (some ⟨w.heap.size, 0, none⟩), ?_, .inl rfl, ?_, h3, h4, Ext.push n0 hn _⟩
      · unfold execOp
        dsimp only
        refine run_mk' .value ?_
        simp [Instr.alloc, h1, newVar, newRow]
      · simp only [VR]
        exact ⟨w.heap.size, by rw [← hr.ln]; simp, rfl⟩
    · simp only [doReq, Option.some.injEq, Prod.mk.injEq] at h
      obtain ⟨e1, e2, e3⟩ := h
      subst e1; subst e2; subst e3
      obtain ⟨h3, h4⟩ := hr.push ((he x).cells hz) el
      refine ⟨_, _, _, .pointer (some ⟨w.heap.size, 0, none⟩), ?_, .inl rfl, ?_, h3, h4, Ext.push n0 hn _⟩
      · unfold execOp
        dsimp only
        refine run_mk' .value ?_
        simp [Instr.box, newVar, newRow]
      · simp only [VR]
        exact ⟨w.heap.size, by rw [← hr.ln]; simp, rfl⟩
    · simp only [doReq, Option.some.injEq, Prod.mk.injEq] at h
      obtain ⟨e1, e2, e3⟩ := h
      subst e1; subst e2; subst e3
      obtain ⟨zv, h1, h2⟩ := run_zero' (P := P) (w := w) (m := m) (im := im) hz
      have hzs : zv.cells.size = sz := by have := h2.length; simp at this; omega
      have hzz := zeros_eq zv.cells len sz hzs
      obtain ⟨us, h5, h6⟩ := fill_sound he (pl' := fun i => some (i * sz, sz)) (fun _ => rfl) parts.toList _ ((Array.range (len * sz)).map (zv.cells[· % zv.cells.size]!)) cs (by rw [hzz]; exact h2.flatten_replicate len) hf
      obtain ⟨h3, h4⟩ := hr.push h6 el
      refine ⟨_, _, _, .slice (some ⟨w.heap.size, 0, none⟩) len len, ?_, .inl rfl, ?_, h3, h4, Ext.push n0 hn _⟩
      · unfold execOp
        dsimp only
        refine run_mk' .value ?_
        simp only [Instr.buildSlice, Sem.run_bind, run_underlying' (slc_of hsl), Result.andThen_ok, run_sizeOf' hsz]
        rw [if_neg (by omega)]
        by_cases h0 : len * sz = 0
        · rw [if_pos h0]
          have e0 : (Array.range (len * sz)).map (zv.cells[· % zv.cells.size]!) = #[] := by rw [h0]; simp
          rw [e0] at h5
          have e1 : (Array.range (len * sz)).map (fun i => (#[] : Array Value)[i % (#[] : Array Value).size]!) = #[] := by rw [h0]; simp
          simp only [Sem.run_pure, Result.andThen_ok, e1, Array.toList_map, h5, newRow, Sem.run_bind, run_newObj]
        · rw [if_neg h0]
          simp only [Sem.run_bind, h1, Result.andThen_ok, Sem.run_pure, Array.toList_map, h5, newRow, run_newObj]
      · simp only [VR]
        exact ⟨w.heap.size, by rw [← hr.ln]; simp, rfl⟩
end
end Go.Ev
