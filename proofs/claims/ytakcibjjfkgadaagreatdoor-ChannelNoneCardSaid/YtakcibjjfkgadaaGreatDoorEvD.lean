/- An operation of the abstract run is one of the machine. -/
import Derived.Test.YtakcibjjfkgadaaGreatDoorEvC
import Derived.Laws.StructEq
set_option linter.unusedVariables false
set_option linter.unusedSimpArgs false
namespace Go.Ev

section
variable {P : Program} {G : Glob} {m : List Nat} {im : Nat → Prop} {w : World}

theorem run_underlying' {t : TypeId} {d : TypeDesc} (h : P.underlying t = some d) : (underlying t).run P w = .ok d w := by
  simp [underlying, h]
theorem run_sizeOf' {t : TypeId} {n : Nat} (h : tSz P t = some n) : (sizeOf t).run P w = .ok n w := by
  unfold tSz at h
  cases hi : P.info? t with
  | none => rw [hi] at h; cases h
  | some i => rw [hi] at h; simp at h; simp [sizeOf, typeInfo, hi, h]
theorem run_isAgg' {t : TypeId} {g : Bool} (h : tAgg P t = some g) : (isAgg t).run P w = .ok g w := by
  unfold tAgg at h
  cases hu : P.underlying t with
  | none => rw [hu] at h; cases h
  | some d =>
    rw [hu] at h
    simp only [isAgg, Sem.run_bind, run_underlying' hu, Result.andThen_ok]
    cases d <;> simp at h <;> subst h <;> rfl
theorem run_zero' {t : TypeId} {cs : List AV} (h : tZero P t = some cs) : ∃ v, (zeroValue t).run P w = .ok v w ∧ VRs m w im cs v.cells.toList := by
  unfold tZero at h
  cases hi : P.info? t with
  | none => rw [hi] at h; cases h
  | some i =>
    rw [hi] at h
    simp at h
    obtain ⟨z, hz, rfl⟩ := h
    refine ⟨z, by simp [zeroValue, typeInfo, hi, hz], ?_⟩
    have : ∀ l : List Value, VRs m w im (l.map ofV) l := fun l => by
      induction l with
      | nil => simp [VRs]
      | cons x l ih => simp only [List.map_cons, VRs]; exact ⟨VR_ofV x, ih⟩
    exact this _
theorem arr_of {t n e : Nat} (h : tArr P t = some (n, e)) : P.underlying t = some (.array n e) := by
  unfold tArr at h
  split at h
  · rename_i hu; cases h; exact hu
  · cases h
theorem not_arr {t : Nat} (h : tArr P t = none) (n e : Nat) : P.underlying t ≠ some (.array n e) := by
  intro hu
  simp [tArr, hu] at h
theorem slc_of {t e : Nat} (h : tSlc P t = some e) : P.underlying t = some (.slice e) := by
  unfold tSlc at h
  split at h
  · rename_i hu; cases h; exact hu
  · cases h
theorem int_of {t : Nat} {k : IntKind} (h : tInt P t = some k) : P.underlying t = some (.int k) := by
  unfold tInt at h
  split at h
  · rename_i hu; cases h; exact hu
  · cases h
theorem str_of {t : Nat} (h : tStr P t = true) : P.underlying t = some .string := by
  unfold tStr at h
  split at h
  · rename_i hu; exact hu
  · cases h
theorem bool_of {t : Nat} (h : tBool P t = true) : P.underlying t = some .bool := by
  unfold tBool at h
  split at h
  · rename_i hu; exact hu
  · cases h
theorem fld_of {s f off ft : Nat} (h : tFld P s f = some (off, ft)) : ∃ fs x, P.underlying s = some (.struct fs) ∧ fs[f]? = some x ∧ x.offset = off ∧ x.type = ft := by
  unfold tFld at h
  split at h
  · rename_i fs hu
    simp at h
    obtain ⟨x, hx, h1, h2⟩ := h
    exact ⟨fs, x, hu, hx, h1, h2⟩
  · cases h

theorem VR_int {k : IntKind} {n : Int} : VR m w im (.int k n) (.int k n) := by simp only [VR]
theorem VR_bool {b : Bool} : VR m w im (.bool b) (.bool b) := by simp only [VR]
theorem VR_raw {v : Value} : VR m w im (.raw v) v := by simp only [VR]
theorem beq_dec (a b : Int) : (a == b) = decide (a = b) := by
  by_cases h : a = b <;> simp [h]

theorem eqGuard_int {op : BinOp} {t : TypeId} {x y : Operand} {k k' : IntKind} {a b : Int} : (eqGuard op t x y (.int k a) (.int k' b)).run P w = .ok () w := by
  unfold eqGuard; split <;> simp
theorem eqGuard_bool {op : BinOp} {t : TypeId} {x y : Operand} {a b : Bool} : (eqGuard op t x y (.bool a) (.bool b)).run P w = .ok () w := by
  unfold eqGuard; split <;> simp
theorem eqGuard_string {op : BinOp} {t : TypeId} {x y : Operand} {a b : ByteArray} : (eqGuard op t x y (.string a) (.string b)).run P w = .ok () w := by
  unfold eqGuard; split <;> simp

theorem run_equalIn_bool (d : Nat) {t : TypeId} {a b : Bool} (h : P.underlying t = some .bool) : (Op.equalIn (d + 1) t (.bool a) (.bool b)).run P w = .ok (a == b) w := by
  rw [Op.equalIn]
  simp only [Sem.run_bind, run_underlying' h, Result.andThen_ok, Sem.run_pure]
theorem run_equal_bool {t : TypeId} {a b : Bool} (h : P.underlying t = some .bool) : (Op.equal t (.bool a) (.bool b)).run P w = .ok (a == b) w :=
  run_equalIn_bool 9999 h
theorem run_eql_bool {t : TypeId} {a b : Bool} (h : P.underlying t = some .bool) : (binOp .eql t (.bool a) (.bool b)).run P w = .ok (.bool (a == b)) w := by
  show (Op.equal t (.bool a) (.bool b) >>= fun r => Pure.pure (Value.bool r) : Sem Value).run P w = _
  rw [Sem.run_bind, run_equal_bool h]; rfl
theorem run_neq_bool {t : TypeId} {a b : Bool} (h : P.underlying t = some .bool) : (binOp .neq t (.bool a) (.bool b)).run P w = .ok (.bool (!(a == b))) w := by
  show (Op.equal t (.bool a) (.bool b) >>= fun r => Pure.pure (Value.bool (!r)) : Sem Value).run P w = _
  rw [Sem.run_bind, run_equal_bool h]; rfl

theorem ibin_sound {op : BinOp} {t : TypeId} {k : IntKind} {a b : Int} {c : Bool} {v : AV} (h : ibin op k a b = .val c v) (hc : c = true) :
    ∃ u, (binOp op t (.int k a) (.int k b)).run P w = .ok u w ∧ VR m w im v u := by
  cases op <;> simp only [ibin] at h <;> first | (cases h; done) | (injection h with h1 h2; subst h1; subst h2; first | refine ⟨_, ?_, VR_int⟩ | refine ⟨_, ?_, VR_bool⟩)
  case quo => simp at hc; simp [binOp, Op.intDiv, hc]
  case rem => simp at hc; simp [binOp, Op.intDiv, hc]
  all_goals simp [binOp, Op.intArith, Op.intBits, Op.intCmp, ibits, beq_dec, bne]

/-! ### '==' cell by cell -/
def eqVv : EK → Value → Value → Option Bool
  | .int k, .int k1 a, .int k2 b => if k1 = k ∧ k2 = k then some (decide (a = b)) else none
  | .bool, .bool a, .bool b => some (a == b)
  | .str, .string a, .string b => some (a.toList == b.toList)
  | _, _, _ => none
def eqVs : List (Nat × EK) → List Value → List Value → Option Bool
  | [], _, _ => some true
  | (i, k) :: l, xs, ys => match xs[i]?, ys[i]?, eqVs l xs ys with
    | some x, some y, some b => match eqVv k x y with
      | some a => some (a && b)
      | none => none
    | _, _, _ => none

theorem eqVs_cons {i : Nat} {k : EK} {l : List (Nat × EK)} {xs ys : List Value} {b : Bool} (h : eqVs ((i, k) :: l) xs ys = some b) :
    ∃ x y a c, xs[i]? = some x ∧ ys[i]? = some y ∧ eqVv k x y = some a ∧ eqVs l xs ys = some c ∧ b = (a && c) := by
  simp only [eqVs] at h
  split at h
  · rename_i x y c h1 h2 h3
    split at h
    · rename_i a h4
      cases h
      exact ⟨x, y, a, c, h1, h2, h4, h3, rfl⟩
    · cases h
  · cases h
theorem eqVs_append {l1 l2 : List (Nat × EK)} {xs ys : List Value} {b : Bool} (h : eqVs (l1 ++ l2) xs ys = some b) :
    ∃ a c, eqVs l1 xs ys = some a ∧ eqVs l2 xs ys = some c ∧ b = (a && c) := by
  induction l1 generalizing b with
  | nil => exact ⟨true, b, rfl, h, by simp⟩
  | cons x l1 ih =>
    obtain ⟨i, k⟩ := x
    obtain ⟨u, v, a, c, h1, h2, h3, h4, rfl⟩ := eqVs_cons h
    obtain ⟨a', c', g1, g2, rfl⟩ := ih h4
    exact ⟨a && a', c', by simp only [eqVs, h1, h2, g1, h3], g2, by simp [Bool.and_assoc]⟩
theorem eqVs_shift {l : List (Nat × EK)} {off n : Nat} {xs ys : List Value} (hi : eqIn n l = true) {b : Bool} (h : eqVs (eqShift off l) xs ys = some b) :
    eqVs l ((xs.drop off).take n) ((ys.drop off).take n) = some b := by
  induction l generalizing b with
  | nil => exact h
  | cons x l ih =>
    obtain ⟨i, k⟩ := x
    simp only [eqShift] at h
    simp only [eqIn, Bool.and_eq_true] at hi
    have hlt : i < n := by simpa [Nat.blt_eq] using hi.1
    obtain ⟨u, v, a, c, h1, h2, h3, h4, rfl⟩ := eqVs_cons h
    simp only [eqVs, List.getElem?_take, List.getElem?_drop, if_pos hlt, h1, h2, ih hi.2 h4, h3]

/-- A part that is compared by its plan. -/
def EqPartOk (P : Program) (w : World) (d : Nat) (t : TypeId) (off : Nat) (l : List (Nat × EK)) : Prop :=
  ∀ (xs ys : Array Value) (b : Bool), eqVs l xs.toList ys.toList = some b → ∃ x y, (part t xs off).run P w = .ok x w ∧ (part t ys off).run P w = .ok y w ∧ (Op.equalIn d t x y).run P w = .ok b w

theorem run_eqFields {d : Nat} {g : TypeId → Option (List (Nat × EK))} (hg : ∀ t off l, eqPart P t off (g t) = some l → EqPartOk P w d t off l) :
    ∀ (fs : List Field) (l : List (Nat × EK)) (xs ys : Array Value) (b : Bool), eqFs P g fs = some l → eqVs l xs.toList ys.toList = some b → (Op.eqFields d xs ys fs).run P w = .ok b w
  | [], l, xs, ys, b, h, hb => by
    simp only [eqFs] at h; cases h
    simp only [eqVs] at hb; cases hb
    rfl
  | f :: fs, l, xs, ys, b, h, hb => by
    simp only [eqFs] at h
    split at h
    · rename_i hn
      simp only [Op.eqFields, Sem.run_ite, if_neg (fun hh : f.name ≠ "_" => hh hn)]
      exact run_eqFields hg fs l xs ys b h hb
    · rename_i hn
      split at h
      · rename_i a c h1 h2
        cases h
        obtain ⟨ba, bc, g1, g2, rfl⟩ := eqVs_append hb
        obtain ⟨x, y, k1, k2, k3⟩ := hg _ _ _ h1 xs ys ba g1
        simp only [Op.eqFields, Sem.run_ite, if_pos (show f.name ≠ "_" from hn), Sem.run_bind, k1, k2, k3, Result.andThen_ok]
        cases ba
        · simp
        · simpa using run_eqFields hg fs c xs ys bc h2 g2
      · cases h

theorem run_eqElems {d e sz : Nat} {pl : Option (List (Nat × EK))} (hg : ∀ off l, eqPart P e off pl = some l → EqPartOk P w d e off l) (xs ys : Array Value) :
    ∀ (is : List Nat) (l : List (Nat × EK)) (b : Bool), eqEs P e sz pl is = some l → eqVs l xs.toList ys.toList = some b →
    (forIn is ((none, ()) : Option Bool × Unit) (fun i _ => do
      let a ← part e xs (i * sz)
      let c ← part e ys (i * sz)
      let r ← Op.equalIn d e a c
      if (!r) = true then pure (ForInStep.done (some false, ())) else pure (ForInStep.yield (none, ()))) : Sem (Option Bool × Unit)).run P w = .ok (if b then (none, ()) else (some false, ())) w
  | [], l, b, h, hb => by
    simp only [eqEs] at h; cases h
    simp only [eqVs] at hb; cases hb
    simp
  | i :: is, l, b, h, hb => by
    simp only [eqEs] at h
    split at h
    · rename_i a c h1 h2
      cases h
      obtain ⟨ba, bc, g1, g2, rfl⟩ := eqVs_append hb
      obtain ⟨x, y, k1, k2, k3⟩ := hg _ _ h1 xs ys ba g1
      simp only [List.forIn_cons, Sem.run_bind, k1, k2, k3, Result.andThen_ok]
      cases ba
      · simp
      · simpa using run_eqElems hg xs ys is c bc h2 g2
    · cases h

theorem run_equalIn_arr {d t n e sz : Nat} {xs ys : Array Value} (ht : P.underlying t = some (.array n e)) (hs : tSz P e = some sz) {pl : Option (List (Nat × EK))} (hg : ∀ off l, eqPart P e off pl = some l → EqPartOk P w d e off l) {l : List (Nat × EK)} {b : Bool}
    (hl : eqEs P e sz pl (List.range n) = some l) (hb : eqVs l xs.toList ys.toList = some b) : (Op.equalIn (d + 1) t (.agg xs) (.agg ys)).run P w = .ok b w := by
  have := run_eqElems hg xs ys _ _ _ hl hb
  rw [Op.equalIn]
  simp only [Sem.run_bind, run_underlying' ht, Result.andThen_ok, run_sizeOf' hs]
  simp only [Std.Legacy.Range.forIn_eq_forIn_range', Std.Legacy.Range.size]
  simp only [Nat.sub_zero, Nat.add_sub_cancel, Nat.div_one]
  rw [← List.range_eq_range']
  rw [this]
  cases b <;> simp

theorem eq_scalar {d : Nat} {t : TypeId} {k : EK} (ht : (match k with | .int k => P.underlying t = some (.int k) | .bool => P.underlying t = some .bool | .str => P.underlying t = some .string)) {x y : Value} {b : Bool} (h : eqVv k x y = some b) :
    (Op.equalIn (d + 1) t x y).run P w = .ok b w := by
  unfold eqVv at h
  split at h
  · split at h
    · rename_i hk
      cases h
      obtain ⟨rfl, rfl⟩ := hk
      rw [run_equalIn_int w d t _ _ _ _ ht, beq_dec]
    · cases h
  · cases h
    rw [run_equalIn_bool d ht]
  · cases h
    rw [run_equalIn_string w d t _ _ ht]
  · cases h

theorem part_at {t off n : Nat} {g : Bool} (hg : tAgg P t = some g) (hn : tSz P t = some n) {l : List (Nat × EK)} (hi : eqIn n l = true) {d : Nat}
    (h1 : g = true → ∀ (xs ys : Array Value) (b : Bool), eqVs l xs.toList ys.toList = some b → (Op.equalIn d t (.agg xs) (.agg ys)).run P w = .ok b w)
    (h2 : g = false → ∃ k, l = [(0, k)] ∧ ∀ x y b, eqVv k x y = some b → (Op.equalIn d t x y).run P w = .ok b w) : EqPartOk P w d t off (eqShift off l) := by
  intro xs ys b hb
  cases g with
  | true =>
    refine ⟨_, _, by simp [part, run_isAgg' hg, run_sizeOf' hn]; rfl, by simp [part, run_isAgg' hg, run_sizeOf' hn]; rfl, h1 rfl _ _ b ?_⟩
    have := eqVs_shift hi hb
    simpa [List.extract_eq_take_drop] using this
  | false =>
    obtain ⟨k, rfl, h3⟩ := h2 rfl
    simp only [eqShift] at hb
    obtain ⟨x, y, a, c, g1, g2, g3, g4, rfl⟩ := eqVs_cons hb
    simp only [eqVs] at g4
    cases g4
    simp only [Nat.add_zero, Array.getElem?_toList] at g1 g2
    refine ⟨x, y, by simp [part, run_isAgg' hg, g1], by simp [part, run_isAgg' hg, g2], ?_⟩
    rw [Bool.and_true]
    exact h3 x y a g3

theorem eqPart_of {t off : Nat} {pl : Option (List (Nat × EK))} {l : List (Nat × EK)} (h : eqPart P t off pl = some l) : ∃ l0 n, pl = some l0 ∧ tSz P t = some n ∧ eqIn n l0 = true ∧ l = eqShift off l0 := by
  unfold eqPart at h
  split at h
  · split at h
    · rename_i l0 n hn hi
      cases h
      exact ⟨l0, n, rfl, hn, hi, rfl⟩
    · cases h
  · cases h

/-- What a plan stands for. -/
def PlanOk (P : Program) (w : World) (d : Nat) (t : TypeId) (l : List (Nat × EK)) : Prop :=
  (tAgg P t = some true ∧ ∀ (xs ys : Array Value) (b : Bool), eqVs l xs.toList ys.toList = some b → (Op.equalIn d t (.agg xs) (.agg ys)).run P w = .ok b w) ∨
  (tAgg P t = some false ∧ ∃ k, l = [(0, k)] ∧ ∀ x y b, eqVv k x y = some b → (Op.equalIn d t x y).run P w = .ok b w)
theorem PlanOk.part {d t : Nat} {l : List (Nat × EK)} (h : PlanOk P w d t l) {off n : Nat} (hn : tSz P t = some n) (hi : eqIn n l = true) : EqPartOk P w d t off (eqShift off l) := by
  rcases h with ⟨h1, h2⟩ | ⟨h1, h2⟩
  · exact part_at h1 hn hi (fun _ => h2) (fun h => by cases h)
  · exact part_at h1 hn hi (fun h => by cases h) (fun _ => h2)

theorem plan_ok : ∀ (d e : Nat) (t : TypeId) (l : List (Nat × EK)), eqPlan P d t = some l → d ≤ e → PlanOk P w e t l
  | 0, _, _, _, h, _ => by simp only [eqPlan] at h; cases h
  | d + 1, e, t, l, h, hd => by
    obtain ⟨e, rfl⟩ : ∃ e', e = e' + 1 := ⟨e - 1, by omega⟩
    have hd : d ≤ e := by omega
    have hsub : ∀ t off l, eqPart P t off (eqPlan P d t) = some l → EqPartOk P w e t off l := fun t off l hp => by
      obtain ⟨l0, n, h1, h2, h3, rfl⟩ := eqPart_of hp
      exact (plan_ok d e t l0 h1 hd).part h2 h3
    simp only [eqPlan] at h
    split at h
    · rename_i k hu
      cases h
      exact .inr ⟨by simp [tAgg, hu], _, rfl, fun x y b hb => eq_scalar hu hb⟩
    · rename_i hu
      cases h
      exact .inr ⟨by simp [tAgg, hu], _, rfl, fun x y b hb => eq_scalar hu hb⟩
    · rename_i hu
      cases h
      exact .inr ⟨by simp [tAgg, hu], _, rfl, fun x y b hb => eq_scalar hu hb⟩
    · rename_i fs hu
      split at h
      · cases h
      · rename_i hp
        refine .inl ⟨by simp [tAgg, hu], fun xs ys b hb => ?_⟩
        have hf : P.fieldsOf t = fs := by simp [Program.fieldsOf, hu]
        rw [run_equalIn_struct w e t xs ys (by rw [hf]; exact hu) (by simpa using hp), hf]
        exact run_eqFields hsub _ _ _ _ _ h hb
    · rename_i n el hu
      split at h
      · rename_i sz hs
        refine .inl ⟨by simp [tAgg, hu], fun xs ys b hb => ?_⟩
        exact run_equalIn_arr hu hs (fun off l hp => hsub el off l hp) h hb
      · cases h
    · cases h

theorem eqC_v {k : EK} {x y : AV} {u v : Value} {b : Bool} (h : eqC k x y = some b) (hx : VR m w im x u) (hy : VR m w im y v) : eqVv k u v = some b := by
  unfold eqC at h
  split at h <;> first | (cases h; done) | (simp only [VR] at hx hy; subst hx; subst hy; exact h)

theorem eqC_undef {k : EK} {y : AV} {b : Bool} : ¬ eqC k (.raw undef) y = some b := by
  unfold eqC undef; split <;> simp_all
theorem eqC_undef' {k : EK} {x : AV} {b : Bool} : ¬ eqC k x (.raw undef) = some b := by
  unfold eqC undef; split <;> simp_all

theorem lget_some {xs : List AV} {us : List Value} (h : VRs m w im xs us) {i : Nat} : lget xs i = .raw undef ∨ ∃ u, us[i]? = some u ∧ VR m w im (lget xs i) u := by
  induction xs generalizing us i with
  | nil => exact .inl rfl
  | cons x xs ih =>
    cases us with
    | nil => simp only [VRs] at h
    | cons u us =>
      simp only [VRs] at h
      cases i with
      | zero => exact .inr ⟨u, by simp, h.1⟩
      | succ i => simpa [lget] using ih h.2 (i := i)

theorem eqBy_v {l : List (Nat × EK)} {xs ys : List AV} {us vs : List Value} (hx : VRs m w im xs us) (hy : VRs m w im ys vs) {b : Bool} (h : eqBy l xs ys = some b) : eqVs l us vs = some b := by
  induction l generalizing b with
  | nil => exact h
  | cons p l ih =>
    obtain ⟨i, k⟩ := p
    simp only [eqBy] at h
    split at h
    · rename_i a c h1 h2
      cases h
      rcases lget_some hx (i := i) with e | ⟨u, g1, g2⟩
      · rw [e] at h1; exact (eqC_undef h1).elim
      rcases lget_some hy (i := i) with e | ⟨v, g3, g4⟩
      · rw [e] at h1; exact (eqC_undef' h1).elim
      simp only [eqVs, g1, g3, ih h2, eqC_v h1 g2 g4]
    · cases h

theorem run_eqReq {op : BinOp} {t : TypeId} {x y : Value} {r : Option Bool} {c : Bool} {v : AV} (h : eqReq op r = .val c v) (hb : ∀ op', (binOp op' t x y).run P w = match op' with
      | .eql => (do pure (.bool (← Op.equal t x y)) : Sem Value).run P w
      | .neq => (do pure (.bool (!(← Op.equal t x y))) : Sem Value).run P w
      | _ => (binOp op' t x y).run P w) (he : ∀ b, r = some b → (Op.equal t x y).run P w = .ok b w) :
    ∃ u, (binOp op t x y).run P w = .ok u w ∧ VR m w im v u := by
  unfold eqReq at h
  split at h
  · injection h with _ h2; subst h2
    refine ⟨_, ?_, VR_bool⟩
    rw [hb]
    simp only [Sem.run_bind, he _ rfl, Result.andThen_ok, Sem.run_pure]
  · injection h with _ h2; subst h2
    refine ⟨_, ?_, VR_bool⟩
    rw [hb]
    simp only [Sem.run_bind, he _ rfl, Result.andThen_ok, Sem.run_pure]
  · cases h
theorem ptr_of {t : Nat} (h : tPtr P t = true) : ∃ e, P.underlying t = some (.pointer e) := by
  unfold tPtr at h
  split at h
  · rename_i e hu; exact ⟨e, hu⟩
  · cases h
theorem fun_of {t : Nat} (h : tFun P t = true) : ∃ a b c, P.underlying t = some (.func a b c) := by
  unfold tFun at h
  split at h
  · rename_i a b c hu; exact ⟨a, b, c, hu⟩
  · cases h
theorem eqGuard_ptr {op : BinOp} {t : TypeId} {x y : Operand} {a b : Option Addr} : (eqGuard op t x y (.pointer a) (.pointer b)).run P w = .ok () w := by
  unfold eqGuard; split <;> simp
theorem eqGuard_nilf {op : BinOp} {t : TypeId} {x y : Operand} {v : Value} : (eqGuard op t x y v .nilFunc).run P w = .ok () w := by
  unfold eqGuard; split <;> simp
theorem eqGuard_slc {op : BinOp} {t : TypeId} {x y : Operand} {a b : Option Addr} {n n' c c' : Nat} : (eqGuard op t x y (.slice a n c) (.slice b n' c')).run P w = .ok () w := by
  unfold eqGuard; split <;> simp
theorem run_equal_ptr {t e : Nat} (h : P.underlying t = some (.pointer e)) {a : Option Addr} : (Op.equal t (.pointer a) (.pointer none)).run P w = .ok a.isNone w := by
  show (Op.equalIn (9999 + 1) t _ _).run P w = _
  rw [Op.equalIn]
  simp only [Sem.run_bind, run_underlying' h, Result.andThen_ok]
  cases a <;> rfl
theorem run_equal_nilf {t : Nat} (h : tFun P t = true) {f : _} {a b : Array Value} : (Op.equal t (.func f a b) .nilFunc).run P w = .ok false w := by
  obtain ⟨x, y, z, h⟩ := fun_of h
  show (Op.equalIn (9999 + 1) t _ _).run P w = _
  rw [Op.equalIn]
  simp only [Sem.run_bind, run_underlying' h, Result.andThen_ok]
  rfl
theorem run_equal_nilf' {t : Nat} (h : tFun P t = true) : (Op.equal t .nilFunc .nilFunc).run P w = .ok true w := by
  obtain ⟨x, y, z, h⟩ := fun_of h
  show (Op.equalIn (9999 + 1) t _ _).run P w = _
  rw [Op.equalIn]
  simp only [Sem.run_bind, run_underlying' h, Result.andThen_ok]
  rfl
theorem run_equal_slc {t e : Nat} (h : tSlc P t = some e) {a : Option Addr} {n c n' c' : Nat} : (Op.equal t (.slice a n c) (.slice none n' c')).run P w = .ok a.isNone w := by
  show (Op.equalIn (9999 + 1) t _ _).run P w = _
  rw [Op.equalIn]
  simp only [Sem.run_bind, run_underlying' (slc_of h), Result.andThen_ok]
  cases a <;> rfl

theorem bin_sound {op : BinOp} {t : TypeId} {x y : AV} {c : Bool} {v : AV} {vx vy : Value} (h : bin P op t x y = .val c v) (hc : c = true) (hx : VR m w im x vx) (hy : VR m w im y vy) (ox oy : Operand) :
    ∃ u, (do eqGuard op t ox oy vx vy; binOp op t vx vy : Sem Value).run P w = .ok u w ∧ VR m w im v u := by
  unfold bin at h
  split at h
  · -- integers
    simp only [VR] at hx hy
    subst hx; subst hy
    simp only [Sem.run_bind, eqGuard_int, Result.andThen_ok]
    split at h
    · injection h with h1 h2
      subst h1; subst h2
      simp at hc
      refine ⟨_, ?_, VR_int⟩
      simp [binOp, Op.shift, Int.not_lt.2 hc]
    · injection h with h1 h2
      subst h1; subst h2
      simp at hc
      refine ⟨_, ?_, VR_int⟩
      simp [binOp, Op.shift, Int.not_lt.2 hc]
    · split at h
      · rename_i hk
        subst hk
        exact ibin_sound h hc
      · cases h
  · -- bools
    rename_i a b
    simp only [VR] at hx hy
    subst hx; subst hy
    simp only [Sem.run_bind, eqGuard_bool, Result.andThen_ok]
    split at h
    · rename_i ht
      injection h with h1 h2
      subst h2
      exact ⟨_, run_eql_bool (bool_of ht), VR_bool⟩
    · rename_i ht
      injection h with h1 h2
      subst h2
      exact ⟨_, run_neq_bool (bool_of ht), VR_bool⟩
    · cases h
  · -- strings
    rename_i a b
    simp only [VR] at hx hy
    subst hx; subst hy
    simp only [Sem.run_bind, eqGuard_string, Result.andThen_ok]
    unfold strBin at h
    split at h
    · injection h with h1 h2; subst h1; subst h2
      refine ⟨_, ?_, VR_raw⟩
      simp at hc
      have : ¬ ((a.size + b.size : Nat) : Int) > IntKind.i64.max := by
        simp [IntKind.max, IntKind.signed, IntKind.bits]; omega
      simp [binOp, Op.stringOp]
      simp at this
      omega
    · injection h with h1 h2; subst h2
      exact ⟨_, by simp [binOp, Op.stringOp], VR_bool⟩
    · injection h with h1 h2; subst h2
      exact ⟨_, by simp [binOp, Op.stringOp], VR_bool⟩
    · cases h
  · -- aggregates
    simp only [VR] at hx hy
    obtain ⟨us, rfl, hx⟩ := hx
    obtain ⟨vs, rfl, hy⟩ := hy
    split at h
    · rename_i pl hag hpl
      unfold tEq at hpl
      split at hpl
      · cases hpl
      · rename_i hg
        simp only [Sem.run_bind, run_eqGuard_agg w op t ox oy _ _ (by simpa using hg), Result.andThen_ok]
        rcases plan_ok (w := w) 6 10000 t pl hpl (by decide) with ⟨_, hok⟩ | ⟨hag', _⟩
        · exact run_eqReq h (fun op' => by cases op' <;> rfl) fun b hb => hok _ _ b (by simpa using eqBy_v hx hy hb)
        · rw [hag] at hag'; cases hag'
    · cases h
  · -- a pointer and nil
    simp only [VR] at hx hy
    obtain ⟨r, _, rfl⟩ := hx
    subst hy
    split at h
    · rename_i ht
      skip
      simp only [Sem.run_bind, eqGuard_ptr, Result.andThen_ok]
      exact run_eqReq h (fun op' => by cases op' <;> rfl) fun b hb => by
        cases hb
        exact (ptr_of ht).elim fun e he => run_equal_ptr he
    · cases h
  · -- a pointer that stays and nil
    simp only [VR] at hx hy
    obtain ⟨r, off, us, _, rfl, _⟩ := hx
    subst hy
    split at h
    · rename_i ht
      skip
      simp only [Sem.run_bind, eqGuard_ptr, Result.andThen_ok]
      exact run_eqReq h (fun op' => by cases op' <;> rfl) fun b hb => by
        cases hb
        exact (ptr_of ht).elim fun e he => run_equal_ptr he
    · cases h
  · -- nil and nil
    simp only [VR] at hx hy
    subst hx
    subst hy
    split at h
    · rename_i ht
      skip
      simp only [Sem.run_bind, eqGuard_ptr, Result.andThen_ok]
      exact run_eqReq h (fun op' => by cases op' <;> rfl) fun b hb => by
        cases hb
        exact (ptr_of ht).elim fun e he => run_equal_ptr he
    · cases h
  · -- a function and nil
    simp only [VR] at hx hy
    obtain ⟨us, rfl, _⟩ := hx
    subst hy
    split at h
    · rename_i ht
      skip
      simp only [Sem.run_bind, eqGuard_nilf, Result.andThen_ok]
      exact run_eqReq h (fun op' => by cases op' <;> rfl) fun b hb => by
        cases hb
        exact run_equal_nilf ht
    · cases h
  · -- no function and nil
    simp only [VR] at hx hy
    subst hx
    subst hy
    split at h
    · rename_i ht
      skip
      simp only [Sem.run_bind, eqGuard_nilf, Result.andThen_ok]
      exact run_eqReq h (fun op' => by cases op' <;> rfl) fun b hb => by
        cases hb
        exact run_equal_nilf' ht
    · cases h
  · -- a slice and nil
    simp only [VR] at hx hy
    obtain ⟨r, _, rfl⟩ := hx
    subst hy
    split at h
    · rename_i ht
      skip
      simp only [Sem.run_bind, eqGuard_slc, Result.andThen_ok]
      exact run_eqReq h (fun op' => by cases op' <;> rfl) fun b hb => by
        cases hb
        exact run_equal_slc ht
    · cases h
  · -- no slice and nil
    simp only [VR] at hx hy
    subst hx
    subst hy
    split at h
    · rename_i ht
      skip
      simp only [Sem.run_bind, eqGuard_slc, Result.andThen_ok]
      exact run_eqReq h (fun op' => by cases op' <;> rfl) fun b hb => by
        cases hb
        exact run_equal_slc ht
    · cases h
  · cases h

theorem un_sound {op : UnOp} {x : AV} {c : Bool} {v : AV} {vx : Value} (h : un op x = .val c v) (hx : VR m w im x vx) : ∃ u, (Op.unary op vx).run P w = .ok u w ∧ VR m w im v u := by
  unfold un at h
  split at h
  · injection h with h1 h2; subst h2
    simp only [VR] at hx; subst hx
    exact ⟨_, by simp only [Op.unary, Op.intArith]; rfl, VR_int⟩
  · injection h with h1 h2; subst h2
    simp only [VR] at hx; subst hx
    exact ⟨_, by simp only [Op.unary, Op.intBits, ibits]; rfl, VR_int⟩
  · injection h with h1 h2; subst h2
    simp only [VR] at hx; subst hx
    exact ⟨_, by simp only [Op.unary]; rfl, VR_bool⟩
  · cases h

theorem partA_sound {t : TypeId} {cs : List AV} {us : List Value} {off : Nat} {c : Bool} {v : AV} (h : partA P t cs off = .val c v) (hc : c = true) (hv : VRs m w im cs us) :
    ∃ u, (part t us.toArray off).run P w = .ok u w ∧ VR m w im v u := by
  unfold partA at h
  split at h
  · rename_i n ha hz
    injection h with h1 h2; subst h2
    refine ⟨.agg ((us.drop off).take n).toArray, ?_, ?_⟩
    · simp [part, run_isAgg' ha, run_sizeOf' hz, List.extract_eq_take_drop]
    · simp only [VR]
      exact ⟨_, rfl, (hv.drop off).take n⟩
  · rename_i ha
    injection h with h1 h2; subst h1; subst h2
    simp at hc
    have hlt : off < us.length := by rw [← hv.length]; exact hc
    refine ⟨us[off], ?_, ?_⟩
    · simp [part, run_isAgg' ha, hlt]
    · have := hv.lget off
      simpa [hlt] using this
  · cases h

theorem zeroCell_lt {us : List Value} {cs : List AV} (hv : VRs m w im cs us) {i : Nat} (h : i < cs.length) : ∃ u, us[i]? = some u ∧ VR m w im (lget cs i) u := by
  have hlt : i < us.length := by rw [← hv.length]; exact h
  refine ⟨us[i], List.getElem?_eq_getElem hlt, ?_⟩
  have := hv.lget i
  simpa [hlt] using this

theorem idxA_sound {t : TypeId} {x i : AV} {c : Bool} {v : AV} {vx vi : Value} (h : idxA P t x i = .val c v) (hc : c = true) (hx : VR m w im x vx) (hi : VR m w im i vi) :
    ∃ u, (Instr.indexAt t vx vi).run P w = .ok u w ∧ VR m w im v u := by
  unfold idxA at h
  split at h
  · rename_i k n
    simp only [VR] at hi
    subst hi
    split at h
    · rename_i len e ht
      have hu := arr_of ht
      split at h
      · rename_i sz b off hz
        injection h with h1 h2; subst h1; subst h2
        simp at hc
        simp only [VR] at hx
        obtain ⟨r, hm, rfl⟩ := hx
        refine ⟨.pointer (some ⟨r, off + n.toNat * sz, none⟩), ?_, by simp only [VR]; exact ⟨r, hm, rfl⟩⟩
        simp [Instr.indexAt, asIntOf, run_underlying' hu, Instr.sureAddr, hc, run_sizeOf' hz, add_none]
      · rename_i sz cs hz
        injection h with h1 h2; subst h1; subst h2
        simp at hc
        simp only [VR] at hx
        obtain ⟨r, off, us, hm, rfl, hv, hr⟩ := hx
        refine ⟨.pointer (some ⟨r, off + n.toNat * sz, none⟩), ?_, by simp only [VR]; exact ⟨r, _, _, hm, rfl, hv.drop _, hr.drop _⟩⟩
        simp [Instr.indexAt, asIntOf, run_underlying' hu, Instr.sureAddr, hc, run_sizeOf' hz, add_none]
      · cases h
    · split at h
      · rename_i e ht
        have hu := slc_of ht
        split at h
        · rename_i sz b off len cap hz
          injection h with h1 h2; subst h1; subst h2
          simp at hc
          simp only [VR] at hx
          obtain ⟨r, hm, rfl⟩ := hx
          refine ⟨.pointer (some ⟨r, off + n.toNat * sz, none⟩), ?_, by simp only [VR]; exact ⟨r, hm, rfl⟩⟩
          simp [Instr.indexAt, asIntOf, run_underlying' hu, hc, run_sizeOf' hz, add_none]
        · rename_i sz len cs hz
          injection h with h1 h2; subst h1; subst h2
          simp at hc
          simp only [VR] at hx
          rcases hx with ⟨h0, _, _⟩ | ⟨r, off, cap, us, ⟨hm, _⟩, rfl, hv, hr⟩
          · omega
          · refine ⟨.pointer (some ⟨r, off + n.toNat * sz, none⟩), ?_, by simp only [VR]; exact ⟨r, _, _, hm, rfl, hv.drop _, hr.drop _⟩⟩
            simp [Instr.indexAt, asIntOf, run_underlying' hu, hc, run_sizeOf' hz, add_none]
        · cases h
      · cases h
  · cases h

theorem idxV_sound {t : TypeId} {x i : AV} {c : Bool} {v : AV} {vx vi : Value} (h : idxV P t x i = .val c v) (hc : c = true) (hx : VR m w im x vx) (hi : VR m w im i vi) :
    ∃ u, (Instr.index t vx vi).run P w = .ok u w ∧ VR m w im v u := by
  unfold idxV at h
  split at h
  · rename_i k n
    simp only [VR] at hi
    subst hi
    split at h
    · rename_i cs
      simp only [VR] at hx
      obtain ⟨us, rfl, hv⟩ := hx
      split at h
      · rename_i len e ht
        have hu := arr_of ht
        split at h
        · rename_i sz ha hz
          injection h with h1 h2; subst h1; subst h2
          simp at hc
          refine ⟨.agg ((us.drop (n.toNat * sz)).take sz).toArray, ?_, by simp only [VR]; exact ⟨_, rfl, (hv.drop _).take _⟩⟩
          simp [Instr.index, asIntOf, run_underlying' hu, hc, run_sizeOf' hz, part, run_isAgg' ha, List.extract_eq_take_drop]
        · rename_i sz ha hz
          injection h with h1 h2; subst h1; subst h2
          simp at hc
          obtain ⟨u, h1, h2⟩ := zeroCell_lt hv hc.2.2
          refine ⟨u, ?_, h2⟩
          simp [Instr.index, asIntOf, run_underlying' hu, hc, run_sizeOf' hz, part, run_isAgg' ha, h1]
        · cases h
      · cases h
    · rename_i s
      split at h
      · rename_i ht
        injection h with h1 h2; subst h1; subst h2
        simp at hc
        simp only [VR] at hx
        subst hx
        have hlt : n.toNat < s.data.size := hc.2
        refine ⟨_, ?_, VR_int⟩
        have hg : s[n.toNat]? = some (s.data.getD n.toNat 0) := by
          rw [getElem?_pos s n.toNat hc.2]
          congr 1
          rw [Array.getD_eq_getD_getElem?, Array.getElem?_eq_getElem hlt]
          rfl
        simp [Instr.index, asIntOf, run_underlying' (str_of ht), hc.1, hg]
      · cases h
    · cases h
  · cases h

end
end Go.Ev
