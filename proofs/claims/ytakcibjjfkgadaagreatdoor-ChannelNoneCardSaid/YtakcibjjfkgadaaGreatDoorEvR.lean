/- Plain data that came in, and plain package variables: what they are as values of the abstract run. -/
import Derived.Test.YtakcibjjfkgadaaGreatDoorEvN
import Derived.ProofKit
set_option linter.unusedVariables false
set_option linter.unusedSimpArgs false
namespace Go.Ev

/-- The cells of a type of plain data, in their order. -/
def kindFs (P : Program) (g : TypeId → Option (List EK)) : Nat → List Field → Option (List EK)
  | off, [] => if off = 0 then some [] else none
  | off, f :: fs => match g f.type with
    | some a => if P.cellsOf f.type = a.length ∧ a.length ≤ off then match kindFs P g (off - a.length) fs with
      | some b => some (a ++ b)
      | none => none
      else none
    | none => none
def offsOk (P : Program) : Nat → List Field → Bool
  | _, [] => true
  | o, f :: fs => decide (f.offset = o) && offsOk P (o + P.cellsOf f.type) fs
def kindsT (P : Program) : Nat → TypeId → Option (List EK)
  | 0, _ => none
  | d + 1, t =>
    match P.underlying t with
    | some (.int k) => some [.int k]
    | some .bool => some [.bool]
    | some .string => some [.str]
    | some (.struct fs) => if offsOk P 0 fs.toList then kindFs P (kindsT P d) (P.cellsOf t) fs.toList else none
    | some (.array n e) => match kindsT P d e with
      | some a => if P.cellsOf e = a.length ∧ P.cellsOf t = n * a.length then some (List.replicate n a).flatten else none
      | none => none
    | _ => none

def KindOk : EK → Value → Prop
  | .int k, v => ∃ n, v = .int k n ∧ (Lit.int k n).wf = true
  | .bool, v => ∃ b, v = .bool b
  | .str, v => ∃ s : ByteArray, v = .string s ∧ s.size ≤ maxLen
def KindsOk : List EK → List Value → Prop
  | [], [] => True
  | k :: ks, v :: vs => KindOk k v ∧ KindsOk ks vs
  | _, _ => False
theorem KindsOk.append : ∀ {a b : List EK} {x y : List Value}, KindsOk a x → KindsOk b y → KindsOk (a ++ b) (x ++ y)
  | [], _, [], _, _, h => h
  | k :: a, _, v :: x, _, h, h' => ⟨h.1, KindsOk.append h.2 h'⟩
  | [], _, _ :: _, _, h, _ => h.elim
  | _ :: _, _, [], _, h, _ => h.elim
theorem KindsOk.length : ∀ {a : List EK} {x : List Value}, KindsOk a x → a.length = x.length
  | [], [], _ => rfl
  | _ :: _, _ :: _, h => by simp [KindsOk.length h.2]
  | [], _ :: _, h => h.elim
  | _ :: _, [], h => h.elim

mutual
/-- The cells that plain data stand for. -/
def flatV {H : Type} : DataW H → List Value
  | .lit (.int k n) => [.int k n]
  | .lit (.bool b) => [.bool b]
  | .lit (.string s) => [.string ⟨s.toArray⟩]
  | .agg ds => flatVs ds
  | _ => []
def flatVs {H : Type} : List (DataW H) → List Value
  | [] => []
  | d :: ds => flatV d ++ flatVs ds
end

section
variable {H : Type} {enc : TypeId × Value → H} {P : Program} {base : Nat} {sp : Nat → Bool} {held : Bool}

/-- What is to be known of a reading of plain data. -/
def FlatOk (enc : TypeId × Value → H) (P : Program) (base : Nat) (sp : Nat → Bool) (held : Bool) (fuel : Nat) (t : TypeId) (ks : List EK) (cs : List Value) (x : DataW H × List MemPlace) : Prop :=
  x.2 = [] ∧ cs = flatV x.1 ∧ KindsOk ks cs ∧ ∀ w' sp', DataW.trod enc P w' base sp' held fuel t cs = some x

theorem mapM_fs {w : World} {fuel : Nat} {g : TypeId → Option (List EK)} (hg : ∀ t ks cs x, g t = some ks → DataW.trod enc P w base sp held fuel t cs = some x → FlatOk enc P base sp held fuel t ks cs x) (cs : List Value) :
    ∀ (fs : List Field) (o n : Nat) (ks : List EK) (xs : List (DataW H × List MemPlace)), offsOk P o fs = true → kindFs P g n fs = some ks → cs.length = o + n →
    fs.mapM (fun f => DataW.trod enc P w base sp held fuel f.type ((cs.drop f.offset).take (P.cellsOf f.type))) = some xs →
    xs.flatMap (·.2) = [] ∧ cs.drop o = flatVs (xs.map (·.1)) ∧ KindsOk ks (cs.drop o) ∧ ∀ w' sp', fs.mapM (fun f => DataW.trod enc P w' base sp' held fuel f.type ((cs.drop f.offset).take (P.cellsOf f.type))) = some xs
  | [], o, n, ks, xs, ho, hk, hl, h => by
    simp only [kindFs] at hk
    split at hk
    · rename_i hn
      cases hk
      simp only [List.mapM_nil] at h
      cases h
      have : cs.drop o = [] := List.drop_of_length_le (by omega)
      rw [this]
      exact ⟨rfl, rfl, trivial, fun _ _ => rfl⟩
    · cases hk
  | f :: fs, o, n, ks, xs, ho, hk, hl, h => by
    simp only [offsOk, Bool.and_eq_true, decide_eq_true_eq] at ho
    obtain ⟨ho1, ho2⟩ := ho
    simp only [kindFs] at hk
    split at hk
    · rename_i a ha
      split at hk
      · rename_i hc
        split at hk
        · rename_i b hb
          cases hk
          simp only [List.mapM_cons, Option.bind_eq_bind, Option.bind_eq_some_iff, Option.pure_def, Option.some.injEq] at h
          obtain ⟨y, hy, ys, hys, rfl⟩ := h
          obtain ⟨h1, h2, h3, h4⟩ := hg _ _ _ _ ha hy
          obtain ⟨g1, g2, g3, g4⟩ := mapM_fs hg cs fs (o + P.cellsOf f.type) (n - a.length) b ys ho2 hb (by omega) hys
          have hsplit : cs.drop o = (cs.drop f.offset).take (P.cellsOf f.type) ++ cs.drop (o + P.cellsOf f.type) := by
            rw [ho1, ← List.drop_drop, List.take_append_drop]
          refine ⟨by simp [h1, g1], ?_, ?_, fun w' sp' => ?_⟩
          · rw [hsplit, h2, g2]; rfl
          · rw [hsplit]; exact h3.append g3
          · simp only [List.mapM_cons, h4 w' sp', Option.bind_eq_bind, Option.bind_some, g4 w' sp', Option.pure_def]
        · cases hk
      · cases hk
    · cases hk

theorem mapM_es {w : World} {fuel e sz : Nat} {a : List EK} (hg : ∀ cs x, DataW.trod enc P w base sp held fuel e cs = some x → FlatOk enc P base sp held fuel e a cs x) (ha : sz = a.length) (cs : List Value) :
    ∀ (n o : Nat) (xs : List (DataW H × List MemPlace)), cs.length = (o + n) * sz →
    (List.range' o n).mapM (fun i => DataW.trod enc P w base sp held fuel e ((cs.drop (i * sz)).take sz)) = some xs →
    xs.flatMap (·.2) = [] ∧ cs.drop (o * sz) = flatVs (xs.map (·.1)) ∧ KindsOk (List.replicate n a).flatten (cs.drop (o * sz)) ∧ ∀ w' sp', (List.range' o n).mapM (fun i => DataW.trod enc P w' base sp' held fuel e ((cs.drop (i * sz)).take sz)) = some xs
  | 0, o, xs, hl, h => by
    simp only [List.range'_zero, List.mapM_nil] at h
    cases h
    have : cs.drop (o * sz) = [] := List.drop_of_length_le (by rw [hl]; simp)
    rw [this]
    exact ⟨rfl, rfl, trivial, fun _ _ => rfl⟩
  | n + 1, o, xs, hl, h => by
    simp only [List.range'_succ, List.mapM_cons, Option.bind_eq_bind, Option.bind_eq_some_iff, Option.pure_def, Option.some.injEq] at h
    obtain ⟨y, hy, ys, hys, rfl⟩ := h
    obtain ⟨h1, h2, h3, h4⟩ := hg _ _ hy
    obtain ⟨g1, g2, g3, g4⟩ := mapM_es hg ha cs n (o + 1) ys (by rw [hl]; congr 1; omega) hys
    have hsplit : cs.drop (o * sz) = (cs.drop (o * sz)).take sz ++ cs.drop ((o + 1) * sz) := by
      rw [show (o + 1) * sz = o * sz + sz from Nat.succ_mul o sz, ← List.drop_drop, List.take_append_drop]
    refine ⟨by simp [h1, g1], ?_, ?_, fun w' sp' => ?_⟩
    · rw [hsplit, h2, g2]; rfl
    · rw [hsplit, List.replicate_succ, List.flatten_cons]; exact h3.append g3
    · simp only [List.range'_succ, List.mapM_cons, h4 w' sp', Option.bind_eq_bind, Option.bind_some, g4 w' sp', Option.pure_def]

theorem trod_flat {w : World} : ∀ (d fuel : Nat) (t : TypeId) (ks : List EK) (cs : List Value) (x : DataW H × List MemPlace), kindsT P d t = some ks → DataW.trod enc P w base sp held fuel t cs = some x → FlatOk enc P base sp held fuel t ks cs x
  | 0, _, _, _, _, _, h, _ => by simp only [kindsT] at h; cases h
  | d + 1, 0, _, _, _, _, _, h => by simp [DataW.trod] at h
  | d + 1, fuel + 1, t, ks, cs, x, hk, h => by
    simp only [kindsT] at hk
    split at hk
    · rename_i k hu
      cases hk
      obtain ⟨n, rfl, rfl, hw⟩ := DataW.trod_int hu h
      refine ⟨rfl, rfl, ⟨⟨n, rfl, hw⟩, trivial⟩, fun w' sp' => ?_⟩
      simp [DataW.trod, hu, hw]
    · rename_i hu
      cases hk
      obtain ⟨b, rfl, rfl⟩ := DataW.trod_bool hu h
      refine ⟨rfl, rfl, ⟨⟨b, rfl⟩, trivial⟩, fun w' sp' => ?_⟩
      simp [DataW.trod, hu]
    · rename_i hu
      cases hk
      obtain ⟨s, rfl, rfl, hs⟩ := DataW.trod_string hu h
      refine ⟨rfl, ?_, ⟨⟨s, rfl, hs⟩, trivial⟩, fun w' sp' => ?_⟩
      · simp [flatV]
      · simp [DataW.trod, hu, hs]
    · rename_i fs hu
      split at hk
      · rename_i ho
        simp only [DataW.trod, hu] at h
        split at h
        · rename_i hl
          obtain ⟨xs, hm, hx⟩ := Option.map_eq_some_iff.1 h
          obtain ⟨g1, g2, g3, g4⟩ := mapM_fs (w := w) (fun t ks cs x => trod_flat d fuel t ks cs x) cs fs.toList 0 (P.cellsOf t) ks xs ho hk (by omega) hm
          subst hx
          refine ⟨g1, by simpa [flatV] using g2, by simpa using g3, fun w' sp' => ?_⟩
          simp only [DataW.trod, hu, if_pos hl, g4 w' sp', Option.map_some]
        · cases h
      · cases hk
    · rename_i n e hu
      split at hk
      · rename_i a ha
        split at hk
        · rename_i hc
          cases hk
          simp only [DataW.trod, hu] at h
          split at h
          · rename_i hl
            obtain ⟨xs, hm, hx⟩ := Option.map_eq_some_iff.1 h
            rw [List.range_eq_range'] at hm
            obtain ⟨g1, g2, g3, g4⟩ := mapM_es (w := w) (fun cs x => trod_flat d fuel e a cs x ha) hc.1 cs n 0 xs (by rw [Nat.zero_add, hc.1, ← hc.2]; exact hl) hm
            subst hx
            refine ⟨g1, by simpa [flatV] using g2, by simpa using g3, fun w' sp' => ?_⟩
            simp only [DataW.trod, hu, if_pos hl, List.range_eq_range', g4 w' sp', Option.map_some]
          · cases h
        · cases hk
      · cases hk
    · cases hk
end

/-! ### Package variables -/
theorem var_row {P : Program} {w : World} {name : String} {g : Nat} {cs : Array Value} (hg : P.globalNamed name = some g) (h : w.var? P name = some cs) : Row w g 0 cs.toList := by
  unfold World.var? at h
  rw [hg] at h
  simp only [Option.bind_some] at h
  split at h
  · rename_i hh
    cases h
    exact ⟨cs, _, _, hh, fun i u hu => by simpa using hu⟩
  · cases h

/-- A variable that is listed as plain data holds just these cells. -/
theorem laid_row {P : Program} {W : World} {name : String} {d : DataW Unit} {l : List (String × DataW Unit)} {g t dd : Nat} {ks : List EK} (hl : laidMet P l W) (hm : (name, d) ∈ l)
    (hg : P.globalNamed name = some g) (ht : (P.globals[g]?).map (·.type) = some t) (hk : kindsT P dd t = some ks) : Row W g 0 (flatV d) := by
  obtain ⟨ps, h, -⟩ := hl
  induction l generalizing ps with
  | nil => cases hm
  | cons x l ih =>
    obtain ⟨n, d0⟩ := x
    obtain ⟨g', t', cs, fuel, p, q, hg', ht', hv, hd, hr, _⟩ := h
    rcases List.mem_cons.1 hm with e | hm
    · cases e
      obtain rfl := Option.some.inj (hg.symm.trans hg')
      obtain rfl := Option.some.inj (ht.symm.trans ht')
      have := (trod_flat dd fuel t ks cs.toList _ hk hd).2.1
      rw [show flatV d = cs.toList from this.symm]
      exact var_row hg hv
    · exact ih hm q hr

/-! ### Arguments of plain data -/
section
open Go.ChangeShapes Go.WideShapes
variable {H : Type} {enc : TypeId × Value → H} {P : Program}
def ValOk (P : Program) (t : TypeId) (ks : List EK) (v : Value) : Prop :=
  (tAgg P t = some true ∧ ∃ cs, v = .agg cs ∧ KindsOk ks cs.toList) ∨ (tAgg P t = some false ∧ KindsOk ks [v])
theorem valOk_of {w : World} {base b0 d t : Nat} {sp : Nat → Bool} {held : Bool} {r : Reach} {ks : List EK} {v : Value} {x : DataW H} {p : List MemPlace} (hk : kindsT P d t = some ks) (hv : Value.okWide P w r b0 t v) (h : DataW.Trod enc P w base sp held t v x p) :
    ValOk P t ks v ∧ p = [] ∧ ∀ w' sp', DataW.Trod enc P w' base sp' held t v x [] := by
  obtain ⟨fuel, hf⟩ := h
  obtain ⟨h1, _, h3, h4⟩ := trod_flat d fuel t ks _ _ hk hf
  simp only at h1
  subst h1
  refine ⟨?_, rfl, fun w' sp' => ⟨fuel, h4 w' sp'⟩⟩
  cases d with
  | zero => simp only [kindsT] at hk; cases hk
  | succ d =>
    simp only [kindsT] at hk
    unfold Value.okWide at hv
    split at hk
    · rename_i k hu
      cases hk
      obtain ⟨n, rfl⟩ := okWide_int hu (by unfold Value.okWide; rw [hu] at hv ⊢; exact hv)
      exact .inr ⟨by simp [tAgg, hu], by simpa [Value.cells] using h3⟩
    · rename_i hu
      cases hk
      obtain ⟨n, rfl⟩ := okWide_bool hu (by unfold Value.okWide; rw [hu] at hv ⊢; exact hv)
      exact .inr ⟨by simp [tAgg, hu], by simpa [Value.cells] using h3⟩
    · rename_i hu
      cases hk
      obtain ⟨n, rfl⟩ := okWide_string hu (by unfold Value.okWide; rw [hu] at hv ⊢; exact hv)
      exact .inr ⟨by simp [tAgg, hu], by simpa [Value.cells] using h3⟩
    · rename_i fs hu
      rw [hu] at hv
      obtain ⟨cs, rfl, _⟩ := hv
      exact .inl ⟨by simp [tAgg, hu], cs, rfl, by simpa [Value.cells] using h3⟩
    · rename_i n e hu
      rw [hu] at hv
      obtain ⟨cs, rfl, _⟩ := hv
      exact .inl ⟨by simp [tAgg, hu], cs, rfl, by simpa [Value.cells] using h3⟩
    · cases hk
theorem in64_of_wf {n : Int} (h : (Lit.int .i64 n).wf = true) : In64 n := by
  simp only [Lit.wf, Bool.and_eq_true, decide_eq_true_eq, IntKind.min, IntKind.max, IntKind.bits, IntKind.signed] at h
  simp at h
  exact ⟨by omega, by omega⟩
theorem valInt {t : Nat} {v : Value} (h : ValOk P t [.int .i64] v) (ht : tAgg P t = some false) : ∃ n, v = .int .i64 n ∧ In64 n := by
  rcases h with ⟨h1, _⟩ | ⟨_, ⟨n, rfl, hw⟩, _⟩
  · rw [ht] at h1; cases h1
  · exact ⟨n, rfl, in64_of_wf hw⟩
theorem arr_of_list {α : Type} {a : Array α} {l : List α} (h : a.toList = l) : a = l.toArray := by
  subst h; rfl
theorem valV3 {t : Nat} {v : Value} (h : ValOk P t [.int .i64, .int .i64, .int .i64] v) (ht : tAgg P t = some true) : ∃ x : V3, v = .agg #[.int .i64 x.x, .int .i64 x.y, .int .i64 x.z] ∧ x.In64 := by
  rcases h with ⟨_, cs, rfl, hk⟩ | ⟨h1, _⟩
  · match hl : cs.toList, hk with
    | [a, b, c], ⟨⟨x, hx, wx⟩, ⟨y, hy, wy⟩, ⟨z, hz, wz⟩, _⟩ =>
      subst hx; subst hy; subst hz
      exact ⟨⟨x, y, z⟩, by rw [arr_of_list hl], in64_of_wf wx, in64_of_wf wy, in64_of_wf wz⟩
    | [], h => exact h.elim
    | [_], h => exact h.2.elim
    | [_, _], h => exact h.2.2.elim
    | _ :: _ :: _ :: _ :: _, h => exact h.2.2.2.elim
  · rw [ht] at h1; cases h1
theorem valS6 {t : Nat} {v : Value} (h : ValOk P t [.int .i64, .int .i64, .int .i64, .int .i64, .int .i64, .int .i64] v) (ht : tAgg P t = some true) :
    ∃ x : S6, v = .agg #[.int .i64 x.a, .int .i64 x.b, .int .i64 x.c, .int .i64 x.d, .int .i64 x.e, .int .i64 x.f] ∧ x.In64 := by
  rcases h with ⟨_, cs, rfl, hk⟩ | ⟨h1, _⟩
  · match hl : cs.toList, hk with
    | [_, _, _, _, _, _], ⟨⟨a, ha, wa⟩, ⟨b, hb, wb⟩, ⟨c, hc, wc⟩, ⟨d, hd, wd⟩, ⟨e, he, we⟩, ⟨f, hf, wf⟩, _⟩ =>
      subst ha; subst hb; subst hc; subst hd; subst he; subst hf
      exact ⟨⟨a, b, c, d, e, f⟩, by rw [arr_of_list hl], in64_of_wf wa, in64_of_wf wb, in64_of_wf wc, in64_of_wf wd, in64_of_wf we, in64_of_wf wf⟩
    | [], h => exact h.elim
    | [_], h => exact h.2.elim
    | [_, _], h => exact h.2.2.elim
    | [_, _, _], h => exact h.2.2.2.elim
    | [_, _, _, _], h => exact h.2.2.2.2.elim
    | [_, _, _, _, _], h => exact h.2.2.2.2.2.elim
    | _ :: _ :: _ :: _ :: _ :: _ :: _ :: _, h => exact h.2.2.2.2.2.2.elim
  · rw [ht] at h1; cases h1

theorem VR_V3 {m : List Nat} {w : World} {im : Nat → Prop} (x : V3) : VR m w im x.av (.agg #[.int .i64 x.x, .int .i64 x.y, .int .i64 x.z]) := by
  simp only [V3.av, VR]
  exact ⟨[.int .i64 x.x, .int .i64 x.y, .int .i64 x.z], rfl, by simp [VRs, VR]⟩
theorem VR_S6 {m : List Nat} {w : World} {im : Nat → Prop} (x : S6) : VR m w im x.av (.agg #[.int .i64 x.a, .int .i64 x.b, .int .i64 x.c, .int .i64 x.d, .int .i64 x.e, .int .i64 x.f]) := by
  simp only [S6.av, VR]
  exact ⟨[.int .i64 x.a, .int .i64 x.b, .int .i64 x.c, .int .i64 x.d, .int .i64 x.e, .int .i64 x.f], rfl, by simp [VRs, VR]⟩

/-- What a law's run leaves. -/
def Kept (w w' : World) : Prop := w'.os = w.os ∧ w'.output = w.output ∧ w.heap.size ≤ w'.heap.size ∧ ∀ r, r < w.heap.size → w'.heap[r]? = w.heap[r]?
theorem Kept.but {w w' : World} (h : Kept w w') (may : MemPlace → Prop) : w.keptBut w' may := by
  refine ⟨h.1, h.2.1, fun i hi => ?_⟩
  rw [h.2.2.2 i hi]
  split
  · rename_i e1 e2; rw [e1] at e2; cases e2; exact ⟨rfl, rfl, rfl, fun _ _ => rfl⟩
  · rename_i e1 e2; rw [e1] at e2; cases e2; exact .inr ⟨rfl, rfl⟩
  · rfl
theorem VSem.law {G : Glob} {f : FuncId} {args : List AV} {w : World} {im : Nat → Prop} {vs : List Value} (h : VSem P G f args (· = .bool true)) (hc : callable P f = true) (hG : GOK G w im) (him : ∀ r, im r → r < w.heap.size) (hv : VRs [] w im args vs) :
    Calls P f vs.toArray w fun e w' => e = .returned (.bool true) ∧ Kept w w' := by
  have := h im w vs hG him hv
  have hh : CallR P f vs.toArray w fun e w' => e = .returned (.bool true) ∧ Kept w w' := this.mono fun e w' ⟨v, r, im', he, hR, _, hvr, hE, _⟩ => by
    subst hR
    simp only [VR] at hvr
    subst hvr
    exact ⟨he, hE.os, hE.output, hE.size, fun r hr => hE.keep r hr (by simp)⟩
  rcases hh with ⟨_, h2⟩ | ⟨u, h1, _⟩
  · exact h2
  · rw [run_callFunc hc] at h1
    cases h1
theorem Row.lt {w : World} {r off : Nat} {us : List Value} (h : Row w r off us) : r < w.heap.size := by
  obtain ⟨arr, e, fz, hh, _⟩ := h
  rcases Nat.lt_or_ge r w.heap.size with h' | h'
  · exact h'
  · rw [Array.getElem?_eq_none h'] at hh; cases hh
end
end Go.Ev
