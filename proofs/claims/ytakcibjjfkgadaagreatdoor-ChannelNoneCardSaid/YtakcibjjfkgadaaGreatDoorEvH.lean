/- Contracts of functions out of the runs of their bodies. -/
import Derived.Test.YtakcibjjfkgadaaGreatDoorEvG
import Derived.RangeFuncLeaves
set_option linter.unusedVariables false
set_option linter.unusedSimpArgs false
namespace Go.Ev

mutual
/-- Without own memory. -/
def mfree : AV → Bool
  | .int _ _ => true
  | .bool _ => true
  | .ptr _ _ => false
  | .slice _ _ _ _ => false
  | .islice _ cs => mfrees cs
  | .cptr cs => mfrees cs
  | .fn _ cs => mfrees cs
  | .agg cs => mfrees cs
  | .tuple cs => mfrees cs
  | .raw _ => true
  | .yld _ _ => false
  | .junk => true
def mfrees : List AV → Bool
  | [] => true
  | c :: cs => mfree c && mfrees cs
end

section
variable {r : Option Nat} {P : Program} {G : Glob} {m : List Nat} {im : Nat → Prop} {w : World}

mutual
theorem VR.free (m' : List Nat) : ∀ (a : AV) (v : Value), mfree a = true → VR m w im a v → VR m' w im a v
  | .int _ _, _, _, h => by simpa only [VR] using h
  | .bool _, _, _, h => by simpa only [VR] using h
  | .ptr _ _, _, hf, _ => by simp [mfree] at hf
  | .slice _ _ _ _, _, hf, _ => by simp [mfree] at hf
  | .islice len cs, v, hf, h => by
    simp only [VR, mfree] at h hf ⊢
    rcases h with h | ⟨r, off, cap, us, h1, h2, h3, h4⟩
    · exact .inl h
    · exact .inr ⟨r, off, cap, us, h1, h2, VRs.free m' cs us hf h3, h4⟩
  | .cptr cs, v, hf, h => by
    simp only [VR, mfree] at h hf ⊢
    obtain ⟨r, off, us, h1, h2, h3, h4⟩ := h
    exact ⟨r, off, us, h1, h2, VRs.free m' cs us hf h3, h4⟩
  | .fn f cs, v, hf, h => by
    simp only [VR, mfree] at h hf ⊢
    obtain ⟨us, h1, h2⟩ := h
    exact ⟨us, h1, VRs.free m' cs us hf h2⟩
  | .agg cs, v, hf, h => by
    simp only [VR, mfree] at h hf ⊢
    obtain ⟨us, h1, h2⟩ := h
    exact ⟨us, h1, VRs.free m' cs us hf h2⟩
  | .tuple cs, v, hf, h => by
    simp only [VR, mfree] at h hf ⊢
    obtain ⟨us, h1, h2⟩ := h
    exact ⟨us, h1, VRs.free m' cs us hf h2⟩
  | .raw _, _, _, h => by simpa only [VR] using h
  | .yld _ _, _, hf, _ => by simp [mfree] at hf
  | .junk, _, _, _ => by simp only [VR]
theorem VRs.free (m' : List Nat) : ∀ (as : List AV) (vs : List Value), mfrees as = true → VRs m w im as vs → VRs m' w im as vs
  | [], [], _, _ => by simp only [VRs]
  | c :: cs, v :: vs, hf, h => by
    simp only [VRs, mfrees, Bool.and_eq_true] at h hf ⊢
    exact ⟨VR.free m' c v hf.1 h.1, VRs.free m' cs vs hf.2 h.2⟩
  | [], _ :: _, _, h => by simp only [VRs] at h
  | _ :: _, [], _, h => by simp only [VRs] at h
end

/-- A contract between values alone. -/
def VSem (P : Program) (G : Glob) (f : FuncId) (args : List AV) (R : AV → Prop) : Prop :=
  ∀ im w vs, GOK G w im → (∀ r, im r → r < w.heap.size) → VRs [] w im args vs → CallR P f vs.toArray w fun e w' =>
    ∃ v r im', e = .returned r ∧ R v ∧ mfree v = true ∧ VR [] w' im' v r ∧ Ext 0 [] im w [] im' w' ∧ ∀ r, im' r → r < w'.heap.size

theorem VSem.mono {f : FuncId} {args : List AV} {R R' : AV → Prop} (h : VSem P G f args R) (hr : ∀ v, R v → R' v) : VSem P G f args R' :=
  fun im w vs a b c => (h im w vs a b c).mono fun _ _ ⟨v, r, im', e, hv, rest⟩ => ⟨v, r, im', e, hr v hv, rest⟩

theorem VSem.call {f : FuncId} {args : List AV} {R : AV → Prop} (h : VSem P G f args R) (hf : mfrees args = true) (hp : List Blk) :
    HSem P G f args hp fun ao h' => h' = hp ∧ ∃ v, ao = .ret v ∧ R v ∧ mfree v = true := by
  intro m im w vs hH hv
  refine (h im w vs hH.gl (fun r hr => (hH.imx r hr).1) (VRs.free [] _ _ hf hv)).mono fun e w' ⟨v, r, im', he, hR, hmf, hvr, hE, him⟩ => ?_
  have keep : ∀ r, r < w.heap.size → w'.heap[r]? = w.heap[r]? := fun r hr => hE.keep r hr (by simp)
  refine ⟨.ret v, m, im', hp, ⟨rfl, v, rfl, hR, hmf⟩, ?_, ?_, Nat.le_refl _, r, he, VR.free m _ _ hmf hvr⟩
  · exact hH.later hE.size keep hE.imm fun r hr => by
      rcases hE.newim r hr with hy | hy
      · exact .inl hy
      · exact .inr ⟨hy, him r hr⟩
  · exact { os := hE.os, tape := hE.tape, output := hE.output, size := hE.size, pre := fun _ _ _ h => h, keep := fun r hr _ => keep r hr, newm := fun _ h => .inl h, imm := hE.imm, newim := hE.newim }

/-! ### Results -/
def resA (P : Program) (t : List AV) (hp : List Blk) : ResultVar → Option AV
  | .tmp i => some (lget t i)
  | .cell a ty => match lget t a, tAgg P ty, tSz P ty with
    | .ptr b off, some true, some n => match bget hp b with
      | some k => match Nat.ble (off + n) k.cells.length with
        | true => some (.agg ((k.cells.drop off).take n))
        | false => none
      | none => none
    | .ptr b off, some false, _ => match bget hp b with
      | some k => match Nat.blt off k.cells.length with
        | true => some (lget k.cells off)
        | false => none
      | none => none
    | _, _, _ => none
def resL (P : Program) (t : List AV) (hp : List Blk) : List ResultVar → Option (List AV)
  | [] => some []
  | r :: l => match resA P t hp r, resL P t hp l with
    | some v, some vs => some (v :: vs)
    | _, _ => none
/-- What a function hands back. -/
def resF (P : Program) (t : List AV) (hp : List Blk) (l : List ResultVar) : Option AV :=
  match resL P t hp l with
  | some [v] => some v
  | some vs => some (.tuple vs)
  | none => none

def resV (tmps : Array Value) : ResultVar → Sem Value
  | .tmp t => pure (tmps.getD t undef)
  | .cell a t => do loadVar t (← asAddr (tmps.getD a undef))
theorem results_eq (fn : Func) (tmps : Array Value) : results fn tmps = (do let vs ← fn.results.mapM (resV tmps); pure (if h : vs.size = 1 then vs[0] else .tuple vs)) := by
  unfold results
  rfl

theorem resA_sound {t : List AV} {hp : List Blk} {us : List Value} (hH : HR G m im hp w) (h1 : VRs m w im t us) {rv : ResultVar} {v : AV} (h : resA P t hp rv = some v) :
    ∃ u, (resV us.toArray rv).run P w = .ok u w ∧ VR m w im v u := by
  cases rv with
  | tmp i =>
    simp only [resA] at h
    cases h
    exact ⟨_, rfl, h1.lget i⟩
  | cell a ty =>
    simp only [resA] at h
    have ha := h1.lget a
    split at h
    · rename_i b off n hq hg hs
      split at h
      · rename_i k hb
        split at h
        · rename_i hle
          cases h
          rw [bget_eq] at hb
          rw [hq] at ha
          simp only [VR] at ha
          obtain ⟨r, hm, hv⟩ := ha
          obtain ⟨xs, h2, h3⟩ := (hH.bl b k r hb hm).row
          have h3' := h3.drop off
          simp only [Nat.zero_add] at h3'
          have hle' := Nat.le_of_ble_eq_true hle
          have := load_agg (P := P) hg hs h3' (by have := h2.length; simp; omega)
          refine ⟨_, ?_, by simp only [VR]; exact ⟨_, rfl, (h2.drop off).take n⟩⟩
          simp only [resV, hv, asAddr, Sem.run_bind, Sem.run_pure, Result.andThen_ok]
          simpa [Instr.loadAt, Instr.sureAddr] using this
        · cases h
      · cases h
    · rename_i b off hq hg
      split at h
      · rename_i k hb
        split at h
        · rename_i hle
          cases h
          rw [bget_eq] at hb
          rw [hq] at ha
          simp only [VR] at ha
          obtain ⟨r, hm, hv⟩ := ha
          obtain ⟨xs, h2, h3⟩ := (hH.bl b k r hb hm).row
          have h3' := h3.drop off
          simp only [Nat.zero_add] at h3'
          have hle' : off < k.cells.length := Nat.le_of_ble_eq_true hle
          obtain ⟨u, hu, hvu⟩ := zeroCell_lt h2 hle'
          have := load_one (P := P) hg h3' (u := u) (by rw [List.getElem?_drop]; simpa using hu)
          refine ⟨u, ?_, hvu⟩
          simp only [resV, hv, asAddr, Sem.run_bind, Sem.run_pure, Result.andThen_ok]
          simpa [Instr.loadAt, Instr.sureAddr] using this
        · cases h
      · cases h
    · cases h

theorem resL_sound {t : List AV} {hp : List Blk} {us : List Value} (hH : HR G m im hp w) (h1 : VRs m w im t us) : ∀ {l : List ResultVar} {vs : List AV}, resL P t hp l = some vs →
    ∃ xs, (l.mapM (resV us.toArray)).run P w = .ok xs w ∧ VRs m w im vs xs
  | [], vs, h => by
    simp only [resL] at h
    cases h
    exact ⟨[], rfl, by simp [VRs]⟩
  | rv :: l, vs, h => by
    simp only [resL] at h
    split at h
    · rename_i v vs' hv hvs
      cases h
      obtain ⟨u, h2, h3⟩ := resA_sound (P := P) hH h1 hv
      obtain ⟨xs, h4, h5⟩ := resL_sound hH h1 hvs
      refine ⟨u :: xs, ?_, by simp only [VRs]; exact ⟨h3, h5⟩⟩
      simp only [List.mapM_cons, Sem.run_bind]
      rw [h2]
      simp only [Result.andThen_ok]
      rw [h4]
      rfl
    · cases h

theorem resF_sound {t : List AV} {hp : List Blk} {us : List Value} {fn : Func} (hH : HR G m im hp w) (h1 : VRs m w im t us) {v : AV} (h : resF P t hp fn.results.toList = some v) :
    ∃ u, (results fn us.toArray).run P w = .ok u w ∧ VR m w im v u := by
  unfold resF at h
  have hmap : ∀ xs, (fn.results.toList.mapM (resV us.toArray)).run P w = .ok xs w →
      (results fn us.toArray).run P w = .ok (if h : xs.toArray.size = 1 then xs.toArray[0] else .tuple xs.toArray) w := fun xs hx => by
    rw [results_eq]
    simp only [Array.mapM_eq_mapM_toList, Sem.run_bind, Sem.run_map, hx, Result.andThen_ok, Sem.run_pure]
  split at h
  · rename_i v' hl
    cases h
    obtain ⟨xs, h2, h3⟩ := resL_sound hH h1 hl
    match xs, h3 with
    | [x], h3 =>
      simp only [VRs] at h3
      exact ⟨x, by rw [hmap _ h2]; simp, h3.1⟩
    | [], h3 => simp only [VRs] at h3
    | _ :: _ :: _, h3 => simp [VRs] at h3
  · rename_i vs hne hl
    cases h
    obtain ⟨xs, h2, h3⟩ := resL_sound hH h1 hl
    refine ⟨.tuple xs.toArray, ?_, by simp only [VR]; exact ⟨xs, rfl, h3⟩⟩
    rw [hmap _ h2]
    have : ¬ xs.toArray.size = 1 := fun h1 => by
      have hl' := h3.length
      simp at h1
      match vs, hl' with
      | [v], _ => exact hne v rfl
      | [], hl' => simp at hl'; omega
      | _ :: _ :: _, hl' => simp at hl'; omega
    rw [dif_neg this]
  · cases h

/-! ### Own memory that is handed back: nobody writes it any more -/
mutual
def frz (P : Program) (hp : List Blk) : AV → Option AV
  | .slice b off len cap => match bget hp b with
    | some k => match mfrees k.cells, tSz P k.elem, Nat.ble len cap with
      | true, some sz, true => some (.islice len ((k.cells.drop off).take (len * sz)))
      | _, _, _ => none
    | none => none
  | .ptr b off => match bget hp b with
    | some k => match mfrees k.cells with
      | true => some (.cptr (k.cells.drop off))
      | false => none
    | none => none
  | .agg cs => match frzs P hp cs with
    | some l => some (.agg l)
    | none => none
  | .tuple cs => match frzs P hp cs with
    | some l => some (.tuple l)
    | none => none
  | .int k n => some (.int k n)
  | .bool b => some (.bool b)
  | .raw v => some (.raw v)
  | .islice n cs => match mfrees cs with
    | true => some (.islice n cs)
    | false => none
  | .cptr cs => match mfrees cs with
    | true => some (.cptr cs)
    | false => none
  | .fn f cs => match frzs P hp cs with
    | some l => some (.fn f l)
    | none => none
  | .yld _ _ => none
  | .junk => none
def frzs (P : Program) (hp : List Blk) : List AV → Option (List AV)
  | [] => some []
  | c :: cs => match frz P hp c, frzs P hp cs with
    | some v, some vs => some (v :: vs)
    | _, _ => none
end

theorem mfrees_get : ∀ {l : List AV}, (∀ (i : Nat) (a : AV), l[i]? = some a → mfree a = true) → mfrees l = true
  | [], _ => rfl
  | a :: l, h => by
    simp only [mfrees, Bool.and_eq_true]
    exact ⟨h 0 a rfl, mfrees_get fun i b hb => h (i + 1) b (by simpa using hb)⟩
theorem mfrees_of : ∀ {l : List AV}, mfrees l = true → ∀ {i : Nat} {a : AV}, l[i]? = some a → mfree a = true
  | [], _, i, a, h => by simp at h
  | a :: l, h, 0, b, e => by simp only [mfrees, Bool.and_eq_true] at h; simp at e; subst e; exact h.1
  | a :: l, h, i + 1, b, e => by simp only [mfrees, Bool.and_eq_true] at h; exact mfrees_of h.2 (by simpa using e)
theorem mfrees_cut {l : List AV} (h : mfrees l = true) (a b : Nat) : mfrees ((l.drop a).take b) = true :=
  mfrees_get fun i x hx => by
    rw [List.getElem?_take] at hx
    split at hx
    · rw [List.getElem?_drop] at hx; exact mfrees_of h hx
    · cases hx
theorem mfrees_drop {l : List AV} (h : mfrees l = true) (a : Nat) : mfrees (l.drop a) = true :=
  mfrees_get fun i x hx => by rw [List.getElem?_drop] at hx; exact mfrees_of h hx

mutual
theorem frz_sound {hp : List Blk} (hH : HR G m im hp w) : ∀ (a : AV) (v : Value) (a' : AV), frz P hp a = some a' → VR m w im a v → VR [] w (fun r => im r ∨ r ∈ m) a' v ∧ mfree a' = true
  | .slice b off len cap, v, a', hf, h => by
    simp only [frz] at hf
    split at hf
    · rename_i k hb
      split at hf
      · rename_i sz hmf hs hle
        cases hf
        rw [bget_eq] at hb
        simp only [VR] at h
        obtain ⟨r, hm, rfl⟩ := h
        obtain ⟨xs, h2, h3⟩ := (hH.bl b k r hb hm).row
        have h3' := h3.drop off
        simp only [Nat.zero_add] at h3'
        refine ⟨?_, by simp only [mfree]; exact mfrees_cut hmf _ _⟩
        simp only [VR]
        refine .inr ⟨r, off, cap, _, ⟨.inr (List.mem_of_getElem? hm), Nat.le_of_ble_eq_true hle⟩, rfl, VRs.free [] _ _ (mfrees_cut hmf _ _) (((h2.drop off).take (len * sz)).stay ⟨fun _ _ h => h, fun r hr => ⟨.inl hr, rfl⟩⟩), h3'.take _⟩
      · cases hf
    · cases hf
  | .ptr b off, v, a', hf, h => by
    simp only [frz] at hf
    split at hf
    · rename_i k hb
      split at hf
      · rename_i hmf
        cases hf
        rw [bget_eq] at hb
        simp only [VR] at h
        obtain ⟨r, hm, rfl⟩ := h
        obtain ⟨xs, h2, h3⟩ := (hH.bl b k r hb hm).row
        have h3' := h3.drop off
        simp only [Nat.zero_add] at h3'
        refine ⟨?_, by simp only [mfree]; exact mfrees_drop hmf _⟩
        simp only [VR]
        exact ⟨r, off, _, .inr (List.mem_of_getElem? hm), rfl, VRs.free [] _ _ (mfrees_drop hmf _) ((h2.drop off).stay ⟨fun _ _ h => h, fun r hr => ⟨.inl hr, rfl⟩⟩), h3'⟩
      · cases hf
    · cases hf
  | .agg cs, v, a', hf, h => by
    simp only [frz] at hf
    split at hf
    · rename_i l hl
      cases hf
      simp only [VR] at h
      obtain ⟨us, rfl, h⟩ := h
      obtain ⟨h1, h2⟩ := frzs_sound hH cs us l hl h
      exact ⟨by simp only [VR]; exact ⟨us, rfl, h1⟩, by simpa only [mfree] using h2⟩
    · cases hf
  | .tuple cs, v, a', hf, h => by
    simp only [frz] at hf
    split at hf
    · rename_i l hl
      cases hf
      simp only [VR] at h
      obtain ⟨us, rfl, h⟩ := h
      obtain ⟨h1, h2⟩ := frzs_sound hH cs us l hl h
      exact ⟨by simp only [VR]; exact ⟨us, rfl, h1⟩, by simpa only [mfree] using h2⟩
    · cases hf
  | .int k n, v, a', hf, h => by simp only [frz] at hf; cases hf; exact ⟨by simpa only [VR] using h, rfl⟩
  | .bool b, v, a', hf, h => by simp only [frz] at hf; cases hf; exact ⟨by simpa only [VR] using h, rfl⟩
  | .raw x, v, a', hf, h => by simp only [frz] at hf; cases hf; exact ⟨by simpa only [VR] using h, rfl⟩
  | .islice n cs, v, a', hf, h => by
    simp only [frz] at hf
    split at hf
    · rename_i hmf
      cases hf
      exact ⟨VR.free [] _ _ (by simpa only [mfree] using hmf) (VR.stay ⟨fun _ _ h => h, fun r hr => ⟨.inl hr, rfl⟩⟩ _ _ h), by simpa only [mfree] using hmf⟩
    · cases hf
  | .cptr cs, v, a', hf, h => by
    simp only [frz] at hf
    split at hf
    · rename_i hmf
      cases hf
      exact ⟨VR.free [] _ _ (by simpa only [mfree] using hmf) (VR.stay ⟨fun _ _ h => h, fun r hr => ⟨.inl hr, rfl⟩⟩ _ _ h), by simpa only [mfree] using hmf⟩
    · cases hf
  | .fn f cs, v, a', hf, h => by
    simp only [frz] at hf
    split at hf
    · rename_i l hl
      cases hf
      simp only [VR] at h
      obtain ⟨us, rfl, h⟩ := h
      obtain ⟨h1, h2⟩ := frzs_sound hH cs us l hl h
      exact ⟨by simp only [VR]; exact ⟨us, rfl, h1⟩, by simpa only [mfree] using h2⟩
    · cases hf
  | .yld _ _, v, a', hf, h => by simp only [frz] at hf; cases hf
  | .junk, v, a', hf, h => by simp only [frz] at hf; cases hf
theorem frzs_sound {hp : List Blk} (hH : HR G m im hp w) : ∀ (as : List AV) (vs : List Value) (as' : List AV), frzs P hp as = some as' → VRs m w im as vs → VRs [] w (fun r => im r ∨ r ∈ m) as' vs ∧ mfrees as' = true
  | [], [], as', hf, _ => by simp only [frzs] at hf; cases hf; simp [VRs, mfrees]
  | c :: cs, v :: vs, as', hf, h => by
    simp only [frzs] at hf
    split at hf
    · rename_i x xs h1 h2
      cases hf
      simp only [VRs] at h
      obtain ⟨h3, h4⟩ := frz_sound hH c v x h1 h.1
      obtain ⟨h5, h6⟩ := frzs_sound hH cs vs xs h2 h.2
      exact ⟨by simp only [VRs]; exact ⟨h3, h5⟩, by simp only [mfrees, Bool.and_eq_true]; exact ⟨h4, h6⟩⟩
    · cases hf
  | [], _ :: _, _, _, h => by simp only [VRs] at h
  | _ :: _, [], _, _, h => by simp only [VRs] at h
end

mutual
/-- Without a loop's yield. -/
def noY : AV → Bool
  | .islice _ cs => noYs cs
  | .cptr cs => noYs cs
  | .fn _ cs => noYs cs
  | .agg cs => noYs cs
  | .tuple cs => noYs cs
  | .yld _ _ => false
  | _ => true
def noYs : List AV → Bool
  | [] => true
  | c :: cs => noY c && noYs cs
end
def hnoY : List Blk → Bool
  | [] => true
  | k :: l => noYs k.cells && hnoY l
theorem hnoY_get : ∀ {h : List Blk}, hnoY h = true → ∀ {b : Nat} {k : Blk}, h[b]? = some k → noYs k.cells = true
  | [], _, _, _, e => by simp at e
  | x :: h, hh, 0, k, e => by simp only [hnoY, Bool.and_eq_true] at hh; simp at e; subst e; exact hh.1
  | x :: h, hh, b + 1, k, e => by simp only [hnoY, Bool.and_eq_true] at hh; exact hnoY_get hh.2 (by simpa using e)

mutual
theorem noY_free : ∀ (a : AV), mfree a = true → noY a = true
  | .int _ _, _ => rfl
  | .bool _, _ => rfl
  | .ptr _ _, _ => rfl
  | .slice _ _ _ _, _ => rfl
  | .islice _ cs, h => by simp only [mfree, noY] at h ⊢; exact noYs_free cs h
  | .cptr cs, h => by simp only [mfree, noY] at h ⊢; exact noYs_free cs h
  | .fn _ cs, h => by simp only [mfree, noY] at h ⊢; exact noYs_free cs h
  | .agg cs, h => by simp only [mfree, noY] at h ⊢; exact noYs_free cs h
  | .tuple cs, h => by simp only [mfree, noY] at h ⊢; exact noYs_free cs h
  | .raw _, _ => rfl
  | .yld _ _, h => by simp [mfree] at h
  | .junk, _ => rfl
theorem noYs_free : ∀ (cs : List AV), mfrees cs = true → noYs cs = true
  | [], _ => rfl
  | c :: cs, h => by
    simp only [mfrees, noYs, Bool.and_eq_true] at h ⊢
    exact ⟨noY_free c h.1, noYs_free cs h.2⟩
end

/-- No block of cells. -/
def NoCells (w : World) (r : Nat) : Prop := ∀ arr e fz, w.heap[r]? ≠ some (.cells arr e fz)
/-- What nobody writes stays, but for blocks that hold no cells (b: but for blocks of deferred calls). -/
def Shift (b : Bool) (w : World) (im : Nat → Prop) (w' : World) (im' : Nat → Prop) : Prop := ∀ r, im r → (im' r ∧ w'.heap[r]? = w.heap[r]?) ∨ (NoCells w r ∧ (b = true → ∃ ds, w.heap[r]? = some (.deferred ds)))

theorem Row.shift {b : Bool} {w w' : World} {im im' : Nat → Prop} (s : Shift b w im w' im') {r off : Nat} {us : List Value} (hi : im r) (h : Row w r off us) : im' r ∧ Row w' r off us := by
  obtain ⟨arr, t, fz, h1, h2⟩ := h
  rcases s r hi with ⟨h3, h4⟩ | ⟨h3, _⟩
  · exact ⟨h3, arr, t, fz, by rw [h4]; exact h1, h2⟩
  · exact absurd h1 (h3 _ _ _)

mutual
theorem VR.shift {b : Bool} {w' : World} {im' : Nat → Prop} (s : Shift b w im w' im') : ∀ (a : AV) (v : Value), b = true ∨ noY a = true → VR m w im a v → VR m w' im' a v
  | .int _ _, _, _, h => by simpa only [VR] using h
  | .bool _, _, _, h => by simpa only [VR] using h
  | .ptr _ _, _, _, h => by simpa only [VR] using h
  | .slice _ _ _ _, _, _, h => by simpa only [VR] using h
  | .islice len cs, v, hf, h => by
    simp only [VR, noY] at h hf ⊢
    rcases h with h | ⟨r, off, cap, us, h1, h2, h3, h4⟩
    · exact .inl h
    · obtain ⟨h5, h6⟩ := h4.shift s h1.1
      exact .inr ⟨r, off, cap, us, ⟨h5, h1.2⟩, h2, VRs.shift s cs us hf h3, h6⟩
  | .cptr cs, v, hf, h => by
    simp only [VR, noY] at h hf ⊢
    obtain ⟨r, off, us, h1, h2, h3, h4⟩ := h
    obtain ⟨h5, h6⟩ := h4.shift s h1
    exact ⟨r, off, us, h5, h2, VRs.shift s cs us hf h3, h6⟩
  | .fn f cs, v, hf, h => by
    simp only [VR, noY] at h hf ⊢
    obtain ⟨us, h1, h2⟩ := h
    exact ⟨us, h1, VRs.shift s cs us hf h2⟩
  | .agg cs, v, hf, h => by
    simp only [VR, noY] at h hf ⊢
    obtain ⟨us, h1, h2⟩ := h
    exact ⟨us, h1, VRs.shift s cs us hf h2⟩
  | .tuple cs, v, hf, h => by
    simp only [VR, noY] at h hf ⊢
    obtain ⟨us, h1, h2⟩ := h
    exact ⟨us, h1, VRs.shift s cs us hf h2⟩
  | .raw _, _, _, h => by simpa only [VR] using h
  | .yld d cs, v, hf, h => by
    rcases hf with hf | hf
    · simp only [VR] at h ⊢
      obtain ⟨l, fn, D, us, h1, h2, h3, h4⟩ := h
      rcases s l h1 with ⟨h5, h6⟩ | ⟨_, h5⟩
      · exact ⟨l, fn, D, us, h5, h2, h6.trans h3, VRs.shift s cs us (.inl hf) h4⟩
      · obtain ⟨ds, h6⟩ := h5 hf
        rw [h3] at h6; cases h6
    · simp [noY] at hf
  | .junk, _, _, _ => by simp only [VR]
theorem VRs.shift {b : Bool} {w' : World} {im' : Nat → Prop} (s : Shift b w im w' im') : ∀ (as : List AV) (vs : List Value), b = true ∨ noYs as = true → VRs m w im as vs → VRs m w' im' as vs
  | [], [], _, _ => by simp only [VRs]
  | c :: cs, v :: vs, hf, h => by
    simp only [VRs, noYs, Bool.and_eq_true] at h hf ⊢
    exact ⟨VR.shift s c v (hf.imp id (·.1)) h.1, VRs.shift s cs vs (hf.imp id (·.2)) h.2⟩
  | [], _ :: _, _, h => by simp only [VRs] at h
  | _ :: _, [], _, h => by simp only [VRs] at h
end

theorem HR.shift {b : Bool} {G' : Glob} {w' : World} {im' : Nat → Prop} {hp : List Blk} (h : HR G m im hp w) (s : Shift b w im w' im') (hm : ∀ r ∈ m, w'.heap[r]? = w.heap[r]?) (hn : b = true ∨ hnoY hp = true)
    (hi : ∀ r, im' r → r < w'.heap.size ∧ r ∉ m) (hg : GOK G' w' im') : HR G' m im' hp w' := by
  refine ⟨h.ln, fun b k r hb hr => ?_, h.inj, hi, hg⟩
  obtain ⟨arr, us, h1, h2, h3⟩ := h.bl b k r hb hr
  exact ⟨arr, us, by rw [hm r (List.mem_of_getElem? hr)]; exact h1, VRs.shift s _ _ (hn.imp id fun hn => hnoY_get hn hb) h2, h3⟩

def GY (G : Glob) : Prop := ∀ g cs, G g = some cs → noYs cs = true
theorem GOK.shift {b : Bool} {w' : World} {im' : Nat → Prop} (h : GOK G w im) (hG : b = true ∨ GY G) (s : Shift b w im w' im') : GOK G w' im' := fun g cs hg => by
  obtain ⟨h1, us, h2, h3⟩ := h g cs hg
  obtain ⟨h5, h6⟩ := h3.shift s h1
  exact ⟨h5, us, VRs.shift s _ _ (hG.imp id fun hG => hG g cs hg) h2, h6⟩

/-! ### Marks -/
def marks : List Dfr → Bool
  | [] => true
  | .mark :: l => marks l
  | .call _ _ _ :: _ => false
def Ms (im : Nat → Prop) (w : World) : List Deferred → Prop
  | [] => True
  | x :: xs => (∃ D, x.target = .collected D ∧ im D ∧ w.heap[D]? = some (.deferred (some [])) ∧ ∀ y ∈ xs, y.target ≠ .collected D) ∧ Ms im w xs
theorem Ms.of : ∀ {ds : List Dfr} {xs : List Deferred}, DRs m w im ds xs → marks ds = true → Ms im w xs
  | [], [], _, _ => trivial
  | .mark :: ds, x :: xs, h, hm => by
    obtain ⟨⟨D, h1, h2, h3⟩, h4, h5⟩ := h
    exact ⟨⟨D, by rw [h3], h1, h2, h5 D (by rw [h3])⟩, Ms.of h4 hm⟩
  | .call _ _ _ :: _, _, _, hm => by simp [marks] at hm
  | [], _ :: _, h, _ => h.elim
  | .mark :: _, [], h, _ => h.elim
theorem Ms.put {im : Nat → Prop} {w : World} : ∀ {xs : List Deferred} {D : Nat} {o : Obj}, Ms im w xs → (∀ y ∈ xs, y.target ≠ .collected D) → Ms im (w.putObj D o) xs
  | [], _, _, _, _ => trivial
  | x :: xs, D, o, h, hn => by
    obtain ⟨⟨D', h1, hi, h2, h3⟩, h4⟩ := h
    refine ⟨⟨D', h1, hi, ?_, h3⟩, Ms.put h4 fun y hy => hn y (by simp [hy])⟩
    rw [World.putObj_heap_other]
    · exact h2
    · intro e; subst e; exact hn x (by simp) h1
/-- Some blocks of marks are shut. -/
structure Shut (im : Nat → Prop) (w w' : World) : Prop where
  os : w'.os = w.os
  tape : w'.tape = w.tape
  output : w'.output = w.output
  size : w'.heap.size = w.heap.size
  same : ∀ r, w'.heap[r]? = w.heap[r]? ∨ (im r ∧ w.heap[r]? = some (.deferred (some [])))
theorem Shut.refl (im : Nat → Prop) (w : World) : Shut im w w := ⟨rfl, rfl, rfl, rfl, fun _ => .inl rfl⟩
theorem Shut.put {im : Nat → Prop} {w w' : World} {D : Nat} (h : Shut im (w.putObj D (.deferred none)) w') (hi : im D) (hD : w.heap[D]? = some (.deferred (some []))) : Shut im w w' := by
  refine ⟨h.os, h.tape, h.output, h.size.trans (by simp [World.putObj]), fun r => ?_⟩
  by_cases e : r = D
  · subst e; exact .inr ⟨hi, hD⟩
  · rcases h.same r with h1 | h1
    · exact .inl (h1.trans (World.putObj_heap_other e))
    · rw [World.putObj_heap_other e] at h1
      exact .inr h1
theorem leaves_marks {im : Nat → Prop} {fn : Func} {tmps : Array Value} {R : Ending → World → Prop} : ∀ (xs : List Deferred) (w : World), Ms im w xs → (∀ w', Shut im w w' → ∃ v, (results fn tmps).run P w' = .ok v w' ∧ R (.returned v) w') →
    LeavesInM (wideR none) 0 P fn tmps R xs .returning w
  | [], w, _, h => h w (Shut.refl im w)
  | x :: xs, w, hm, h => by
    obtain ⟨⟨D, h1, hi, h2, h3⟩, h4⟩ := hm
    exact ⟨by simp, .inl ⟨D, _, h1, run_takeDeferred h2, leaves_marks xs _ (h4.put h3) fun w' hs => h w' (hs.put hi h2)⟩⟩

/-- The frame of a call. -/
def enterT (ntmps : Nat) (args : List AV) : List AV := args ++ List.replicate (ntmps - args.length) (.raw undef)

/-- What a body must come to, for a contract between values. -/
def VEnd (P : Program) (res : List ResultVar) (R : AV → Prop) (e : AX) (st : St) : Prop :=
  (e = .normal ∨ e = .ret) ∧ marks st.dfs = true ∧ ∃ v v', resF P st.tmps st.heap res = some v ∧ frz P st.heap v = some v' ∧ R v'

theorem VSem.of_body {f : FuncId} {fn : Func} {c : Code} {args : List AV} {R : AV → Prop} (hf : P.funcs[f]? = some fn) (hb : fn.body = some c) (hc : callable P f = true)
    (h : CfgSem none P G 0 ⟨.code c, [], ⟨enterT fn.ntmps args, [], []⟩⟩ (VEnd P fn.results.toList R)) : VSem P G f args R := by
  refine fun im w vs hG him hv => .inl ⟨hc, (callsIn_wide (n := 0)).1 (callsIn_of_wp_marks hf hb trivial ?_)⟩
  obtain ⟨im0, him0⟩ : ∃ im0 : Nat → Prop, im0 = fun r => im r ∧ w.heap[r]? ≠ some (.deferred (some [])) := ⟨_, rfl⟩
  have i0 : ∀ r, im0 r → im r := fun r h => by rw [him0] at h; exact h.1
  have sh0 : Shift true w im w im0 := fun r hr => by
    by_cases e : w.heap[r]? = some (.deferred (some []))
    · exact .inr ⟨fun _ _ _ h => (by rw [e] at h; cases h), fun _ => ⟨_, e⟩⟩
    · exact .inl ⟨by rw [him0]; exact ⟨hr, e⟩, rfl⟩
  have hH : HR G [] im0 [] w := ⟨rfl, fun b k r h => by simp at h, fun b b' r k k' h => by simp at h, fun r hr => ⟨him r (i0 r hr), by simp⟩, hG.shift (.inl rfl) sh0⟩
  have hv := VRs.shift sh0 _ _ (.inl rfl) hv
  have hS : SR G [] im0 ⟨enterT fn.ntmps args, [], []⟩ { tmps := vs.toArray ++ Array.replicate (fn.ntmps - vs.toArray.size) undef, defers := [] } w := by
    refine ⟨⟨vs ++ List.replicate (fn.ntmps - args.length) undef, hv.append (VRs.replicate VR_raw _), ?_⟩, trivial, hH⟩
    apply Array.ext'
    simp [hv.length]
  refine h [] im0 _ w (bodyPostM _ _ P fn _) hS (Nat.zero_le _) fun e st' m' im' a' w' ⟨he, hd, v, v', h1, h2, h3⟩ hs' _ hE => ?_
  obtain ⟨us, g1, g2⟩ := hs'.tm
  have fin : bodyPostM (wideR none) 0 P fn (fun e w' => ∃ v r im', e = .returned r ∧ R v ∧ mfree v = true ∧ VR [] w' im' v r ∧ Ext 0 [] im w [] im' w' ∧ ∀ r, im' r → r < w'.heap.size) .ret a' w' := by
    show LeavesInM (wideR none) 0 P fn a'.tmps _ a'.defers .returning w'
    rw [g2]
    refine leaves_marks _ _ (Ms.of hs'.df hd) fun w2 hs2 => ?_
    have hm0 : ∀ r, r ∈ m' → w.heap.size ≤ r := fun r hr => by
      rcases hE.newm r hr with h | h
      · simp at h
      · exact h
    have hkeep : ∀ r, r < w.heap.size → w2.heap[r]? = w.heap[r]? := fun r hr => by
      have h1 := hE.keep r hr (by simp)
      rcases hs2.same r with h | ⟨h, h2⟩
      · exact h.trans h1
      · exfalso
        rcases hE.newim r h with h3 | h3
        · rw [him0] at h3
          exact h3.2 (h1.symm.trans h2)
        · omega
    have hsh : Shift true w' im' w2 (fun r => im r ∨ (im' r ∧ w2.heap[r]? = w'.heap[r]?)) := fun r hr => by
      rcases hs2.same r with h | ⟨_, h⟩
      · exact .inl ⟨.inr ⟨hr, h⟩, h⟩
      · exact .inr ⟨fun arr e fz hc => (by rw [h] at hc; cases hc), fun _ => ⟨_, h⟩⟩
    have hH2 : HR (fun _ => none) m' (fun r => im r ∨ (im' r ∧ w2.heap[r]? = w'.heap[r]?)) st'.heap w2 := by
      refine hs'.hp.shift hsh (fun r hr => ?_) (.inl rfl) (fun r hr => ?_) fun g cs hg => by cases hg
      · obtain ⟨b, hb, rfl⟩ := List.getElem_of_mem hr
        obtain ⟨k, _, arr, us, h1, _⟩ := hs'.hp.block (List.getElem?_eq_getElem hb)
        rcases hs2.same m'[b] with h | ⟨_, h⟩
        · exact h
        · rw [h1] at h; cases h
      · rw [hs2.size]
        rcases hr with hr | hr
        · exact ⟨Nat.lt_of_lt_of_le (him r hr) hE.size, fun hx => by have := hm0 r hx; have := him r hr; omega⟩
        · exact hs'.hp.imx r hr.1
    obtain ⟨u, g3, g4⟩ := resF_sound (P := P) hH2 (VRs.shift hsh _ _ (.inl rfl) g1) h1
    obtain ⟨g5, g6⟩ := frz_sound (P := P) hH2 v u v' h2 g4
    refine ⟨u, g3, v', u, _, rfl, h3, g6, g5, ?_, fun r hr => ?_⟩
    · exact { os := hs2.os.trans hE.os, tape := hs2.tape.trans hE.tape, output := hs2.output.trans hE.output, size := by rw [hs2.size]; exact hE.size, pre := fun _ _ _ h => by simp at h,
              keep := fun r hr _ => hkeep r hr, newm := fun _ h => by simp at h,
              imm := fun r hr => .inl (.inl hr), newim := fun r hr => by
                rcases hr with (hr | hr) | hr
                · exact .inl hr
                · exact (hE.newim r hr.1).imp (i0 r) id
                · exact .inr (hm0 r hr) }
    · rcases hr with hr | hr
      · exact (hH2.imx r hr).1
      · exact hH2.lt hr
  rcases he with rfl | rfl
  · exact fin
  · exact fin

/-- What a body must come to where it works on the memory of its caller. -/
def HEnd (P : Program) (res : List ResultVar) (R : AO → List Blk → Prop) (e : AX) (st : St) : Prop :=
  st.dfs = [] ∧ (((e = .normal ∨ e = .ret) ∧ ∃ v, resF P st.tmps st.heap res = some v ∧ R (.ret v) st.heap) ∨ ∃ x, e = .panic x ∧ R (.pan x) st.heap)

theorem HSem.of_body {f : FuncId} {fn : Func} {c : Code} {args : List AV} {hp : List Blk} {R : AO → List Blk → Prop} (hf : P.funcs[f]? = some fn) (hb : fn.body = some c) (hc : callable P f = true)
    (h : CfgSem none P G hp.length ⟨.code c, [], ⟨enterT fn.ntmps args, hp, []⟩⟩ (HEnd P fn.results.toList R)) : HSem P G f args hp R := by
  refine fun m im w vs hH hv => .inl ⟨hc, calls_of_wp hf hb ((wpIn_wide (n := 0)).1 ?_)⟩
  have hS : SR G m im ⟨enterT fn.ntmps args, hp, []⟩ { tmps := vs.toArray ++ Array.replicate (fn.ntmps - vs.toArray.size) undef, defers := [] } w := by
    refine ⟨⟨vs ++ List.replicate (fn.ntmps - args.length) undef, hv.append (VRs.replicate VR_raw _), ?_⟩, trivial, hH⟩
    apply Array.ext'
    simp [hv.length]
  refine h m im _ w (bodyPost P fn _) hS (Nat.le_of_eq hH.ln.symm) fun e st' m' im' a' w' ⟨hd, hend⟩ hs' hn' hE => ?_
  obtain ⟨us, g1, g2⟩ := hs'.tm
  have hdf : a'.defers = [] := by
    have := hs'.df
    rw [hd] at this
    cases hq : a'.defers with
    | nil => rfl
    | cons x l => rw [hq] at this; exact this.elim
  rw [← hH.ln] at hE hn'
  rcases hend with ⟨he, v, h1, h2⟩ | ⟨x, rfl, h2⟩
  · obtain ⟨u, g3, g4⟩ := resF_sound (P := P) hs'.hp g1 h1
    have fin : bodyPost P fn (fun e w' => ∃ ao m' im' h', R ao h' ∧ HR G m' im' h' w' ∧ Ext m.length m im w m' im' w' ∧ m.length ≤ m'.length ∧
        match ao with
        | .ret v => ∃ r, e = .returned r ∧ VR m' w' im' v r
        | .pan v => e = .panicked [{ v, recovered := false }]) .ret a' w' :=
      ⟨hdf, u, by rw [g2]; exact g3, .ret v, m', im', st'.heap, h2, hs'.hp, hE, hn', u, rfl, g4⟩
    rcases he with rfl | rfl
    · exact fin
    · exact fin
  · exact ⟨hdf, .pan x, m', im', st'.heap, h2, hs'.hp, hE, hn', rfl⟩

def holdsO (R : AV → Prop) : Option AV → Prop
  | some v => R v
  | none => False
/-- What is handed back, as the caller sees it. -/
def vres (P : Program) (t : List AV) (h : List Blk) (res : List ResultVar) : Option AV :=
  match resF P t h res with
  | some v => frz P h v
  | none => none
theorem vend_of {res : List ResultVar} {R : AV → Prop} {t : List AV} {h : List Blk} {e : AX} {d : List Dfr} (hd : marks d = true) (he : e = .normal ∨ e = .ret) (hh : holdsO R (vres P t h res)) : VEnd P res R e ⟨t, h, d⟩ := by
  unfold vres at hh
  split at hh
  · rename_i v hv
    cases hq : frz P h v with
    | none => rw [hq] at hh; exact hh.elim
    | some v' => rw [hq] at hh; exact ⟨he, hd, v, v', hv, hq, hh⟩
  · exact hh.elim
theorem done_ret {n0 : Nat} {res : List ResultVar} {R : AV → Prop} {t : List AV} {h : List Blk} (hh : holdsO R (vres P t h res)) : StopSem r P G n0 (.done .ret ⟨t, h, []⟩) (VEnd P res R) := vend_of rfl (.inr rfl) hh
theorem done_retM {n0 : Nat} {res : List ResultVar} {R : AV → Prop} {t : List AV} {h : List Blk} {d : List Dfr} (hd : marks d = true) (hh : holdsO R (vres P t h res)) : StopSem r P G n0 (.done .ret ⟨t, h, d⟩) (VEnd P res R) := vend_of hd (.inr rfl) hh
theorem done_end {n0 : Nat} {res : List ResultVar} {R : AV → Prop} {t : List AV} {h : List Blk} (hh : holdsO R (vres P t h res)) : StopSem r P G n0 (.done .normal ⟨t, h, []⟩) (VEnd P res R) := vend_of rfl (.inl rfl) hh

/-- A call met by a contract between values. -/
theorem call_V {n0 : Nat} {f : FuncId} {args : List AV} {dst : Option Tmp} {all rest : List Oper} {k : List Fr} {t : List AV} {h : List Blk} {d : List Dfr} {R : AX → St → Prop} {Rv : AV → Prop} (hv : VSem P G f args Rv)
    (hf : mfrees args = true) (hk : ∀ v, Rv v → CfgSem r P G n0 ⟨.ops all rest, k, ⟨putT t dst v, h, d⟩⟩ R) : StopSem r P G n0 (.call f args dst all rest k ⟨t, h, d⟩) R :=
  ⟨_, hv.call hf h, fun ao h' ⟨e, v, ev, hr, _⟩ => by subst e; subst ev; exact hk v hr⟩
theorem call_H {n0 : Nat} {f : FuncId} {args : List AV} {dst : Option Tmp} {all rest : List Oper} {k : List Fr} {t : List AV} {h : List Blk} {d : List Dfr} {R : AX → St → Prop} {Rc : AO → List Blk → Prop} (hv : HSem P G f args h Rc)
    (hk : ∀ ao h', Rc ao h' → ∃ v, ao = .ret v ∧ CfgSem r P G n0 ⟨.ops all rest, k, ⟨putT t dst v, h', d⟩⟩ R) : StopSem r P G n0 (.call f args dst all rest k ⟨t, h, d⟩) R :=
  ⟨_, hv, fun ao h' hr => by obtain ⟨v, rfl, hc⟩ := hk ao h' hr; exact hc⟩

theorem HSem.mono {f : FuncId} {args : List AV} {hp : List Blk} {R R' : AO → List Blk → Prop} (h : HSem P G f args hp R) (hr : ∀ a h, R a h → R' a h) : HSem P G f args hp R' :=
  fun m im w vs a b => (h m im w vs a b).mono fun _ _ ⟨ao, m', im', h', x, rest⟩ => ⟨ao, m', im', h', hr _ _ x, rest⟩
end
end Go.Ev
