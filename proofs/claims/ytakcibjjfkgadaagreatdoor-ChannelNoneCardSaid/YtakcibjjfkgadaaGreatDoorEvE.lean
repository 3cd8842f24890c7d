/- Slices, aggregates, lengths, loads: an operation of the abstract run is one of the machine (continued). -/
import Derived.Test.YtakcibjjfkgadaaGreatDoorEvD
import Derived.Laws.Tables
set_option linter.unusedVariables false
set_option linter.unusedSimpArgs false
namespace Go.Ev

section
variable {P : Program} {G : Glob} {m : List Nat} {im : Nat → Prop} {w : World}

theorem bnd_of {ρ : Operand → AV} {e : Operand → Value} (he : ∀ x, VR m w im (ρ x) (e x)) {x : Option Operand} {d n : Int} (h : bndA ρ x d = some n) :
    (x = none ∧ n = d) ∨ ∃ y k, x = some y ∧ e y = .int k n := by
  unfold bndA at h
  cases x with
  | none => simp at h; exact .inl ⟨rfl, h.symm⟩
  | some y =>
    simp only at h
    split at h
    · rename_i k n' hy
      cases h
      have := he y
      rw [hy] at this
      simp only [VR] at this
      exact .inr ⟨y, k, rfl, this⟩
    · cases h

theorem run_sliceBound {k : IntKind} {i : Int} {y : Nat} {code : BoundsCode} (h0 : 0 ≤ i) (h1 : i ≤ y) : (Instr.sliceBound (.int k i) y code).run P w = .ok i.toNat w := by
  simp [Instr.sliceBound, asIntOf, h0, h1]

theorem run_sliceBounds {ρ : Operand → AV} {e : Operand → Value} (he : ∀ x, VR m w im (ρ x) (e x)) {isS : Bool} {len cap : Nat} {lo hi : Option Operand} {l h : Int}
    (hl : bndA ρ lo 0 = some l) (hh : bndA ρ hi len = some h) (h0 : 0 ≤ l) (h1 : l ≤ h) (h2 : h ≤ cap) :
    (Instr.sliceBounds isS len cap (lo.map e) (hi.map e) none).run P w = .ok (l.toNat, h.toNat, cap) w := by
  unfold Instr.sliceBounds
  have h3 : (l : Int) ≤ (h.toNat : Nat) := by omega
  have h4 : 0 ≤ h := by omega
  rcases bnd_of he hl with ⟨rfl, rfl⟩ | ⟨y, k, rfl, hy⟩ <;> rcases bnd_of he hh with ⟨rfl, rfl⟩ | ⟨y', k', rfl, hy'⟩
  · simp
  · simp only [Option.map_none, Option.map_some, hy', Sem.run_bind, Sem.run_pure, Result.andThen_ok, run_sliceBound h4 h2]
    simp
  · have : (l : Int) ≤ (len : Nat) := by omega
    simp only [Option.map_none, Option.map_some, hy, Sem.run_bind, Sem.run_pure, Result.andThen_ok, run_sliceBound h0 this]
    simp
  · simp only [Option.map_some, hy, hy', Sem.run_bind, Sem.run_pure, Result.andThen_ok, run_sliceBound h4 h2, run_sliceBound h0 h3]

theorem Row.nil {r off off' : Nat} {us : List Value} (h : Row w r off us) : Row w r off' [] := by
  obtain ⟨arr, t, fz, h1, _⟩ := h
  exact ⟨arr, t, fz, h1, fun i u hu => by simp at hu⟩

theorem sliceA_sound {ρ : Operand → AV} {e : Operand → Value} (he : ∀ x, VR m w im (ρ x) (e x)) {t : TypeId} {x : AV} {vx : Value} (hx : VR m w im x vx) {lo hi : Option Operand} {c : Bool} {v : AV}
    (h : sliceA P t x (bndA ρ lo 0) (bndA ρ hi (match tArr P t with
      | some (n, _) => n
      | none => lenOfA x)) = .val c v) (hc : c = true) :
    ∃ u, (Instr.sliceAt t vx (lo.map e) (hi.map e) none).run P w = .ok u w ∧ VR m w im v u := by
  unfold sliceA at h
  split at h
  · rename_i n el ht
    have hu := arr_of ht
    rw [ht] at h
    simp only at h
    split at h
    · rename_i sz b off l hh hz hl' hh'
      injection h with h1 h2; subst h1; subst h2
      simp at hc
      simp only [VR] at hx
      obtain ⟨r, hm, rfl⟩ := hx
      refine ⟨_, ?_, by simp only [VR]; exact ⟨r, hm, rfl⟩⟩
      simp only [Instr.sliceAt, Sem.run_bind, run_underlying' hu, Result.andThen_ok, Instr.sureAddr, Sem.run_pure, run_sliceBounds he hl' hh' hc.1 hc.2.1 hc.2.2, run_sizeOf' hz, add_none]
      congr 2
      split <;> rfl
    · rename_i sz cs l hh hz hl' hh'
      injection h with h1 h2; subst h1; subst h2
      simp at hc
      simp only [VR] at hx
      obtain ⟨r, off, us, hm, rfl, hv, hr⟩ := hx
      refine ⟨.slice (some ⟨r, off + l.toNat * sz, none⟩) (hh.toNat - l.toNat) (n - l.toNat), ?_, ?_⟩
      · simp only [Instr.sliceAt, Sem.run_bind, run_underlying' hu, Result.andThen_ok, Instr.sureAddr, Sem.run_pure, run_sliceBounds he hl' hh' hc.1 hc.2.1 hc.2.2.1, run_sizeOf' hz, add_none]
        rw [if_neg (by omega)]
      · simp only [VR]
        exact .inr ⟨r, _, _, _, ⟨hm, by omega⟩, rfl, hv.drop _, hr.drop _⟩
    · cases h
  · rename_i ht
    rw [ht] at h
    simp only at h
    split at h
    · rename_i el hs
      have hu := slc_of hs
      split at h
      · rename_i sz len cs l hh hz hl' hh'
        simp only [lenOfA] at hh'
        injection h with h1 h2; subst h1; subst h2
        simp at hc
        simp only [VR] at hx
        rcases hx with ⟨h0, h00, rfl⟩ | ⟨r, off, cap, us, hm, rfl, hv, hr⟩
        · have e1 : l = 0 := by omega
          have e2 : hh = 0 := by omega
          subst e1; subst e2
          subst h0; subst h00
          refine ⟨.slice none 0 0, ?_, by simp [VR]⟩
          simp only [Instr.sliceAt, Instr.slice, Sem.run_bind, run_underlying' hu, Result.andThen_ok]
          rw [run_sliceBounds (len := 0) (cap := 0) he hl' hh' (by omega) (by omega) (by omega)]
          simp [run_sizeOf' hz]
        · obtain ⟨hm, hcap⟩ := hm
          simp only [Instr.sliceAt, Instr.slice, Sem.run_bind, run_underlying' hu, Result.andThen_ok, run_sliceBounds he hl' hh' hc.1 hc.2.1 (Int.le_trans hc.2.2 (Int.ofNat_le.2 hcap)), run_sizeOf' hz, Sem.run_pure, Option.map_some, add_none]
          by_cases hl0 : l.toNat = 0
          · refine ⟨_, rfl, ?_⟩
            simp only [VR, hl0, Nat.zero_mul, Nat.add_zero, ite_self, if_true, Nat.sub_zero]
            exact .inr ⟨r, off, _, us, ⟨hm, by omega⟩, rfl, hv, hr⟩
          · rw [if_neg hl0]
            by_cases hll : len = l.toNat
            · rw [if_pos hll]
              refine ⟨_, rfl, ?_⟩
              simp only [VR]
              have e0 : hh.toNat - l.toNat = 0 := by omega
              rw [e0]
              split
              · exact .inr ⟨r, _, _, [], ⟨hm, by omega⟩, rfl, by simp [VRs], hr.nil⟩
              · exact .inr ⟨r, _, _, [], ⟨hm, by omega⟩, rfl, by simp [VRs], hr.nil⟩
            · rw [if_neg hll, if_neg (by omega)]
              refine ⟨_, rfl, ?_⟩
              simp only [VR]
              exact .inr ⟨r, _, _, _, ⟨hm, by omega⟩, rfl, hv.drop _, hr.drop _⟩
      · rename_i sz b off len cap l hh hz hl' hh'
        simp only [lenOfA] at hh'
        injection h with h1 h2; subst h1; subst h2
        simp at hc
        simp only [VR] at hx
        obtain ⟨r, hm, rfl⟩ := hx
        refine ⟨_, ?_, by simp only [VR]; exact ⟨r, hm, rfl⟩⟩
        simp only [Instr.sliceAt, Instr.slice, Sem.run_bind, run_underlying' hu, Result.andThen_ok, run_sliceBounds he hl' hh' hc.1 hc.2.1 hc.2.2, run_sizeOf' hz, Sem.run_pure, Option.map_some, add_none]
        congr 2
        split <;> rfl
      · cases h
    · split at h
      · rename_i s l hh hl' hh'
        simp only [lenOfA] at hh'
        split at h
        · rename_i hst
          injection h with h1 h2; subst h1; subst h2
          simp at hc
          simp only [VR] at hx
          subst hx
          refine ⟨_, ?_, VR_raw⟩
          have hb := run_sliceBounds (P := P) (isS := false) (len := s.size) (cap := s.size) he hl' hh' hc.1 hc.2.1 hc.2.2
          simp [Instr.sliceAt, Instr.slice, run_underlying' (str_of hst), hb]
        · cases h
      · cases h

theorem pget_eq (l : List (Nat × Nat)) (n : Nat) : pget l n = l[n]? := by
  induction l generalizing n with
  | nil => simp [pget]
  | cons x l ih => cases n <;> simp [pget, ih]

def vsets : List Value → Nat → List Value → List Value
  | l, _, [] => l
  | l, n, c :: cs => vsets (l.set n c) (n + 1) cs
theorem vsets_length : ∀ (cs : List Value) (l : List Value) (n : Nat), (vsets l n cs).length = l.length
  | [], _, _ => rfl
  | c :: cs, l, n => by rw [vsets, vsets_length cs, List.length_set]
theorem VRs.lsets : ∀ {bs : List AV} {us : List Value} {as : List AV} {vs : List Value} (n : Nat), VRs m w im as vs → VRs m w im bs us → VRs m w im (lsets as n bs) (vsets vs n us)
  | [], [], _, _, n, h, _ => by simpa [Ev.lsets, vsets] using h
  | c :: cs, u :: us, as, vs, n, h, h' => by
    simp only [VRs] at h'
    simp only [Ev.lsets, vsets]
    rw [lset_eq]
    exact VRs.lsets (n + 1) (h.set n h'.1) h'.2
  | [], _ :: _, _, _, _, _, h => by simp only [VRs] at h
  | _ :: _, [], _, _, _, _, h => by simp only [VRs] at h

theorem foldl_vsets (off : Nat) : ∀ (l : List Value) (j : Nat) (cells : Array Value),
    ((l.zipIdx j).foldl (fun cs (c, j) => cs.setIfInBounds (off + j) c) cells).toList = vsets cells.toList (off + j) l
  | [], _, _ => by simp [vsets]
  | c :: l, j, cells => by
    simp only [List.zipIdx_cons, List.foldl_cons, vsets]
    rw [foldl_vsets off l (j + 1)]
    simp [Nat.add_assoc]

theorem fill_sound {ρ : Operand → AV} {e : Operand → Value} (he : ∀ x, VR m w im (ρ x) (e x)) {pl pl' : Nat → Option (Nat × Nat)} (hpl : ∀ i, pl i = pl' i) :
    ∀ (parts : List (Nat × Operand)) (z : List AV) (zs : Array Value) (cs : List AV), VRs m w im z zs.toList → fillA pl z (zipA ρ parts) = some cs →
    ∃ us, Instr.fill pl' zs (parts.map fun (i, x) => (i, e x)) = some us ∧ VRs m w im cs us.toList
  | [], z, zs, cs, hz, h => by
    simp only [zipA, fillA] at h
    cases h
    exact ⟨zs, by simp [Instr.fill], hz⟩
  | (i, x) :: parts, z, zs, cs, hz, h => by
    simp only [zipA, fillA] at h
    split at h
    · rename_i off size vs hp hv
      split at h
      · rename_i hc
        have hcells := (he x).cells hv
        have hlen : (e x).cells.size = size := by
          have := hcells.length
          rw [hc.1] at this
          simpa using this.symm
        have hzl : z.length = zs.size := by simpa using hz.length
        have hz' := VRs.lsets off hz hcells
        have hfold : ((e x).cells.zipIdx.foldl (fun cs (c, j) => cs.setIfInBounds (off + j) c) zs).toList = vsets zs.toList off (e x).cells.toList := by
          have := foldl_vsets off (e x).cells.toList 0 zs
          rw [← Array.foldl_toList]
          simpa using this
        rw [← hfold] at hz'
        obtain ⟨us, h1, h2⟩ := fill_sound he hpl parts _ _ cs hz' h
        refine ⟨us, ?_, h2⟩
        simp only [List.map_cons, Instr.fill, ← hpl, hp]
        rw [if_neg]
        · exact h1
        · simp only [hlen, ne_eq, not_true_eq_false, decide_false, Bool.false_or, decide_eq_true_eq]
          simp
          omega
      · cases h
    · cases h

theorem mapA_sound {ρ : Operand → AV} {e : Operand → Value} (he : ∀ x, VR m w im (ρ x) (e x)) : ∀ l : List Operand, VRs m w im (mapA ρ l) (l.map e)
  | [] => by simp [mapA, VRs]
  | x :: l => by simp only [mapA, List.map_cons, VRs]; exact ⟨he x, mapA_sound he l⟩

theorem build_arr {t n el sz : Nat} {z cs : List AV} {parts : Array (Nat × Operand)} {ρ : Operand → AV} {e : Operand → Value} (he : ∀ x, VR m w im (ρ x) (e x))
    (hz : tZero P t = some z) (ha : tArr P t = some (n, el)) (hs : tSz P el = some sz) (h : fillA (fun i => some (i * sz, sz)) z (zipA ρ parts.toList) = some cs) :
    ∃ us : Array Value, (Instr.build t (parts.map fun (i, x) => (i, e x))).run P w = .ok (.agg us) w ∧ VRs m w im cs us.toList := by
  obtain ⟨zv, hz1, hz2⟩ := run_zero' (w := w) (m := m) (im := im) hz
  obtain ⟨us, h1, h2⟩ := fill_sound he (pl' := fun i => some (i * sz, sz)) (fun _ => rfl) parts.toList z zv.cells cs hz2 h
  refine ⟨us, ?_, h2⟩
  simp only [Instr.build, Sem.run_bind, hz1, Result.andThen_ok, run_underlying' (arr_of ha), run_sizeOf' hs, Array.toList_map, h1, Sem.run_pure]

theorem build_struct {t : Nat} {pl : List (Nat × Nat)} {z cs : List AV} {parts : Array (Nat × Operand)} {ρ : Operand → AV} {e : Operand → Value} (he : ∀ x, VR m w im (ρ x) (e x))
    (hz : tZero P t = some z) (ha : tPl P t = some pl) (h : fillA (pget pl) z (zipA ρ parts.toList) = some cs) :
    ∃ us : Array Value, (Instr.build t (parts.map fun (i, x) => (i, e x))).run P w = .ok (.agg us) w ∧ VRs m w im cs us.toList := by
  obtain ⟨zv, hz1, hz2⟩ := run_zero' (w := w) (m := m) (im := im) hz
  obtain ⟨us, h1, h2⟩ := fill_sound he (pl' := fun i => pl[i]?) (pget_eq pl) parts.toList z zv.cells cs hz2 h
  refine ⟨us, ?_, h2⟩
  unfold tPl at ha
  split at ha
  · rename_i fs hu
    apply run_build
    unfold Program.built
    unfold tZero at hz
    cases hi : P.info? t with
    | none => rw [hi] at hz; cases hz
    | some it =>
      have hzz : it.zero = some zv := by
        simp [zeroValue, typeInfo, hi] at hz1
        cases hq : it.zero with
        | none => rw [hq] at hz1; simp at hz1
        | some q => rw [hq] at hz1; simp at hz1; rw [hz1]
      simp only [hu, hzz, ha, Array.toList_map]
      simpa using h1
  · cases ha

theorem lenA_sound {t : Nat} {x : AV} {vx : Value} {c : Bool} {v : AV} (hx : VR m w im x vx) (h : lenA P t x = .val c v) (ty : TypeId) :
    ∃ u, (Builtin.len_ #[t] ty #[vx]).run P w = .ok u w ∧ VR m w im v u := by
  have harr : ∀ (n e : Nat), tArr P t = some (n, e) → (Builtin.len_ #[t] ty #[vx]).run P w = .ok (.int .i64 n) w := fun n e ha => by
    simp [Builtin.len_, run_underlying' (arr_of ha), goInt]
  unfold lenA at h
  split at h
  · split at h
    · rename_i e hs
      injection h with h1 h2; subst h2
      simp only [VR] at hx
      obtain ⟨r, _, rfl⟩ := hx
      exact ⟨_, by simp [Builtin.len_, run_underlying' (slc_of hs), goInt], VR_int⟩
    · cases h
  · split at h
    · rename_i e hs
      injection h with h1 h2; subst h2
      simp only [VR] at hx
      rcases hx with ⟨rfl, rfl, rfl⟩ | ⟨r, off, cap, us, _, rfl, _⟩
      · exact ⟨_, by simp [Builtin.len_, run_underlying' (slc_of hs), goInt], VR_int⟩
      · exact ⟨_, by simp [Builtin.len_, run_underlying' (slc_of hs), goInt], VR_int⟩
    · cases h
  · split at h
    · rename_i hs
      injection h with h1 h2; subst h2
      simp only [VR] at hx
      subst hx
      exact ⟨_, by simp [Builtin.len_, run_underlying' (str_of hs), goInt], VR_int⟩
    · cases h
  · split at h
    · rename_i e hs
      injection h with h1 h2; subst h2
      simp only [VR] at hx
      subst hx
      exact ⟨_, by simp [Builtin.len_, run_underlying' (slc_of hs), goInt], VR_int⟩
    · cases h
  · split at h
    · rename_i n e ha
      injection h with h1 h2; subst h2
      exact ⟨_, harr n e ha, VR_int⟩
    · cases h
end
end Go.Ev
