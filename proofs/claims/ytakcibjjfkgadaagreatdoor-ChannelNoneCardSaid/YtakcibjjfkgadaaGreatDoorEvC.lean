/- The abstract run's memory and the machine's: what a new block, a store, a call keep. -/
import Derived.Test.YtakcibjjfkgadaaGreatDoorEvB
set_option linter.unusedVariables false
set_option linter.unusedSimpArgs false
namespace Go.Ev

section
variable {G : Glob} {m : List Nat} {im : Nat → Prop} {hp : List Blk} {w : World}

theorem HR.block (h : HR G m im hp w) {b r : Nat} (e : m[b]? = some r) : ∃ k, hp[b]? = some k ∧ BR m w im k r := by
  have hb : b < m.length := by
    rcases Nat.lt_or_ge b m.length with h' | h'
    · exact h'
    · rw [List.getElem?_eq_none h'] at e; cases e
  have hb' : b < hp.length := h.ln ▸ hb
  exact ⟨hp[b], List.getElem?_eq_getElem hb', h.bl b _ r (List.getElem?_eq_getElem hb') e⟩

theorem HR.lt (h : HR G m im hp w) {r : Nat} (hr : r ∈ m) : r < w.heap.size := by
  obtain ⟨b, hb, rfl⟩ := List.getElem_of_mem hr
  obtain ⟨k, _, arr, us, h1, _⟩ := h.block (List.getElem?_eq_getElem hb)
  rcases Nat.lt_or_ge m[b] w.heap.size with h' | h'
  · exact h'
  · rw [Array.getElem?_eq_none h'] at h1; cases h1

theorem HR.loc (h : HR G m im hp w) {b : Nat} {k : Blk} (e : hp[b]? = some k) : ∃ r, m[b]? = some r := by
  have hb : b < hp.length := by
    rcases Nat.lt_or_ge b hp.length with h' | h'
    · exact h'
    · rw [List.getElem?_eq_none h'] at e; cases e
  exact ⟨m[b]'(h.ln ▸ hb), List.getElem?_eq_getElem _⟩

theorem GOK.stay {w' : World} {im' : Nat → Prop} (h : GOK G w im) (s : Stay [] w im [] w' im') : GOK G w' im' := fun g cs hg => by
  obtain ⟨h1, us, h2, h3⟩ := h g cs hg
  exact ⟨(s.imm g h1).1, us, h2.stay s, h3.stay (s.imm g h1).2⟩

/-- A world in which nothing that was there has turned. -/
theorem HR.later {w' : World} {im' : Nat → Prop} (h : HR G m im hp w) (hs : w.heap.size ≤ w'.heap.size) (e : ∀ r, r < w.heap.size → w'.heap[r]? = w.heap[r]?)
    (hi : ∀ r, im r → im' r) (hn : ∀ r, im' r → im r ∨ (w.heap.size ≤ r ∧ r < w'.heap.size)) : HR G m im' hp w' := by
  have st : Stay m w im m w' im' := ⟨fun _ _ h => h, fun r hr => ⟨hi r hr, e r (h.imx r hr).1⟩⟩
  refine ⟨h.ln, fun b k r hb hm => ?_, h.inj, fun r hr => ?_, h.gl.stay ⟨fun _ _ h => h, st.imm⟩⟩
  · obtain ⟨arr, us, h1, h2, h3⟩ := h.bl b k r hb hm
    exact ⟨arr, us, by rw [e r (h.lt (List.mem_of_getElem? hm))]; exact h1, h2.stay st, h3⟩
  · rcases hn r hr with hy | hy
    · exact ⟨Nat.lt_of_lt_of_le (h.imx r hy).1 hs, (h.imx r hy).2⟩
    · exact ⟨hy.2, fun hx => by have := h.lt hx; omega⟩

theorem VRs_toList {as : List AV} {v : Array Value} (h : VRs m w im as v.toList) : ∃ us, VRs m w im as us ∧ v = us.toArray := ⟨v.toList, h, by simp⟩

/-- A new block. -/
theorem HR.push (h : HR G m im hp w) {cs : List AV} {us : List Value} (hv : VRs m w im cs us) (e : TypeId) :
    HR G (m ++ [w.heap.size]) im (hp ++ [⟨cs, e⟩]) { w with heap := w.heap.push (.cells us.toArray e) } ∧
    Stay m w im (m ++ [w.heap.size]) { w with heap := w.heap.push (.cells us.toArray e) } im := by
  have hk : ∀ r, r < w.heap.size → (w.heap.push (.cells us.toArray e))[r]? = w.heap[r]? := fun r hr => by
    rw [Array.getElem?_push, if_neg (by omega)]
  have st : Stay m w im (m ++ [w.heap.size]) { w with heap := w.heap.push (.cells us.toArray e) } im :=
    ⟨fun b r hb => by rw [List.getElem?_append_left (by
        rcases Nat.lt_or_ge b m.length with h' | h'
        · exact h'
        · rw [List.getElem?_eq_none h'] at hb; cases hb)]; exact hb, fun r hr => ⟨hr, hk r (h.imx r hr).1⟩⟩
  have old : ∀ (b : Nat) (k : Blk), b < hp.length → (hp ++ [⟨cs, e⟩])[b]? = some k → hp[b]? = some k := fun b k hb hh => by
    rwa [List.getElem?_append_left hb] at hh
  have oldm : ∀ (b r : Nat), b < hp.length → (m ++ [w.heap.size])[b]? = some r → m[b]? = some r := fun b r hb hh => by
    rwa [List.getElem?_append_left (h.ln ▸ hb)] at hh
  have newm : ∀ (b r : Nat), ¬ b < hp.length → (m ++ [w.heap.size])[b]? = some r → b = hp.length ∧ r = w.heap.size := fun b r hb hh => by
    rw [List.getElem?_append_right (by rw [h.ln]; omega)] at hh
    rcases hq : b - m.length with _ | q
    · rw [hq] at hh
      simp at hh
      have hln := h.ln
      exact ⟨by omega, hh.symm⟩
    · rw [hq] at hh; simp at hh
  refine ⟨⟨by simp [h.ln], fun b k r hb hm => ?_, fun b b' r k k' hm hm' hb hb' hc hc' => ?_, fun r hr => ?_, h.gl.stay ⟨fun _ _ h => h, st.imm⟩⟩, st⟩
  · by_cases hlt : b < hp.length
    · obtain ⟨arr, vs, h1, h2, h3⟩ := h.bl b k r (old b k hlt hb) (oldm b r hlt hm)
      exact ⟨arr, vs, by rw [hk r (h.lt (List.mem_of_getElem? (oldm b r hlt hm)))]; exact h1, h2.stay st, h3⟩
    · obtain ⟨rfl, rfl⟩ := newm b r hlt hm
      simp at hb
      subst hb
      exact ⟨us.toArray, us, by simp, hv.stay st, fun i u hu => by simpa using hu⟩
  · by_cases hlt : b < hp.length <;> by_cases hlt' : b' < hp.length
    · exact h.inj b b' r k k' (oldm b r hlt hm) (oldm b' r hlt' hm') (old b k hlt hb) (old b' k' hlt' hb') hc hc'
    · obtain ⟨_, rfl⟩ := newm b' r hlt' hm'
      have := h.lt (List.mem_of_getElem? (oldm b _ hlt hm)); omega
    · obtain ⟨_, rfl⟩ := newm b r hlt hm
      have := h.lt (List.mem_of_getElem? (oldm b' _ hlt' hm')); omega
    · rw [(newm b r hlt hm).1, (newm b' r hlt' hm').1]
  · refine ⟨by simp; have := (h.imx r hr).1; omega, fun hx => ?_⟩
    rcases List.mem_append.1 hx with hx | hx
    · exact (h.imx r hr).2 hx
    · simp at hx; have := (h.imx r hr).1; omega

theorem Ext.push (n0 : Nat) (hn : n0 ≤ m.length) (o : Obj) : Ext n0 m im w (m ++ [w.heap.size]) im { w with heap := w.heap.push o } where
  os := rfl
  tape := rfl
  output := rfl
  size := by simp
  pre := fun b r hb e => by rw [List.getElem?_append_left (by omega)]; exact e
  keep := fun r hr _ => by show (w.heap.push o)[r]? = _; rw [Array.getElem?_push, if_neg (by omega)]
  newm := fun r hr => by
    rcases List.mem_append.1 hr with hr | hr
    · exact .inl hr
    · simp at hr; exact .inr (by omega)
  imm := fun _ h => h
  newim := fun _ h => .inl h

theorem cell?_row {r off : Nat} {us : List Value} (h : Row w r off us) {i : Nat} {u : Value} (e : us[i]? = some u) : w.cell? ⟨r, off + i, none⟩ = some u := by
  obtain ⟨arr, t, fz, h1, h2⟩ := h
  simp [World.cell?, h1, h2 i u e]

theorem BR.row {k : Blk} {r : Nat} (h : BR m w im k r) : ∃ us, VRs m w im k.cells us ∧ Row w r 0 us := by
  obtain ⟨arr, us, h1, h2, h3⟩ := h
  exact ⟨us, h2, arr, k.elem, (0, 0), h1, fun i u hu => by simpa using h3 i u hu⟩

theorem Row.drop {r off : Nat} {us : List Value} (h : Row w r off us) (n : Nat) : Row w r (off + n) (us.drop n) := by
  obtain ⟨arr, t, fz, h1, h2⟩ := h
  exact ⟨arr, t, fz, h1, fun i u hu => by
    rw [List.getElem?_drop] at hu
    have := h2 _ _ hu
    rwa [Nat.add_assoc]⟩
theorem Row.take {r off : Nat} {us : List Value} (h : Row w r off us) (n : Nat) : Row w r off (us.take n) := by
  obtain ⟨arr, t, fz, h1, h2⟩ := h
  exact ⟨arr, t, fz, h1, fun i u hu => by
    rw [List.getElem?_take] at hu
    split at hu
    · exact h2 _ _ hu
    · cases hu⟩

theorem add_none (r off n : Nat) : (⟨r, off, none⟩ : Addr).add n = ⟨r, off + n, none⟩ := by
  unfold Addr.add
  split
  · rename_i h; subst h; rfl
  · rfl

/-- A store of one cell. -/
theorem HR.set (h : HR G m im hp w) {b r off : Nat} {k : Blk} {c : AV} {u : Value} (hb : hp[b]? = some k) (hm : m[b]? = some r) (ho : off < k.cells.length) (hv : VR m w im c u) :
    HR G m im (hp.set b ⟨lset k.cells off c, k.elem⟩) (w.setCell ⟨r, off, none⟩ u) ∧ Stay m w im m (w.setCell ⟨r, off, none⟩ u) im ∧
    (∃ v, w.cell? ⟨r, off, none⟩ = some v) ∧ w.frozen? ⟨r, off, none⟩ = false := by
  obtain ⟨arr, us, h1, h2, h3⟩ := h.bl b k r hb hm
  have hlen : off < us.length := by rw [← h2.length]; exact ho
  have hcell : w.cell? ⟨r, off, none⟩ = some us[off] := by
    have := h3 off _ (List.getElem?_eq_getElem hlen)
    simp [World.cell?, h1, this]
  have hk : ∀ x, x ≠ r → (w.setCell ⟨r, off, none⟩ u).heap[x]? = w.heap[x]? := fun x hx => by
    simp only [World.setCell, Array.getElem?_modify]
    rw [if_neg (by omega)]
  have hr : (w.setCell ⟨r, off, none⟩ u).heap[r]? = some (.cells (arr.setIfInBounds off u) k.elem (0, 0)) := by
    simp [World.setCell, Array.getElem?_modify, h1]
  have hrm : r ∈ m := List.mem_of_getElem? hm
  have st : Stay m w im m (w.setCell ⟨r, off, none⟩ u) im := ⟨fun _ _ h => h, fun x hx => ⟨hx, hk x fun e => (h.imx x hx).2 (e ▸ hrm)⟩⟩
  refine ⟨⟨by simp [h.ln], fun b' k' r' hb' hm' => ?_, fun b1 b2 r' k1 k2 hm1 hm2 hb1 hb2 hc1 hc2 => ?_, fun x hx => ⟨by simpa [World.setCell] using (h.imx x hx).1, (h.imx x hx).2⟩, h.gl.stay ⟨fun _ _ h => h, st.imm⟩⟩, st, ⟨_, hcell⟩, by simp [World.frozen?, h1]⟩
  · by_cases e : b' = b
    · subst e
      rw [hm] at hm'
      cases hm'
      have hlt : b' < hp.length := by
        rcases Nat.lt_or_ge b' hp.length with h' | h'
        · exact h'
        · rw [List.getElem?_eq_none h'] at hb; cases hb
      rw [List.getElem?_set_self hlt] at hb'
      cases hb'
      refine ⟨_, us.set off u, hr, ?_, fun i v hi => ?_⟩
      · rw [lset_eq]; exact (h2.stay st).set off (hv.stay st)
      · rw [Array.getElem?_setIfInBounds]
        by_cases hoi : off = i
        · subst hoi
          rw [List.getElem?_set_self hlen] at hi
          cases hi
          rw [if_pos rfl, if_pos]
          have := h3 off _ (List.getElem?_eq_getElem hlen)
          rcases Nat.lt_or_ge off arr.size with h' | h'
          · exact h'
          · rw [Array.getElem?_eq_none h'] at this; cases this
        · rw [List.getElem?_set_ne hoi] at hi
          rw [if_neg hoi]
          exact h3 i v hi
    · rw [List.getElem?_set_ne (Ne.symm e)] at hb'
      obtain ⟨arr', vs, g1, g2, g3⟩ := h.bl b' k' r' hb' hm'
      by_cases er : r' = r
      · -- the other one is dead
        subst er
        have hdead : k'.cells = [] := by
          apply Classical.byContradiction
          intro hne
          exact e (h.inj b' b r' k' k hm' hm hb' hb hne (fun h0 => by rw [h0] at ho; simp at ho))
        rw [h1] at g1
        injection g1 with g1
        injection g1 with _ e2 _
        exact ⟨_, [], by rw [← e2]; exact hr, by rw [hdead]; simp [VRs], fun i u hu => by simp at hu⟩
      · exact ⟨arr', vs, by rw [hk r' er]; exact g1, g2.stay st, g3⟩
  · have live : ∀ (bb : Nat) (kk : Blk), (hp.set b ⟨lset k.cells off c, k.elem⟩)[bb]? = some kk → kk.cells ≠ [] → ∃ k0, hp[bb]? = some k0 ∧ k0.cells ≠ [] := fun bb kk hbb hne => by
      by_cases e : bb = b
      · subst e
        exact ⟨k, hb, fun h0 => by rw [h0] at ho; simp at ho⟩
      · rw [List.getElem?_set_ne (Ne.symm e)] at hbb
        exact ⟨kk, hbb, hne⟩
    obtain ⟨l1, p1, q1⟩ := live b1 k1 hb1 hc1
    obtain ⟨l2, p2, q2⟩ := live b2 k2 hb2 hc2
    exact h.inj b1 b2 r' l1 l2 hm1 hm2 p1 p2 q1 q2

theorem Ext.set (n0 : Nat) {b r off : Nat} (hm : m[b]? = some r) (u : Value) : Ext n0 m im w m im (w.setCell ⟨r, off, none⟩ u) where
  os := rfl
  tape := rfl
  output := rfl
  size := by simp [World.setCell]
  pre := fun _ _ _ e => e
  keep := fun x hx hn => by
    simp only [World.setCell, Array.getElem?_modify]
    rw [if_neg]
    intro e
    exact hn (e ▸ List.mem_of_getElem? hm)
  newm := fun _ h => .inl h
  imm := fun _ h => h
  newim := fun _ h => .inl h

theorem Stay.trans {m' m'' : List Nat} {w' w'' : World} {im' im'' : Nat → Prop} (a : Stay m w im m' w' im') (b : Stay m' w' im' m'' w'' im'') : Stay m w im m'' w'' im'' :=
  ⟨fun x r h => b.pre x r (a.pre x r h), fun r h => ⟨(b.imm r (a.imm r h).1).1, (b.imm r (a.imm r h).1).2.trans (a.imm r h).2⟩⟩
theorem Stay.refl (m : List Nat) (w : World) (im : Nat → Prop) : Stay m w im m w im := ⟨fun _ _ h => h, fun _ h => ⟨h, rfl⟩⟩

theorem lset_length (l : List AV) (n : Nat) (v : AV) : (lset l n v).length = l.length := by rw [lset_eq, List.length_set]
theorem lsets_length : ∀ (cs : List AV) (l : List AV) (n : Nat), (lsets l n cs).length = l.length
  | [], _, _ => rfl
  | c :: cs, l, n => by rw [lsets, lsets_length cs, lset_length]

/-- A store of several cells. -/
theorem run_storeCells (P : Program) (n0 : Nat) {r : Nat} : ∀ (cs : List AV) (us : List Value) (hp : List Blk) (w : World) (b off j : Nat) (k : Blk), HR G m im hp w → hp[b]? = some k → m[b]? = some r → off + j + cs.length ≤ k.cells.length →
    allOne cs = true → VRs m w im cs us → ∃ w', (storeCells ⟨r, off, none⟩ us j).run P w = .ok () w' ∧ HR G m im (hp.set b ⟨lsets k.cells (off + j) cs, k.elem⟩) w' ∧ Stay m w im m w' im ∧ Ext n0 m im w m im w'
  | [], [], hp, w, b, off, j, k, h, hb, hm, hl, ho, hv => by
    refine ⟨w, rfl, ?_, Stay.refl _ _ _, Ext.refl _ _ _ _⟩
    simp only [lsets]
    have : hp.set b ⟨k.cells, k.elem⟩ = hp := by
      apply List.ext_getElem?
      intro i
      rw [List.getElem?_set]
      split
      · rename_i e; subst e; split
        · exact hb.symm
        · rename_i hlt; rw [List.getElem?_eq_none (by omega)]
      · rfl
    rw [this]; exact h
  | c :: cs, u :: us, hp, w, b, off, j, k, h, hb, hm, hl, ho, hv => by
    simp only [VRs] at hv
    simp only [allOne, Bool.and_eq_true] at ho
    simp only [List.length_cons] at hl
    obtain ⟨h1, st1, ⟨v0, hc⟩, hf⟩ := h.set (off := off + j) hb hm (by omega) hv.1
    have hblt : b < hp.length := by
      rcases Nat.lt_or_ge b hp.length with h' | h'
      · exact h'
      · rw [List.getElem?_eq_none h'] at hb; cases hb
    have ih := run_storeCells P n0 cs us _ _ b off (j + 1) ⟨lset k.cells (off + j) c, k.elem⟩ h1 (by rw [List.getElem?_set_self hblt]) hm (by simp only [lset_length]; omega) ho.2 (hv.2.stay st1)
    obtain ⟨w', hr, h2, st2, e2⟩ := ih
    refine ⟨w', ?_, ?_, st1.trans st2, (Ext.set n0 hm u).trans e2⟩
    · simp only [storeCells, Sem.run_bind, add_none]
      rw [run_store _ _ _ _ _ (hv.1.one ho.1), hc]
      simp only [hf, Bool.false_eq_true, if_false, Result.andThen_ok]
      exact hr
    · rw [List.set_set] at h2
      simpa [lsets, Nat.add_assoc] using h2
  | [], _ :: _, _, _, _, _, _, _, _, _, _, _, _, hv => by simp only [VRs] at hv
  | _ :: _, [], _, _, _, _, _, _, _, _, _, _, _, hv => by simp only [VRs] at hv

end
end Go.Ev
