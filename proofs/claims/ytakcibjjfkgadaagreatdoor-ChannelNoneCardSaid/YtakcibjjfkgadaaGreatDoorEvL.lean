/- append, as a rule of the abstract run. -/
import Derived.Test.YtakcibjjfkgadaaGreatDoorEvT
import Derived.Laws.AppendOwn
set_option linter.unusedVariables false
set_option linter.unusedSimpArgs false
namespace Go.Ev

section
variable {r : Option Nat} {P : Program} {G : Glob} {n0 : Nat} {R : AX → St → Prop} {m : List Nat} {im : Nat → Prop} {w : World}

/-- What is appended: mm elements, their cells. -/
def Src (G : Glob) (h : List Blk) (x : AV) (mm : Nat) (news : List AV) : Prop :=
  ∀ m im w v, HR G m im h w → VR m w im x v → ∃ a c us, v = .slice (some a) mm c ∧ VRs m w im news us ∧ ∀ (j : Nat) (u : Value), us[j]? = some u → w.cell? (a.add j) = some u
theorem src_own {h : List Blk} {b off mm c l : Nat} {k : Blk} {news : List AV} (hb : bget h b = some k) (hn : (k.cells.drop off).take l = news) : Src G h (.slice b off mm c) mm news := by
  intro m im w v hH hv
  simp only [VR] at hv
  obtain ⟨r, hr, rfl⟩ := hv
  obtain ⟨us, h1, h2⟩ := (hH.bl b k r (by rw [← bget_eq]; exact hb) hr).row
  have h3 := (h2.drop off).take l
  subst hn
  refine ⟨_, _, _, rfl, (h1.drop off).take l, fun j u hu => ?_⟩
  rw [add_none]
  have := cell?_row h3 hu
  simpa using this
theorem src_im {h : List Blk} {mm : Nat} {news : List AV} (hm : 0 < mm) : Src G h (.islice mm news) mm news := by
  intro m im w v hH hv
  simp only [VR] at hv
  rcases hv with ⟨h0, _⟩ | ⟨r, off, cap, us, h1, h2, h3, h4⟩
  · omega
  · exact ⟨_, _, us, h2, h3, fun j u hu => by rw [add_none]; exact cell?_row h4 hu⟩

/-- A block of which nothing is known any more. -/
theorem HR.kill {h : List Blk} (hH : HR G m im h w) {b : Nat} {k : Blk} (hb : bget h b = some k) : HR G m im (bset h b ⟨[], k.elem⟩) w := by
  rw [bget_eq] at hb
  rw [bset_eq]
  have hlt : b < h.length := by
    rcases Nat.lt_or_ge b h.length with h' | h'
    · exact h'
    · rw [List.getElem?_eq_none h'] at hb; cases hb
  refine ⟨by simpa using hH.ln, fun b' k' r hb' hr => ?_, fun b1 b2 r k1 k2 h1 h2 g1 g2 c1 c2 => ?_, hH.imx, hH.gl⟩
  · by_cases e : b' = b
    · subst e
      rw [List.getElem?_set_self hlt] at hb'
      cases hb'
      obtain ⟨arr, us, q1, q2, q3⟩ := hH.bl b' k r hb hr
      exact ⟨arr, [], q1, by simp [VRs], fun i u hu => by simp at hu⟩
    · rw [List.getElem?_set_ne (Ne.symm e)] at hb'
      exact hH.bl b' k' r hb' hr
  · have live : ∀ (bb : Nat) (kk : Blk), (h.set b ⟨[], k.elem⟩)[bb]? = some kk → kk.cells ≠ [] → h[bb]? = some kk := fun bb kk hbb hne => by
      by_cases e : bb = b
      · subst e
        rw [List.getElem?_set_self hlt] at hbb
        cases hbb
        exact absurd rfl hne
      · rwa [List.getElem?_set_ne (Ne.symm e)] at hbb
    exact hH.inj b1 b2 r k1 k2 h1 h2 (live _ _ g1 c1) (live _ _ g2 c2) c1 c2

theorem HR.drew {h : List Blk} (hH : HR G m im h w) : HR G m im h w.drew ∧ Stay m w im m w.drew im ∧ Ext n0 m im w m im w.drew :=
  ⟨hH.later (Nat.le_refl _) (fun _ _ => rfl) (fun _ h => h) fun _ h => .inl h, ⟨fun _ _ h => h, fun _ h => ⟨h, rfl⟩⟩, ⟨rfl, rfl, rfl, Nat.le_refl _, fun _ _ _ h => h, fun _ _ _ => rfl, fun _ h => .inl h, fun _ h => h, fun _ h => .inl h⟩⟩

theorem VRs.junk : ∀ (us : List Value), VRs m w im (List.replicate us.length .junk) us
  | [] => by simp [VRs]
  | u :: us => by simp only [List.length_cons, List.replicate_succ, VRs, VR]; exact ⟨trivial, VRs.junk us⟩

theorem VRs.one {cs : List AV} {us : List Value} (h : VRs m w im cs us) (ho : allOne cs = true) : ∀ u ∈ us, u.oneCell' = true := by
  intro u hu
  obtain ⟨i, hi, rfl⟩ := List.getElem_of_mem hu
  obtain ⟨a, ha, hr⟩ := h.getv (List.getElem?_eq_getElem hi)
  exact VR.one hr (allOne_get ho ha)

/-- Of what may be appended to. -/
inductive Base (h : List Blk) (e sz : Nat) : AV → Nat → List AV → List Blk → Prop
  | nil : Base h e sz (.raw (.slice none 0 0)) 0 [] h
  | own {b n cap : Nat} {k : Blk} (hb : bget h b = some k) (he : k.elem = e) (hl : k.cells.length = cap * sz) (hn : n ≤ cap) : Base h e sz (.slice b 0 n cap) n (k.cells.take (n * sz)) (bset h b ⟨[], e⟩)

theorem fresh_row {h : List Blk} (hn0 : n0 ≤ m.length) (hH : HR G m im h w) (e sz n cap' : Nat) (cs : List AV) (us vs : List Value) (hv : VRs m w im cs us) (hl : vs.length = (cap' - n) * sz) :
    HR G (m ++ [w.heap.size]) im (h ++ [⟨cs ++ List.replicate ((cap' - n) * sz) .junk, e⟩]) { w with heap := w.heap.push (.cells (us ++ vs).toArray e) } ∧
    Stay m w im (m ++ [w.heap.size]) { w with heap := w.heap.push (.cells (us ++ vs).toArray e) } im ∧ Ext n0 m im w (m ++ [w.heap.size]) im { w with heap := w.heap.push (.cells (us ++ vs).toArray e) } ∧
    VR (m ++ [w.heap.size]) { w with heap := w.heap.push (.cells (us ++ vs).toArray e) } im (.slice h.length 0 n cap') (.slice (some ⟨w.heap.size, 0, none⟩) n cap') := by
  obtain ⟨h1, h2⟩ := hH.push (cs := cs ++ List.replicate ((cap' - n) * sz) .junk) (us := us ++ vs) (hv.append (by rw [← hl]; exact VRs.junk vs)) e
  refine ⟨h1, h2, Ext.push n0 hn0 _, ?_⟩
  simp only [VR]
  exact ⟨_, by rw [← hH.ln]; simp, rfl⟩

theorem append_run {h h1 : List Blk} {e sz n mm : Nat} {s x : AV} {vs vx : Value} {olds news : List AV} {t ty : TypeId} {i : TypeInfo} {z : Value} (hn0 : n0 ≤ m.length) (hH : HR G m im h w)
    (ht : P.underlying t = some (.slice e)) (hi : P.info? e = some i) (hz : i.zero = some z) (hsz : i.size = sz) (hzs : z.cells.size = sz)
    (hb : Base h e sz s n olds h1) (hs : VR m w im s vs) (hx : VR m w im x vx) (hsrc : Src G h x mm news) (hl : news.length = mm * sz) (h1c : allOne news = true) (hmm : 0 < mm) (hs0 : 0 < sz)
    (h63 : n + mm ≤ 9223372036854775807) (h48 : (n + mm) * i.bytes ≤ 140737488355328) :
    ∃ cap' v' w' m', (Builtin.append_ #[t, t] ty #[vs, vx]).run P w = .ok v' w' ∧ n + mm ≤ cap' ∧ HR G m' im (h1 ++ [⟨olds ++ news ++ List.replicate ((cap' - (n + mm)) * sz) .junk, e⟩]) w' ∧ Stay m w im m' w' im ∧
      Ext n0 m im w m' im w' ∧ VR m' w' im (.slice h.length 0 (n + mm) cap') v' := by
  subst hsz
  obtain ⟨a, c, us, rfl, hus, hcell⟩ := hsrc m im w vx hH hx
  have hul : us.length = mm * i.size := by rw [← hus.length]; exact hl
  obtain ⟨hHd, hSd, hEd⟩ := hH.drew (n0 := n0)
  cases hb with
  | nil =>
    simp only [VR] at hs
    subst hs
    have hr := run_append_nil (P := P) w t ty e i z ht hi hz a mm c us hul hcell hmm (by omega) (by rw [Nat.zero_add] at h48; omega)
    obtain ⟨cap', hcap⟩ : ∃ cap', grownCap w mm 0 e = cap' := ⟨_, rfl⟩
    have hge := grownCap_ge w mm 0 e
    rw [hcap] at hr hge
    obtain ⟨g1, g2, g3, g4⟩ := fresh_row (n0 := n0) hn0 hHd e i.size mm cap' news us (Builtin.zeroCells z.cells (cap' - mm)).toList (hus.stay hSd) (by simp [size_zeroCells, hzs])
    have eA : us.toArray ++ Builtin.zeroCells z.cells (cap' - mm) = (us ++ (Builtin.zeroCells z.cells (cap' - mm)).toList).toArray := by apply Array.ext'; simp
    rw [eA] at hr
    exact ⟨cap', _, _, _, hr, by omega, by rw [Nat.zero_add, List.nil_append]; exact g1, hSd.trans g2, hEd.trans g3, by rw [Nat.zero_add]; exact g4⟩
  | @own b _ cap k hb he hlk hn =>
    simp only [VR] at hs
    obtain ⟨r, hr, rfl⟩ := hs
    have hb' := hb
    rw [bget_eq] at hb'
    obtain ⟨arr, os, q1, q2, q3⟩ := hH.bl b k r hb' hr
    rw [he] at q1
    have hol : (os.take (n * i.size)).length = n * i.size := by
      have := q2.length
      rw [List.length_take, ← this, hlk]
      exact Nat.min_eq_left (Nat.mul_le_mul_right _ hn)
    have hoc : ∀ (j : Nat) (u : Value), (os.take (n * i.size))[j]? = some u → w.cell? ((⟨r, 0, none⟩ : Addr).add j) = some u := fun j u hu => by
      rw [add_none]
      have hrow : Row w r 0 os := ⟨arr, e, (0, 0), q1, fun i u hu => by simpa using q3 i u hu⟩
      exact cell?_row (hrow.take (n * i.size)) hu
    by_cases hroom : n + mm ≤ cap
    · -- in place
      have hsize : cap * i.size ≤ arr.size := by
        rw [← hlk, q2.length]
        rcases Nat.lt_or_ge arr.size os.length with h' | h'
        · have := q3 arr.size _ (List.getElem?_eq_getElem h')
          simp at this
        · exact h'
      have hfit : n * i.size + us.length ≤ arr.size := by
        rw [hul, ← Nat.add_mul]
        exact Nat.le_trans (Nat.mul_le_mul_right _ hroom) hsize
      have hr2 := run_append_room (P := P) w t ty e i ht hi r n cap arr q1 a mm c us hul hcell (hus.one h1c) hroom hfit
      obtain ⟨arr', harr'⟩ : ∃ arr', (arr.toList.take (n * i.size) ++ us ++ arr.toList.drop (n * i.size + us.length)).toArray = arr' := ⟨_, rfl⟩
      rw [harr'] at hr2
      have hrm : r ∈ m := List.mem_of_getElem? hr
      have hoth : ∀ x, x ≠ r → (w.setRow r arr').heap[x]? = w.heap[x]? := fun x hx => setRow_other w r x arr' hx
      have hself : (w.setRow r arr').heap[r]? = some (.cells arr' e (0, 0)) := setRow_heap w r arr arr' e (0, 0) q1
      have st : Stay m w im m (w.setRow r arr') im := ⟨fun _ _ h => h, fun y hy => ⟨hy, hoth y fun e => (hH.imx y hy).2 (e ▸ hrm)⟩⟩
      have st' : Stay m w im (m ++ [r]) (w.setRow r arr') im := ⟨fun b r hb => (by
          rw [List.getElem?_append_left]
          · exact hb
          · rcases Nat.lt_or_ge b m.length with h' | h'
            · exact h'
            · rw [List.getElem?_eq_none h'] at hb; cases hb), st.imm⟩
      have hK := hH.kill hb
      rw [he] at hK
      rw [bset_eq] at hK ⊢
      have hlt : b < h.length := by
        rcases Nat.lt_or_ge b h.length with h' | h'
        · exact h'
        · rw [List.getElem?_eq_none h'] at hb'; cases hb'
      -- the blocks with the same row are dead
      have dead : ∀ (b' : Nat) (k' : Blk), m[b']? = some r → (h.set b ⟨[], e⟩)[b']? = some k' → k'.cells = [] ∧ k'.elem = e := fun b' k' hm' hk' => by
        by_cases e' : b' = b
        · subst e'
          rw [List.getElem?_set_self hlt] at hk'
          cases hk'
          exact ⟨rfl, rfl⟩
        · rw [List.getElem?_set_ne (Ne.symm e')] at hk'
          obtain ⟨arr2, us2, p1, p2, p3⟩ := hH.bl b' k' r hk' hm'
          rw [q1] at p1
          injection p1 with p1
          injection p1 with _ p4 _
          refine ⟨Classical.byContradiction fun hne => ?_, p4.symm⟩
          have hkne : k.cells ≠ [] := fun h0 => by
            rw [h0] at hlk
            simp only [List.length_nil] at hlk
            rcases Nat.mul_eq_zero.1 hlk.symm with h' | h' <;> omega
          exact e' (hH.inj b' b r k' k hm' hr hk' hb' hne hkne)
      have hP : arr.toList.take (n * i.size) = os.take (n * i.size) := by
        apply List.ext_getElem?
        intro j
        rw [List.getElem?_take, List.getElem?_take]
        split
        · rename_i hj
          have hjo : j < os.length := by
            have := hol
            rw [List.length_take] at this
            omega
          rw [List.getElem?_eq_getElem hjo]
          simpa using q3 j _ (List.getElem?_eq_getElem hjo)
        · rfl
      obtain ⟨D, hD⟩ : ∃ D, arr.toList.drop (n * i.size + us.length) = D := ⟨_, rfl⟩
      rw [hP, hD] at harr'
      have hDl : (cap - (n + mm)) * i.size ≤ D.length := by
        rw [← hD, List.length_drop, hul, ← Nat.add_mul, Nat.sub_mul]
        simp only [Array.length_toList]
        omega
      have hX : (D.take ((cap - (n + mm)) * i.size)).length = (cap - (n + mm)) * i.size := by rw [List.length_take]; omega
      have hln : h.length < (m ++ [r]).length := by simp [← hH.ln]
      have hnew : (m ++ [r])[h.length]? = some r := by rw [← hH.ln]; simp
      have old : ∀ (b' r' : Nat), b' < h.length → (m ++ [r])[b']? = some r' → m[b']? = some r' := fun b' r' hb' e' => by
        rwa [List.getElem?_append_left (by rw [hH.ln]; exact hb')] at e'
      have hls : (h.set b ⟨[], e⟩).length = h.length := by simp
      have oldk : ∀ (b' : Nat) (k' kn : Blk), b' < h.length → (h.set b ⟨[], e⟩ ++ [kn])[b']? = some k' → (h.set b ⟨[], e⟩)[b']? = some k' := fun b' k' kn hb' e' => by
        rwa [List.getElem?_append_left (by rw [hls]; exact hb')] at e'
      have last : ∀ (b' : Nat) (k' kn : Blk), ¬ b' < h.length → (h.set b ⟨[], e⟩ ++ [kn])[b']? = some k' → b' = h.length ∧ k' = kn := fun b' k' kn hb' e' => by
        rw [List.getElem?_append_right (by rw [hls]; omega), hls] at e'
        rcases hq : b' - h.length with _ | q
        · rw [hq] at e'
          simp at e'
          exact ⟨by omega, e'.symm⟩
        · rw [hq] at e'; simp at e'
      refine ⟨cap, _, _, m ++ [r], hr2, hroom, ⟨by simp [hH.ln], fun b' k' r' hk' hm' => ?_, fun b1 b2 r' k1 k2 hm1 hm2 hk1 hk2 c1 c2 => ?_, fun y hy => ⟨by simpa using (hH.imx y hy).1, fun hx => ?_⟩, hH.gl.stay ⟨fun _ _ h => h, st.imm⟩⟩, st', ?_, ?_⟩
      · by_cases hlt' : b' < h.length
        · have hm2 := old b' r' hlt' hm'
          have hk2 := oldk b' k' _ hlt' hk'
          by_cases er : r' = r
          · subst er
            obtain ⟨d1, d2⟩ := dead b' k' hm2 hk2
            exact ⟨arr', [], by rw [d2]; exact hself, by rw [d1]; simp [VRs], fun i u hu => by simp at hu⟩
          · obtain ⟨arr2, us2, p1, p2, p3⟩ := hK.bl b' k' r' hk2 hm2
            exact ⟨arr2, us2, by rw [hoth r' er]; exact p1, p2.stay st', p3⟩
        · obtain ⟨rfl, rfl⟩ := last b' k' _ hlt' hk'
          rw [hnew] at hm'
          cases hm'
          refine ⟨arr', os.take (n * i.size) ++ us ++ D.take ((cap - (n + mm)) * i.size), hself, ?_, fun j u hu => ?_⟩
          · refine ((((q2.take _).append hus).append ?_).stay st')
            have := VRs.junk (m := m) (w := w) (im := im) (D.take ((cap - (n + mm)) * i.size))
            rwa [hX] at this
          · rw [← harr']
            have hj : j < (os.take (n * i.size) ++ us ++ D.take ((cap - (n + mm)) * i.size)).length := by
              rcases Nat.lt_or_ge j (os.take (n * i.size) ++ us ++ D.take ((cap - (n + mm)) * i.size)).length with h' | h'
              · exact h'
              · rw [List.getElem?_eq_none h'] at hu; cases hu
            have e1 : (os.take (n * i.size) ++ us ++ D) = (os.take (n * i.size) ++ us ++ D.take ((cap - (n + mm)) * i.size)) ++ D.drop ((cap - (n + mm)) * i.size) := by
              rw [List.append_assoc _ (D.take _), List.take_append_drop]
            rw [List.getElem?_toArray, e1, List.getElem?_append_left hj]
            exact hu
      · have hu : ∀ (b' : Nat) (k' : Blk), b' < h.length → (h.set b ⟨[], e⟩ ++ [(⟨k.cells.take (n * i.size) ++ news ++ List.replicate ((cap - (n + mm)) * i.size) .junk, e⟩ : Blk)])[b']? = some k' → m[b']? = some r → k'.cells ≠ [] → False := fun b' k' hb' hk' hm' hne =>
          hne (dead b' k' hm' (oldk b' k' _ hb' hk')).1
        by_cases l1 : b1 < h.length <;> by_cases l2 : b2 < h.length
        · exact hK.inj b1 b2 r' k1 k2 (old b1 r' l1 hm1) (old b2 r' l2 hm2) (oldk b1 k1 _ l1 hk1) (oldk b2 k2 _ l2 hk2) c1 c2
        · obtain ⟨rfl, rfl⟩ := last b2 k2 _ l2 hk2
          rw [hnew] at hm2
          cases hm2
          exact (hu b1 k1 l1 hk1 (old b1 _ l1 hm1) c1).elim
        · obtain ⟨rfl, rfl⟩ := last b1 k1 _ l1 hk1
          rw [hnew] at hm1
          cases hm1
          exact (hu b2 k2 l2 hk2 (old b2 _ l2 hm2) c2).elim
        · rw [(last b1 k1 _ l1 hk1).1, (last b2 k2 _ l2 hk2).1]
      · rcases List.mem_append.1 hx with hx | hx
        · exact (hH.imx y hy).2 hx
        · simp at hx
          exact (hH.imx y hy).2 (hx ▸ hrm)
      · exact { os := rfl, tape := rfl, output := rfl, size := by simp, pre := fun b' r' hb' e' => st'.pre b' r' e', keep := fun y hy hm' => hoth y fun e' => hm' (e' ▸ hrm)
                newm := fun y hy => by
                  rcases List.mem_append.1 hy with hy | hy
                  · exact .inl hy
                  · simp at hy; exact .inl (hy ▸ hrm)
                imm := fun _ h => h, newim := fun _ h => .inl h }
      · simp only [VR]
        exact ⟨r, hnew, rfl⟩
    · have hr2 := run_append_grow (P := P) w t ty e i z ht hi hz ⟨r, 0, none⟩ n cap (os.take (n * i.size)) hol hoc a mm c us hul hcell (by omega) (by omega) (growslice_fits (by omega) h48)
      obtain ⟨cap', hcap⟩ : ∃ cap', grownCap w (n + mm) cap e = cap' := ⟨_, rfl⟩
      have hge := grownCap_ge w (n + mm) cap e
      rw [hcap] at hr2 hge
      have hK := hHd.kill hb
      rw [he] at hK
      obtain ⟨g1, g2, g3, g4⟩ := fresh_row (n0 := n0) hn0 hK e i.size (n + mm) cap' (k.cells.take (n * i.size) ++ news) (os.take (n * i.size) ++ us) (Builtin.zeroCells z.cells (cap' - (n + mm))).toList
        (((q2.take _).stay hSd).append (hus.stay hSd)) (by simp [size_zeroCells, hzs])
      have eA : (os.take (n * i.size)).toArray ++ us.toArray ++ Builtin.zeroCells z.cells (cap' - (n + mm)) = (os.take (n * i.size) ++ us ++ (Builtin.zeroCells z.cells (cap' - (n + mm))).toList).toArray := by apply Array.ext'; simp
      rw [eA] at hr2
      exact ⟨cap', _, _, _, hr2, hge, g1, hSd.trans g2, hEd.trans g3, by rw [bset_eq, List.length_set] at g4; exact g4⟩

/-- **append.** -/
theorem append_op {s x : Operand} {t : TypeId} {h h1 : List Blk} {e sz n mm : Nat} {sv xv : AV} {olds news : List AV} {i : TypeInfo} {z : Value}
    (ht : P.underlying t = some (.slice e)) (hi : P.info? e = some i) (hz : i.zero = some z) (hsz : i.size = sz) (hzs : z.cells.size = sz) (hb : Base h e sz sv n olds h1) (hsrc : Src G h xv mm news)
    (hl : news.length = mm * sz) (h1c : allOne news = true) (hmm : 0 < mm) (hs0 : 0 < sz) (h63 : n + mm ≤ 9223372036854775807) (h48 : (n + mm) * i.bytes ≤ 140737488355328) :
    OpSem P G (.call { callee := .builtin .append, args := #[s, x], argTypes := #[t, t] }) [sv, xv] h fun ao h' => ∃ cap', n + mm ≤ cap' ∧ ao = .ret (.slice h.length 0 (n + mm) cap') ∧
      h' = h1 ++ [⟨olds ++ news ++ List.replicate ((cap' - (n + mm)) * sz) .junk, e⟩] := by
  intro r n0 o m im a w next Q ho hn hH hv hk
  have hv' : VR m w im sv (a.eval s) ∧ VR m w im xv (a.eval x) := by
    simp only [Op.operands, Call.operands] at hv
    simp [VRs] at hv
    exact hv
  obtain ⟨cap', v', w', m', hr, hc, hH', hst, hE, hvv⟩ := append_run (n0 := n0) (ty := o.type) hn hH ht hi hz hsz hzs hb hv'.1 hv'.2 hsrc hl h1c hmm hs0 h63 h48
  refine ⟨fun _ _ => trivial, ?_⟩
  rw [Oper.semAt_eq _ _ _ (by rw [ho]; intro _ h; cases h)]
  have hrun : (execOp a.eval o).run P w = .ok (.value v') w' := by
    unfold execOp
    simp only [ho, resolve, invoke, builtin, Sem.run_bind, Sem.run_pure, Result.andThen_ok, List.map_toArray, List.map_cons, List.map_nil, hr]
  rw [hrun, Oper.uponIn_value]
  have hlen : n0 ≤ m'.length := by
    rcases Nat.lt_or_ge m'.length n0 with hlt | hge
    · have := hE.pre m'.length (m[m'.length]'(by omega)) hlt (List.getElem?_eq_getElem (by omega))
      simp at this
    · exact hge
  exact hk (.ret _) m' im _ w' ⟨cap', hc, rfl, rfl⟩ hH' hst hE hlen v' hvv

/-- Nothing is appended to nothing. -/
theorem append_none_op {s x : Operand} {t : TypeId} {h : List Blk} {e : Nat} {xv : AV} {i : TypeInfo} (ht : P.underlying t = some (.slice e)) (hi : P.info? e = some i)
    (hx : xv = .raw (.slice none 0 0) ∨ (∃ b off c, xv = .slice b off 0 c) ∨ ∃ cs, xv = .islice 0 cs) :
    OpSem P G (.call { callee := .builtin .append, args := #[s, x], argTypes := #[t, t] }) [.raw (.slice none 0 0), xv] h fun ao h' => ao = .ret (.raw (.slice none 0 0)) ∧ h' = h := by
  intro r n0 o m im a w next Q ho hn hH hv hk
  have hv' : a.eval s = .slice none 0 0 ∧ VR m w im xv (a.eval x) := by
    simp only [Op.operands, Call.operands] at hv
    simp [VRs, VR] at hv
    exact hv
  obtain ⟨b, c, hxv⟩ : ∃ b c, a.eval x = .slice b 0 c := by
    have := hv'.2
    rcases hx with rfl | ⟨b, off, c, rfl⟩ | ⟨cs, rfl⟩ <;> simp only [VR] at this
    · exact ⟨_, _, this⟩
    · obtain ⟨r, _, h⟩ := this; exact ⟨_, _, h⟩
    · rcases this with ⟨_, _, h⟩ | ⟨r, off, cap, us, _, h, _⟩ <;> exact ⟨_, _, h⟩
  have hr : (Builtin.append_ #[t, t] o.type #[.slice none 0 0, .slice b 0 c]).run P w = .ok (.slice none 0 0) w := by
    cases b <;> simp [Builtin.append_, run_underlying ht, sizeOf, typeInfo, hi, Builtin.lenOf, Builtin.firstCells, loadCells, loadCellsFrom]
  refine ⟨fun _ _ => trivial, ?_⟩
  rw [Oper.semAt_eq _ _ _ (by rw [ho]; intro _ h; cases h)]
  have hrun : (execOp a.eval o).run P w = .ok (.value (.slice none 0 0)) w := by
    unfold execOp
    simp only [ho, resolve, invoke, builtin, Sem.run_bind, Sem.run_pure, Result.andThen_ok, List.map_toArray, List.map_cons, List.map_nil, hv'.1, hxv, hr]
  rw [hrun, Oper.uponIn_value]
  exact hk (.ret _) m im h w ⟨rfl, rfl⟩ hH (Stay.refl _ _ _) (Ext.refl _ _ _ _) hn _ VR_raw
end
end Go.Ev
