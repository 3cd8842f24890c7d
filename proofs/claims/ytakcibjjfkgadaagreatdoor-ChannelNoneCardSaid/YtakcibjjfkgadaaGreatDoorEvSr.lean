/- Arguments that are slices of plain rows; configurations. -/
import Derived.Test.YtakcibjjfkgadaaGreatDoorEvR
import Derived.Test.YtakcibjjfkgadaaGreatDoorEvDr
import Derived.ChangeSlices
import Derived.DataElems
import Derived.WideKeyArgs
set_option linter.unusedVariables false
set_option linter.unusedSimpArgs false
namespace Go.Ev
open Go.ChangeShapes Go.WideShapes
section
variable {H : Type} {enc : TypeId × Value → H} {P : Program}
theorem rows_of {w : World} {sp : Nat → Bool} {held : Bool} {n d : Nat} {e : TypeId} {ks : List EK} {a : Addr} (hk : kindsT P d e = some ks) (hc : P.cellsOf e = ks.length) : ∀ (len : Nat) (elems : List (DataW H × List MemPlace)), len ≤ elems.length →
    (∀ i, i < len → (w.cells? 0 (a.add (i * P.cellsOf e)) (P.cellsOf e)).bind (DataW.trod enc P w 0 sp held n e) = elems[i]?) →
    ∃ us : List Value, us.length = len * ks.length ∧ KindsOk (List.replicate len ks).flatten us ∧ ∀ (j : Nat) (u : Value), us[j]? = some u → w.cell? (a.add j) = some u
  | 0, _, _, _ => ⟨[], by simp, trivial, by simp⟩
  | len + 1, elems, hl, h => by
    obtain ⟨us, h1, h2, h3⟩ := rows_of (n := n) (sp := sp) (held := held) hk hc len elems (by omega) fun i hi => h i (by omega)
    have hb := h len (by omega)
    rw [List.getElem?_eq_getElem (by omega : len < elems.length), Option.bind_eq_some_iff] at hb
    obtain ⟨cs, hcs, ht⟩ := hb
    obtain ⟨_, _, g3, _⟩ := trod_flat d n e ks cs _ hk ht
    have gl := KindsOk.length g3
    refine ⟨us ++ cs, by rw [List.length_append, h1, ← gl]; rw [Nat.add_mul, Nat.one_mul], ?_, fun j u hj => ?_⟩
    · rw [List.replicate_succ', List.flatten_append]
      simpa using KindsOk.append h2 g3
    · rcases Nat.lt_or_ge j us.length with hlt | hge
      · rw [List.getElem?_append_left hlt] at hj
        exact h3 j u hj
      · rw [List.getElem?_append_right hge] at hj
        have hjl : j - us.length < cs.length := by
          rcases Nat.lt_or_ge (j - us.length) cs.length with h' | h'
          · exact h'
          · rw [List.getElem?_eq_none h'] at hj; cases hj
        have := (World.cells?_some hcs).2.2 (j - us.length) (by rw [hc, gl]; exact hjl)
        rw [Addr.add_add, hc, ← h1, show us.length + (j - us.length) = j by omega, hj] at this
        exact this
theorem slice_open {w : World} {sp : Nat → Bool} {held : Bool} {rr : Reach} {b0 d : Nat} {t e : TypeId} {ks : List EK} {v : Value} {x : DataW H} {p : List MemPlace} (hu : P.underlying t = some (.slice e)) (hk : kindsT P d e = some ks) (hc : P.cellsOf e = ks.length)
    (hv : Value.okWide P w rr b0 t v) (h : DataW.Trod enc P w 0 sp held t v x p) :
    v = .slice none 0 0 ∨ ∃ r off len cap us, v = .slice (some ⟨r, off, none⟩) len cap ∧ len ≤ cap ∧ us.length = len * ks.length ∧ KindsOk (List.replicate len ks).flatten us ∧ Row w r off us ∧ r < w.heap.size := by
  obtain ⟨a0, len0, cap0, rfl⟩ := okWide_slice hu hv
  obtain ⟨fuel, hf⟩ := h
  rcases DataW.trod_slice hu hf with ⟨h0, _⟩ | ⟨a, len, cap, elems, rest, n, _, h0, _, _, hl, _, hlen, hel, _, _⟩
  · simp [Value.cells] at h0
    exact .inl (by rw [h0.1, h0.2.1, h0.2.2])
  · simp [Value.cells] at h0
    obtain ⟨rfl, rfl, rfl⟩ := h0
    obtain ⟨us, g1, g2, g3⟩ := rows_of hk hc len0 elems (by omega) hel
    simp only [Value.okWide, hu, Cell.okWide, Cell.ok] at hv
    obtain ⟨_, _, _, hsp, row, cells, hsh, _⟩ := hv
    obtain ⟨r, off, spot⟩ := a
    simp only at hsp hsh
    subst hsp
    unfold World.shape? at hsh
    split at hsh
    · rename_i c el fz hh
      have hR : Row w r off us := ⟨c, el, fz, hh, fun i u hi => by
        have := g3 i u hi
        by_cases h0 : i = 0
        · subst h0
          simpa [World.cell?, Addr.add, hh] using this
        · simpa [World.cell?, Addr.add, hh, h0] using this⟩
      refine .inr ⟨r, off, len0, cap0, us, rfl, hl, g1, g2, hR, hR.lt⟩
    · cases hsh
theorem ticks_of : ∀ (len : Nat) (us : List Value), KindsOk (List.replicate len [EK.int .i64, .bool, .int .i64, .bool]).flatten us → ∃ ts : List Tk, ts.length = len ∧ ∀ m w im, VRs m w im (tkC ts) us
  | 0, [], _ => ⟨[], rfl, fun _ _ _ => by simp [tkC, VRs]⟩
  | 0, _ :: _, h => h.elim
  | len + 1, us, h => by
    rw [List.replicate_succ, List.flatten_cons] at h
    match us, h with
    | v0 :: v1 :: v2 :: v3 :: us, h =>
      obtain ⟨⟨n0, rfl, _⟩, ⟨b1, rfl⟩, ⟨n2, rfl, _⟩, ⟨b3, rfl⟩, h⟩ := h
      obtain ⟨ts, h1, h2⟩ := ticks_of len us h
      refine ⟨⟨n0, b1, n2, b3⟩ :: ts, by simp [h1], fun m w im => ?_⟩
      show VRs m w im (I n0 :: .bool b1 :: I n2 :: .bool b3 :: tkC ts) _
      simp only [VRs, VR, true_and]
      exact h2 m w im
    | [], h => exact h.elim
    | [_], h => exact h.2.elim
    | [_, _], h => exact h.2.2.elim
    | [_, _, _], h => exact h.2.2.2.elim
theorem ints_of : ∀ (n : Nat) (cs : List Value), KindsOk (List.replicate n (EK.int .i64)) cs → ∃ zs : List Int, zs.length = n ∧ cs = zs.map (Value.int .i64) ∧ ∀ z ∈ zs, In64 z
  | 0, [], _ => ⟨[], rfl, rfl, by simp⟩
  | 0, _ :: _, h => h.elim
  | _ + 1, [], h => h.elim
  | n + 1, v :: cs, h => by
    obtain ⟨⟨z, rfl, hz⟩, h⟩ := h
    obtain ⟨zs, h1, rfl, h3⟩ := ints_of n cs h
    exact ⟨z :: zs, by simp [h1], rfl, fun x hx => by rcases List.mem_cons.1 hx with rfl | hx; exact in64_of_wf hz; exact h3 x hx⟩
end
theorem GOK.more {G : Glob} {W : World} {im im' : Nat → Prop} (hG : GOK G W im) (h : ∀ r, im r → im' r) : GOK G W im' := fun g cs hg => by
  obtain ⟨h1, us, h2, h3⟩ := hG g cs hg
  exact ⟨h _ h1, us, VRs.stay ⟨fun _ _ h => h, fun r hr => ⟨h r hr, rfl⟩⟩ _ _ h2, h3⟩
end Go.Ev
