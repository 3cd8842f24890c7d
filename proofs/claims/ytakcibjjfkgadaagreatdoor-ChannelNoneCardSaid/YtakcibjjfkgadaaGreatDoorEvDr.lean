/- What a call leaves behind in the memory may be forgotten, where its answer holds no pointer. -/
import Derived.Test.YtakcibjjfkgadaaGreatDoorEvCh
import Derived.Test.YtakcibjjfkgadaaGreatDoorEvL
import Derived.KernelRfl
set_option linter.unusedVariables false
set_option linter.unusedSimpArgs false
namespace Go.Ev
mutual
theorem VR.back {m m' : List Nat} {w w' : World} {im im' : Nat → Prop} (hp : ∀ (b r : Nat), m[b]? = some r → m'[b]? = some r) : ∀ (a : AV) (v v' : Value), VR m w im a v → VR m' w' im' a v' → VR m w' im' a v'
  | .int _ _, _, _, _, h => by simpa only [VR] using h
  | .bool _, _, _, _, h => by simpa only [VR] using h
  | .ptr b off, v, v', h0, h => by
    simp only [VR] at h0 h ⊢
    obtain ⟨r0, e0, _⟩ := h0
    obtain ⟨r, e, h2⟩ := h
    have e1 := hp b r0 e0
    rw [e1] at e
    cases e
    exact ⟨r0, e0, h2⟩
  | .slice b off len cap, v, v', h0, h => by
    simp only [VR] at h0 h ⊢
    obtain ⟨r0, e0, _⟩ := h0
    obtain ⟨r, e, h2⟩ := h
    have e1 := hp b r0 e0
    rw [e1] at e
    cases e
    exact ⟨r0, e0, h2⟩
  | .islice len cs, v, v', h0, h => by
    simp only [VR] at h0 h ⊢
    rcases h with h | ⟨r, off, cap, us, h1, h2, h3, h4⟩
    · exact .inl h
    · refine .inr ⟨r, off, cap, us, h1, h2, ?_, h4⟩
      rcases h0 with ⟨_, hc, _⟩ | ⟨_, _, _, us0, _, _, h30, _⟩
      · subst hc
        cases us with
        | nil => simp only [VRs]
        | cons _ _ => simp only [VRs] at h3
      · exact VRs.back hp cs us0 us h30 h3
  | .cptr cs, v, v', h0, h => by
    simp only [VR] at h0 h ⊢
    obtain ⟨_, _, us0, _, _, h30, _⟩ := h0
    obtain ⟨r, off, us, h1, h2, h3, h4⟩ := h
    exact ⟨r, off, us, h1, h2, VRs.back hp cs us0 us h30 h3, h4⟩
  | .fn f cs, v, v', h0, h => by
    simp only [VR] at h0 h ⊢
    obtain ⟨us0, _, h20⟩ := h0
    obtain ⟨us, h1, h2⟩ := h
    exact ⟨us, h1, VRs.back hp cs us0 us h20 h2⟩
  | .agg cs, v, v', h0, h => by
    simp only [VR] at h0 h ⊢
    obtain ⟨us0, _, h20⟩ := h0
    obtain ⟨us, h1, h2⟩ := h
    exact ⟨us, h1, VRs.back hp cs us0 us h20 h2⟩
  | .tuple cs, v, v', h0, h => by
    simp only [VR] at h0 h ⊢
    obtain ⟨us0, _, h20⟩ := h0
    obtain ⟨us, h1, h2⟩ := h
    exact ⟨us, h1, VRs.back hp cs us0 us h20 h2⟩
  | .raw _, _, _, _, h => by simpa only [VR] using h
  | .yld d cs, v, v', h0, h => by
    simp only [VR] at h0 h ⊢
    obtain ⟨_, _, _, us0, _, _, _, h40⟩ := h0
    obtain ⟨l, fn, D, us, h1, h2, h3, h4⟩ := h
    exact ⟨l, fn, D, us, h1, h2, h3, VRs.back hp cs us0 us h40 h4⟩
  | .junk, _, _, _, _ => by simp only [VR]
theorem VRs.back {m m' : List Nat} {w w' : World} {im im' : Nat → Prop} (hp : ∀ (b r : Nat), m[b]? = some r → m'[b]? = some r) : ∀ (as : List AV) (vs vs' : List Value), VRs m w im as vs → VRs m' w' im' as vs' → VRs m w' im' as vs'
  | [], _, [], _, _ => by simp only [VRs]
  | c :: cs, v :: vs, v' :: vs', h0, h => by
    simp only [VRs] at h0 h ⊢
    exact ⟨VR.back hp c v v' h0.1 h.1, VRs.back hp cs vs vs' h0.2 h.2⟩
  | [], _, _ :: _, _, h => by simp only [VRs] at h
  | _ :: _, [], _, h, _ => by simp only [VRs] at h
  | _ :: _, _ :: _, [], _, h => by simp only [VRs] at h
end
theorem HSem.drop {P : Program} {G : Glob} {f : FuncId} {args : List AV} {h : List Blk} {u : AV} (hu : mfree u = true) (hs : HSem P G f args h (fun ao h' => ao = .ret u ∧ ∃ ext, h' = h ++ ext)) :
    HSem P G f args h (fun ao h' => ao = .ret u ∧ h' = h) := by
  intro m im w vs hH hv
  refine (hs m im w vs hH hv).mono fun e w' ⟨ao, m', im', h', ⟨e1, ext, e2⟩, hH', hE, hl, hr⟩ => ?_
  subst e1 e2
  obtain ⟨r, er, hvr⟩ := hr
  have pre : ∀ (b q : Nat), m[b]? = some q → m'[b]? = some q := fun b q hb => hE.pre b q (by
    rcases Nat.lt_or_ge b m.length with h' | h'
    · exact h'
    · rw [List.getElem?_eq_none h'] at hb; cases hb) hb
  have sub : ∀ q, q ∈ m → q ∈ m' := fun q hq => by
    obtain ⟨b, hb⟩ := List.getElem?_of_mem hq
    exact List.mem_of_getElem? (pre b q hb)
  have app : ∀ (b : Nat) (k : Blk), h[b]? = some k → (h ++ ext)[b]? = some k := fun b k hb => by
    have hlt : b < h.length := by
      rcases Nat.lt_or_ge b h.length with h' | h'
      · exact h'
      · rw [List.getElem?_eq_none h'] at hb; cases hb
    rw [List.getElem?_append_left hlt]; exact hb
  refine ⟨.ret u, m, im', h, ⟨rfl, rfl⟩, ⟨hH.ln, fun b k q hk hq => ?_, fun b b' q k k' h1 h2 h3 h4 h5 h6 => hH.inj b b' q k k' h1 h2 h3 h4 h5 h6, fun q hq => ⟨(hH'.imx q hq).1, fun hm => (hH'.imx q hq).2 (sub q hm)⟩, hH'.gl⟩,
    { os := hE.os, tape := hE.tape, output := hE.output, size := hE.size, pre := fun _ _ _ h => h, keep := hE.keep, newm := fun _ h => .inl h, imm := hE.imm, newim := hE.newim }, Nat.le_refl _, r, er, VR.free m u r hu hvr⟩
  obtain ⟨_, us0, _, hr0, _⟩ := hH.bl b k q hk hq
  obtain ⟨arr, us, h1, h2, h3⟩ := hH'.bl b k q (app b k hk) (pre b q hq)
  exact ⟨arr, us, h1, VRs.back pre _ _ _ hr0 h2, h3⟩
theorem takeF_none {ch : Chn} {n : Int} {short : Bool} (h : freshF ch (levelF ch.g n) short = none) : takeF ch n short = ⟨ch, false, (levelF ch.g n).near⟩ := by
  unfold takeF; rw [h]
theorem takeF_some {ch : Chn} {n : Int} {short : Bool} {xp : V3 × S6} (h : freshF ch (levelF ch.g n) short = some xp) : takeF ch n short = ⟨{ ch with x := xp.1, p := xp.2 }, true, (levelF ch.g n).near⟩ := by
  unfold takeF; rw [h]
theorem fin_app {hp e' h' : List Blk} {b : Nat} {k x : Blk} (hb : bget hp b = some k) (he : h' = hp ++ e') (l : List Blk) : ∃ ext, bset h' b x ++ l = bset hp b x ++ ext := ⟨e' ++ l, by rw [he, bset_app hb, List.append_assoc]⟩
theorem fin_app0 {hp e' h' : List Blk} {b : Nat} {k : Blk} (hb : bget hp b = some k) (he : h' = hp ++ e') (l : List Blk) : ∃ ext, h' ++ l = bset hp b k ++ ext := ⟨e' ++ l, by rw [he, bset_same hb, List.append_assoc]⟩
/-- A type's size, bytes, and its zero's size. -/
def tInf (P : Program) (e : TypeId) : Option (Nat × Nat × Option Nat) := (P.info? e).map fun i => (i.size, i.bytes, i.zero.map (·.cells.size))
theorem append_op' {P : Program} {G : Glob} {s x : Operand} {t : TypeId} {h h1 : List Blk} {e sz n mm bt : Nat} {sv xv : AV} {olds news : List AV}
    (ht : P.underlying t = some (.slice e)) (hi : tInf P e = some (sz, bt, some sz)) (hb : Base h e sz sv n olds h1) (hsrc : Src G h xv mm news)
    (hl : news.length = mm * sz) (h1c : allOne news = true) (hmm : 0 < mm) (hs0 : 0 < sz) (h63 : n + mm ≤ 9223372036854775807) (h48 : (n + mm) * bt ≤ 140737488355328) :
    OpSem P G (.call { callee := .builtin .append, args := #[s, x], argTypes := #[t, t] }) [sv, xv] h fun ao h' => ∃ cap', n + mm ≤ cap' ∧ ao = .ret (.slice h.length 0 (n + mm) cap') ∧
      h' = h1 ++ [⟨olds ++ news ++ List.replicate ((cap' - (n + mm)) * sz) .junk, e⟩] := by
  unfold tInf at hi
  cases hq : P.info? e with
  | none => rw [hq] at hi; cases hi
  | some i =>
    rw [hq] at hi
    simp only [Option.map_some, Option.some.injEq, Prod.mk.injEq] at hi
    obtain ⟨h2, h3, h4⟩ := hi
    cases hz : i.zero with
    | none => rw [hz] at h4; cases h4
    | some z =>
      rw [hz] at h4
      simp only [Option.map_some, Option.some.injEq] at h4
      exact append_op ht hq hz h2 h4 hb hsrc hl h1c hmm hs0 h63 (by rw [h3]; exact h48)
theorem append_none_op' {P : Program} {G : Glob} {s x : Operand} {t : TypeId} {h : List Blk} {e sz bt : Nat} {xv : AV} {zz : Option Nat} (ht : P.underlying t = some (.slice e)) (hi : tInf P e = some (sz, bt, zz))
    (hx : xv = .raw (.slice none 0 0) ∨ (∃ b off c, xv = .slice b off 0 c) ∨ ∃ cs, xv = .islice 0 cs) :
    OpSem P G (.call { callee := .builtin .append, args := #[s, x], argTypes := #[t, t] }) [.raw (.slice none 0 0), xv] h fun ao h' => ao = .ret (.raw (.slice none 0 0)) ∧ h' = h := by
  unfold tInf at hi
  cases hq : P.info? e with
  | none => rw [hq] at hi; cases hi
  | some i => exact append_none_op ht hq hx
theorem OpSem.mono {P : Program} {G : Glob} {op : Op} {xs : List AV} {h : List Blk} {Rc Rc' : AO → List Blk → Prop} (ho : OpSem P G op xs h Rc) (hr : ∀ ao h', Rc ao h' → Rc' ao h') : OpSem P G op xs h Rc' :=
  fun r n0 o m im a w next Q e hn hH hv hk => ho r n0 o m im a w next Q e hn hH hv fun ao m' im' h' w' hR => hk ao m' im' h' w' (hr ao h' hR)
/-- A part of the code by itself: what it ends with, and what comes behind it. -/
theorem cut {r : Option Nat} {P : Program} {G : Glob} {n0 : Nat} {cur : Cur} {c : Code} {k : List Fr} {st : St} {R : AX → St → Prop} (Inv : St → Prop) (h1 : CfgSem r P G n0 ⟨cur, [], st⟩ (fun e st' => e = .normal ∧ Inv st'))
    (h2 : ∀ st', Inv st' → CfgSem r P G n0 ⟨.exit .normal, .seq c :: k, st'⟩ R) : CfgSem r P G n0 ⟨cur, .seq c :: k, st⟩ R := by
  intro m im a w Q hS hn hQ
  refine h1 m im a w (kwp r P (.seq c :: k) Q) hS hn fun e st' m' im' a' w' ⟨he, hI⟩ hS' hn' hE => ?_
  subst he
  exact h2 st' hI m' im' a' w' Q hS' hn' fun e2 st2 m2 im2 a2 w2 hR hS2 hn2 hE2 => hQ e2 st2 m2 im2 a2 w2 hR hS2 hn2 (hE.trans hE2)
/-- The memory gets a name. -/
theorem CfgSem.gen {r : Option Nat} {P : Program} {G : Glob} {n0 : Nat} {cur : Cur} {k : List Fr} {t : List AV} {h : List Blk} {d : List Dfr} {R : AX → St → Prop} (H : ∀ h0, h0 = h → CfgSem r P G n0 ⟨cur, k, ⟨t, h0, d⟩⟩ R) : CfgSem r P G n0 ⟨cur, k, ⟨t, h, d⟩⟩ R := H h rfl
theorem takeF_keep (ch : Chn) (n : Int) (short : Bool) : ∃ x p, (takeF ch n short).ch = { ch with x := x, p := p } := by
  unfold takeF
  split
  · exact ⟨_, _, rfl⟩
  · exact ⟨ch.x, ch.p, rfl⟩
theorem list_eta {l : List AV} {n : Nat} (h : l.length = n) : l = (List.range n).map (lget l) := by
  subst h
  have e : ∀ (l : List AV) (i : Nat) (h : i < l.length), lget l i = l[i] := fun l => by
    induction l with
    | nil => intro i h; simp at h
    | cons x l ih =>
      intro i h
      cases i with
      | zero => rfl
      | succ i => simpa [lget] using ih i (by simpa using h)
  refine List.ext_getElem (by simp) fun i h1 h2 => ?_
  rw [List.getElem_map, List.getElem_range]
  exact (e l i h1).symm
/-- A call that only adds known blocks to the memory. -/
theorem dcall_RK {P : Program} {G : Glob} {vf : List FuncId} {Kt : FuncId → List AV → AV → Prop} {f : FuncId} {args : List AV} {dst : Option Tmp} {all : List Oper} {l : List (Nat × List Tmp)} {t : List AV} {h e : List Blk} {d : List Dfr} {F : St → Prop} {u : AV} (hv : vf.contains f = false)
    (hs : HSem P G f args h (fun ao h' => ao = .ret u ∧ h' = h ++ e)) (hk : DRun P G vf Kt all l ⟨putT t dst u, h ++ e, d⟩ F) (hr2 : stF vf f = false := by rfl) : DCall P G vf Kt f args dst all l ⟨t, h, d⟩ F :=
  ⟨fun hc => (by rw [hv] at hc; cases hc), fun _ => ⟨_, hs, fun _ => ⟨⟨.ret u, _, rfl, rfl⟩, fun ao h' ⟨_, he⟩ => ⟨e, he⟩⟩, fun h => (by rw [hr2] at h; cases h), fun ao h' ⟨e1, he⟩ => ⟨u, e1, by rw [he]; exact hk⟩⟩⟩
def fixT : Tk := ⟨2048, true, 405300, false⟩
theorem fix_told : tellC (walkC (newC defaultC) (List.replicate 15 fixT)) fixT = ⟨1, true, true, false, false, false, 0, 0, 0⟩ := by kernel_rfl
theorem walkC_append (l l' : List Tk) : ∀ ch, walkC ch (l ++ l') = walkC (walkC ch l) l' := by
  induction l with
  | nil => intro ch; rfl
  | cons t l ih => intro ch; exact ih _
theorem defaultC_in : defaultC.In64 := by
  constructor <;> first | exact ⟨by decide, by decide⟩ | exact ⟨⟨by decide, by decide⟩, ⟨by decide, by decide⟩, ⟨by decide, by decide⟩⟩
/-! ### Slices of one's own -/
def Sl (h : List Blk) (e sz : Nat) (sv : AV) (n : Nat) (cells : List AV) : Prop :=
  (n = 0 ∧ sv = .raw (.slice none 0 0) ∧ cells = []) ∨ ∃ z cap, sv = .slice z 0 n cap ∧ n ≤ cap ∧ cells.length = n * sz ∧ bget h z = some ⟨cells ++ List.replicate ((cap - n) * sz) .junk, e⟩
/-- All blocks but those of a kind stay. -/
def Keep (e : Nat) (h h' : List Blk) : Prop := ∀ (j : Nat) (k : Blk), bget h j = some k → k.elem ≠ e → bget h' j = some k
theorem O_app {P : Program} {G : Glob} {s x : Operand} {t : TypeId} {h : List Blk} {e sz n bt xb : Nat} {sv : AV} {cells news : List AV}
    (ht : P.underlying t = some (.slice e)) (hi : tInf P e = some (sz, bt, some sz)) (hs : Sl h e sz sv n cells) (hx : bget h xb = some ⟨news, e⟩)
    (hl : news.length = sz) (h1c : allOne news = true) (hs0 : 0 < sz) (h63 : n + 1 ≤ 9223372036854775807) (h48 : (n + 1) * bt ≤ 140737488355328) :
    OpSem P G (.call { callee := .builtin .append, args := #[s, x], argTypes := #[t, t] }) [sv, .slice xb 0 1 1] h fun ao h' => ∃ cap', ao = .ret (.slice h.length 0 (n + 1) cap') ∧ Sl h' e sz (.slice h.length 0 (n + 1) cap') (n + 1) (cells ++ news) ∧
      (∀ j, j < h.length → (∀ m cap, sv ≠ .slice j 0 m cap) → bget h' j = bget h j) ∧ h.length < h'.length ∧ Keep e h h' := by
  have hsrc : Src G h (.slice xb 0 1 1) 1 news := src_own (l := sz) hx (by rw [List.drop_zero, ← hl]; exact List.take_length)
  rcases hs with ⟨h1, h2, h3⟩ | ⟨z, cap, h1, h2, h3, h4⟩
  · subst h1 h2 h3
    refine OpSem.mono (append_op' ht hi (Base.nil (h := h) (e := e) (sz := sz)) hsrc (by rw [hl, Nat.one_mul]) h1c (by decide) hs0 h63 h48) ?_
    rintro ao h' ⟨cap', q1, q2, q3⟩
    subst q3
    refine ⟨cap', by simpa using q2, .inr ⟨_, cap', rfl, by omega, by simp [hl], by rw [bget_len]; simp [bget_z]⟩, fun j hj _ => by rw [bget_eq, bget_eq]; exact List.getElem?_append_left hj, by simp, fun j k hk _ => bget_app hk _⟩
  · subst h1
    refine OpSem.mono (append_op' ht hi (Base.own (n := n) (cap := cap) h4 rfl (by simp [h3, ← Nat.add_mul]; congr 1; omega) h2) hsrc (by rw [hl, Nat.one_mul]) h1c (by decide) hs0 h63 h48) ?_
    rintro ao h' ⟨cap', q1, q2, q3⟩
    subst q3
    have e1 : ∀ j, j < h.length → j ≠ z → ∀ l, bget (bset h z ⟨[], e⟩ ++ l) j = bget h j := fun j hj hne l => by
      rw [bget_eq, List.getElem?_append_left (by rw [bset_length]; exact hj), ← bget_eq]
      exact bget_ne (Ne.symm hne) _
    refine ⟨cap', q2, .inr ⟨_, cap', rfl, q1, by simp [h3, hl, Nat.add_mul], ?_⟩, fun j hj hne => e1 j hj (fun e => hne n cap (by rw [e])) _, by rw [List.length_append, bset_length]; simp, fun j k hk hne => (e1 j (bget_lt hk) (fun e2 => ?_) _).trans hk⟩
    · have := bget_len (bset h z ⟨[], e⟩) [⟨(cells ++ List.replicate ((cap - n) * sz) AV.junk).take (n * sz) ++ news ++ List.replicate ((cap' - (n + 1)) * sz) .junk, e⟩]
      rw [bset_length] at this
      rw [this, bget_z]
      rw [← h3, List.take_left]
    · subst e2
      rw [h4] at hk
      cases hk
      exact hne rfl
theorem O_app2 {P : Program} {G : Glob} {s x : Operand} {t : TypeId} {h : List Blk} {e sz n bt xb : Nat} {sv : AV} {cells news : List AV}
    (ht : P.underlying t = some (.slice e)) (hi : tInf P e = some (sz, bt, some sz)) (hs : Sl h e sz sv n cells) (hx : bget h xb = some ⟨news, e⟩)
    (hl : news.length = sz) (h1c : allOne news = true) (hs0 : 0 < sz) (h63 : n + 1 ≤ 9223372036854775807) (h48 : (n + 1) * bt ≤ 140737488355328) :
    OpSem P G (.call { callee := .builtin .append, args := #[s, x], argTypes := #[t, t] }) [sv, .slice xb 0 1 1] h fun ao h' => ∃ z cap', ao = .ret (.slice z 0 (n + 1) cap') ∧ Sl h' e sz (.slice z 0 (n + 1) cap') (n + 1) (cells ++ news) ∧
      (∀ j, j < h.length → (∀ m cap, sv ≠ .slice j 0 m cap) → bget h' j = bget h j) ∧ h.length < h'.length ∧ Keep e h h' ∧ h.length = z :=
  OpSem.mono (O_app ht hi hs hx hl h1c hs0 h63 h48) fun ao h' ⟨cap', q1, q2, q3, q4, q5⟩ => ⟨_, cap', q1, q2, q3, q4, q5, rfl⟩
theorem tellsC_append (l l' : List Tk) : ∀ ch, tellsC ch (l ++ l') = tellsC ch l ++ tellsC (walkC ch l) l' := by
  induction l with
  | nil => intro ch; rfl
  | cons t l ih => intro ch; simp only [List.cons_append, tellsC, walkC, ih]
theorem tellsC_length (l : List Tk) : ∀ ch, (tellsC ch l).length = l.length := by
  induction l with
  | nil => intro ch; rfl
  | cons t l ih => intro ch; show (tellsC _ l).length + 1 = _; rw [ih]; rfl
def tkC (l : List Tk) : List AV := l.flatMap Tk.cells
def tdC (l : List Td) : List AV := l.flatMap Td.cells
theorem tkC_drop (l : List Tk) (rest : List AV) : ∀ (i : Nat) (h : i < l.length), ∃ r, List.drop (i * 4) (tkC l ++ rest) = I (l[i]).accel :: .bool (l[i]).has :: I (l[i]).press :: .bool (l[i]).short :: r := by
  induction l with
  | nil => intro i h; simp at h
  | cons x l ih =>
    intro i h
    cases i with
    | zero => exact ⟨tkC l ++ rest, rfl⟩
    | succ i =>
      obtain ⟨r, hr⟩ := ih i (by simpa using h)
      refine ⟨r, ?_⟩
      rw [show (i + 1) * 4 = i * 4 + 4 by omega]
      show List.drop (i * 4 + 4) (I x.accel :: .bool x.has :: I x.press :: .bool x.short :: (tkC l ++ rest)) = _
      simpa using hr
theorem tkC_length (l : List Tk) : (tkC l).length = l.length * 4 := by
  induction l with
  | nil => rfl
  | cons x l ih => show (Tk.cells x ++ tkC l).length = _; simp [ih, Tk.cells]; omega
theorem tdC_length (l : List Td) : (tdC l).length = l.length * 9 := by
  induction l with
  | nil => rfl
  | cons x l ih => show (Td.cells x ++ tdC l).length = _; simp [ih, Td.cells]; omega
theorem tdC_drop (l : List Td) (rest : List AV) : ∀ (i : Nat) (h : i < l.length), ∃ r, List.drop (i * 9) (tdC l ++ rest) = (l[i]).cells ++ r := by
  induction l with
  | nil => intro i h; simp at h
  | cons x l ih =>
    intro i h
    cases i with
    | zero => exact ⟨tdC l ++ rest, by simp [tdC]⟩
    | succ i =>
      obtain ⟨r, hr⟩ := ih i (by simpa using h)
      refine ⟨r, ?_⟩
      rw [show (i + 1) * 9 = i * 9 + 9 by omega]
      show List.drop (i * 9 + 9) (I x.mode :: .bool x.valid :: .bool x.accepted :: .bool x.refused :: .bool x.held :: .bool x.ground :: I x.alt :: I x.speed :: I x.bias :: (tdC l ++ rest)) = _
      simpa using hr
end Go.Ev
