/- Channels: plain, and what of the memory is a channel's. -/
import Derived.Test.YtakcibjjfkgadaaGreatDoorEvGn
set_option linter.unusedVariables false
set_option linter.unusedSimpArgs false
namespace Go.Ev
structure Chn where
  x : V3
  p : S6
  c : Cf
  fd : Fed
  first : List Int
  g : Gnd
  k : Ck
deriving DecidableEq
structure Chn.ok (ch : Chn) : Prop where
  x : ch.x.In64
  p : ch.p.In64
  c : ch.c.In64
  k : ch.k.ok
  n : ch.first.length < 16
def dgn (v : V3) : S6 := ⟨v.x, 0, 0, v.y, 0, v.z⟩
def keptF (c : Cf) (x : V3) (p : S6) : V3 × S6 := (x.clamp c.bound, (tameF p c.floor c.ceil).1)
def seekF (ch : Chn) (n : Int) : Chn × Bool :=
  if ch.first.length + 1 < 16 then ({ ch with first := ch.first ++ [n] }, false)
  else ({ ch with first := ch.first ++ [n], x := ⟨(altF (meanL (ch.first ++ [n])).1).1, 0, 0⟩, p := dgn ch.c.start, g := setF ch.g (meanL (ch.first ++ [n])).1 }, true)
def addF (c : Cf) (held : Bool) : V3 := if held = true then c.loose else c.q
def moveF (ch : Chn) (t : Int) (held : Bool) : Chn :=
  { ch with
    x := (if (motionF ch.x t).2 = 0 then (motionF ch.x t).1 else ch.x).clamp ch.c.bound
    p := if (on8 ch.p (addF ch.c held)).2 = 0 then (tameF (on8 ch.p (addF ch.c held)).1 ch.c.floor ch.c.ceil).1 else ch.p }
/-- Whether a sample is taken, and what is kept then. -/
def freshF (ch : Chn) (l : Lv) (short : Bool) : Option (V3 × S6) :=
  if l.e = 0 ∧ (lookF ch.x ch.p l.alt l.noise).e = 0 ∧ passF (lookF ch.x ch.p l.alt l.noise).y (lookF ch.x ch.p l.alt l.noise).s ch.c.gate = true ∧
    (gainF ch.p (lookF ch.x ch.p l.alt l.noise).s short ch.c.table).2 = 0 ∧
    (jState ch.x (gainF ch.p (lookF ch.x ch.p l.alt l.noise).s short ch.c.table).1 (lookF ch.x ch.p l.alt l.noise).y).2 = 0 ∧
    (jDoubt ch.p (gainF ch.p (lookF ch.x ch.p l.alt l.noise).s short ch.c.table).1 (lookF ch.x ch.p l.alt l.noise).s).2 = 0
  then some (keptF ch.c (jState ch.x (gainF ch.p (lookF ch.x ch.p l.alt l.noise).s short ch.c.table).1 (lookF ch.x ch.p l.alt l.noise).y).1
    (jDoubt ch.p (gainF ch.p (lookF ch.x ch.p l.alt l.noise).s short ch.c.table).1 (lookF ch.x ch.p l.alt l.noise).s).1)
  else none
structure Tkn where
  ch : Chn
  taken : Bool
  near : Bool
def takeF (ch : Chn) (n : Int) (short : Bool) : Tkn :=
  match freshF ch (levelF ch.g n) short with
  | some xp => ⟨{ ch with x := xp.1, p := xp.2 }, true, (levelF ch.g n).near⟩
  | none => ⟨ch, false, (levelF ch.g n).near⟩
/-- A tick's middle: the channel, what happens to the clock, whether the sample is accepted, refused, near the ground. -/
structure Mid where
  ch : Chn
  ev : Int
  acc : Bool
  ref : Bool
  gr : Bool
def midF (ch : Chn) (th : Int) (held lost : Bool) (t : Tk) : Mid :=
  if lost = true then ⟨ch, 3, false, false, false⟩
  else if sks ch.k.m = true then
    if (brings t).2 = true then ⟨(seekF ch (brings t).1).1, if (seekF ch (brings t).1).2 = true then 0 else 2, (seekF ch (brings t).1).2, false, false⟩
    else ⟨ch, 2, false, false, false⟩
  else if (brings t).2 = true then
    ⟨(takeF (moveF ch th held) (brings t).1 t.short).ch, if (takeF (moveF ch th held) (brings t).1 t.short).taken = true then 1 else 2, (takeF (moveF ch th held) (brings t).1 t.short).taken,
      !(takeF (moveF ch th held) (brings t).1 t.short).taken, (takeF (moveF ch th held) (brings t).1 t.short).near⟩
  else ⟨moveF ch th held, 2, false, false, false⟩
/-- A tick's end. -/
def endF (m : Mid) (sought : Bool) : Chn :=
  { m.ch with k := onF m.ch.k m.ev m.ch.c.coast m.ch.c.out
              first := if m.ev = 0 ∨ m.ev = 3 ∨ (sks (onF m.ch.k m.ev m.ch.c.coast m.ch.c.out).m = true ∧ sought = false) then [] else m.ch.first }
def toldF (m : Mid) (held : Bool) (k : Ck) : Td :=
  { mode := k.m, valid := vld k.m, accepted := m.acc, refused := m.ref, held := held, ground := m.gr
    alt := if vld k.m = true then outF m.ch.x.x else 0, speed := if vld k.m = true then outF m.ch.x.y else 0, bias := if vld k.m = true then outF m.ch.x.z else 0 }
def feedF (ch : Chn) (t : Tk) : Chn := { ch with fd := (inF ch.c ch.fd t.accel).1 }
def midS (ch : Chn) (t : Tk) : Mid := midF (feedF ch t) (inF ch.c ch.fd t.accel).2.1 (inF ch.c ch.fd t.accel).2.2.1 (inF ch.c ch.fd t.accel).2.2.2 t
def stepC (ch : Chn) (t : Tk) : Chn := endF (midS ch t) (sks ch.k.m)
def tellC (ch : Chn) (t : Tk) : Td := toldF (midS ch t) (inF ch.c ch.fd t.accel).2.2.1 (stepC ch t).k
def newC (c : Cf) : Chn := { x := ⟨0, 0, 0⟩, p := ⟨0, 0, 0, 0, 0, 0⟩, c := c, fd := ⟨0, 0⟩, first := [], g := ⟨if 0 > c.band then 0 else c.band, c.r, c.rg, 0, false⟩, k := ⟨0, 0⟩ }
/-- What a channel tells of ticks. -/
def walkC : Chn → List Tk → Chn
  | ch, [] => ch
  | ch, t :: l => walkC (stepC ch t) l
def tellsC : Chn → List Tk → List Td
  | _, [] => []
  | ch, t :: l => tellC ch t :: tellsC (stepC ch t) l

/-! ### What is kept -/
theorem V3.clamp_in64 {a m : V3} (ha : a.In64) (hm : m.In64) : (a.clamp m).In64 := by
  obtain ⟨⟨a1, a2⟩, ⟨a3, a4⟩, a5, a6⟩ := ha
  obtain ⟨⟨m1, m2⟩, ⟨m3, m4⟩, m5, m6⟩ := hm
  refine ⟨⟨?_, ?_⟩, ⟨?_, ?_⟩, ?_, ?_⟩ <;> simp only [V3.clamp, Ev.clamp] <;> omega
theorem mm_in64 {x lo hi : Int} (h1 : In64 x) (h2 : In64 lo) (h3 : In64 hi) : In64 (mm x lo hi) := by
  unfold mm
  repeat' split
  all_goals assumption
theorem clamp_in64 {x m : Int} (h1 : In64 x) (h2 : In64 m) : In64 (clamp x m) := by
  obtain ⟨a, b⟩ := h1
  obtain ⟨c, d⟩ := h2
  unfold clamp
  constructor <;> omega
theorem tameF_in64 {p : S6} {f c : V3} (hp : p.In64) (hf : f.In64) (hc : c.In64) : (tameF p f c).1.In64 := by
  unfold tameF
  split
  · exact ⟨mm_in64 hp.1 hf.1 hc.1, clamp_in64 hp.2.1 (meanF_in _ _), clamp_in64 hp.2.2.1 (meanF_in _ _), mm_in64 hp.2.2.2.1 hf.2.1 hc.2.1, clamp_in64 hp.2.2.2.2.1 (meanF_in _ _), mm_in64 hp.2.2.2.2.2 hf.2.2 hc.2.2⟩
  · exact ⟨⟨by decide, by decide⟩, ⟨by decide, by decide⟩, ⟨by decide, by decide⟩, ⟨by decide, by decide⟩, ⟨by decide, by decide⟩, ⟨by decide, by decide⟩⟩
theorem S6.set_fit {m : S6} (h : m.Fit) (n : Nat) {x : Int} (hx : Ev.Fit x) : (m.set n x).Fit := by
  obtain ⟨a, b, c, d, e, f⟩ := h
  unfold S6.set
  split
  all_goals exact ⟨by assumption, by assumption, by assumption, by assumption, by assumption, by assumption⟩
theorem z_fit : Fit 0 := ⟨by decide, by decide⟩
theorem jV_fit (x t u : Int) : Fit (jV x t u).1 := by
  unfold jV then2
  repeat' split
  all_goals first | exact z_fit | exact fAdd_fit _ _
theorem jStep_fit {p : S6} {k : V3} {s : Int} {i j : Nat} {o : S6 × Int} (h : o.1.Fit) : (jStep p k s i j o).1.Fit := by
  have z : (S6.mk 0 0 0 0 0 0).Fit := by refine ⟨?_, ?_, ?_, ?_, ?_, ?_⟩ <;> exact ⟨by decide, by decide⟩
  unfold jStep
  split
  · exact h
  · split
    · exact z
    · split
      · exact z
      · split
        · exact z
        · refine S6.set_fit h _ ?_
          exact jV_fit _ _ _
theorem jDoubt_fit (p : S6) (k : V3) (s : Int) : (jDoubt p k s).1.Fit := by
  unfold jDoubt
  split
  · rename_i h
    exact jStep_fit (jStep_fit (jStep_fit (jStep_fit (jStep_fit (jStep_fit h.1)))))
  · refine ⟨?_, ?_, ?_, ?_, ?_, ?_⟩ <;> exact ⟨by decide, by decide⟩
theorem z3_fit : (V3.mk 0 0 0).Fit := by refine ⟨?_, ?_, ?_⟩ <;> exact ⟨by decide, by decide⟩
theorem jState_fit (x k : V3) (y : Int) : (jState x k y).1.Fit := by
  unfold jState
  split
  · split
    · exact z3_fit
    · exact vAdd_fit _ _
  · exact z3_fit
theorem motionF_fit (x : V3) (t : Int) : (motionF x t).1.Fit := by
  unfold motionF
  split
  · split
    · exact z3_fit
    · exact vAdd_fit _ _
  · exact z3_fit
theorem on8_fit (p : S6) (a : V3) : (on8 p a).1.Fit := by
  have z : (S6.mk 0 0 0 0 0 0).Fit := by refine ⟨?_, ?_, ?_, ?_, ?_, ?_⟩ <;> exact ⟨by decide, by decide⟩
  unfold on8
  split
  · split
    · exact sAdd_fit _ _
    · exact z
  · exact z
theorem fDiv_fit (a b : Int) : Fit (fDiv a b).1 := by
  unfold fDiv
  repeat' split
  · rename_i h
    exact h.2
  all_goals exact z_fit
theorem gainF_fit (p : S6) (s : Int) (short : Bool) (t : V3) : (gainF p s short t).1.Fit := by
  unfold gainF bestF
  split
  · exact vAdd_fit _ _
  · split
    · exact each3_fit (fDiv_fit _ _) (fDiv_fit _ _) (fDiv_fit _ _)
    · exact z3_fit
theorem altF_in64 (c : Int) : In64 (altF c).1 := by
  unfold altF
  split
  · simp only [IntKind.wrap_i64]
    constructor <;> omega
  · exact ⟨by decide, by decide⟩
theorem keptF_in64 {c : Cf} (hc : c.In64) {x : V3} (hx : x.In64) {p : S6} (hp : p.In64) : (keptF c x p).1.In64 ∧ (keptF c x p).2.In64 := ⟨V3.clamp_in64 hx hc.bound, tameF_in64 hp hc.floor hc.ceil⟩
theorem Chn.ok.first {ch : Chn} (h : ch.ok) {l : List Int} (hl : l.length < 16) : ({ ch with first := l } : Chn).ok := ⟨h.x, h.p, h.c, h.k, hl⟩
theorem Chn.ok.feed {ch : Chn} (h : ch.ok) (t : Tk) : (feedF ch t).ok := ⟨h.x, h.p, h.c, h.k, h.n⟩
theorem Chn.ok.kept {ch : Chn} (h : ch.ok) {x : V3} (hx : x.In64) {p : S6} (hp : p.In64) : ({ ch with x := x, p := p } : Chn).ok := ⟨hx, hp, h.c, h.k, h.n⟩
theorem moveF_ok {ch : Chn} (h : ch.ok) (t : Int) (held : Bool) : (moveF ch t held).ok := by
  refine ⟨V3.clamp_in64 ?_ h.c.bound, ?_, h.c, h.k, h.n⟩
  · split
    · exact (motionF_fit _ _).in64
    · exact h.x
  · show (if _ then _ else _ : S6).In64
    split
    · exact tameF_in64 (on8_fit _ _).in64 h.c.floor h.c.ceil
    · exact h.p
theorem takeF_ok {ch : Chn} (h : ch.ok) (n : Int) (short : Bool) : (takeF ch n short).ch.ok := by
  unfold takeF freshF
  split
  · rename_i xp e
    split at e
    · obtain rfl := Option.some.inj e
      exact h.kept (V3.clamp_in64 (jState_fit _ _ _).in64 h.c.bound) (tameF_in64 (jDoubt_fit _ _ _).in64 h.c.floor h.c.ceil)
    · cases e
  · exact h
theorem z64 : In64 0 := ⟨by decide, by decide⟩
theorem dgn_in64 {v : V3} (h : v.In64) : (dgn v).In64 := ⟨h.1, z64, z64, h.2.1, z64, h.2.2⟩
/-- What is kept behind a tick's middle. -/
structure Mid.ok (m : Mid) : Prop where
  x : m.ch.x.In64
  p : m.ch.p.In64
  c : m.ch.c.In64
  k : m.ch.k.ok
  n : m.ch.first.length < 16 ∨ m.ev = 0
  e : m.ev = 0 ∨ m.ev = 1 ∨ m.ev = 2 ∨ m.ev = 3
theorem midF_ok {ch : Chn} (h : ch.ok) (th : Int) (held lost : Bool) (t : Tk) : (midF ch th held lost t).ok := by
  unfold midF
  split
  · exact ⟨h.x, h.p, h.c, h.k, .inl h.n, .inr (.inr (.inr rfl))⟩
  · split
    · split
      · unfold seekF
        split
        · rename_i hn
          exact ⟨h.x, h.p, h.c, h.k, .inl (by simpa using hn), .inr (.inr (.inl rfl))⟩
        · refine ⟨?_, dgn_in64 h.c.start, h.c, h.k, .inr rfl, .inl rfl⟩
          exact ⟨altF_in64 _, z64, z64⟩
      · exact ⟨h.x, h.p, h.c, h.k, .inl h.n, .inr (.inr (.inl rfl))⟩
    · split
      · have ht := takeF_ok (moveF_ok h th held) (brings t).1 t.short
        refine ⟨ht.x, ht.p, ht.c, ht.k, .inl ht.n, ?_⟩
        show (if _ then _ else _ : Int) = 0 ∨ _
        split
        · exact .inr (.inl rfl)
        · exact .inr (.inr (.inl rfl))
      · have hm := moveF_ok h th held
        exact ⟨hm.x, hm.p, hm.c, hm.k, .inl hm.n, .inr (.inr (.inl rfl))⟩
theorem endF_ok {m : Mid} (h : m.ok) (sought : Bool) : (endF m sought).ok := by
  refine ⟨h.x, h.p, h.c, onF_ok h.k _ _ _, ?_⟩
  show (if _ then _ else _ : List Int).length < 16
  split
  · decide
  · rename_i hn
    rcases h.n with h' | h'
    · exact h'
    · exact absurd (.inl h') hn
theorem stepC_ok {ch : Chn} (h : ch.ok) (t : Tk) : (stepC ch t).ok := endF_ok (midF_ok (h.feed t) _ _ _ t) _
theorem newC_ok {c : Cf} (h : c.In64) : (newC c).ok := by
  refine ⟨?_, ?_, h, .inl rfl, Nat.zero_lt_succ 15⟩
  · exact ⟨z64, z64, z64⟩
  · exact ⟨z64, z64, z64, z64, z64, z64⟩
theorem walkC_ok {ch : Chn} (h : ch.ok) (l : List Tk) : (walkC ch l).ok := by
  induction l generalizing ch with
  | nil => exact h
  | cons t l ih => exact ih (stepC_ok h t)

/-! ### Frames of the memory -/
/-- What lies elsewhere stays. -/
structure Frm (l : List Nat) (h h' : List Blk) : Prop where
  le : h.length ≤ h'.length
  eq : ∀ j, j < h.length → j ∉ l → bget h' j = bget h j
theorem Frm.refl (l : List Nat) (h : List Blk) : Frm l h h := ⟨Nat.le_refl _, fun _ _ _ => rfl⟩
theorem Frm.app (l : List Nat) (h ext : List Blk) : Frm l h (h ++ ext) :=
  ⟨by simp, fun j hj _ => by rw [bget_eq, bget_eq]; exact List.getElem?_append_left hj⟩
theorem Frm.set {l : List Nat} {h : List Blk} {b : Nat} (hb : b ∈ l) (x : Blk) : Frm l h (bset h b x) :=
  ⟨by rw [bset_length]; exact Nat.le_refl _, fun j _ hj => bget_ne (fun e : b = j => hj (e ▸ hb)) _⟩
theorem Frm.trans {l : List Nat} {h h1 h2 : List Blk} (a : Frm l h h1) (b : Frm l h1 h2) : Frm l h h2 :=
  ⟨Nat.le_trans a.le b.le, fun j hj hn => (b.eq j (Nat.lt_of_lt_of_le hj a.le) hn).trans (a.eq j hj hn)⟩
/-- What came behind the memory may be turned, too. -/
theorem Frm.trans' {l l' : List Nat} {h h1 h2 : List Blk} (a : Frm l h h1) (b : Frm l' h1 h2) (hl : ∀ j, j < h.length → j ∈ l' → j ∈ l) : Frm l h h2 :=
  ⟨Nat.le_trans a.le b.le, fun j hj hn => (b.eq j (Nat.lt_of_lt_of_le hj a.le) fun h => hn (hl j hj h)).trans (a.eq j hj hn)⟩
theorem Frm.mono {l l' : List Nat} {h h' : List Blk} (a : Frm l h h') (hl : ∀ j, j ∈ l → j ∈ l') : Frm l' h h' := ⟨a.le, fun j hj hn => a.eq j hj fun h => hn (hl j h)⟩
theorem Frm.get {l : List Nat} {h h' : List Blk} (a : Frm l h h') {j : Nat} {k : Blk} (hk : bget h j = some k) (hn : j ∉ l) : bget h' j = some k := (a.eq j (bget_lt hk) hn).trans hk
/-- Where a channel's parts lie: its feed, its ground, its first samples. -/
structure Pl where
  f : Nat
  g : Nat
  s : Option (Nat × Nat)
def Pl.sl (w : Pl) (n : Nat) : AV := match w.s with
  | none => .raw (.slice none 0 0)
  | some (s, cap) => .slice s 0 n cap
def Pl.all (w : Pl) : List Nat := match w.s with
  | none => [w.f, w.g]
  | some (s, _) => [w.f, w.g, s]
def Chn.cells (ch : Chn) (w : Pl) : List AV :=
  [I ch.x.x, I ch.x.y, I ch.x.z, I ch.p.a, I ch.p.b, I ch.p.c, I ch.p.d, I ch.p.e, I ch.p.f, I ch.c.q.x, I ch.c.q.y, I ch.c.q.z, I ch.c.loose.x, I ch.c.loose.y, I ch.c.loose.z, I ch.c.r, I ch.c.rg,
    I ch.c.start.x, I ch.c.start.y, I ch.c.start.z, I ch.c.floor.x, I ch.c.floor.y, I ch.c.floor.z, I ch.c.ceil.x, I ch.c.ceil.y, I ch.c.ceil.z,
    I ch.c.bound.x, I ch.c.bound.y, I ch.c.bound.z, I ch.c.gate, I ch.c.table.x, I ch.c.table.y, I ch.c.table.z, I ch.c.scale, I ch.c.rest, I ch.c.clip, I ch.c.hold, I ch.c.coast, I ch.c.out, I ch.c.band,
    .ptr w.f 0, w.sl ch.first.length, .ptr w.g 0, I ch.k.m, I ch.k.s]
attribute [go_sem] Chn.cells
theorem bset_same {h : List Blk} {b : Nat} {k : Blk} (hb : bget h b = some k) : bset h b k = h := by
  rw [bget_eq] at hb
  rw [bset_eq]
  obtain ⟨hl, rfl⟩ := List.getElem?_eq_some_iff.1 hb
  exact List.set_getElem_self hl
end Go.Ev
