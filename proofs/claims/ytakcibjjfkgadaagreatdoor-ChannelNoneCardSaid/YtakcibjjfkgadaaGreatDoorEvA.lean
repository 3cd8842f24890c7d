/- An abstract run of Go code over values whose own memory is numbered by itself: values, what they stand for in a world, what a part of a run may turn. -/
import Derived.Tactics
import Derived.Orders
import Derived.ScopeJumps
import Derived.Laws.Cells
import Derived.RangeFuncRecord
set_option linter.unusedVariables false
set_option linter.unusedSimpArgs false
namespace Go.Ev

/-- What the yield of a loop bears: where its arguments go; the assignments; the body. -/
structure YD where
  ps : Array Tmp
  assign : Code
  body : Code

/-- A value of the abstract run. -/
inductive AV where
  | int (k : IntKind) (n : Int)
  | bool (b : Bool)
  | ptr (b off : Nat)
  | slice (b off len cap : Nat)
  | islice (len : Nat) (cs : List AV)
  | cptr (cs : List AV)
  | fn (f : FuncId) (cs : List AV)
  | agg (cs : List AV)
  | tuple (vs : List AV)
  | raw (v : Value)
  | yld (d : YD) (cs : List AV)
  | junk

/-- The cells from off on of block r hold us. -/
def Row (w : World) (r off : Nat) (us : List Value) : Prop :=
  ∃ arr e fz, w.heap[r]? = some (.cells arr e fz) ∧ ∀ i u, us[i]? = some u → arr[off + i]? = some u

mutual
/-- What a value stands for: m: the numbers of the own blocks; im: the blocks that nobody writes. -/
def VR (m : List Nat) (w : World) (im : Nat → Prop) : AV → Value → Prop
  | .int k n, v => v = .int k n
  | .bool b, v => v = .bool b
  | .ptr b off, v => ∃ r, m[b]? = some r ∧ v = .pointer (some ⟨r, off, none⟩)
  | .slice b off len cap, v => ∃ r, m[b]? = some r ∧ v = .slice (some ⟨r, off, none⟩) len cap
  | .islice len cs, v => (len = 0 ∧ cs = [] ∧ v = .slice none 0 0) ∨
      ∃ r off cap us, (im r ∧ len ≤ cap) ∧ v = .slice (some ⟨r, off, none⟩) len cap ∧ VRs m w im cs us ∧ Row w r off us
  | .cptr cs, v => ∃ r off us, im r ∧ v = .pointer (some ⟨r, off, none⟩) ∧ VRs m w im cs us ∧ Row w r off us
  | .fn f cs, v => ∃ us, v = .func (.func f) #[] us.toArray ∧ VRs m w im cs us
  | .agg cs, v => ∃ us, v = .agg us.toArray ∧ VRs m w im cs us
  | .tuple cs, v => ∃ us, v = .tuple us.toArray ∧ VRs m w im cs us
  | .raw u, v => v = u
  | .yld d cs, v => ∃ l fn D us, im l ∧ v = .func (.yield l) #[] #[] ∧ w.heap[l]? = some (.loop { state := .ready, pending := none, fn := fn, tmps := List.toArray us, params := d.ps, assign := d.assign, body := d.body, defers := D }) ∧ VRs m w im cs us
  | .junk, _ => True
def VRs (m : List Nat) (w : World) (im : Nat → Prop) : List AV → List Value → Prop
  | [], [] => True
  | c :: cs, v :: vs => VR m w im c v ∧ VRs m w im cs vs
  | [], _ :: _ => False
  | _ :: _, [] => False
end

/-- What is known stays known. -/
structure Stay (m : List Nat) (w : World) (im : Nat → Prop) (m' : List Nat) (w' : World) (im' : Nat → Prop) : Prop where
  pre : ∀ (b : Nat) (r : Nat), m[b]? = some r → m'[b]? = some r
  imm : ∀ r, im r → im' r ∧ w'.heap[r]? = w.heap[r]?

theorem Row.stay {w w' : World} {r off : Nat} {us : List Value} (h : Row w r off us) (e : w'.heap[r]? = w.heap[r]?) : Row w' r off us := by
  obtain ⟨arr, t, fz, h1, h2⟩ := h
  exact ⟨arr, t, fz, by rw [e]; exact h1, h2⟩

mutual
theorem VR.stay {m m' : List Nat} {w w' : World} {im im' : Nat → Prop} (s : Stay m w im m' w' im') : ∀ (a : AV) (v : Value), VR m w im a v → VR m' w' im' a v
  | .int _ _, _, h => by simpa only [VR] using h
  | .bool _, _, h => by simpa only [VR] using h
  | .ptr b off, v, h => by
    simp only [VR] at h ⊢
    obtain ⟨r, h1, h2⟩ := h
    exact ⟨r, s.pre b r h1, h2⟩
  | .slice b off len cap, v, h => by
    simp only [VR] at h ⊢
    obtain ⟨r, h1, h2⟩ := h
    exact ⟨r, s.pre b r h1, h2⟩
  | .islice len cs, v, h => by
    simp only [VR] at h ⊢
    rcases h with h | ⟨r, off, cap, us, h1, h2, h3, h4⟩
    · exact .inl h
    · exact .inr ⟨r, off, cap, us, ⟨(s.imm r h1.1).1, h1.2⟩, h2, VRs.stay s cs us h3, h4.stay (s.imm r h1.1).2⟩
  | .cptr cs, v, h => by
    simp only [VR] at h ⊢
    obtain ⟨r, off, us, h1, h2, h3, h4⟩ := h
    exact ⟨r, off, us, (s.imm r h1).1, h2, VRs.stay s cs us h3, h4.stay (s.imm r h1).2⟩
  | .fn f cs, v, h => by
    simp only [VR] at h ⊢
    obtain ⟨us, h1, h2⟩ := h
    exact ⟨us, h1, VRs.stay s cs us h2⟩
  | .agg cs, v, h => by
    simp only [VR] at h ⊢
    obtain ⟨us, h1, h2⟩ := h
    exact ⟨us, h1, VRs.stay s cs us h2⟩
  | .tuple cs, v, h => by
    simp only [VR] at h ⊢
    obtain ⟨us, h1, h2⟩ := h
    exact ⟨us, h1, VRs.stay s cs us h2⟩
  | .raw _, _, h => by simpa only [VR] using h
  | .yld d cs, v, h => by
    simp only [VR] at h ⊢
    obtain ⟨l, fn, D, us, h1, h2, h3, h4⟩ := h
    exact ⟨l, fn, D, us, (s.imm l h1).1, h2, (s.imm l h1).2.trans h3, VRs.stay s cs us h4⟩
  | .junk, _, _ => by simp only [VR]
theorem VRs.stay {m m' : List Nat} {w w' : World} {im im' : Nat → Prop} (s : Stay m w im m' w' im') : ∀ (as : List AV) (vs : List Value), VRs m w im as vs → VRs m' w' im' as vs
  | [], [], _ => by simp only [VRs]
  | c :: cs, v :: vs, h => by
    simp only [VRs] at h ⊢
    exact ⟨VR.stay s c v h.1, VRs.stay s cs vs h.2⟩
  | [], _ :: _, h => by simp only [VRs] at h
  | _ :: _, [], h => by simp only [VRs] at h
end

section lists
variable {m : List Nat} {w : World} {im : Nat → Prop}

theorem VRs.length : ∀ {as : List AV} {vs : List Value}, VRs m w im as vs → as.length = vs.length
  | [], [], _ => rfl
  | _ :: _, _ :: _, h => by simp only [VRs] at h; simp [VRs.length h.2]
  | [], _ :: _, h => by simp only [VRs] at h
  | _ :: _, [], h => by simp only [VRs] at h

theorem VRs.get : ∀ {as : List AV} {vs : List Value}, VRs m w im as vs → ∀ {i : Nat} {a : AV}, as[i]? = some a → ∃ v, vs[i]? = some v ∧ VR m w im a v
  | c :: cs, v :: vs, h, 0, a, e => by
    simp only [VRs] at h
    simp at e; subst e
    exact ⟨v, by simp, h.1⟩
  | c :: cs, v :: vs, h, i + 1, a, e => by
    simp only [VRs] at h
    simp at e
    simpa using VRs.get h.2 e
  | [], [], _, _, _, e => by simp at e
  | [], _ :: _, h, _, _, _ => by simp only [VRs] at h
  | _ :: _, [], h, _, _, _ => by simp only [VRs] at h

theorem VRs.getv {as : List AV} {vs : List Value} (h : VRs m w im as vs) {i : Nat} {v : Value} (e : vs[i]? = some v) : ∃ a, as[i]? = some a ∧ VR m w im a v := by
  have hl := h.length
  have hi : i < vs.length := by
    rcases Nat.lt_or_ge i vs.length with h' | h'
    · exact h'
    · rw [List.getElem?_eq_none h'] at e; cases e
  have hi' : i < as.length := by omega
  obtain ⟨u, hu, hr⟩ := h.get (List.getElem?_eq_getElem hi')
  rw [hu] at e
  cases e
  exact ⟨_, List.getElem?_eq_getElem hi', hr⟩

theorem VRs.set : ∀ {as : List AV} {vs : List Value}, VRs m w im as vs → ∀ (i : Nat) {a : AV} {v : Value}, VR m w im a v → VRs m w im (as.set i a) (vs.set i v)
  | [], [], h, _, _, _, _ => by simpa using h
  | c :: cs, u :: us, h, 0, a, v, hv => by simp only [VRs, List.set] at h ⊢; exact ⟨hv, h.2⟩
  | c :: cs, u :: us, h, i + 1, a, v, hv => by simp only [VRs, List.set] at h ⊢; exact ⟨h.1, VRs.set h.2 i hv⟩
  | [], _ :: _, h, _, _, _, _ => by simp only [VRs] at h
  | _ :: _, [], h, _, _, _, _ => by simp only [VRs] at h

theorem VRs.append : ∀ {as bs : List AV} {vs us : List Value}, VRs m w im as vs → VRs m w im bs us → VRs m w im (as ++ bs) (vs ++ us)
  | [], _, [], _, _, h => by simpa using h
  | c :: cs, _, u :: us, _, h, h' => by simp only [VRs, List.cons_append] at h ⊢; exact ⟨h.1, VRs.append h.2 h'⟩
  | [], _, _ :: _, _, h, _ => by simp only [VRs] at h
  | _ :: _, _, [], _, h, _ => by simp only [VRs] at h

theorem VRs.take : ∀ {as : List AV} {vs : List Value}, VRs m w im as vs → ∀ (n : Nat), VRs m w im (as.take n) (vs.take n)
  | _, _, _, 0 => by simp [VRs]
  | [], [], h, _ + 1 => by simpa using h
  | c :: cs, u :: us, h, n + 1 => by simp only [VRs, List.take_succ_cons] at h ⊢; exact ⟨h.1, VRs.take h.2 n⟩
  | [], _ :: _, h, _ => by simp only [VRs] at h
  | _ :: _, [], h, _ => by simp only [VRs] at h

theorem VRs.drop : ∀ {as : List AV} {vs : List Value}, VRs m w im as vs → ∀ (n : Nat), VRs m w im (as.drop n) (vs.drop n)
  | _, _, h, 0 => by simpa using h
  | [], [], h, _ + 1 => by simpa using h
  | c :: cs, u :: us, h, n + 1 => by simp only [VRs, List.drop_succ_cons] at h ⊢; exact VRs.drop h.2 n
  | [], _ :: _, h, _ => by simp only [VRs] at h
  | _ :: _, [], h, _ => by simp only [VRs] at h

theorem VRs.replicate {a : AV} {v : Value} (h : VR m w im a v) : ∀ n, VRs m w im (List.replicate n a) (List.replicate n v)
  | 0 => by simp [VRs]
  | n + 1 => by simp only [List.replicate_succ, VRs]; exact ⟨h, VRs.replicate h n⟩

theorem VRs.map {α : Type} {f : α → AV} {g : α → Value} (h : ∀ x, VR m w im (f x) (g x)) : ∀ l : List α, VRs m w im (l.map f) (l.map g)
  | [] => by simp [VRs]
  | x :: l => by simp only [List.map_cons, VRs]; exact ⟨h x, VRs.map h l⟩
end lists

/-- A constant. -/
def ofV : Value → AV
  | .int k n => .int k n
  | .bool b => .bool b
  | v => .raw v

theorem VR_ofV {m : List Nat} {w : World} {im : Nat → Prop} (v : Value) : VR m w im (ofV v) v := by
  cases v <;> simp [ofV, VR]

/-- A block of the abstract run's own. -/
structure Blk where
  cells : List AV
  elem : TypeId

/-- A deferred call; or the mark of a range over a function. -/
inductive Dfr where
  | call (f : FuncId) (cap args : List AV)
  | mark

/-- A state. -/
structure St where
  tmps : List AV
  heap : List Blk
  dfs : List Dfr

def lget : List AV → Nat → AV
  | [], _ => .raw undef
  | x :: _, 0 => x
  | _ :: l, n + 1 => lget l n
def lset : List AV → Nat → AV → List AV
  | [], _, _ => []
  | _ :: l, 0, v => v :: l
  | x :: l, n + 1, v => x :: lset l n v

theorem lset_eq (l : List AV) (n : Nat) (v : AV) : lset l n v = l.set n v := by
  induction l generalizing n with
  | nil => simp [lset]
  | cons x l ih => cases n <;> simp [lset, ih]

theorem VRs.lget {m : List Nat} {w : World} {im : Nat → Prop} : ∀ {as : List AV} {vs : List Value}, VRs m w im as vs → ∀ i, VR m w im (Ev.lget as i) (vs.toArray.getD i undef)
  | [], [], _, i => by simp [Ev.lget, VR]
  | c :: cs, v :: vs, h, 0 => by simp only [VRs] at h; simpa [Ev.lget] using h.1
  | c :: cs, v :: vs, h, i + 1 => by
    simp only [VRs] at h
    simpa [Ev.lget] using VRs.lget h.2 i
  | [], _ :: _, h, _ => by simp only [VRs] at h
  | _ :: _, [], h, _ => by simp only [VRs] at h

/-- The package-level variables of which the content is known. -/
abbrev Glob := Nat → Option (List AV)

def evO (G : Glob) (t : List AV) : Operand → AV
  | .tmp i => lget t i
  | .const v => ofV v
  | .global g => match G g with
    | some cs => .cptr cs
    | none => .raw (.pointer (some ⟨g, 0, none⟩))
  | .func f => .fn f []

def DR (m : List Nat) (w : World) (im : Nat → Prop) (d : Dfr) (x : Deferred) : Prop :=
  match d with
  | .call f cap args => ∃ us vs, VRs m w im cap us ∧ VRs m w im args vs ∧ x = { target := .fn (.func f) us.toArray, args := vs.toArray }
  | .mark => ∃ D, im D ∧ w.heap[D]? = some (.deferred (some [])) ∧ x = { target := .collected D, args := #[] }
theorem DR.stay {m m' : List Nat} {w w' : World} {im im' : Nat → Prop} (s : Stay m w im m' w' im') {d : Dfr} {x : Deferred} (h : DR m w im d x) : DR m' w' im' d x := by
  cases d with
  | call f cap args =>
    obtain ⟨us, vs, h1, h2, h3⟩ := h
    exact ⟨us, vs, h1.stay s, h2.stay s, h3⟩
  | mark =>
    obtain ⟨D, h1, h2, h3⟩ := h
    exact ⟨D, (s.imm D h1).1, (s.imm D h1).2.trans h2, h3⟩
def DRs (m : List Nat) (w : World) (im : Nat → Prop) : List Dfr → List Deferred → Prop
  | [], [] => True
  | d :: ds, x :: xs => DR m w im d x ∧ DRs m w im ds xs ∧ ∀ D, x.target = .collected D → ∀ y ∈ xs, y.target ≠ .collected D
  | [], _ :: _ => False
  | _ :: _, [] => False

theorem DRs.stay {m m' : List Nat} {w w' : World} {im im' : Nat → Prop} (s : Stay m w im m' w' im') : ∀ {ds : List Dfr} {xs : List Deferred}, DRs m w im ds xs → DRs m' w' im' ds xs
  | [], [], _ => trivial
  | d :: ds, x :: xs, h => by
    exact ⟨h.1.stay s, h.2.1.stay s, h.2.2⟩
  | [], _ :: _, h => h
  | _ :: _, [], h => h

/-- What is known of the package-level variables. -/
def GOK (G : Glob) (w : World) (im : Nat → Prop) : Prop := ∀ g cs, G g = some cs → im g ∧ ∃ us, VRs [] w im cs us ∧ Row w g 0 us

def BR (m : List Nat) (w : World) (im : Nat → Prop) (k : Blk) (r : Nat) : Prop :=
  ∃ arr us, w.heap[r]? = some (.cells arr k.elem (0, 0)) ∧ VRs m w im k.cells us ∧ ∀ (i : Nat) (u : Value), us[i]? = some u → arr[i]? = some u

/-- The memory. -/
structure HR (G : Glob) (m : List Nat) (im : Nat → Prop) (h : List Blk) (w : World) : Prop where
  ln : m.length = h.length
  bl : ∀ (b : Nat) (k : Blk) (r : Nat), h[b]? = some k → m[b]? = some r → BR m w im k r
  inj : ∀ (b b' r : Nat) (k k' : Blk), m[b]? = some r → m[b']? = some r → h[b]? = some k → h[b']? = some k' → k.cells ≠ [] → k'.cells ≠ [] → b = b'
  imx : ∀ r, im r → r < w.heap.size ∧ r ∉ m
  gl : GOK G w im

/-- A state stands for a frame and a world. -/
structure SR (G : Glob) (m : List Nat) (im : Nat → Prop) (st : St) (a : Act) (w : World) : Prop where
  tm : ∃ us, VRs m w im st.tmps us ∧ a.tmps = us.toArray
  df : DRs m w im st.dfs a.defers
  hp : HR G m im st.heap w

/-- What a part of a run may turn: n0 own blocks were there before. -/
structure Ext (n0 : Nat) (m : List Nat) (im : Nat → Prop) (w : World) (m' : List Nat) (im' : Nat → Prop) (w' : World) : Prop where
  os : w'.os = w.os
  tape : w'.tape = w.tape
  output : w'.output = w.output
  size : w.heap.size ≤ w'.heap.size
  pre : ∀ (b r : Nat), b < n0 → m[b]? = some r → m'[b]? = some r
  keep : ∀ r, r < w.heap.size → r ∉ m → w'.heap[r]? = w.heap[r]?
  newm : ∀ r, r ∈ m' → r ∈ m ∨ w.heap.size ≤ r
  imm : ∀ r, im r → im' r
  newim : ∀ r, im' r → im r ∨ w.heap.size ≤ r

theorem Ext.refl (n0 : Nat) (m : List Nat) (im : Nat → Prop) (w : World) : Ext n0 m im w m im w :=
  ⟨rfl, rfl, rfl, Nat.le_refl _, fun _ _ _ h => h, fun _ _ _ => rfl, fun _ h => .inl h, fun _ h => h, fun _ h => .inl h⟩

theorem Ext.trans {n0 : Nat} {m m' m'' : List Nat} {im im' im'' : Nat → Prop} {w w' w'' : World} (h : Ext n0 m im w m' im' w') (k : Ext n0 m' im' w' m'' im'' w'') : Ext n0 m im w m'' im'' w'' where
  os := k.os.trans h.os
  tape := k.tape.trans h.tape
  output := k.output.trans h.output
  size := Nat.le_trans h.size k.size
  pre := fun b r hb e => k.pre b r hb (h.pre b r hb e)
  keep := fun r hr hm => by
    have hm' : r ∉ m' := fun hx => by
      rcases h.newm r hx with hy | hy
      · exact hm hy
      · omega
    rw [k.keep r (Nat.lt_of_lt_of_le hr h.size) hm', h.keep r hr hm]
  newm := fun r hr => by
    rcases k.newm r hr with hy | hy
    · exact h.newm r hy
    · exact .inr (Nat.le_trans h.size hy)
  imm := fun r hr => k.imm r (h.imm r hr)
  newim := fun r hr => by
    rcases k.newim r hr with hy | hy
    · exact h.newim r hy
    · exact .inr (Nat.le_trans h.size hy)

/-- Another count of what was there before. -/
theorem Ext.less {n0 n1 : Nat} {m m' : List Nat} {im im' : Nat → Prop} {w w' : World} (h : Ext n1 m im w m' im' w') (hn : n0 ≤ n1) : Ext n0 m im w m' im' w' :=
  { h with pre := fun b r hb e => h.pre b r (Nat.lt_of_lt_of_le hb hn) e }

end Go.Ev
