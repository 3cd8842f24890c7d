/- What an operation asks for, in the abstract run. -/
import Derived.Test.YtakcibjjfkgadaaGreatDoorEvA
set_option linter.unusedVariables false
set_option linter.unusedSimpArgs false
namespace Go.Ev

/-! ### Types -/
def tSz (P : Program) (t : TypeId) : Option Nat := (P.info? t).map (·.size)
def tAgg (P : Program) (t : TypeId) : Option Bool :=
  match P.underlying t with
  | some (.struct _) => some true
  | some (.array _ _) => some true
  | some _ => some false
  | none => none
/-- A field's offset and type. -/
def tFld (P : Program) (s f : Nat) : Option (Nat × TypeId) :=
  match P.underlying s with
  | some (.struct fs) => (fs[f]?).map fun x => (x.offset, x.type)
  | _ => none
def tArr (P : Program) (t : TypeId) : Option (Nat × TypeId) :=
  match P.underlying t with
  | some (.array n e) => some (n, e)
  | _ => none
def tSlc (P : Program) (t : TypeId) : Option TypeId :=
  match P.underlying t with
  | some (.slice e) => some e
  | _ => none
def tInt (P : Program) (t : TypeId) : Option IntKind :=
  match P.underlying t with
  | some (.int k) => some k
  | _ => none
def tStr (P : Program) (t : TypeId) : Bool :=
  match P.underlying t with
  | some .string => true
  | _ => false
def tBool (P : Program) (t : TypeId) : Bool :=
  match P.underlying t with
  | some .bool => true
  | _ => false
def tZero (P : Program) (t : TypeId) : Option (List AV) := ((P.info? t).bind (·.zero)).map fun v => v.cells.toList.map ofV

/-! ### Lists -/
def bget : List Blk → Nat → Option Blk
  | [], _ => none
  | k :: _, 0 => some k
  | _ :: l, n + 1 => bget l n
def bset : List Blk → Nat → Blk → List Blk
  | [], _, _ => []
  | _ :: l, 0, k => k :: l
  | x :: l, n + 1, k => x :: bset l n k
def lsets : List AV → Nat → List AV → List AV
  | l, _, [] => l
  | l, n, c :: cs => lsets (lset l n c) (n + 1) cs

theorem bget_eq (l : List Blk) (n : Nat) : bget l n = l[n]? := by
  induction l generalizing n with
  | nil => simp [bget]
  | cons x l ih => cases n <;> simp [bget, ih]
theorem bset_eq (l : List Blk) (n : Nat) (k : Blk) : bset l n k = l.set n k := by
  induction l generalizing n with
  | nil => simp [bset]
  | cons x l ih => cases n <;> simp [bset, ih]

/-- A value that fits one cell. -/
def one : AV → Bool
  | .int _ _ | .bool _ | .ptr _ _ | .slice _ _ _ _ | .islice _ _ | .cptr _ | .fn _ _ => true
  | .raw v => v.oneCell'
  | .agg _ | .tuple _ | .yld _ _ | .junk => false
/-- A value's cells. -/
def cellsA : AV → Option (List AV)
  | .agg cs => some cs
  | .raw (.agg cs) => some (cs.toList.map ofV)
  | .junk => none
  | .yld _ _ => none
  | v => some [v]
def allOne : List AV → Bool
  | [] => true
  | c :: cs => one c && allOne cs

theorem VR.one {m : List Nat} {w : World} {im : Nat → Prop} {a : AV} {v : Value} (h : VR m w im a v) (ho : one a = true) : v.oneCell' = true := by
  cases a <;> simp only [VR] at h <;> simp only [Ev.one] at ho
  case int => subst h; rfl
  case bool => subst h; rfl
  case ptr => obtain ⟨r, _, rfl⟩ := h; rfl
  case slice => obtain ⟨r, _, rfl⟩ := h; rfl
  case islice => rcases h with ⟨_, _, rfl⟩ | ⟨r, off, cap, us, _, rfl, _⟩ <;> rfl
  case cptr => obtain ⟨r, off, us, _, rfl, _⟩ := h; rfl
  case fn => obtain ⟨us, rfl, _⟩ := h; rfl
  case raw => subst h; exact ho
  all_goals cases ho

theorem VR.cells {m : List Nat} {w : World} {im : Nat → Prop} {a : AV} {v : Value} (h : VR m w im a v) {cs : List AV} (hc : cellsA a = some cs) : VRs m w im cs v.cells.toList := by
  have hone : ∀ {x : AV} {u : Value}, VR m w im x u → VRs m w im [x] [u] := fun h => by simp only [VRs]; exact ⟨h, trivial⟩
  cases a <;> simp only [cellsA] at hc
  case agg =>
    cases hc
    simp only [VR] at h
    obtain ⟨us, rfl, h⟩ := h
    simpa [Value.cells] using h
  case junk => cases hc
  case yld => cases hc
  case raw u =>
    simp only [VR] at h
    subst h
    cases v <;> cases hc <;> simp only [Value.cells] <;> try exact hone (by simp [VR])
    rename_i xs
    have : ∀ l : List Value, VRs m w im (l.map ofV) l := fun l => by
      induction l with
      | nil => simp [VRs]
      | cons x l ih => simp only [List.map_cons, VRs]; exact ⟨VR_ofV x, ih⟩
    exact this _
  case int => cases hc; have h' := h; simp only [VR] at h'; subst h'; exact hone h
  case bool => cases hc; have h' := h; simp only [VR] at h'; subst h'; exact hone h
  case ptr => cases hc; have h' := h; simp only [VR] at h'; obtain ⟨r, _, rfl⟩ := h'; exact hone h
  case slice => cases hc; have h' := h; simp only [VR] at h'; obtain ⟨r, _, rfl⟩ := h'; exact hone h
  case islice => cases hc; have h' := h; simp only [VR] at h'; rcases h' with ⟨_, _, rfl⟩ | ⟨r, off, cap, us, _, rfl, _⟩ <;> exact hone h
  case cptr => cases hc; have h' := h; simp only [VR] at h'; obtain ⟨r, off, us, _, rfl, _⟩ := h'; exact hone h
  case fn => cases hc; have h' := h; simp only [VR] at h'; obtain ⟨us, rfl, _⟩ := h'; exact hone h
  case tuple => cases hc; have h' := h; simp only [VR] at h'; obtain ⟨us, rfl, _⟩ := h'; exact hone h

theorem allOne_get : ∀ {cs : List AV}, allOne cs = true → ∀ {i : Nat} {c : AV}, cs[i]? = some c → one c = true
  | [], _, _, _, h => by simp at h
  | x :: cs, h, 0, c, e => by
    simp only [allOne, Bool.and_eq_true] at h
    simp at e; subst e; exact h.1
  | x :: cs, h, i + 1, c, e => by
    simp only [allOne, Bool.and_eq_true] at h
    exact allOne_get h.2 (by simpa using e)

/-! ### What an operation asks for -/
inductive Req where
  | val (c : Bool) (v : AV)
  | rd (b off n : Nat) (agg : Bool)
  | wr (b off : Nat) (cs : List AV)
  | push (cs : List AV) (e : TypeId) (sl : Option Nat)
  | call (f : FuncId) (args : List AV)
  | bad

def ibits (op : BinOp) (k : IntKind) (x y : Int) : Int :=
  k.wrap (match op with
    | .and => BitVec.ofInt k.bits x &&& BitVec.ofInt k.bits y
    | .or => BitVec.ofInt k.bits x ||| BitVec.ofInt k.bits y
    | .xor => BitVec.ofInt k.bits x ^^^ BitVec.ofInt k.bits y
    | _ => BitVec.ofInt k.bits x &&& ~~~BitVec.ofInt k.bits y).toNat

def ibin (op : BinOp) (k : IntKind) (x y : Int) : Req :=
  match op with
  | .add => .val true (.int k (k.wrap (x + y)))
  | .sub => .val true (.int k (k.wrap (x - y)))
  | .mul => .val true (.int k (k.wrap (x * y)))
  | .quo => .val (decide (y ≠ 0)) (.int k (k.wrap (x.tdiv y)))
  | .rem => .val (decide (y ≠ 0)) (.int k (x.tmod y))
  | .and => .val true (.int k (ibits .and k x y))
  | .or => .val true (.int k (ibits .or k x y))
  | .xor => .val true (.int k (ibits .xor k x y))
  | .andNot => .val true (.int k (ibits .andNot k x y))
  | .eql => .val true (.bool (decide (x = y)))
  | .neq => .val true (.bool (!decide (x = y)))
  | .lss => .val true (.bool (decide (x < y)))
  | .leq => .val true (.bool (decide (x ≤ y)))
  | .gtr => .val true (.bool (decide (y < x)))
  | .geq => .val true (.bool (decide (y ≤ x)))
  | _ => .bad

/-- What stands in a cell that is compared by itself. -/
inductive EK where
  | int (k : IntKind) | bool | str

def eqShift (off : Nat) : List (Nat × EK) → List (Nat × EK)
  | [] => []
  | (i, k) :: l => (off + i, k) :: eqShift off l
def eqIn (n : Nat) : List (Nat × EK) → Bool
  | [] => true
  | (i, _) :: l => Nat.blt i n && eqIn n l
/-- The plan of a part: within it, if it is an aggregate. -/
def eqPart (P : Program) (t : TypeId) (off : Nat) (pl : Option (List (Nat × EK))) : Option (List (Nat × EK)) :=
  match pl, tSz P t with
  | some l, some n => if eqIn n l then some (eqShift off l) else none
  | _, _ => none
def eqFs (P : Program) (g : TypeId → Option (List (Nat × EK))) : List Field → Option (List (Nat × EK))
  | [] => some []
  | f :: fs => if f.name = "_" then eqFs P g fs else match eqPart P f.type f.offset (g f.type), eqFs P g fs with
    | some a, some b => some (a ++ b)
    | _, _ => none
def eqEs (P : Program) (e sz : Nat) (pl : Option (List (Nat × EK))) : List Nat → Option (List (Nat × EK))
  | [] => some []
  | i :: l => match eqPart P e (i * sz) pl, eqEs P e sz pl l with
    | some a, some b => some (a ++ b)
    | _, _ => none
/-- Which cells '==' compares. -/
def eqPlan (P : Program) : Nat → TypeId → Option (List (Nat × EK))
  | 0, _ => none
  | d + 1, t =>
    match P.underlying t with
    | some (.int k) => some [(0, .int k)]
    | some .bool => some [(0, .bool)]
    | some .string => some [(0, .str)]
    | some (.struct fs) => if P.stoodInHeld t then none else eqFs P (eqPlan P d) fs.toList
    | some (.array n e) => match tSz P e with
      | some sz => eqEs P e sz (eqPlan P d e) (List.range n)
      | none => none
    | _ => none
/-- The plan of an aggregate. -/
def tEq (P : Program) (t : TypeId) : Option (List (Nat × EK)) :=
  if P.eqGuardType P.depth t then none else eqPlan P 6 t
def eqC : EK → AV → AV → Option Bool
  | .int k, .int k1 a, .int k2 b => if k1 = k ∧ k2 = k then some (decide (a = b)) else none
  | .bool, .bool a, .bool b => some (a == b)
  | .str, .raw (.string a), .raw (.string b) => some (a.toList == b.toList)
  | _, _, _ => none
def eqBy : List (Nat × EK) → List AV → List AV → Option Bool
  | [], _, _ => some true
  | (i, k) :: l, xs, ys => match eqC k (lget xs i) (lget ys i), eqBy l xs ys with
    | some a, some b => some (a && b)
    | _, _ => none
def eqReq (op : BinOp) (r : Option Bool) : Req :=
  match op, r with
  | .eql, some b => .val true (.bool b)
  | .neq, some b => .val true (.bool (!b))
  | _, _ => .bad
def tPtr (P : Program) (t : TypeId) : Bool :=
  match P.underlying t with
  | some (.pointer _) => true
  | _ => false
def tFun (P : Program) (t : TypeId) : Bool :=
  match P.underlying t with
  | some (.func _ _ _) => true
  | _ => false

def strBin (op : BinOp) (a b : ByteArray) : Req :=
  match op with
  | .add => .val (decide (a.size + b.size ≤ 9223372036854775807)) (.raw (.string (a ++ b)))
  | .eql => .val true (.bool (a.toList == b.toList))
  | .neq => .val true (.bool (!(a.toList == b.toList)))
  | _ => .bad

def bin (P : Program) (op : BinOp) (t : TypeId) (x y : AV) : Req :=
  match x, y with
  | .int k a, .int k' b =>
    match op with
    | .shl => .val (decide (0 ≤ b)) (.int k (k.wrap (a * 2 ^ (min b.toNat k.bits))))
    | .shr => .val (decide (0 ≤ b)) (.int k (a.fdiv (2 ^ (min b.toNat k.bits))))
    | _ => if k = k' then ibin op k a b else .bad
  | .bool a, .bool b =>
    match op, tBool P t with
    | .eql, true => .val true (.bool (a == b))
    | .neq, true => .val true (.bool (!(a == b)))
    | _, _ => .bad
  | .raw (.string a), .raw (.string b) => strBin op a b
  | .agg xs, .agg ys => match tAgg P t, tEq P t with
    | some true, some pl => eqReq op (eqBy pl xs ys)
    | _, _ => .bad
  | .ptr _ _, .raw (.pointer none) => if tPtr P t then eqReq op (some false) else .bad
  | .cptr _, .raw (.pointer none) => if tPtr P t then eqReq op (some false) else .bad
  | .raw (.pointer none), .raw (.pointer none) => if tPtr P t then eqReq op (some true) else .bad
  | .fn _ _, .raw .nilFunc => if tFun P t then eqReq op (some false) else .bad
  | .raw .nilFunc, .raw .nilFunc => if tFun P t then eqReq op (some true) else .bad
  | .slice _ _ _ _, .raw (.slice none _ _) => match tSlc P t with
    | some _ => eqReq op (some false)
    | none => .bad
  | .raw (.slice none _ _), .raw (.slice none _ _) => match tSlc P t with
    | some _ => eqReq op (some true)
    | none => .bad
  | _, _ => .bad

def un (op : UnOp) (x : AV) : Req :=
  match op, x with
  | .neg, .int k n => .val true (.int k (k.wrap (0 - n)))
  | .xor, .int k n => .val true (.int k (ibits .xor k (if k.signed then -1 else k.max) n))
  | .not, .bool b => .val true (.bool (!b))
  | _, _ => .bad

/-- A part of an aggregate. -/
def partA (P : Program) (t : TypeId) (cs : List AV) (off : Nat) : Req :=
  match tAgg P t, tSz P t with
  | some true, some n => .val true (.agg ((cs.drop off).take n))
  | some false, _ => .val (decide (off < cs.length)) (lget cs off)
  | _, _ => .bad

def aggOf : AV → Option (List AV)
  | .agg cs => some cs
  | _ => none

/-- The cells of a struct or array, part by part. -/
def fillA (place : Nat → Option (Nat × Nat)) (cells : List AV) : List (Nat × AV) → Option (List AV)
  | [] => some cells
  | (i, v) :: rest =>
    match place i, cellsA v with
    | some (off, size), some cs => if cs.length = size ∧ off + size ≤ cells.length then fillA place (lsets cells off cs) rest else none
    | _, _ => none

/-- A struct's fields: offset and size. -/
def tPl (P : Program) (t : TypeId) : Option (List (Nat × Nat)) :=
  match P.underlying t with
  | some (.struct fs) => fs.toList.mapM fun f => (P.info? f.type).map fun i => (f.offset, i.size)
  | _ => none
def pget : List (Nat × Nat) → Nat → Option (Nat × Nat)
  | [], _ => none
  | x :: _, 0 => some x
  | _ :: l, n + 1 => pget l n

def zipA (ρ : Operand → AV) : List (Nat × Operand) → List (Nat × AV)
  | [] => []
  | (i, x) :: l => (i, ρ x) :: zipA ρ l
def mapA (ρ : Operand → AV) : List Operand → List AV
  | [] => []
  | x :: l => ρ x :: mapA ρ l

def lenA (P : Program) (t : TypeId) (x : AV) : Req :=
  match x with
  | .slice _ _ n _ => match tSlc P t with
    | some _ => .val true (.int .i64 n)
    | none => .bad
  | .islice n _ => match tSlc P t with
    | some _ => .val true (.int .i64 n)
    | none => .bad
  | .raw (.string s) => if tStr P t then .val true (.int .i64 s.size) else .bad
  | .raw (.slice none n _) => match tSlc P t with
    | some _ => .val true (.int .i64 n)
    | none => .bad
  | _ => match tArr P t with
    | some (n, _) => .val true (.int .i64 n)
    | none => .bad

def callA (P : Program) (ρ : Operand → AV) (c : Call) : Req :=
  match c.callee with
  | .value f => match ρ f with
    | .fn f cap => .call f (mapA ρ c.args.toList ++ cap)
    | _ => .bad
  | .builtin .len => match c.args.toList, c.argTypes.toList with
    | [x], [t] => lenA P t (ρ x)
    | _, _ => .bad
  | .builtin .max => match c.args.toList with
    | [x, y] => match ρ x, ρ y with
      | .int k a, .int _ b => .val true (.int k (if b > a then b else a))
      | _, _ => .bad
    | _ => .bad
  | .builtin .min => match c.args.toList with
    | [x, y] => match ρ x, ρ y with
      | .int k a, .int _ b => .val true (.int k (if b < a then b else a))
      | _, _ => .bad
    | _ => .bad
  | _ => .bad

def idxA (P : Program) (t : TypeId) (x i : AV) : Req :=
  match i with
  | .int _ n =>
    match tArr P t with
    | some (len, e) => match tSz P e, x with
      | some sz, .ptr b off => .val (decide (0 ≤ n ∧ n < len)) (.ptr b (off + n.toNat * sz))
      | some sz, .cptr cs => .val (decide (0 ≤ n ∧ n < len)) (.cptr (cs.drop (n.toNat * sz)))
      | _, _ => .bad
    | none => match tSlc P t with
      | some e => match tSz P e, x with
        | some sz, .slice b off len _ => .val (decide (0 ≤ n ∧ n < len)) (.ptr b (off + n.toNat * sz))
        | some sz, .islice len cs => .val (decide (0 ≤ n ∧ n < len)) (.cptr (cs.drop (n.toNat * sz)))
        | _, _ => .bad
      | none => .bad
  | _ => .bad

def idxV (P : Program) (t : TypeId) (x i : AV) : Req :=
  match i with
  | .int _ n =>
    match x with
    | .agg cs => match tArr P t with
      | some (len, e) => match tAgg P e, tSz P e with
        | some true, some sz => .val (decide (0 ≤ n ∧ n < len)) (.agg ((cs.drop (n.toNat * sz)).take sz))
        | some false, some sz => .val (decide (0 ≤ n ∧ n < len ∧ n.toNat * sz < cs.length)) (lget cs (n.toNat * sz))
        | _, _ => .bad
      | none => .bad
    | .raw (.string s) => if tStr P t then .val (decide (0 ≤ n ∧ n.toNat < s.size)) (.int .u8 (s.data.getD n.toNat 0).toNat) else .bad
    | _ => .bad
  | _ => .bad

def bndA (ρ : Operand → AV) (x : Option Operand) (d : Int) : Option Int :=
  match x with
  | none => some d
  | some x => match ρ x with
    | .int _ n => some n
    | _ => none

def sliceA (P : Program) (t : TypeId) (x : AV) (lo hi : Option Int) : Req :=
  match tArr P t with
  | some (n, e) => match tSz P e, x, lo, hi with
    | some sz, .ptr b off, some l, some h =>
      .val (decide (0 ≤ l ∧ l ≤ h ∧ h ≤ n)) (.slice b (if n = l.toNat then off else off + l.toNat * sz) (h.toNat - l.toNat) (n - l.toNat))
    | some sz, .cptr cs, some l, some h =>
      .val (decide (0 ≤ l ∧ l ≤ h ∧ h ≤ n ∧ l < n)) (.islice (h.toNat - l.toNat) (cs.drop (l.toNat * sz)))
    | _, _, _, _ => .bad
  | none => match tSlc P t with
    | some e => match tSz P e, x, lo, hi with
      | some sz, .islice len cs, some l, some h =>
        .val (decide (0 ≤ l ∧ l ≤ h ∧ h ≤ len)) (.islice (h.toNat - l.toNat) (if l.toNat = 0 then cs else if len = l.toNat then [] else cs.drop (l.toNat * sz)))
      | some sz, .slice b off _ cap, some l, some h =>
        .val (decide (0 ≤ l ∧ l ≤ h ∧ h ≤ cap)) (.slice b (if cap = l.toNat then off else off + l.toNat * sz) (h.toNat - l.toNat) (cap - l.toNat))
      | _, _, _, _ => .bad
    | none => match x, lo, hi with
      | .raw (.string s), some l, some h => if tStr P t then .val (decide (0 ≤ l ∧ l ≤ h ∧ h ≤ s.size)) (.raw (.string (s.extract l.toNat h.toNat))) else .bad
      | _, _, _ => .bad

def lenOfA (x : AV) : Int :=
  match x with
  | .slice _ _ n _ => n
  | .islice n _ => n
  | .raw (.string s) => s.size
  | _ => 0

/-- What an operation asks for. -/
def reqOf (P : Program) (ρ : Operand → AV) (o : Op) : Req :=
  match o with
  | .move x => .val true (ρ x)
  | .assign x => .val true (ρ x)
  | .pick c a b => match ρ c with
    | .bool c => .val true (bif c then ρ a else ρ b)
    | _ => .bad
  | .alloc t => match tZero P t with
    | some cs => .push cs t none
    | none => .bad
  | .box t x => match cellsA (ρ x) with
    | some cs => .push cs t none
    | none => .bad
  | .build t parts => match tZero P t with
    | some z => match tArr P t with
      | some (_, e) => match tSz P e with
        | some sz => match fillA (fun i => some (i * sz, sz)) z (zipA ρ parts.toList) with
          | some cs => .val true (.agg cs)
          | none => .bad
        | none => .bad
      | none => match tPl P t with
        | some pl => match fillA (pget pl) z (zipA ρ parts.toList) with
          | some cs => .val true (.agg cs)
          | none => .bad
        | none => .bad
    | none => .bad
  | .load t x => match ρ x, tAgg P t, tSz P t with
    | .ptr b off, some g, some n => .rd b off n g
    | .cptr cs, some true, some n => .val (decide (n ≤ cs.length)) (.agg (cs.take n))
    | .cptr cs, some false, _ => .val (decide (0 < cs.length)) (lget cs 0)
    | _, _, _ => .bad
  | .store t x v => match ρ x, cellsA (ρ v), tSz P t with
    | .ptr b off, some cs, some n => if cs.length = n then .wr b off cs else .bad
    | _, _, _ => .bad
  | .nilCheck x => match ρ x with
    | .ptr b off => .val true (.ptr b off)
    | .cptr cs => .val true (.cptr cs)
    | .fn f cs => .val true (.fn f cs)
    | _ => .bad
  | .binOp op t x y _ => bin P op t (ρ x) (ρ y)
  | .unOp op _ x => un op (ρ x)
  | .convert s d x => match ρ x, tInt P s, tInt P d with
    | .int _ n, some _, some k => .val true (.int k (k.wrap n))
    | _, _, _ => .bad
  | .makeFunc (.func f) first cap => match first.toList with
    | [] => .val true (.fn f (mapA ρ cap.toList))
    | _ => .bad
  | .fieldAddr s x f => match tFld P s f, ρ x with
    | some (off, ft), .ptr b o => match tSz P ft with
      | some (_ + 1) => .val true (.ptr b (o + off))
      | _ => .bad
    | some (off, ft), .cptr cs => match tSz P ft with
      | some (_ + 1) => .val true (.cptr (cs.drop off))
      | _ => .bad
    | _, _ => .bad
  | .field t x f => match tFld P t f, ρ x with
    | some (off, ft), .agg cs => partA P ft cs off
    | _, _ => .bad
  | .indexAddr t x i => idxA P t (ρ x) (ρ i)
  | .index t x i => idxV P t (ρ x) (ρ i)
  | .slice t x lo hi mx => match mx with
    | none => sliceA P t (ρ x) (bndA ρ lo 0) (bndA ρ hi (match tArr P t with
      | some (n, _) => n
      | none => lenOfA (ρ x)))
    | some _ => .bad
  | .extract x i => match ρ x with
    | .tuple vs => .val (decide (i < vs.length)) (lget vs i)
    | _ => .bad
  | .buildSlice t len parts => match tSlc P t with
    | some e => match tSz P e, tZero P e with
      | some sz, some z => if len * sz ≤ 16777216 ∧ z.length = sz then
          match fillA (fun i => some (i * sz, sz)) (List.replicate len z).flatten (zipA ρ parts.toList) with
          | some cs => .push cs e (some len)
          | none => .bad
        else .bad
      | _, _ => .bad
    | none => .bad
  | .call c => callA P ρ c
  | _ => .bad

/-- What becomes of the memory. -/
def doReq (r : Req) (h : List Blk) : Option (Bool × AV × List Blk) :=
  match r with
  | .val c v => some (c, v, h)
  | .rd b off n g => match bget h b with
    | some k => match g with
      | true => some (decide (off + n ≤ k.cells.length), .agg ((k.cells.drop off).take n), h)
      | false => some (decide (off < k.cells.length), lget k.cells off, h)
    | none => none
  | .wr b off cs => match bget h b with
    | some k => some (decide (off + cs.length ≤ k.cells.length) && allOne cs, .raw undef, bset h b ⟨lsets k.cells off cs, k.elem⟩)
    | none => none
  | .push cs e sl => match sl with
    | none => some (true, .ptr h.length 0, h ++ [⟨cs, e⟩])
    | some n => some (true, .slice h.length 0 n n, h ++ [⟨cs, e⟩])
  | _ => none

end Go.Ev
