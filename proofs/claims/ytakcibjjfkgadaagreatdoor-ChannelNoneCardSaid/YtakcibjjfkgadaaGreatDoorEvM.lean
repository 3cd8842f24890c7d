/- Arithmetic of wide numbers, as the abstract run shows it. -/
import Derived.Test.YtakcibjjfkgadaaGreatDoorEvZ
import Derived.Laws.Bits64b
import Derived.Laws.BitsLemmas
import Derived.Lib.Mul64
import Derived.Laws.Externs
set_option linter.unusedVariables false
set_option linter.unusedSimpArgs false
namespace Go.Ev

def In64 (x : Int) : Prop := -9223372036854775808 ≤ x ∧ x ≤ 9223372036854775807
instance (x : Int) : Decidable (In64 x) := inferInstanceAs (Decidable (_ ∧ _))
def InU (x : Int) : Prop := 0 ≤ x ∧ x ≤ 18446744073709551615
def In128 (n : Int) : Prop := -170141183460469231731687303715884105728 ≤ n ∧ n ≤ 170141183460469231731687303715884105727
abbrev I (x : Int) : AV := .int .i64 x
abbrev U (x : Int) : AV := .int .u64 x
/-- A wide number. -/
abbrev W (n : Int) : AV := .agg [.int .i64 (n / 18446744073709551616), .int .u64 (n % 18446744073709551616)]
def w128 (n : Int) : Int := (n + 170141183460469231731687303715884105728) % 340282366920938463463374607431768211456 - 170141183460469231731687303715884105728
/-- Through 2^k, rounded to even. -/
def evn (n d : Int) : Int := if 2 * (n % d) > d ∨ (2 * (n % d) = d ∧ (n / d) % 2 = 1) then n / d + 1 else n / d

theorem ibits_bits (op : BinOp) (k : IntKind) (x y : Int) : ibits op k x y = bits op k x y := by
  cases op <;> rfl

theorem and1 (x : Int) (h : InU x) : ibits .and .u64 x 1 = x % 2 := by
  obtain ⟨a, rfl⟩ := Int.eq_ofNat_of_zero_le h.1
  have := bits_and_u64_nat a 1 (by have := h.2; omega) (by omega)
  rw [ibits_bits]
  rw [show ((1 : Nat) : Int) = 1 from rfl] at this
  rw [this, Nat.and_one_is_mod]
  omega
theorem or_bit (a b : Int) (ha : a = 0 ∨ a = 1) (hb : b = 0 ∨ b = 1) : ibits .or .u64 a b = if a = 1 ∨ b = 1 then 1 else 0 := by
  rcases ha with rfl | rfl <;> rcases hb with rfl | rfl <;> decide
theorem or_hi (a b : Int) (ha : 0 ≤ a) (ha2 : a ≤ 9223372036854775807) (hb : b = 0 ∨ b = 1) : ibits .or .u64 a (b * 9223372036854775808) = a + b * 9223372036854775808 := by
  obtain ⟨x, rfl⟩ := Int.eq_ofNat_of_zero_le ha
  rcases hb with rfl | rfl
  · have := bits_or_u64_nat x 0 (by omega) (by omega)
    rw [ibits_bits]
    simpa using this
  · have := bits_or_u64_nat x 9223372036854775808 (by omega) (by omega)
    rw [ibits_bits]
    rw [show ((9223372036854775808 : Nat) : Int) = 1 * 9223372036854775808 from rfl] at this
    rw [this]
    have h2 : x < 2 ^ 63 := by omega
    have h3 : x ||| 9223372036854775808 = x + 9223372036854775808 := by
      have := Nat.two_pow_add_eq_or_of_lt h2 1
      rw [Nat.or_comm]
      rw [show (9223372036854775808 : Nat) = 2 ^ 63 * 1 from rfl, ← this]
      omega
    rw [h3]
    omega

theorem pos_fdiv (a b : Int) (h : 0 ≤ b) : a.fdiv b = a / b := Int.fdiv_eq_ediv_of_nonneg a h

theorem W_eq (hi lo n : Int) (h1 : hi = n / 18446744073709551616) (h2 : lo = n % 18446744073709551616) : AV.agg [.int .i64 hi, .int .u64 lo] = W n := by rw [h1, h2]
/-! ### Functions that the machine answers itself -/
theorem VSem.extern {P : Program} {G : Glob} {f : FuncId} {args : List AV} {us : List Value} {R : AV → Prop} {u : Value} {v : AV} (ha : ∀ w im vs, VRs [] w im args vs → vs = us)
    (h : ∀ w, (callFunc f us.toArray).run P w = .ok (.value u) w) (hR : R v) (hm : mfree v = true) (hv : ∀ w im, VR [] w im v u) : VSem P G f args R := by
  intro im w vs _ him hvs
  obtain rfl := ha _ _ _ hvs
  exact .inr ⟨u, h w, v, u, im, rfl, hR, hm, hv _ _, ⟨rfl, rfl, rfl, Nat.le_refl _, fun _ _ _ h => h, fun _ _ _ => rfl, fun _ h => .inl h, fun _ h => h, fun _ h => .inl h⟩, him⟩

theorem VRs_u3 {w : World} {im : Nat → Prop} {a b c : Int} {vs : List Value} (h : VRs [] w im [U a, U b, U c] vs) : vs = [.int .u64 a, .int .u64 b, .int .u64 c] := by
  match vs, h with
  | [x, y, z], h => simp only [VRs, VR] at h; obtain ⟨rfl, rfl, rfl, _⟩ := h; rfl
  | [], h => simp only [VRs] at h
  | [_], h => simp only [VRs] at h; exact h.2.elim
  | [_, _], h => simp only [VRs] at h; exact h.2.2.elim
  | _ :: _ :: _ :: _ :: _, h => simp only [VRs] at h; exact h.2.2.2.elim

def sub64E : Array Value → Sem Value := fun args => do
  let (x, y, b) ← Extern.MathBitsCarry.three "Sub64" args
  pure (Extern.MathBitsCarry.pair ((x + Extern.MathBitsCarry.m64 - y - b) % Extern.MathBitsCarry.m64) (if x < y + b then 1 else 0))
theorem run_sub64E {P : Program} (x y b : Nat) (hb : b ≤ 1) (w : World) :
    (sub64E #[.int .u64 x, .int .u64 y, .int .u64 b]).run P w =
      .ok (.tuple #[.int .u64 (((x + 18446744073709551616 - y - b) % 18446744073709551616 : Nat) : Int), .int .u64 ((if x < y + b then 1 else 0 : Nat) : Int)]) w := by
  have : b = 0 ∨ b = 1 := by omega
  rcases this with rfl | rfl <;> rfl

theorem VSem.add64 {P : Program} {G : Glob} {f : FuncId} {fn : Func} (hf : P.funcs[f]? = some fn) (hname : (fn.name == "runtime.NumGoroutine") = false) (hb : fn.body.isNone = true) (hn : Extern.findNext fn = none) (he : Extern.find fn = some add64Entry)
    (x y c : Int) (hx : InU x) (hy : InU y) (hc : c = 0 ∨ c = 1) :
    VSem P G f [U x, U y, U c] (· = .tuple [U ((x + y + c) % 18446744073709551616), U ((x + y + c) / 18446744073709551616)]) := by
  refine VSem.extern (fun _ _ _ h => VRs_u3 h) (u := .tuple #[.int .u64 ((x + y + c) % 18446744073709551616), .int .u64 ((x + y + c) / 18446744073709551616)]) (fun w => ?_) rfl rfl fun w im => ?_
  · rw [show [Value.int .u64 x, .int .u64 y, .int .u64 c].toArray = #[.int .u64 x, .int .u64 y, .int .u64 c] from rfl, run_callFunc_extern hf hname hb hn he, run_add64 x y c hx.1 hy.1 (by omega) (by omega)]
    rfl
  · simp only [VR]; exact ⟨[.int .u64 _, .int .u64 _], rfl, by simp [VRs, VR]⟩
theorem VSem.sub64 {P : Program} {G : Glob} {f : FuncId} {fn : Func} (hf : P.funcs[f]? = some fn) (hname : (fn.name == "runtime.NumGoroutine") = false) (hb : fn.body.isNone = true) (hn : Extern.findNext fn = none) (he : Extern.find fn = some sub64E)
    (x y c : Int) (hx : InU x) (hy : InU y) (hc : c = 0 ∨ c = 1) :
    VSem P G f [U x, U y, U c] (· = .tuple [U ((x - y - c) % 18446744073709551616), U (if x < y + c then 1 else 0)]) := by
  obtain ⟨x, rfl⟩ := Int.eq_ofNat_of_zero_le hx.1
  obtain ⟨y, rfl⟩ := Int.eq_ofNat_of_zero_le hy.1
  obtain ⟨c, rfl⟩ : ∃ n : Nat, c = n := ⟨c.toNat, by omega⟩
  have hx2 := hx.2
  have hy2 := hy.2
  refine VSem.extern (fun _ _ _ h => VRs_u3 h) (u := .tuple #[.int .u64 (((x + 18446744073709551616 - y - c) % 18446744073709551616 : Nat) : Int), .int .u64 ((if x < y + c then 1 else 0 : Nat) : Int)]) (fun w => ?_) rfl rfl fun w im => ?_
  · rw [show [Value.int .u64 (x : Int), .int .u64 (y : Int), .int .u64 (c : Int)].toArray = #[.int .u64 (x : Int), .int .u64 (y : Int), .int .u64 (c : Int)] from rfl, run_callFunc_extern hf hname hb hn he, run_sub64E x y c (by omega)]
    rfl
  · simp only [VR]
    refine ⟨[_, _], rfl, ?_⟩
    simp only [VRs, VR, and_true]
    constructor
    · congr 1
      omega
    · congr 1
      split <;> split <;> omega

/-! ### Calls whose answer is known -/
section
variable {r : Option Nat} {P : Program} {G : Glob}
theorem call_E {n0 : Nat} {f : FuncId} {args : List AV} {dst : Option Tmp} {all rest : List Oper} {k : List Fr} {t : List AV} {h : List Blk} {d : List Dfr} {R : AX → St → Prop} {u : AV} (hv : VSem P G f args (· = u))
    (hf : mfrees args = true) (hk : CfgSem r P G n0 ⟨.ops all rest, k, ⟨putT t dst u, h, d⟩⟩ R) : StopSem r P G n0 (.call f args dst all rest k ⟨t, h, d⟩) R :=
  call_V hv hf fun v e => by subst e; exact hk
theorem dcall_E {vf : List FuncId} {Kt : FuncId → List AV → AV → Prop} {f : FuncId} {args : List AV} {dst : Option Tmp} {all : List Oper} {l : List (Nat × List Tmp)} {t : List AV} {h : List Blk} {d : List Dfr} {F : St → Prop} {u : AV} (hs : VSem P G f args (· = u)) (hv : vf.contains f = true) (hm : mfrees args = true)
    (hK : ∀ v, Kt f args v ↔ v = u) (hk : DRun P G vf Kt all l ⟨putT t dst u, h, d⟩ F) : DCall P G vf Kt f args dst all l ⟨t, h, d⟩ F :=
  dcall_V hv hm (hs.mono fun v e => (hK v).2 e) ⟨u, (hK u).2 rfl⟩ fun v e => by rw [(hK v).1 e]; exact hk
theorem call_A {n0 : Nat} {f : FuncId} {args args' : List AV} {dst : Option Tmp} {all rest : List Oper} {k : List Fr} {t : List AV} {h : List Blk} {d : List Dfr} {R : AX → St → Prop} {u : AV} (hv : VSem P G f args' (· = u)) (he : args = args')
    (hf : mfrees args = true) (hk : CfgSem r P G n0 ⟨.ops all rest, k, ⟨putT t dst u, h, d⟩⟩ R) : StopSem r P G n0 (.call f args dst all rest k ⟨t, h, d⟩) R := by
  subst he
  exact call_E hv hf hk
theorem dcall_A {vf : List FuncId} {Kt : FuncId → List AV → AV → Prop} {f : FuncId} {args args' : List AV} {dst : Option Tmp} {all : List Oper} {l : List (Nat × List Tmp)} {t : List AV} {h : List Blk} {d : List Dfr} {F : St → Prop} {u : AV} (hs : VSem P G f args' (· = u)) (he : args = args') (hv : vf.contains f = true) (hm : mfrees args = true)
    (hK : ∀ v, Kt f args' v ↔ v = u) (hk : DRun P G vf Kt all l ⟨putT t dst u, h, d⟩ F) : DCall P G vf Kt f args dst all l ⟨t, h, d⟩ F := by
  subst he
  exact dcall_E hs hv hm hK hk
/-- A loop, by a measure: what holds at its head, and how many rounds are left at most. -/
theorem loop_ind {n0 : Nat} {c : Code} {k : List Fr} {st0 : St} {R : AX → St → Prop} (Inv : Nat → St → Prop) (j0 : Nat) (h0 : Inv j0 st0)
    (step : ∀ j st, Inv j st → (∀ j' st', j' < j → Inv j' st' → CfgSem r P G n0 ⟨.code c, .lp c :: k, st'⟩ R) → CfgSem r P G n0 ⟨.code c, .lp c :: k, st⟩ R) : StopSem r P G n0 (.loop c k st0) R := by
  have : ∀ j st, Inv j st → CfgSem r P G n0 ⟨.code c, .lp c :: k, st⟩ R := by
    intro j
    induction j using Nat.strongRecOn with
    | ind j ih => exact fun st h => step j st h fun j' st' hj h' => ih j' hj st' h'
  exact this j0 st0 h0
/-! ### Memory of a caller that is not known in full -/
theorem bget_add (hp l : List Blk) (k : Nat) : bget (hp ++ l) (hp.length + k) = bget l k := by
  rw [bget_eq, bget_eq, List.getElem?_append_right (by omega)]
  congr 1
  omega
theorem bget_len (hp l : List Blk) : bget (hp ++ l) hp.length = bget l 0 := bget_add hp l 0
theorem bset_add (hp l : List Blk) (k : Nat) (x : Blk) : bset (hp ++ l) (hp.length + k) x = hp ++ bset l k x := by
  rw [bset_eq, bset_eq, List.set_append]
  rw [if_neg (by omega)]
  congr 2
  omega
theorem bset_len (hp l : List Blk) (x : Blk) : bset (hp ++ l) hp.length x = hp ++ bset l 0 x := bset_add hp l 0 x
theorem bget_app {hp : List Blk} {b : Nat} {k : Blk} (h : bget hp b = some k) (l : List Blk) : bget (hp ++ l) b = some k := by
  rw [bget_eq] at h ⊢
  rw [List.getElem?_append_left]
  · exact h
  · rcases Nat.lt_or_ge b hp.length with h' | h'
    · exact h'
    · rw [List.getElem?_eq_none h'] at h; cases h
theorem bset_app {hp : List Blk} {b : Nat} {k : Blk} (h : bget hp b = some k) (l : List Blk) (x : Blk) : bset (hp ++ l) b x = bset hp b x ++ l := by
  rw [bget_eq] at h
  rw [bset_eq, bset_eq, List.set_append, if_pos]
  rcases Nat.lt_or_ge b hp.length with h' | h'
  · exact h'
  · rw [List.getElem?_eq_none h'] at h; cases h
theorem bget_bset {hp : List Blk} {b : Nat} {k : Blk} (h : bget hp b = some k) (x : Blk) : bget (bset hp b x) b = some x := by
  rw [bget_eq] at h ⊢
  rw [bset_eq, List.getElem?_set_self]
  rcases Nat.lt_or_ge b hp.length with h' | h'
  · exact h'
  · rw [List.getElem?_eq_none h'] at h; cases h
theorem bset_bset (hp : List Blk) (b : Nat) (x y : Blk) : bset (bset hp b x) b y = bset hp b y := by
  rw [bset_eq, bset_eq, bset_eq, List.set_set]
theorem bset_length (hp : List Blk) (b : Nat) (x : Blk) : (bset hp b x).length = hp.length := by
  rw [bset_eq, List.length_set]
theorem bget_ne {hp : List Blk} {b c : Nat} (h : b ≠ c) (x : Blk) : bget (bset hp b x) c = bget hp c := by
  rw [bget_eq, bget_eq, bset_eq, List.getElem?_set_ne h]
theorem appB_assoc (a b c : List Blk) : (a ++ b) ++ c = a ++ (b ++ c) := List.append_assoc a b c
theorem appB_nil (a : List Blk) : a ++ [] = a := List.append_nil a
theorem lenB_app (a b : List Blk) : (a ++ b).length = a.length + b.length := List.length_append
theorem bget_z (k : Blk) (l : List Blk) : bget (k :: l) 0 = some k := rfl
theorem bget_s (k : Blk) (l : List Blk) (n : Nat) : bget (k :: l) (n + 1) = bget l n := rfl

theorem loop_go {n0 : Nat} {c : Code} {k : List Fr} {st : St} {R : AX → St → Prop} (h : CfgSem r P G n0 ⟨.code c, .lp c :: k, st⟩ R) : StopSem r P G n0 (.loop c k st) R := h
theorem hdone {n0 : Nat} {res : List ResultVar} {R : AO → List Blk → Prop} {t : List AV} {h : List Blk} (hh : holdsO (fun v => R (.ret v) h) (resF P t h res)) : StopSem r P G n0 (.done .ret ⟨t, h, []⟩) (HEnd P res R) := by
  cases hr : resF P t h res with
  | none => rw [hr] at hh; exact hh.elim
  | some v => rw [hr] at hh; exact ⟨rfl, .inl ⟨.inr rfl, v, hr, hh⟩⟩
theorem hdone_end {n0 : Nat} {res : List ResultVar} {R : AO → List Blk → Prop} {t : List AV} {h : List Blk} (hh : holdsO (fun v => R (.ret v) h) (resF P t h res)) : StopSem r P G n0 (.done .normal ⟨t, h, []⟩) (HEnd P res R) := by
  cases hr : resF P t h res with
  | none => rw [hr] at hh; exact hh.elim
  | some v => rw [hr] at hh; exact ⟨rfl, .inl ⟨.inl rfl, v, hr, hh⟩⟩

/-- A contract over an empty memory is one between values. -/
theorem VSem.of_H {f : FuncId} {args : List AV} {Rc : AO → List Blk → Prop} {R : AV → Prop} (h : HSem P G f args [] Rc) (hr : ∀ ao h', Rc ao h' → ∃ v v', ao = .ret v ∧ frz P h' v = some v' ∧ R v') : VSem P G f args R := by
  intro im w vs hG him hv
  have hH : HR G [] im [] w := ⟨rfl, fun b k r h => by simp at h, fun b b' r k k' h => by simp at h, fun r hr => ⟨him r hr, by simp⟩, hG⟩
  refine (h [] im w vs hH hv).mono fun e w' ⟨ao, m', im', h', hRc, hH', hE, _, hm⟩ => ?_
  obtain ⟨v, v', rfl, hf, hR⟩ := hr ao h' hRc
  obtain ⟨r, rfl, hvr⟩ := hm
  obtain ⟨g5, g6⟩ := frz_sound (P := P) hH' v r v' hf hvr
  refine ⟨v', r, fun r => im' r ∨ r ∈ m', rfl, hR, g6, g5, ?_, fun r hr => ?_⟩
  · exact { os := hE.os, tape := hE.tape, output := hE.output, size := hE.size, pre := fun _ _ _ h => by simp at h, keep := fun r hr _ => hE.keep r hr (by simp), newm := fun _ h => by simp at h,
            imm := fun r hr => .inl (hE.imm r hr), newim := fun r hr => by
              rcases hr with hr | hr
              · exact hE.newim r hr
              · rcases hE.newm r hr with hx | hx
                · simp at hx
                · exact .inr hx }
  · rcases hr with hr | hr
    · exact (hH'.imx r hr).1
    · exact hH'.lt hr

/-- A call of a function that is known by its contract only: its answer, and what it adds to the memory. -/
theorem call_X {n0 : Nat} {f : FuncId} {args : List AV} {dst : Option Tmp} {all rest : List Oper} {k : List Fr} {t : List AV} {h : List Blk} {d : List Dfr} {R : AX → St → Prop} {u : AV} {K : List Blk → Prop}
    (hv : HSem P G f args h fun ao h' => ao = .ret u ∧ K h') (hk : ∀ h', K h' → CfgSem r P G n0 ⟨.ops all rest, k, ⟨putT t dst u, h', d⟩⟩ R) : StopSem r P G n0 (.call f args dst all rest k ⟨t, h, d⟩) R :=
  call_H hv fun ao h' ⟨e, hK⟩ => ⟨u, e, hk h' hK⟩
theorem dcall_X {vf : List FuncId} {Kt : FuncId → List AV → AV → Prop} {f : FuncId} {args : List AV} {dst : Option Tmp} {all : List Oper} {l : List (Nat × List Tmp)} {t : List AV} {h : List Blk} {d : List Dfr} {F : St → Prop} {u : AV} {K : List Blk → Prop}
    (hs : HSem P G f args h fun ao h' => ao = .ret u ∧ K h') (hv : vf.contains f = false) (hk : ∀ h', K h' → DRun P G vf Kt all l ⟨putT t dst u, h', d⟩ F) (hr : rdF vf f = false := by rfl) (hr2 : stF vf f = false := by rfl) : DCall P G vf Kt f args dst all l ⟨t, h, d⟩ F :=
  dcall_H hv hs (fun _ h' ⟨e, hK⟩ => ⟨u, e, hk h' hK⟩) hr hr2
/-- A contract between values, over any memory. -/
theorem VSem.hsem {f : FuncId} {args : List AV} {u : AV} (h : VSem P G f args (· = u)) (hm : mfrees args = true) (hp : List Blk) : HSem P G f args hp fun ao h' => ao = .ret u ∧ h' = hp :=
  (h.call hm hp).mono fun ao h' ⟨e, v, ev, hv, _⟩ => by subst hv; exact ⟨ev, e⟩
end
attribute [go_sem] List.flatten_cons List.flatten_nil Int.cast_ofNat_Int bget_add bget_len bset_add bset_len bset_bset bset_length appB_assoc appB_nil lenB_app wrap_i64 wrap_u64 wrap_u8
end Go.Ev
