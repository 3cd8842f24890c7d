/- What a tick makes of doubt: plain. -/
import Derived.Test.YtakcibjjfkgadaaGreatDoorEvN
import Derived.Test.YtakcibjjfkgadaaGreatDoorEvT
set_option linter.unusedVariables false
set_option linter.unusedSimpArgs false
namespace Go.Ev
/-- The rows of F, times 2^15. -/
def row8 : Nat → Nat → Int
  | 0, 0 => 32768 | 0, 1 => 256 | 0, 2 => -1
  | 1, 0 => 0 | 1, 1 => 32768 | 1, 2 => -256
  | 2, 0 => 0 | 2, 1 => 0 | 2, 2 => 32768
  | _, _ => 0
def term8 (p : S6) (i j n : Nat) : Int := p.get (plc (n / 3) (n % 3)) * (row8 i (n / 3) * row8 j (n % 3))
/-- The sum of the first terms of an entry. -/
def part8 (p : S6) (i j : Nat) : Nat → Int
  | 0 => 0
  | n + 1 => part8 p i j n + term8 p i j n
theorem row8_le (i a : Nat) : -32768 ≤ row8 i a ∧ row8 i a ≤ 32768 := by
  unfold row8; split <;> decide
theorem mul_le_abs (x y A B : Int) (hA : 0 ≤ A) (hB : 0 ≤ B) (hx : -A ≤ x ∧ x ≤ A) (hy : -B ≤ y ∧ y ≤ B) : -(A * B) ≤ x * y ∧ x * y ≤ A * B := by
  have h : x.natAbs * y.natAbs ≤ A.natAbs * B.natAbs := Nat.mul_le_mul (by omega) (by omega)
  rw [← Int.natAbs_mul, ← Int.natAbs_mul] at h
  have := Int.mul_nonneg hA hB
  omega
theorem term8_le (p : S6) (hp : p.Fit) (i j n : Nat) : -309485009821345068724781056 ≤ term8 p i j n ∧ term8 p i j n ≤ 309485009821345068724781056 := by
  have h1 := mul_le_abs _ _ 32768 32768 (by decide) (by decide) (row8_le i (n / 3)) (row8_le j (n % 3))
  have h2 := S6.get_fit hp (plc (n / 3) (n % 3))
  exact mul_le_abs _ _ 288230376151711744 1073741824 (by decide) (by decide) h2 h1
theorem part8_le (p : S6) (hp : p.Fit) (i j : Nat) : ∀ n : Nat, -309485009821345068724781056 * (n : Int) ≤ part8 p i j n ∧ part8 p i j n ≤ 309485009821345068724781056 * (n : Int)
  | 0 => by simp [part8]
  | n + 1 => by
    have h1 := part8_le p hp i j n
    have h2 := term8_le p hp i j n
    simp only [part8]
    omega
theorem part8_in (p : S6) (hp : p.Fit) (i j n : Nat) (hn : n ≤ 9) : In128 (part8 p i j n) := by
  have := part8_le p hp i j n
  exact ⟨by omega, by omega⟩
theorem term8_in (p : S6) (hp : p.Fit) (i j n : Nat) : In128 (term8 p i j n) := by
  have := term8_le p hp i j n
  exact ⟨by omega, by omega⟩
def raw8 (p : S6) (i j : Nat) : Int := part8 p i j 9

theorem hnoY_bset {h : List Blk} (hh : hnoY h = true) (b : Nat) {k : Blk} (hk : noYs k.cells = true) : hnoY (bset h b k) = true := by
  induction h generalizing b with
  | nil => rfl
  | cons x l ih =>
    simp only [hnoY, Bool.and_eq_true] at hh
    cases b <;> simp only [bset, hnoY, Bool.and_eq_true]
    · exact ⟨hk, hh.2⟩
    · exact ⟨hh.1, ih hh.2 _⟩
theorem hnoY_app {h l : List Blk} (hh : hnoY h = true) (hl : hnoY l = true) : hnoY (h ++ l) = true := by
  induction h with
  | nil => exact hl
  | cons x h ih =>
    simp only [hnoY, Bool.and_eq_true] at hh
    simp only [List.cons_append, hnoY, Bool.and_eq_true]
    exact ⟨hh.1, ih hh.2⟩
theorem bget_lt {h : List Blk} {b : Nat} {k : Blk} (e : bget h b = some k) : b < h.length := by
  rw [bget_eq] at e
  rcases Nat.lt_or_ge b h.length with h' | h'
  · exact h'
  · rw [List.getElem?_eq_none h'] at e; cases e

section
variable {r : Option Nat} {P : Program} {G : Glob} {n0 : Nat} {R : AX → St → Prop}
theorem yield_go (hG : GY G) {I' : List Blk → Prop} {o : Oper} {c : Call} {x : Operand} {all rest : List Oper} {k : List Fr} {t : List AV} {h : List Blk} {d : List Dfr} {y : YD} {cs args : List AV} (ho : o.op = .call c) (hg : o.guard = none) (hcal : c.callee = .value x) (hx : evO G t x = .yld y cs)
    (hargs : mapA (evO G t) c.args.toList = args) (hl : args.length = y.ps.size) (hY : hnoY h = true) (hYc : noYs cs = true) (hYa : noYs args = true)
    (hround : ∀ l, CfgSem (some l) P G h.length ⟨.code y.assign, [], ⟨putPs y.ps.toList args cs, h, []⟩⟩ fun e st1 => e = .normal ∧ CfgSem (some l) P G h.length ⟨.code y.body, [], st1⟩ fun e st2 => e = .normal ∧ I' st2.heap)
    (hk : ∀ h', I' h' → CfgSem r P G n0 ⟨.ops all rest, k, ⟨putT t o.dst (.bool true), h', d⟩⟩ R) :
    StopSem r P G n0 (.more ⟨.ops all (o :: rest), k, ⟨t, h, d⟩⟩) R :=
  yield_sem hG ho hg hcal hx hargs hl hY hYc hYa fun l => (hround l).mono fun _ _ ⟨he, hb⟩ => ⟨he, hb.mono fun _ _ ⟨he, hi⟩ => ⟨he, hk _ hi⟩⟩

/-- The end of a part of a run. -/
theorem done_norm {n0 : Nat} {st : St} {R : AX → St → Prop} (h : R .normal st) : StopSem r P G n0 (.done .normal st) R := h
end
end Go.Ev
namespace Go.Ev
def q8 (p : S6) (i j : Nat) : Int := evn (part8 p i j 9) (2 ^ 30)
def on8 (p : S6) (a : V3) : S6 × Int :=
  if p.Fit ∧ a.Fit then
    if (S6.mk (q8 p 0 0) (q8 p 0 1) (q8 p 0 2) (q8 p 1 1) (q8 p 1 2) (q8 p 2 2)).Fit then sAdd ⟨q8 p 0 0, q8 p 0 1, q8 p 0 2, q8 p 1 1, q8 p 1 2, q8 p 2 2⟩ ⟨a.x, 0, 0, a.y, 0, a.z⟩ else (⟨0, 0, 0, 0, 0, 0⟩, 3)
  else (⟨0, 0, 0, 0, 0, 0⟩, 1)
theorem q8_in (p : S6) (hp : p.Fit) (i j : Nat) : In128 (q8 p i j) := by
  have h := part8_le p hp i j 9
  have := evn_bound (part8 p i j 9) 2785365088392105618523029504 (2 ^ 30) (by decide) (by decide) (by rw [show (2 : Int) ^ 30 = 1073741824 from rfl]; omega) (by rw [show (2 : Int) ^ 30 = 1073741824 from rfl]; omega)
  exact ⟨by unfold q8; omega, by unfold q8; omega⟩
end Go.Ev
namespace Go.Ev
theorem sAdd_err (a b : S6) (h : (sAdd a b).2 ≠ 0) : (sAdd a b).1 = ⟨0, 0, 0, 0, 0, 0⟩ := by
  unfold sAdd at h ⊢
  repeat' split
  all_goals first | rfl | simp_all
theorem sAdd_ok (a b : S6) (h : (sAdd a b).2 = 0) : sAdd a b = (a.add b, 0) := by
  unfold sAdd at h ⊢
  repeat' split
  all_goals first | rfl | simp_all
theorem on8_err (p : S6) (a : V3) (h : (on8 p a).2 ≠ 0) : (on8 p a).1 = ⟨0, 0, 0, 0, 0, 0⟩ := by
  unfold on8 at h ⊢
  by_cases h1 : p.Fit ∧ a.Fit
  · rw [if_pos h1] at h ⊢
    split
    · rename_i h2
      rw [if_pos h2] at h
      exact sAdd_err _ _ h
    · rfl
  · rw [if_neg h1]
theorem on8_ok (p : S6) (a : V3) (h : (on8 p a).2 = 0) : on8 p a = (⟨q8 p 0 0 + a.x, q8 p 0 1, q8 p 0 2, q8 p 1 1 + a.y, q8 p 1 2, q8 p 2 2 + a.z⟩, 0) := by
  unfold on8 at h ⊢
  by_cases h1 : p.Fit ∧ a.Fit
  · rw [if_pos h1] at h ⊢
    split
    · rename_i h2
      rw [if_pos h2] at h
      rw [sAdd_ok _ _ h]
      simp [S6.add]
    · rename_i h2
      rw [if_neg h2] at h
      cases h
  · rw [if_neg h1] at h
    cases h
theorem on8_ex : on8 ⟨1099511627776, 0, 0, 1099511627776, 0, 1099511627776⟩ ⟨0, 0, 0⟩ = (⟨1099578737664, 8590196736, -33554432, 1099578736640, -8589934592, 1099511627776⟩, 0) := by decide
theorem on8_grow (d a : V3) (hd : (0 ≤ d.x ∧ d.x ≤ 72057594037927936) ∧ (0 ≤ d.y ∧ d.y ≤ 72057594037927936) ∧ 0 ≤ d.z ∧ d.z ≤ 72057594037927936) (ha : (0 ≤ a.x ∧ a.x ≤ 72057594037927936) ∧ (0 ≤ a.y ∧ a.y ≤ 72057594037927936) ∧ 0 ≤ a.z ∧ a.z ≤ 72057594037927936) :
    ∃ v : S6, on8 ⟨d.x, 0, 0, d.y, 0, d.z⟩ a = (v, 0) ∧ d.x ≤ v.a ∧ d.y ≤ v.d ∧ v.f = d.z + a.z ∧ v.Fit := by
  obtain ⟨x, y, z⟩ := d
  obtain ⟨u, v, w⟩ := a
  simp only at hd ha ⊢
  obtain ⟨⟨hx0, hx1⟩, ⟨hy0, hy1⟩, hz0, hz1⟩ := hd
  obtain ⟨⟨hu0, hu1⟩, ⟨hv0, hv1⟩, hw0, hw1⟩ := ha
  have e00 : part8 ⟨x, 0, 0, y, 0, z⟩ 0 0 9 = 1073741824 * x + 65536 * y + z := by simp [part8, term8, row8, plc, S6.get]; omega
  have e01 : part8 ⟨x, 0, 0, y, 0, z⟩ 0 1 9 = 8388608 * y + 256 * z := by simp [part8, term8, row8, plc, S6.get]; omega
  have e02 : part8 ⟨x, 0, 0, y, 0, z⟩ 0 2 9 = -32768 * z := by simp [part8, term8, row8, plc, S6.get]; omega
  have e11 : part8 ⟨x, 0, 0, y, 0, z⟩ 1 1 9 = 1073741824 * y + 65536 * z := by simp [part8, term8, row8, plc, S6.get]; omega
  have e12 : part8 ⟨x, 0, 0, y, 0, z⟩ 1 2 9 = -8388608 * z := by simp [part8, term8, row8, plc, S6.get]; omega
  have e22 : part8 ⟨x, 0, 0, y, 0, z⟩ 2 2 9 = 1073741824 * z := by simp [part8, term8, row8, plc, S6.get]; omega
  have ft : ∀ n : Int, -288230376151711744 ≤ n → n ≤ 288230376151711744 → Fit n := fun n h1 h2 => ⟨h1, h2⟩
  have b : ∀ n : Int, -4 * 72057594037927936 * 1073741824 / 2 ≤ n → n ≤ 4 * 72057594037927936 * 1073741824 / 2 → evn n (2 ^ 30) * 1073741824 ≤ n + 536870912 ∧ n ≤ evn n (2 ^ 30) * 1073741824 + 536870912 := fun n _ _ => by
    unfold evn
    rw [show (2 : Int) ^ 30 = 1073741824 from rfl]
    split <;> omega
  have b00 := b _ (by omega) (by omega : 1073741824 * x + 65536 * y + z ≤ _)
  have b01 := b _ (by omega) (by omega : 8388608 * y + 256 * z ≤ _)
  have b02 := b _ (by omega) (by omega : -32768 * z ≤ _)
  have b11 := b _ (by omega) (by omega : 1073741824 * y + 65536 * z ≤ _)
  have b12 := b _ (by omega) (by omega : -8388608 * z ≤ _)
  have b22 := b _ (by omega) (by omega : 1073741824 * z ≤ _)
  have e : on8 ⟨x, 0, 0, y, 0, z⟩ ⟨u, v, w⟩ = if (S6.mk (evn (1073741824 * x + 65536 * y + z) (2 ^ 30)) (evn (8388608 * y + 256 * z) (2 ^ 30)) (evn (-32768 * z) (2 ^ 30)) (evn (1073741824 * y + 65536 * z) (2 ^ 30)) (evn (-8388608 * z) (2 ^ 30)) (evn (1073741824 * z) (2 ^ 30))).Fit then
      sAdd ⟨evn (1073741824 * x + 65536 * y + z) (2 ^ 30), evn (8388608 * y + 256 * z) (2 ^ 30), evn (-32768 * z) (2 ^ 30), evn (1073741824 * y + 65536 * z) (2 ^ 30), evn (-8388608 * z) (2 ^ 30), evn (1073741824 * z) (2 ^ 30)⟩ ⟨u, 0, 0, v, 0, w⟩ else (⟨0, 0, 0, 0, 0, 0⟩, 3) := by
    unfold on8 q8
    rw [if_pos, e00, e01, e02, e11, e12, e22]
    exact ⟨⟨ft x (by omega) (by omega), Fit.zero, Fit.zero, ft y (by omega) (by omega), Fit.zero, ft z (by omega) (by omega)⟩, ft u (by omega) (by omega), ft v (by omega) (by omega), ft w (by omega) (by omega)⟩
  rw [e]
  generalize evn (1073741824 * x + 65536 * y + z) (2 ^ 30) = r00 at *
  generalize evn (8388608 * y + 256 * z) (2 ^ 30) = r01 at *
  generalize evn (-32768 * z) (2 ^ 30) = r02 at *
  generalize evn (1073741824 * y + 65536 * z) (2 ^ 30) = r11 at *
  generalize evn (-8388608 * z) (2 ^ 30) = r12 at *
  generalize evn (1073741824 * z) (2 ^ 30) = r22 at *
  have f : (S6.mk r00 r01 r02 r11 r12 r22).Fit := ⟨ft r00 (by omega) (by omega), ft r01 (by omega) (by omega), ft r02 (by omega) (by omega), ft r11 (by omega) (by omega), ft r12 (by omega) (by omega), ft r22 (by omega) (by omega)⟩
  have f2 : (S6.mk u 0 0 v 0 w).Fit := ⟨ft u (by omega) (by omega), Fit.zero, Fit.zero, ft v (by omega) (by omega), Fit.zero, ft w (by omega) (by omega)⟩
  have f3 : ((S6.mk r00 r01 r02 r11 r12 r22).add ⟨u, 0, 0, v, 0, w⟩).Fit := ⟨ft (r00 + u) (by omega) (by omega), ft (r01 + 0) (by omega) (by omega), ft (r02 + 0) (by omega) (by omega), ft (r11 + v) (by omega) (by omega), ft (r12 + 0) (by omega) (by omega), ft (r22 + w) (by omega) (by omega)⟩
  rw [if_pos f]
  refine ⟨_, ?_, ?_, ?_, ?_, f3⟩
  · unfold sAdd; rw [if_pos ⟨f, f2⟩, if_pos f3]
  all_goals simp only [S6.add]; omega
end Go.Ev
