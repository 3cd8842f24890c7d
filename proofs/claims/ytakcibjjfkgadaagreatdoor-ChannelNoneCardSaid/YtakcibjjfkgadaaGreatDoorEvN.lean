/- Numbers that fit. -/
import Derived.Test.YtakcibjjfkgadaaGreatDoorEvM
set_option linter.unusedVariables false
set_option linter.unusedSimpArgs false
namespace Go.Ev
def Fit (x : Int) : Prop := -288230376151711744 ≤ x ∧ x ≤ 288230376151711744
instance (x : Int) : Decidable (Fit x) := inferInstanceAs (Decidable (_ ∧ _))
theorem Fit.in64 {x : Int} (h : Fit x) : In64 x := ⟨by have := h.1; omega, by have := h.2; omega⟩
abbrev P2 (r : Int × Int) : AV := .tuple [I r.1, I r.2]
def both (a b e x e2 : Int) : List AV := if Fit a ∧ Fit b then if e = 0 then if e2 = 0 ∧ Fit x then [I x, I 0] else [I 0, I 3] else [I 0, I e] else [I 0, I 1]
def fit3 (x : Int) : Int × Int := if Fit x then (x, 0) else (0, 3)
def fAdd (a b : Int) : Int × Int := if Fit a ∧ Fit b then fit3 (a + b) else (0, 1)
def fSub (a b : Int) : Int × Int := if Fit a ∧ Fit b then fit3 (a - b) else (0, 1)
def fMul (a b : Int) : Int × Int := if Fit a ∧ Fit b then fit3 (evn (a * b) (2 ^ 40)) else (0, 1)
def clamp (x m : Int) : Int := max (-max m 0) (min x (max m 0))

theorem fAdd_both (a b : Int) : AV.tuple (both a b 0 (IntKind.i64.wrap (a + b)) 0) = P2 (fAdd a b) := by
  unfold both fAdd fit3
  by_cases h : Fit a ∧ Fit b
  · have e : IntKind.i64.wrap (a + b) = a + b := by
      obtain ⟨⟨h1, h2⟩, h3, h4⟩ := h
      rw [IntKind.wrap_i64]; omega
    rw [e]
    by_cases h2 : Fit (a + b) <;> simp [h, h2]
  · simp [h]
theorem fSub_both (a b : Int) : AV.tuple (both a b 0 (IntKind.i64.wrap (a - b)) 0) = P2 (fSub a b) := by
  unfold both fSub fit3
  by_cases h : Fit a ∧ Fit b
  · have e : IntKind.i64.wrap (a - b) = a - b := by
      obtain ⟨⟨h1, h2⟩, h3, h4⟩ := h
      rw [IntKind.wrap_i64]; omega
    rw [e]
    by_cases h2 : Fit (a - b) <;> simp [h, h2]
  · simp [h]
theorem fit_mul (a b : Int) (ha : Fit a) (hb : Fit b) : -83076749736557242056487941267521536 ≤ a * b ∧ a * b ≤ 83076749736557242056487941267521536 := by
  obtain ⟨h1, h2⟩ := ha
  obtain ⟨h3, h4⟩ := hb
  have h5 : a.natAbs * b.natAbs ≤ 288230376151711744 * 288230376151711744 := Nat.mul_le_mul (by omega) (by omega)
  rw [← Int.natAbs_mul] at h5
  omega
theorem evn_bound (n : Int) (m d : Int) (hd : 0 < d) (hm : 0 ≤ m) (h1 : -m * d ≤ n) (h2 : n ≤ m * d) : -m ≤ evn n d ∧ evn n d ≤ m := by
  have l1 : -m ≤ n / d := Int.le_ediv_of_mul_le hd h1
  have hmod := Int.emod_nonneg n (Int.ne_of_gt hd)
  have hlt := Int.emod_lt_of_pos n hd
  have he := Int.mul_ediv_add_emod n d
  have l2 : n / d ≤ m := by
    have := Int.ediv_le_ediv hd h2
    rwa [Int.mul_ediv_cancel _ (Int.ne_of_gt hd)] at this
  have l3 : n / d = m → n % d = 0 := fun e => by
    rw [e, Int.mul_comm d m] at he
    omega
  unfold evn
  split
  · constructor
    · omega
    · rcases Int.lt_or_eq_of_le l2 with h | h
      · omega
      · have := l3 h; omega
  · exact ⟨l1, l2⟩
theorem evn_in128 (a b : Int) (ha : Fit a) (hb : Fit b) : In128 (evn (a * b) (2 ^ 40)) := by
  have h := fit_mul a b ha hb
  have := evn_bound (a * b) 83076749736557242056487941267521536 (2 ^ 40) (by decide) (by decide) (by rw [show (2 : Int) ^ 40 = 1099511627776 from rfl]; omega) (by rw [show (2 : Int) ^ 40 = 1099511627776 from rfl]; omega)
  exact ⟨by omega, by omega⟩
theorem mulInt (n : Int) : (AV.tuple (if -9223372036854775808 ≤ n ∧ n ≤ 9223372036854775807 then [I n, I 0] else [I 0, I 3])) = .tuple [I (if In64 n then n else 0), I (if In64 n then 0 else 3)] := by
  by_cases h : In64 n
  · have : -9223372036854775808 ≤ n ∧ n ≤ 9223372036854775807 := h
    simp [h, this]
  · have : ¬(-9223372036854775808 ≤ n ∧ n ≤ 9223372036854775807) := h
    rw [if_neg this, if_neg h, if_neg h]
theorem fMul_both (a b : Int) : AV.tuple (both a b 0 (if In64 (evn (a * b) (2 ^ 40)) then evn (a * b) (2 ^ 40) else 0) (if In64 (evn (a * b) (2 ^ 40)) then 0 else 3)) = P2 (fMul a b) := by
  unfold both fMul fit3
  generalize evn (a * b) (2 ^ 40) = q
  by_cases h : Fit a ∧ Fit b
  · by_cases h1 : In64 q
    · by_cases h2 : Fit q <;> simp [h, h1, h2]
    · have : ¬ Fit q := fun h => h1 h.in64
      simp [h, h1, this]
  · simp [h]

/-- Three numbers. -/
structure V3 where
  x : Int
  y : Int
  z : Int
deriving DecidableEq
def V3.av (v : V3) : AV := .agg [I v.x, I v.y, I v.z]
def V3.In64 (v : V3) : Prop := Ev.In64 v.x ∧ Ev.In64 v.y ∧ Ev.In64 v.z
def V3.Fit (v : V3) : Prop := Ev.Fit v.x ∧ Ev.Fit v.y ∧ Ev.Fit v.z
instance (v : V3) : Decidable v.Fit := inferInstanceAs (Decidable (_ ∧ _))
instance (v : V3) : Decidable v.In64 := inferInstanceAs (Decidable (_ ∧ _))
def PV (r : V3 × Int) : AV := .tuple [r.1.av, I r.2]
def each3 (r0 r1 r2 : Int × Int) : V3 × Int :=
  if r0.2 ≠ 0 then (⟨0, 0, 0⟩, r0.2) else if r1.2 ≠ 0 then (⟨0, 0, 0⟩, r1.2) else if r2.2 ≠ 0 then (⟨0, 0, 0⟩, r2.2) else (⟨r0.1, r1.1, r2.1⟩, 0)
/-- Six numbers: a symmetric matrix. -/
structure S6 where
  a : Int
  b : Int
  c : Int
  d : Int
  e : Int
  f : Int
deriving DecidableEq
def S6.av (s : S6) : AV := .agg [I s.a, I s.b, I s.c, I s.d, I s.e, I s.f]
def S6.In64 (s : S6) : Prop := Ev.In64 s.a ∧ Ev.In64 s.b ∧ Ev.In64 s.c ∧ Ev.In64 s.d ∧ Ev.In64 s.e ∧ Ev.In64 s.f
def S6.Fit (s : S6) : Prop := Ev.Fit s.a ∧ Ev.Fit s.b ∧ Ev.Fit s.c ∧ Ev.Fit s.d ∧ Ev.Fit s.e ∧ Ev.Fit s.f
instance (v : S6) : Decidable v.Fit := inferInstanceAs (Decidable (_ ∧ _))
def PS (r : S6 × Int) : AV := .tuple [r.1.av, I r.2]
attribute [go_sem] V3.av S6.av PV PS
def clampc (x m : Int) : Int × Int := (clamp x m, 0)
def V3.clamp (a m : V3) : V3 := ⟨Ev.clamp a.x m.x, Ev.clamp a.y m.y, Ev.clamp a.z m.z⟩
def vAdd (a b : V3) : V3 × Int := if a.Fit ∧ b.Fit then each3 (fAdd a.x b.x) (fAdd a.y b.y) (fAdd a.z b.z) else (⟨0, 0, 0⟩, 1)
def vScale (a : V3) (k : Int) : V3 × Int := if a.Fit ∧ Ev.Fit k then each3 (fMul a.x k) (fMul a.y k) (fMul a.z k) else (⟨0, 0, 0⟩, 1)
def S6.add (a b : S6) : S6 := ⟨a.a + b.a, a.b + b.b, a.c + b.c, a.d + b.d, a.e + b.e, a.f + b.f⟩
def sAdd (a b : S6) : S6 × Int := if a.Fit ∧ b.Fit then if (a.add b).Fit then (a.add b, 0) else (⟨0, 0, 0, 0, 0, 0⟩, 3) else (⟨0, 0, 0, 0, 0, 0⟩, 1)
theorem clamp_fitp (x : Int) (h : In64 x) : (x = clamp x 288230376151711744) ↔ Fit x := by
  unfold clamp Fit
  omega
theorem clamp_fit (x : Int) (h : In64 x) : (decide (x = clamp x 288230376151711744)) = decide (Fit x) := by
  unfold clamp Fit
  apply decide_eq_decide.2
  omega

/-- Where an entry stands. -/
def plc : Nat → Nat → Nat
  | 0, 0 => 0 | 0, 1 => 1 | 0, 2 => 2
  | 1, 0 => 1 | 1, 1 => 3 | 1, 2 => 4
  | 2, 0 => 2 | 2, 1 => 4 | 2, 2 => 5
  | _, _ => 0
def S6.get (m : S6) : Nat → Int
  | 0 => m.a | 1 => m.b | 2 => m.c | 3 => m.d | 4 => m.e | _ => m.f
def S6.set (m : S6) (n : Nat) (x : Int) : S6 :=
  match n with
  | 0 => ⟨x, m.b, m.c, m.d, m.e, m.f⟩
  | 1 => ⟨m.a, x, m.c, m.d, m.e, m.f⟩
  | 2 => ⟨m.a, m.b, x, m.d, m.e, m.f⟩
  | 3 => ⟨m.a, m.b, m.c, x, m.e, m.f⟩
  | 4 => ⟨m.a, m.b, m.c, m.d, x, m.f⟩
  | _ => ⟨m.a, m.b, m.c, m.d, m.e, x⟩
theorem wrap_fit2 {a b : Int} (ha : Fit a) (hb : Fit b) : IntKind.i64.wrap (a + b) = a + b := by
  obtain ⟨h1, h2⟩ := ha
  obtain ⟨h3, h4⟩ := hb
  rw [IntKind.wrap_i64]; omega
theorem c3 {i : Nat} (h : i < 3) : i = 0 ∨ i = 1 ∨ i = 2 := by omega

/-! ### Joseph's form -/
def crossR (a b c d : Int) : Int × Int := fit3 (evn (a * b + c * d) (2 ^ 40))
/-- Two steps, one behind the other, up to the first error. -/
def then2 (r1 : Int × Int) (f : Int → Int × Int) : Int × Int := if r1.2 ≠ 0 then (0, r1.2) else if (f r1.1).2 ≠ 0 then (0, (f r1.1).2) else ((f r1.1).1, 0)
def jU (k : V3) (s : Int) (ki kj : Int) : Int × Int := then2 (fMul ki kj) fun x => fMul x s
def jV (x t u : Int) : Int × Int := then2 (fSub x t) fun y => fAdd y u
def V3.get (v : V3) : Nat → Int
  | 0 => v.x | 1 => v.y | _ => v.z
def jT (p : S6) (k : V3) (i j : Nat) : Int × Int := crossR (k.get i) (p.get j) (k.get j) (p.get i)
/-- One entry. -/
def jStep (p : S6) (k : V3) (s : Int) (i j : Nat) (o : S6 × Int) : S6 × Int :=
  if o.2 ≠ 0 then o
  else if (jT p k i j).2 ≠ 0 then (⟨0, 0, 0, 0, 0, 0⟩, (jT p k i j).2)
  else if (jU k s (k.get i) (k.get j)).2 ≠ 0 then (⟨0, 0, 0, 0, 0, 0⟩, (jU k s (k.get i) (k.get j)).2)
  else if (jV (p.get (plc i j)) (jT p k i j).1 (jU k s (k.get i) (k.get j)).1).2 ≠ 0 then (⟨0, 0, 0, 0, 0, 0⟩, (jV (p.get (plc i j)) (jT p k i j).1 (jU k s (k.get i) (k.get j)).1).2)
  else (o.1.set (plc i j) (jV (p.get (plc i j)) (jT p k i j).1 (jU k s (k.get i) (k.get j)).1).1, 0)
def jDoubt (p : S6) (k : V3) (s : Int) : S6 × Int :=
  if p.Fit ∧ k.Fit ∧ Fit s then jStep p k s 2 2 (jStep p k s 1 2 (jStep p k s 1 1 (jStep p k s 0 2 (jStep p k s 0 1 (jStep p k s 0 0 (p, 0))))))
  else (⟨0, 0, 0, 0, 0, 0⟩, 1)
def jState (x k : V3) (y : Int) : V3 × Int :=
  if x.Fit ∧ k.Fit ∧ Fit y then if (vScale k y).2 ≠ 0 then (⟨0, 0, 0⟩, (vScale k y).2) else vAdd x (vScale k y).1 else (⟨0, 0, 0⟩, 1)
theorem fit3_cases (x : Int) : fit3 x = (x, 0) ∧ Fit x ∨ fit3 x = (0, 3) ∧ ¬ Fit x := by
  unfold fit3; by_cases h : Fit x <;> simp [h]
theorem fit3_fit (x : Int) : Fit (fit3 x).1 := by
  rcases fit3_cases x with ⟨e, h⟩ | ⟨e, h⟩ <;> rw [e]
  · exact h
  · exact ⟨by decide, by decide⟩
theorem fMul_fit (a b : Int) : Fit (fMul a b).1 := by
  unfold fMul; split
  · exact fit3_fit _
  · exact ⟨by decide, by decide⟩
theorem fAdd_fit (a b : Int) : Fit (fAdd a b).1 := by
  unfold fAdd; split
  · exact fit3_fit _
  · exact ⟨by decide, by decide⟩
theorem fSub_fit (a b : Int) : Fit (fSub a b).1 := by
  unfold fSub; split
  · exact fit3_fit _
  · exact ⟨by decide, by decide⟩
theorem Fit.zero : Fit 0 := ⟨by decide, by decide⟩
theorem each3_fit {r0 r1 r2 : Int × Int} (h0 : Fit r0.1) (h1 : Fit r1.1) (h2 : Fit r2.1) : (each3 r0 r1 r2).1.Fit := by
  unfold each3
  repeat' split
  all_goals first | exact ⟨Fit.zero, Fit.zero, Fit.zero⟩ | exact ⟨h0, h1, h2⟩
theorem V3.Fit.in64 {v : V3} (h : v.Fit) : v.In64 := ⟨h.1.in64, h.2.1.in64, h.2.2.in64⟩
theorem S6.Fit.in64 {v : S6} (h : v.Fit) : v.In64 := ⟨h.1.in64, h.2.1.in64, h.2.2.1.in64, h.2.2.2.1.in64, h.2.2.2.2.1.in64, h.2.2.2.2.2.in64⟩
theorem vScale_fit (k : V3) (y : Int) : (vScale k y).1.Fit := by
  unfold vScale; split
  · exact each3_fit (fMul_fit _ _) (fMul_fit _ _) (fMul_fit _ _)
  · exact ⟨Fit.zero, Fit.zero, Fit.zero⟩
theorem vScale_in64 (k : V3) (y : Int) : (vScale k y).1.In64 := (vScale_fit k y).in64
theorem vAdd_fit (a b : V3) : (vAdd a b).1.Fit := by
  unfold vAdd; split
  · exact each3_fit (fAdd_fit _ _) (fAdd_fit _ _) (fAdd_fit _ _)
  · exact ⟨Fit.zero, Fit.zero, Fit.zero⟩
theorem S6.fit0 : (S6.mk 0 0 0 0 0 0).Fit := ⟨Fit.zero, Fit.zero, Fit.zero, Fit.zero, Fit.zero, Fit.zero⟩
theorem sAdd_fit (a b : S6) : (sAdd a b).1.Fit := by
  unfold sAdd
  repeat' split
  all_goals first | assumption | exact S6.fit0
theorem S6.get_fit {p : S6} (h : p.Fit) (n : Nat) : Ev.Fit (p.get n) := by
  unfold S6.get; split
  · exact h.1
  · exact h.2.1
  · exact h.2.2.1
  · exact h.2.2.2.1
  · exact h.2.2.2.2.1
  · exact h.2.2.2.2.2
theorem V3.get_fit {p : V3} (h : p.Fit) (n : Nat) : Ev.Fit (p.get n) := by
  unfold V3.get; split
  · exact h.1
  · exact h.2.1
  · exact h.2.2

/-! ### Joseph's form: plain laws -/
theorem evn0 : evn 0 (2 ^ 40) = 0 := by decide
theorem fMul0l (x : Int) (h : Fit x) : fMul 0 x = (0, 0) := by
  unfold fMul
  rw [if_pos ⟨Fit.zero, h⟩, Int.zero_mul, evn0]
  rfl
theorem fMul0r (x : Int) (h : Fit x) : fMul x 0 = (0, 0) := by
  unfold fMul
  rw [if_pos ⟨h, Fit.zero⟩, Int.mul_zero, evn0]
  rfl
theorem fAdd0 (x : Int) (h : Fit x) : fAdd x 0 = (x, 0) := by
  unfold fAdd fit3
  rw [if_pos ⟨h, Fit.zero⟩, Int.add_zero, if_pos h]
theorem fSub0 (x : Int) (h : Fit x) : fSub x 0 = (x, 0) := by
  unfold fSub fit3
  rw [if_pos ⟨h, Fit.zero⟩, Int.sub_zero, if_pos h]
theorem V3.zfit : (V3.mk 0 0 0).Fit := ⟨Fit.zero, Fit.zero, Fit.zero⟩
theorem vScale0 (y : Int) (h : Fit y) : vScale ⟨0, 0, 0⟩ y = (⟨0, 0, 0⟩, 0) := by
  unfold vScale
  rw [if_pos ⟨V3.zfit, h⟩, fMul0l y h]
  rfl
theorem vScale0r (k : V3) (h : k.Fit) : vScale k 0 = (⟨0, 0, 0⟩, 0) := by
  unfold vScale
  rw [if_pos ⟨h, Fit.zero⟩, fMul0r _ h.1, fMul0r _ h.2.1, fMul0r _ h.2.2]
  rfl
theorem vAdd0 (x : V3) (h : x.Fit) : vAdd x ⟨0, 0, 0⟩ = (x, 0) := by
  unfold vAdd
  rw [if_pos ⟨h, V3.zfit⟩, fAdd0 _ h.1, fAdd0 _ h.2.1, fAdd0 _ h.2.2]
  rfl
theorem jState_k0 (x : V3) : jState x ⟨0, 0, 0⟩ 1099511627776 = if x.Fit then (x, 0) else (⟨0, 0, 0⟩, 1) := by
  have hy : Fit 1099511627776 := ⟨by decide, by decide⟩
  unfold jState
  by_cases h : x.Fit
  · rw [if_pos ⟨h, V3.zfit, hy⟩, if_pos h, vScale0 _ hy, if_neg (by simp), vAdd0 x h]
  · rw [if_neg (fun h' => h h'.1), if_neg h]
theorem jState_y0 (x k : V3) : jState x k 0 = if x.Fit ∧ k.Fit then (x, 0) else (⟨0, 0, 0⟩, 1) := by
  unfold jState
  by_cases h : x.Fit ∧ k.Fit
  · rw [if_pos ⟨h.1, h.2, Fit.zero⟩, if_pos h, vScale0r k h.2, if_neg (by simp), vAdd0 x h.1]
  · rw [if_neg (fun h' => h ⟨h'.1, h'.2.1⟩), if_neg h]
theorem V3.get0 (i : Nat) : (V3.mk 0 0 0).get i = 0 := by unfold V3.get; split <;> rfl
theorem S6.set_get (p : S6) (n : Nat) : p.set n (p.get n) = p := by
  unfold S6.set S6.get
  split <;> (split <;> simp_all)
theorem jStep_zero (p : S6) (s : Int) (hp : p.Fit) (hs : Fit s) (i j : Nat) : jStep p ⟨0, 0, 0⟩ s i j (p, 0) = (p, 0) := by
  have h1 : jT p ⟨0, 0, 0⟩ i j = (0, 0) := by
    unfold jT crossR
    rw [V3.get0, V3.get0, Int.zero_mul, Int.zero_mul, Int.add_zero, evn0]
    rfl
  have h2 : jU ⟨0, 0, 0⟩ s ((V3.mk 0 0 0).get i) ((V3.mk 0 0 0).get j) = (0, 0) := by
    unfold jU then2
    rw [V3.get0, V3.get0, fMul0l 0 Fit.zero]
    simp [fMul0l s hs]
  have h3 : jV (p.get (plc i j)) 0 0 = (p.get (plc i j), 0) := by
    unfold jV then2
    have := S6.get_fit hp (plc i j)
    rw [fSub0 _ this]
    simp [fAdd0 _ this]
  unfold jStep
  rw [h1, h2]
  simp only [ne_eq, not_true_eq_false, if_false, h3, S6.set_get]
theorem jDoubt_zero (p : S6) : jDoubt p ⟨0, 0, 0⟩ 1099511627776 = if p.Fit then (p, 0) else (⟨0, 0, 0, 0, 0, 0⟩, 1) := by
  have hs : Fit 1099511627776 := ⟨by decide, by decide⟩
  unfold jDoubt
  by_cases h : p.Fit
  · rw [if_pos ⟨h, V3.zfit, hs⟩, if_pos h]
    simp only [jStep_zero p _ h hs]
  · rw [if_neg (fun h' => h h'.1), if_neg h]
end Go.Ev
