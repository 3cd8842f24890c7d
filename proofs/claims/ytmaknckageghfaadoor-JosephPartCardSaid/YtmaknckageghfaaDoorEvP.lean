/- Joseph's form of one entry: plain numbers. -/
import Derived.Test.YtmaknckageghfaaDoorEvN
set_option linter.unusedVariables false
set_option linter.unusedSimpArgs false
namespace Go.Ev

theorem evn_err (n d : Int) (hd : 0 < d) : 2 * n - d ≤ 2 * (d * evn n d) ∧ 2 * (d * evn n d) ≤ 2 * n + d := by
  have h1 := Int.emod_nonneg n (Int.ne_of_gt hd)
  have h2 := Int.emod_lt_of_pos n hd
  have h3 := Int.mul_ediv_add_emod n d
  unfold evn
  split
  · rename_i h
    rw [Int.mul_add, Int.mul_one]
    omega
  · omega

/-- What becomes of an entry a by a gain k and a spread a + n. -/
theorem part_bounds (a n k D t q u : Int) (hD : 0 < D) (ha : 0 ≤ a) (hn : 0 ≤ n) (hk : 0 ≤ k) (hkD : k ≤ D)
    (t1 : 2 * (2 * (k * a)) - D ≤ 2 * (D * t)) (t2 : 2 * (D * t) ≤ 2 * (2 * (k * a)) + D)
    (q1 : 2 * (k * k) - D ≤ 2 * (D * q)) (q2 : 2 * (D * q) ≤ 2 * (k * k) + D)
    (u1 : 2 * (q * (a + n)) - D ≤ 2 * (D * u)) (u2 : 2 * (D * u) ≤ 2 * (q * (a + n)) + D) :
    -(2 * D) - (a + n) ≤ 2 * (D * (a - t + u)) ∧ 2 * (D * (a - t + u)) ≤ 2 * (D * max a n) + 2 * D + (a + n) := by
  obtain ⟨c, rfl⟩ : ∃ c, D = k + c := ⟨D - k, by omega⟩
  have hc : 0 ≤ c := by omega
  -- all of it times D
  have e1 : 2 * ((k + c) * (a - t + u)) = 2 * ((k + c) * a) - 2 * ((k + c) * t) + 2 * ((k + c) * u) := by
    rw [Int.mul_add, Int.mul_sub]; omega
  have hS : 0 ≤ a + n := by omega
  have m1 := Int.mul_le_mul_of_nonneg_right q1 hS
  have m2 := Int.mul_le_mul_of_nonneg_right q2 hS
  have hDpos : 0 ≤ k + c := by omega
  -- (k + c) * (2 q (a + n)) = (2 (k + c) q) (a + n)
  have e2 : 2 * ((k + c) * q) * (a + n) = (k + c) * (2 * (q * (a + n))) := by
    simp only [Int.mul_assoc, Int.mul_left_comm]
  rw [e2] at m1 m2
  have w1 := Int.mul_le_mul_of_nonneg_left u1 hDpos
  have w2 := Int.mul_le_mul_of_nonneg_left u2 hDpos
  have v1 := Int.mul_le_mul_of_nonneg_left t1 hDpos
  have v2 := Int.mul_le_mul_of_nonneg_left t2 hDpos
  have hcca : 0 ≤ c * c * a := Int.mul_nonneg (Int.mul_nonneg hc hc) ha
  have hkkn : 0 ≤ k * k * n := Int.mul_nonneg (Int.mul_nonneg hk hk) hn
  have hM1 : a ≤ max a n := by omega
  have hM2 : n ≤ max a n := by omega
  have x1 : c * c * a ≤ c * c * max a n := Int.mul_le_mul_of_nonneg_left hM1 (Int.mul_nonneg hc hc)
  have x2 : k * k * n ≤ k * k * max a n := Int.mul_le_mul_of_nonneg_left hM2 (Int.mul_nonneg hk hk)
  have x3 : 0 ≤ k * c * max a n := Int.mul_nonneg (Int.mul_nonneg hk hc) (by omega)
  generalize max a n = M at *
  constructor
  · refine Int.le_of_mul_le_mul_left ?_ hD
    rw [e1]
    simp only [Int.two_mul] at *
    simp only [Int.mul_add, Int.add_mul, Int.mul_sub, Int.sub_mul, Int.mul_neg, Int.neg_mul, Int.mul_assoc, Int.mul_left_comm, Int.mul_comm] at *
    omega
  · refine Int.le_of_mul_le_mul_left ?_ hD
    rw [e1]
    simp only [Int.two_mul] at *
    simp only [Int.mul_add, Int.add_mul, Int.mul_sub, Int.sub_mul, Int.mul_neg, Int.neg_mul, Int.mul_assoc, Int.mul_left_comm, Int.mul_comm] at *
    omega

theorem jStep_zero2 (p : S6) (k : V3) (s : Int) (o : S6) (i j : Nat) (hs : Fit s) (hi : Fit (k.get i)) (hj : k.get j = 0) (hp : p.get j = 0 ∨ k.get i = 0) (h1 : p.get (plc i j) = 0) (h2 : o.get (plc i j) = 0) : jStep p k s i j (o, 0) = (o, 0) := by
  have e1 : jT p k i j = (0, 0) := by
    unfold jT crossR
    have : k.get i * p.get j = 0 := by rcases hp with h | h <;> rw [h] <;> simp
    rw [this, hj, Int.zero_mul, Int.add_zero, evn0]
    rfl
  have e2 : jU k s (k.get i) (k.get j) = (0, 0) := by
    unfold jU then2
    rw [hj, fMul0r _ hi]
    simp [fMul0l s hs]
  have e3 : jV (p.get (plc i j)) 0 0 = (0, 0) := by
    unfold jV then2
    rw [h1, fSub0 _ Fit.zero]
    simp [fAdd0 _ Fit.zero]
  unfold jStep
  rw [e1, e2]
  simp only [ne_eq, not_true_eq_false, if_false, e3]
  rw [← h2, S6.set_get]
theorem fit3_of {x : Int} (h : Fit x) : fit3 x = (x, 0) := by unfold fit3; rw [if_pos h]
theorem jDoubt_part (a n k : Int) (ha : 0 ≤ a) (ha2 : a ≤ 36028797018963968) (hn : 0 ≤ n) (hn2 : n ≤ 36028797018963968) (hk : 0 ≤ k) (hk2 : k ≤ 1099511627776) :
    ∃ v, jDoubt ⟨a, 0, 0, 0, 0, 0⟩ ⟨k, 0, 0⟩ (a + n) = (⟨v, 0, 0, 0, 0, 0⟩, 0) ∧ -((a + n) / 1099511627776 + 3) ≤ v ∧ v ≤ max a n + ((a + n) / 1099511627776 + 3) := by
  have hfa : Fit a := ⟨by omega, by omega⟩
  have hfk : Fit k := ⟨by omega, by omega⟩
  have hfs : Fit (a + n) := ⟨by omega, by omega⟩
  have hka : 0 ≤ k * a := Int.mul_nonneg hk ha
  have hka2 : k * a ≤ 1099511627776 * 36028797018963968 := Int.le_trans (Int.mul_le_mul_of_nonneg_right hk2 ha) (Int.mul_le_mul_of_nonneg_left ha2 (by decide))
  have hkk : 0 ≤ k * k := Int.mul_nonneg hk hk
  have hkk2 : k * k ≤ 1099511627776 * 1099511627776 := Int.le_trans (Int.mul_le_mul_of_nonneg_right hk2 hk) (Int.mul_le_mul_of_nonneg_left hk2 (by decide))
  obtain ⟨t, ht⟩ : ∃ t, t = evn (k * a + k * a) (2 ^ 40) := ⟨_, rfl⟩
  obtain ⟨q, hq⟩ : ∃ q, q = evn (k * k) (2 ^ 40) := ⟨_, rfl⟩
  obtain ⟨u, hu⟩ : ∃ u, u = evn (q * (a + n)) (2 ^ 40) := ⟨_, rfl⟩
  have hd : (2 : Int) ^ 40 = 1099511627776 := rfl
  have bt := evn_bound (k * a + k * a) 72057594037927936 (2 ^ 40) (by decide) (by decide) (by rw [hd]; omega) (by rw [hd]; omega)
  have bq := evn_bound (k * k) 1099511627776 (2 ^ 40) (by decide) (by decide) (by rw [hd]; omega) (by rw [hd]; omega)
  rw [← ht] at bt
  rw [← hq] at bq
  have eq := evn_err (k * k) (2 ^ 40) (by decide)
  have et := evn_err (k * a + k * a) (2 ^ 40) (by decide)
  rw [← hq] at eq
  rw [← ht] at et
  have hqS : -1099511627776 * 72057594037927936 ≤ q * (a + n) ∧ q * (a + n) ≤ 1099511627776 * 72057594037927936 := by
    have m1 : q.natAbs * (a + n).natAbs ≤ 1099511627776 * 72057594037927936 := Nat.mul_le_mul (by omega) (by omega)
    rw [← Int.natAbs_mul] at m1
    omega
  have bu := evn_bound (q * (a + n)) 72057594037927936 (2 ^ 40) (by decide) (by decide) (by rw [hd]; omega) (by rw [hd]; omega)
  have eu := evn_err (q * (a + n)) (2 ^ 40) (by decide)
  rw [← hu] at bu eu
  have key := part_bounds a n k (2 ^ 40) t q u (by decide) ha hn hk (by rw [hd]; omega) (by rw [Int.two_mul (k * a)]; exact et.1) (by rw [Int.two_mul (k * a)]; exact et.2) eq.1 eq.2 eu.1 eu.2
  rw [hd] at key
  have ft : Fit t := ⟨by omega, by omega⟩
  have fq : Fit q := ⟨by omega, by omega⟩
  have fu : Fit u := ⟨by omega, by omega⟩
  have fat : Fit (a - t) := ⟨by omega, by omega⟩
  have fv : Fit (a - t + u) := ⟨by omega, by omega⟩
  refine ⟨a - t + u, ?_, by omega, by omega⟩
  have e1 : jT ⟨a, 0, 0, 0, 0, 0⟩ ⟨k, 0, 0⟩ 0 0 = (t, 0) := by
    show fit3 (evn (k * a + k * a) (2 ^ 40)) = _
    rw [← ht, fit3_of ft]
  have e2 : jU ⟨k, 0, 0⟩ (a + n) k k = (u, 0) := by
    have g1 : fMul k k = (q, 0) := by unfold fMul; rw [if_pos ⟨hfk, hfk⟩, ← hq, fit3_of fq]
    have g2 : fMul q (a + n) = (u, 0) := by unfold fMul; rw [if_pos ⟨fq, hfs⟩, ← hu, fit3_of fu]
    unfold jU then2
    rw [g1]
    simp [g2]
  have e3 : jV a t u = (a - t + u, 0) := by
    have g1 : fSub a t = (a - t, 0) := by unfold fSub; rw [if_pos ⟨hfa, ft⟩, fit3_of fat]
    have g2 : fAdd (a - t) u = (a - t + u, 0) := by unfold fAdd; rw [if_pos ⟨fat, fu⟩, fit3_of fv]
    unfold jV then2
    rw [g1]
    simp [g2]
  have s0 : jStep ⟨a, 0, 0, 0, 0, 0⟩ ⟨k, 0, 0⟩ (a + n) 0 0 (⟨a, 0, 0, 0, 0, 0⟩, 0) = (⟨a - t + u, 0, 0, 0, 0, 0⟩, 0) := by
    unfold jStep
    have e2' : jU ⟨k, 0, 0⟩ (a + n) ((V3.mk k 0 0).get 0) ((V3.mk k 0 0).get 0) = (u, 0) := e2
    have e3' : jV ((S6.mk a 0 0 0 0 0).get (plc 0 0)) t u = (a - t + u, 0) := e3
    rw [e1, e2']
    simp only [ne_eq, not_true_eq_false, if_false, e3']
    rfl
  unfold jDoubt
  rw [if_pos ⟨⟨hfa, Fit.zero, Fit.zero, Fit.zero, Fit.zero, Fit.zero⟩, ⟨hfk, Fit.zero, Fit.zero⟩, hfs⟩, s0]
  rw [jStep_zero2 ⟨a, 0, 0, 0, 0, 0⟩ ⟨k, 0, 0⟩ (a + n) ⟨a - t + u, 0, 0, 0, 0, 0⟩ 0 1 hfs hfk rfl (.inl rfl) rfl rfl, jStep_zero2 ⟨a, 0, 0, 0, 0, 0⟩ ⟨k, 0, 0⟩ (a + n) ⟨a - t + u, 0, 0, 0, 0, 0⟩ 0 2 hfs hfk rfl (.inl rfl) rfl rfl, jStep_zero2 ⟨a, 0, 0, 0, 0, 0⟩ ⟨k, 0, 0⟩ (a + n) ⟨a - t + u, 0, 0, 0, 0, 0⟩ 1 1 hfs Fit.zero rfl (.inr rfl) rfl rfl, jStep_zero2 ⟨a, 0, 0, 0, 0, 0⟩ ⟨k, 0, 0⟩ (a + n) ⟨a - t + u, 0, 0, 0, 0, 0⟩ 1 2 hfs Fit.zero rfl (.inr rfl) rfl rfl, jStep_zero2 ⟨a, 0, 0, 0, 0, 0⟩ ⟨k, 0, 0⟩ (a + n) ⟨a - t + u, 0, 0, 0, 0, 0⟩ 2 2 hfs Fit.zero rfl (.inr rfl) rfl rfl]
end Go.Ev
