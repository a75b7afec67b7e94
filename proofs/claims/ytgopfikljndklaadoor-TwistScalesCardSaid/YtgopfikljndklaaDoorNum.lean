/- Plain arithmetic of digits with the base 2^32, without the program. -/
namespace Go.Proofs.YtgopfikljndklaaDoor

/-- What is left of n behind its lowest i digits. -/
def hi (n : Int) : Nat → Int
  | 0 => n
  | i + 1 => hi n i / 4294967296
/-- Digit number i of n. -/
def dg (n : Int) (i : Nat) : Int := hi n i % 4294967296

theorem hi_zero (n : Int) : hi n 0 = n := rfl
theorem hi_succ (n : Int) (i : Nat) : hi n (i + 1) = hi n i / 4294967296 := rfl
theorem dg_nonneg (n : Int) (i : Nat) : 0 ≤ dg n i := by unfold dg; omega
theorem dg_lt (n : Int) (i : Nat) : dg n i < 4294967296 := by unfold dg; omega
theorem hi_split (n : Int) (i : Nat) : hi n i = 4294967296 * hi n (i + 1) + dg n i := by unfold dg; rw [hi_succ]; omega
theorem hi_nonneg {n : Int} (h : 0 ≤ n) : ∀ i, 0 ≤ hi n i
  | 0 => h
  | i + 1 => by have := hi_nonneg h i; rw [hi_succ]; omega
theorem hi_mono {a b : Int} (h : a ≤ b) : ∀ i, hi a i ≤ hi b i
  | 0 => h
  | i + 1 => by have := hi_mono h i; rw [hi_succ, hi_succ]; omega
theorem hi_add (n : Int) (i : Nat) : ∀ k, hi n (i + k) = hi (hi n i) k
  | 0 => rfl
  | k + 1 => by rw [← Nat.add_assoc, hi_succ, hi_add n i k, hi_succ]
theorem hi_zero_n : ∀ i, hi 0 i = 0
  | 0 => rfl
  | i + 1 => by rw [hi_succ, hi_zero_n i]; rfl
theorem hi_ge {n : Int} {i k : Nat} (h : hi n i = 0) (hk : i ≤ k) : hi n k = 0 := by
  obtain ⟨j, rfl⟩ := Nat.le.dest hk
  rw [hi_add, h, hi_zero_n]
theorem dg_zero_of {n : Int} {i k : Nat} (h : hi n i = 0) (hk : i ≤ k) : dg n k = 0 := by unfold dg; rw [hi_ge h hk]; rfl
theorem hi_le {n : Int} (h : 0 ≤ n) (i : Nat) : hi n (i + 1) ≤ hi n i := by have := hi_nonneg h i; rw [hi_succ]; omega
theorem hi_le_of {n : Int} (h : 0 ≤ n) {i k : Nat} (hk : i ≤ k) : hi n k ≤ hi n i := by
  obtain ⟨j, rfl⟩ := Nat.le.dest hk
  induction j with
  | zero => exact Int.le_refl _
  | succ j ih => have := hi_le h (i + j); have := ih (by omega); rw [← Nat.add_assoc]; omega

/-- n has len digits, and no zeros at the end. -/
structure NL (n : Int) (len : Nat) : Prop where
  nonneg : 0 ≤ n
  top : hi n len = 0
  full : 0 < len → hi n (len - 1) ≠ 0

theorem NL.zero : NL 0 0 := ⟨Int.le_refl _, rfl, by omega⟩
theorem NL.len_zero {n : Int} {len : Nat} (h : NL n len) : len = 0 ↔ n = 0 := by
  constructor
  · rintro rfl; exact h.top
  · rintro rfl
    have := h.full
    rw [hi_zero_n] at this
    omega
theorem NL.topdig {n : Int} {len : Nat} (h : NL n len) (hl : 0 < len) : dg n (len - 1) = hi n (len - 1) ∧ 0 < dg n (len - 1) := by
  have h1 := h.top
  have h2 := hi_split n (len - 1)
  rw [show len - 1 + 1 = len by omega, h1] at h2
  have h3 := h.full hl
  have h4 := hi_nonneg h.nonneg (len - 1)
  omega
/-- From digits whose highest one is not 0. -/
theorem NL.mk' {n : Int} {len : Nat} (h0 : 0 ≤ n) (h1 : hi n len = 0) (h2 : 0 < len → dg n (len - 1) ≠ 0) : NL n len := by
  refine ⟨h0, h1, fun hl h3 => h2 hl ?_⟩
  unfold dg; rw [h3]; rfl
/-- Fewer digits, if those behind are 0. -/
theorem hi_trim {n : Int} {len : Nat} (h1 : hi n len = 0) (k : Nat) (hk : k ≤ len) (hz : ∀ j, k ≤ j → j < len → dg n j = 0) : hi n k = 0 := by
  obtain ⟨j, rfl⟩ := Nat.le.dest hk
  clear hk
  induction j with
  | zero => exact h1
  | succ j ih =>
    refine ih ?_ (fun i h2 h3 => hz i h2 (by omega))
    have h2 := hi_split n (k + j)
    have h3 := hz (k + j) (by omega) (by omega)
    have h4 : hi n (k + j + 1) = 0 := h1
    omega
/-- Two numbers with the same digits are equal. -/
theorem eq_of_dg {a b : Int} : ∀ (len : Nat), hi a len = 0 → hi b len = 0 → (∀ i, i < len → dg a i = dg b i) → a = b := by
  intro len
  have key : ∀ k, k ≤ len → hi a len = 0 → hi b len = 0 → (∀ i, i < len → dg a i = dg b i) → hi a (len - k) = hi b (len - k) := by
    intro k
    induction k with
    | zero => intro _ h1 h2 _; simp [h1, h2]
    | succ k ih =>
      intro hk h1 h2 h3
      have h4 := ih (by omega) h1 h2 h3
      have h5 := hi_split a (len - (k + 1))
      have h6 := hi_split b (len - (k + 1))
      rw [show len - (k + 1) + 1 = len - k by omega] at h5 h6
      have h7 := h3 (len - (k + 1)) (by omega)
      omega
  intro h1 h2 h3
  have := key len (Nat.le_refl _) h1 h2 h3
  simpa [hi_zero] using this
/-- The number of digits orders. -/
theorem NL.lt_of_len {a b : Int} {la lb : Nat} (ha : NL a la) (hb : NL b lb) (h : la < lb) : a < b := by
  refine Int.lt_of_not_ge fun hge => ?_
  have h1 := hi_mono hge (lb - 1)
  have h2 := hi_ge ha.top (show la ≤ lb - 1 by omega)
  have h3 := hb.full (by omega)
  have h4 := hi_nonneg hb.nonneg (lb - 1)
  omega
theorem NL.len_unique {a : Int} {la lb : Nat} (ha : NL a la) (hb : NL a lb) : la = lb := by
  rcases Nat.lt_trichotomy la lb with h | h | h
  · have := ha.lt_of_len hb h; omega
  · exact h
  · have := hb.lt_of_len ha h; omega
theorem NL.len_le {a b : Int} {la lb : Nat} (ha : NL a la) (hb : NL b lb) (h : a ≤ b) : la ≤ lb := by
  rcases Nat.lt_or_ge lb la with h1 | h1
  · have := hb.lt_of_len ha h1; omega
  · exact h1

/-! ### sizes in bits -/
/-- |z| < 2^k -/
def Sz (k : Nat) (z : Int) : Prop := z.natAbs < 2 ^ k
theorem Sz.mono {k m : Nat} {z : Int} (h : Sz k z) (hk : k ≤ m) : Sz m z := Nat.lt_of_lt_of_le h (Nat.pow_le_pow_right (by omega) hk)
theorem hi_sz : ∀ (len k : Nat) (n : Int), 0 ≤ n → n.toNat < 2 ^ (k + 32 * len) → (hi n len).toNat < 2 ^ k := by
  intro len
  induction len with
  | zero => intro k n _ h; simpa [hi_zero] using h
  | succ len ih =>
    intro k n h0 h
    have h1 := ih (k + 32) n h0 (by rw [show k + 32 + 32 * len = k + 32 * (len + 1) by omega]; exact h)
    rw [hi_succ]
    have h2 := hi_nonneg h0 len
    have h3 : 2 ^ (k + 32) = 2 ^ k * 4294967296 := by rw [Nat.pow_add]
    rw [h3] at h1
    generalize 2 ^ k = m at *
    omega
theorem NL.len_sz {n : Int} {len k : Nat} (h : NL n len) (hs : Sz k n) : len ≤ k := by
  rcases Nat.lt_or_ge k len with h1 | h1
  · have h2 := h.full (by omega)
    have h3 := hi_nonneg h.nonneg (len - 1)
    have h4 : n.toNat < 2 ^ (0 + 32 * (len - 1)) := by
      have h5 : n.toNat < 2 ^ k := by unfold Sz at hs; omega
      refine Nat.lt_of_lt_of_le h5 (Nat.pow_le_pow_right (by omega) (by omega))
    have h5 := hi_sz (len - 1) 0 n h.nonneg h4
    omega
  · exact h1
theorem Sz.zero (k : Nat) : Sz k 0 := Nat.pow_pos (by omega)
theorem Sz.add {k m : Nat} {a b : Int} (ha : Sz k a) (hb : Sz m b) : Sz (k + m + 1) (a + b) := by
  unfold Sz at *
  have h1 : 2 ^ (k + m + 1) = 2 ^ (k + m) + 2 ^ (k + m) := by rw [Nat.pow_succ]; omega
  have h2 : 2 ^ k ≤ 2 ^ (k + m) := Nat.pow_le_pow_right (by omega) (by omega)
  have h3 : 2 ^ m ≤ 2 ^ (k + m) := Nat.pow_le_pow_right (by omega) (by omega)
  omega
theorem Sz.add' {k : Nat} {a b : Int} (ha : Sz k a) (hb : Sz k b) : Sz (k + 1) (a + b) := by
  unfold Sz at *
  have h1 : 2 ^ (k + 1) = 2 ^ k + 2 ^ k := by rw [Nat.pow_succ]; omega
  omega
theorem Sz.neg {k : Nat} {a : Int} (ha : Sz k a) : Sz k (-a) := by unfold Sz at *; omega
theorem Sz.mul {k m : Nat} {a b : Int} (ha : Sz k a) (hb : Sz m b) : Sz (k + m) (a * b) := by
  unfold Sz at *
  rw [Int.natAbs_mul, Nat.pow_add]
  exact Nat.mul_lt_mul'' ha hb
theorem Sz.of_le {k : Nat} {a b : Int} (ha : Sz k a) (h : b.natAbs ≤ a.natAbs) : Sz k b := Nat.lt_of_le_of_lt h ha

/-! ### addition -/
theorem plus_step {a b c : Int} {i : Nat} (h : hi (a + b) i = hi a i + hi b i + c) (h0 : 0 ≤ c) (h1 : c ≤ 1) :
    dg (a + b) i = (c + dg a i + dg b i) % 4294967296 ∧ hi (a + b) (i + 1) = hi a (i + 1) + hi b (i + 1) + (c + dg a i + dg b i) / 4294967296 ∧
      0 ≤ (c + dg a i + dg b i) / 4294967296 ∧ (c + dg a i + dg b i) / 4294967296 ≤ 1 := by
  unfold dg; simp only [hi_succ]; omega
/-- a digit behind the end of b counts as 0 -/
theorem plus_step0 {a b c : Int} {i : Nat} (h : hi (a + b) i = hi a i + hi b i + c) (h0 : 0 ≤ c) (h1 : c ≤ 1) (hb : hi b i = 0) :
    dg (a + b) i = (c + dg a i) % 4294967296 ∧ hi (a + b) (i + 1) = hi a (i + 1) + hi b (i + 1) + (c + dg a i) / 4294967296 ∧
      0 ≤ (c + dg a i) / 4294967296 ∧ (c + dg a i) / 4294967296 ≤ 1 := by
  unfold dg; simp only [hi_succ]; omega

/-! ### subtraction -/
theorem minus_step {a b c : Int} {i : Nat} (h : hi (a - b) i = hi a i - hi b i - c) (h0 : 0 ≤ c) (h1 : c ≤ 1) :
    dg (a - b) i = (dg a i - c - dg b i) % 4294967296 ∧ hi (a - b) (i + 1) = hi a (i + 1) - hi b (i + 1) - (if dg a i - c - dg b i < 0 then 1 else 0) := by
  unfold dg; simp only [hi_succ]; split <;> omega
theorem minus_step0 {a b c : Int} {i : Nat} (h : hi (a - b) i = hi a i - hi b i - c) (h0 : 0 ≤ c) (h1 : c ≤ 1) (hb : hi b i = 0) :
    dg (a - b) i = (dg a i - c) % 4294967296 ∧ hi (a - b) (i + 1) = hi a (i + 1) - hi b (i + 1) - (if dg a i - c < 0 then 1 else 0) := by
  unfold dg; simp only [hi_succ]; split <;> omega

/-! ### a number times a digit, plus a digit -/
theorem scale_step {m x p c : Int} {i : Nat} (h : hi (m * x + p) i = hi m i * x + c) (h0 : 0 ≤ c) (h1 : c < 4294967296) (hx0 : 0 ≤ x) (hx : x < 4294967296) :
    dg (m * x + p) i = (c + dg m i * x) % 4294967296 ∧ hi (m * x + p) (i + 1) = hi m (i + 1) * x + (c + dg m i * x) / 4294967296 ∧
      0 ≤ (c + dg m i * x) / 4294967296 ∧ (c + dg m i * x) / 4294967296 < 4294967296 ∧ 0 ≤ dg m i * x ∧ c + dg m i * x ≤ 18446744069414584320 := by
  have hs := hi_split m i
  have hd0 := dg_nonneg m i
  have hd := dg_lt m i
  have e : hi m i * x = 4294967296 * (hi m (i + 1) * x) + dg m i * x := by rw [hs]; grind
  have hp0 : 0 ≤ dg m i * x := Int.mul_nonneg hd0 hx0
  have hp : dg m i * x ≤ 4294967295 * 4294967295 := Int.mul_le_mul (by omega) (by omega) hx0 (by omega)
  have hdd : dg (m * x + p) i = hi (m * x + p) i % 4294967296 := rfl
  rw [hdd, hi_succ, h, e]
  generalize dg m i * x = u at *
  generalize hi m (i + 1) * x = v at *
  omega

/-! ### a number divided by a digit -/
theorem hi_div (n x : Int) (hx : 0 < x) : ∀ i, hi (n / x) i = hi n i / x
  | 0 => rfl
  | i + 1 => by
    rw [hi_succ, hi_succ, hi_div n x hx i, Int.ediv_ediv_of_nonneg (by omega), Int.ediv_ediv_of_nonneg (by omega), Int.mul_comm]
theorem short_step (n x : Int) (i : Nat) (hx : 0 < x) (_hx1 : x < 4294967296) :
    dg (n / x) i = (hi n (i + 1) % x * 4294967296 + dg n i) / x ∧ hi n i % x = (hi n (i + 1) % x * 4294967296 + dg n i) % x ∧
      (hi n (i + 1) % x * 4294967296 + dg n i) / x < 4294967296 ∧ 0 ≤ (hi n (i + 1) % x * 4294967296 + dg n i) / x := by
  have hs := hi_split n i
  have hd0 := dg_nonneg n i
  have hd := dg_lt n i
  have h1 := Int.emod_add_mul_ediv (hi n (i + 1)) x
  have h2 := Int.emod_nonneg (hi n (i + 1)) (show x ≠ 0 by omega)
  have h3 := Int.emod_lt_of_pos (hi n (i + 1)) hx
  have e : hi n i = (hi n (i + 1) % x * 4294967296 + dg n i) + x * (4294967296 * (hi n (i + 1) / x)) := by rw [hs]; grind
  have e1 : hi (n / x) i = (hi n (i + 1) % x * 4294967296 + dg n i) / x + 4294967296 * (hi n (i + 1) / x) := by
    rw [hi_div n x hx, e, Int.add_mul_ediv_left _ _ (show x ≠ 0 by omega)]
  have h4 : (hi n (i + 1) % x * 4294967296 + dg n i) / x < 4294967296 := by
    apply Int.ediv_lt_of_lt_mul hx
    omega
  have h5 : 0 ≤ (hi n (i + 1) % x * 4294967296 + dg n i) / x := Int.ediv_nonneg (by omega) (by omega)
  refine ⟨?_, ?_, h4, h5⟩
  · have hdd : dg (n / x) i = hi (n / x) i % 4294967296 := rfl
    rw [hdd, e1]
    omega
  · rw [e, Int.add_mul_emod_self_left]

/-! ### multiplication -/
theorem hi_addmul (r m : Int) : ∀ i, hi (r + m * 4294967296 ^ i) i = hi r i + m
  | 0 => by simp [hi_zero]
  | i + 1 => by
    have e : r + m * 4294967296 ^ (i + 1) = r + (m * 4294967296) * 4294967296 ^ i := by rw [Int.pow_succ]; grind
    rw [e, hi_succ, hi_addmul r (m * 4294967296) i, hi_succ]
    omega
theorem dg_addmul (r m : Int) {i j : Nat} (hj : j < i) : dg (r + m * 4294967296 ^ i) j = dg r j := by
  obtain ⟨k, rfl⟩ := Nat.le.dest hj
  have e : r + m * 4294967296 ^ (j + 1 + k) = r + (m * 4294967296 ^ k * 4294967296) * 4294967296 ^ j := by
    rw [Int.pow_add, Int.pow_add]; grind
  unfold dg
  rw [e, hi_addmul]
  omega
/-- what the lowest i digits of a make, times b -/
def low (a : Int) (i : Nat) : Int := a - hi a i * 4294967296 ^ i
theorem low_zero (a : Int) : low a 0 = 0 := by simp [low, hi_zero]
theorem low_succ (a : Int) (i : Nat) : low a (i + 1) = low a i + dg a i * 4294967296 ^ i := by
  have := hi_split a i
  unfold low
  rw [Int.pow_succ]
  grind
theorem low_nonneg {a : Int} : ∀ i, 0 ≤ low a i
  | 0 => by rw [low_zero]; exact Int.le_refl _
  | i + 1 => by
    rw [low_succ]
    have h1 := low_nonneg (a := a) i
    have h2 : 0 ≤ dg a i * 4294967296 ^ i := Int.mul_nonneg (dg_nonneg a i) (Int.le_of_lt (Int.pow_pos (by omega)))
    omega
theorem low_top {a : Int} {len : Nat} (h : hi a len = 0) : low a len = a := by simp [low, h]
/-- The inner round of the product: r is the product till now, x the digit, b the other number. -/
theorem mul_step {r x b c : Int} {i k : Nat} (h : hi (r + x * b * 4294967296 ^ i) (i + k) = hi r (i + k) + x * hi b k + c) (h0 : 0 ≤ c) (h1 : c < 4294967296)
    (hx0 : 0 ≤ x) (hx : x < 4294967296) :
    dg (r + x * b * 4294967296 ^ i) (i + k) = (c + (x * dg b k + dg r (i + k))) % 4294967296 ∧
      hi (r + x * b * 4294967296 ^ i) (i + (k + 1)) = hi r (i + (k + 1)) + x * hi b (k + 1) + (c + (x * dg b k + dg r (i + k))) / 4294967296 ∧
      0 ≤ (c + (x * dg b k + dg r (i + k))) / 4294967296 ∧ (c + (x * dg b k + dg r (i + k))) / 4294967296 < 4294967296 ∧ 0 ≤ x * dg b k ∧ x * dg b k ≤ 18446744065119617025 := by
  have hs := hi_split b k
  have hd0 := dg_nonneg b k
  have hd := dg_lt b k
  have hr := hi_split r (i + k)
  have hr0 := dg_nonneg r (i + k)
  have hr1 := dg_lt r (i + k)
  have e : x * hi b k = 4294967296 * (x * hi b (k + 1)) + x * dg b k := by rw [hs]; grind
  have hp0 : 0 ≤ x * dg b k := Int.mul_nonneg hx0 hd0
  have hp : x * dg b k ≤ 4294967295 * 4294967295 := Int.mul_le_mul (by omega) (by omega) hd0 (by omega)
  have hdd : dg (r + x * b * 4294967296 ^ i) (i + k) = hi (r + x * b * 4294967296 ^ i) (i + k) % 4294967296 := rfl
  rw [hdd, ← Nat.add_assoc, hi_succ, h, e]
  generalize x * dg b k = u at *
  generalize x * hi b (k + 1) = v at *
  omega


/-! ### shifts -/
theorem pow_split {s : Nat} (hs : s < 32) : (2 : Int) ^ s * 2 ^ (32 - s) = 4294967296 ∧ 0 < (2 : Int) ^ s ∧ 0 < (2 : Int) ^ (32 - s) := by
  refine ⟨?_, Int.pow_pos (by omega), Int.pow_pos (by omega)⟩
  rw [← Int.pow_add, show s + (32 - s) = 32 by omega]
  rfl
theorem mul_emod_le {p t d : Int} (hp : 0 < p) (ht : 0 < t) : 0 ≤ d * p % (p * t) ∧ d * p % (p * t) ≤ p * t - p ∧ d * p % (p * t) = (d % t) * p := by
  have h1 : d * p % (p * t) = p * (d % t) := by rw [Int.mul_comm d p, Int.mul_emod_mul_of_pos _ _ hp]
  have h2 := Int.emod_nonneg d (show t ≠ 0 by omega)
  have h3 := Int.emod_lt_of_pos d ht
  rw [h1]
  have h4 : p * (d % t) ≤ p * (t - 1) := Int.mul_le_mul_of_nonneg_left (by omega) (by omega)
  rw [Int.mul_sub, Int.mul_one] at h4
  exact ⟨Int.mul_nonneg (by omega) h2, h4, Int.mul_comm _ _⟩
theorem raise_step {m p t c : Int} {i : Nat} (hpt : p * t = 4294967296) (hp : 0 < p) (ht : 0 < t) (h : hi (m * p) i = hi m i * p + c) (h0 : 0 ≤ c) (h1 : c < p) :
    dg (m * p) i = c + dg m i * p % 4294967296 ∧ hi (m * p) (i + 1) = hi m (i + 1) * p + dg m i * p / 4294967296 ∧ 0 ≤ dg m i * p / 4294967296 ∧ dg m i * p / 4294967296 < p ∧
      dg m i * p % 4294967296 = (dg m i % t) * p := by
  have hs := hi_split m i
  have hd0 := dg_nonneg m i
  have hd := dg_lt m i
  have e : hi m i * p = 4294967296 * (hi m (i + 1) * p) + dg m i * p := by rw [hs]; grind
  have hm := mul_emod_le (d := dg m i) hp ht
  rw [hpt] at hm
  have hdp : 0 ≤ dg m i * p := Int.mul_nonneg hd0 (by omega)
  have hlt : dg m i * p / 4294967296 < p := by
    apply Int.ediv_lt_of_lt_mul (by omega)
    rw [Int.mul_comm p]
    exact Int.mul_lt_mul_of_pos_right hd hp
  have hdd : dg (m * p) i = hi (m * p) i % 4294967296 := rfl
  rw [hdd, hi_succ, h, e]
  refine ⟨?_, ?_, by omega, hlt, hm.2.2⟩
  · generalize dg m i * p = u at *
    generalize hi m (i + 1) * p = v at *
    omega
  · generalize dg m i * p = u at *
    generalize hi m (i + 1) * p = v at *
    omega
theorem lower_step {n p t : Int} {i : Nat} (hpt : p * t = 4294967296) (hp : 0 < p) (ht : 0 < t) :
    dg (n / p) i = dg n i / p + dg n (i + 1) * t % 4294967296 ∧ dg n (i + 1) * t % 4294967296 = (dg n (i + 1) % p) * t ∧ dg n (i + 1) * 4294967296 / p = dg n (i + 1) * t ∧ 0 ≤ dg n i / p ∧ dg n i / p < t := by
  have h1 := hi_split n i
  have h2 := hi_split n (i + 1)
  have hd0 := dg_nonneg n i
  have hd := dg_lt n i
  have htp : t * p = 4294967296 := by rw [Int.mul_comm]; exact hpt
  have hm := mul_emod_le (d := dg n (i + 1)) ht hp
  rw [htp] at hm
  have e1 : hi n i = dg n i + p * (t * hi n (i + 1)) := by rw [h1, ← hpt]; grind
  have e2 : hi (n / p) i = dg n i / p + t * hi n (i + 1) := by
    rw [hi_div n p hp, e1, Int.add_mul_ediv_left _ _ (show p ≠ 0 by omega)]
  have e3 : t * hi n (i + 1) = 4294967296 * (t * hi n (i + 1 + 1)) + dg n (i + 1) * t := by
    have : t * hi n (i + 1) = t * (4294967296 * hi n (i + 1 + 1) + dg n (i + 1)) := by rw [← h2]
    rw [this]; grind
  have hq : dg n i / p < t := by
    apply Int.ediv_lt_of_lt_mul hp
    rw [htp]; exact hd
  have hq0 : 0 ≤ dg n i / p := Int.ediv_nonneg hd0 (by omega)
  refine ⟨?_, hm.2.2, ?_, hq0, hq⟩
  · have hdd : dg (n / p) i = hi (n / p) i % 4294967296 := rfl
    rw [hdd, e2, e3]
    generalize dg n (i + 1) * t = u at *
    generalize t * hi n (i + 1 + 1) = v at *
    omega
  · rw [← hpt, ← Int.mul_assoc, Int.mul_comm _ p, Int.mul_assoc, Int.mul_ediv_cancel_left _ (show p ≠ 0 by omega)]
theorem lower_last {n p : Int} {i : Nat} (hp : 0 < p) (h : hi n (i + 1) = 0) : dg (n / p) i = dg n i / p := by
  have h1 := hi_split n i
  have hd0 := dg_nonneg n i
  have hd := dg_lt n i
  rw [h, Int.mul_zero, Int.zero_add] at h1
  have hdd : dg (n / p) i = hi (n / p) i % 4294967296 := rfl
  rw [hdd, hi_div n p hp, h1]
  have h2 := Int.ediv_nonneg hd0 (show 0 ≤ p by omega)
  have h3 : dg n i / p ≤ dg n i := Int.ediv_le_self _ hd0
  omega

/-! ### the digit of a quotient -/
theorem pow_pos' (i : Nat) : 0 < (4294967296 : Int) ^ i := Int.pow_pos (by omega)
theorem low_lt {a : Int} : ∀ i, low a i < 4294967296 ^ i
  | 0 => by rw [low_zero]; exact pow_pos' 0
  | i + 1 => by
    rw [low_succ, Int.pow_succ]
    have h1 := low_lt (a := a) i
    have h2 := pow_pos' i
    have h3 : dg a i * 4294967296 ^ i ≤ 4294967295 * 4294967296 ^ i := Int.mul_le_mul_of_nonneg_right (by have := dg_lt a i; omega) (by omega)
    omega
theorem low_eq (a : Int) (i : Nat) : a = hi a i * 4294967296 ^ i + low a i := by unfold low; omega
theorem knuth_lo {U V Q : Int} (m : Nat) (hQ0 : 0 ≤ Q) (hQ : Q * V ≤ U) : Q * hi V m ≤ hi U m := by
  have h1 := low_eq U m
  have h2 := low_eq V m
  have h3 := low_lt (a := U) m
  have h4 := low_nonneg (a := V) m
  have hp := pow_pos' m
  generalize (4294967296 : Int) ^ m = p at *
  have h5 : Q * V = Q * hi V m * p + Q * low V m := by
    have : Q * V = Q * (hi V m * p + low V m) := by rw [← h2]
    rw [this]; grind
  have h6 : 0 ≤ Q * low V m := Int.mul_nonneg hQ0 h4
  have h7 : (Q * hi V m) * p < (hi U m + 1) * p := by rw [Int.add_mul, Int.one_mul]; omega
  have h8 := Int.lt_of_mul_lt_mul_right h7 (Int.le_of_lt hp)
  omega
theorem knuth_hi {U V q : Int} (m : Nat) (_hq0 : 0 ≤ q) (hq : q ≤ 4294967295) (hV : 4294967296 ≤ hi V m) (h : q * hi V m ≤ hi U m) : q * V < U + V := by
  have h1 := low_eq U m
  have h2 := low_eq V m
  have h3 := low_nonneg (a := U) m
  have h4 := low_nonneg (a := V) m
  have h4' := low_lt (a := V) m
  have hp := pow_pos' m
  generalize (4294967296 : Int) ^ m = p at *
  have h5 : q * V = q * hi V m * p + q * low V m := by
    have : q * V = q * (hi V m * p + low V m) := by rw [← h2]
    rw [this]; grind
  have h6 : q * low V m ≤ 4294967295 * p := Int.mul_le_mul hq (by omega) h4 (by omega)
  have h7 : (q * hi V m) * p ≤ hi U m * p := Int.mul_le_mul_of_nonneg_right h (by omega)
  have h8 : 4294967296 * p ≤ hi V m * p := Int.mul_le_mul_of_nonneg_right hV (by omega)
  omega
theorem hi_neg {n : Int} (h : n < 0) : ∀ i, hi n i < 0
  | 0 => h
  | i + 1 => by have := hi_neg h i; rw [hi_succ]; omega
/-- The loop that makes the estimate smaller. -/
theorem knuth_dec {U V Q q rest v1 v2 high u2 : Int} {m : Nat} (hQ : Q * hi V m ≤ hi U m) (hv : hi V m = v1 * 4294967296 + v2) (hu : hi U m = high * 4294967296 + u2)
    (hq : q * v1 + rest = high) (h : rest * 4294967296 + u2 < q * v2) (hV : 0 ≤ hi V m) : Q < q := by
  have h1 : q * hi V m = q * v1 * 4294967296 + q * v2 := by rw [hv]; grind
  have h2 : hi U m = q * v1 * 4294967296 + rest * 4294967296 + u2 := by rw [hu, ← hq]; grind
  have h3 : Q * hi V m < q * hi V m := by omega
  exact Int.lt_of_mul_lt_mul_right h3 hV
theorem knuth_end {U V q rest v1 v2 high u2 : Int} {m : Nat} (hv : hi V m = v1 * 4294967296 + v2) (hu : hi U m = high * 4294967296 + u2)
    (hq : q * v1 + rest = high) (h : q * v2 ≤ rest * 4294967296 + u2) : q * hi V m ≤ hi U m := by
  have h1 : q * hi V m = q * v1 * 4294967296 + q * v2 := by rw [hv]; grind
  have h2 : hi U m = q * v1 * 4294967296 + rest * 4294967296 + u2 := by rw [hu, ← hq]; grind
  omega
theorem mod_of {U V q : Int} (hV : 0 < V) (h0 : 0 ≤ U - V * q) (h1 : U / V ≤ q) : q = U / V ∧ U - V * q = U % V := by
  have h2 : q ≤ U / V := by
    apply (Int.le_ediv_iff_mul_le hV).2
    rw [Int.mul_comm]; omega
  have h3 : q = U / V := by omega
  refine ⟨h3, ?_⟩
  rw [h3]
  have := Int.emod_add_mul_ediv U V
  omega
theorem mod_of_back {U V q : Int} (hV : 0 < V) (h0 : U - V * q < 0) (h1 : q * V < U + V) : q - 1 = U / V ∧ U - V * q + V = U % V := by
  have h2 : q - 1 ≤ U / V := by
    apply (Int.le_ediv_iff_mul_le hV).2
    rw [Int.sub_mul, Int.one_mul]; omega
  have h3 : U / V < q := by
    apply Int.ediv_lt_of_lt_mul hV
    rw [Int.mul_comm]; omega
  have h4 : q - 1 = U / V := by omega
  refine ⟨h4, ?_⟩
  have h5 := Int.emod_add_mul_ediv U V
  rw [← h4, Int.mul_sub, Int.mul_one] at h5
  omega
end Go.Proofs.YtgopfikljndklaaDoor
