/- The law of the long division, in plain Lean. -/
import Derived.Test.YtgopfikljndklaaDoorNum
import Derived.Lib.BitFns
namespace Go.Proofs.YtgopfikljndklaaDoor

theorem bitLenAux_bounds : ∀ (f x : Nat), 0 < x → x < 2 ^ f → ∃ L, Lib.bitLenAux f x = L + 1 ∧ 2 ^ L ≤ x ∧ x < 2 ^ (L + 1)
  | 0, x, h0, h1 => by simp at h1; omega
  | f + 1, x, h0, h1 => by
    by_cases h : x = 1
    · subst h
      refine ⟨0, ?_, by simp, by simp⟩
      cases f <;> simp [Lib.bitLenAux]
    · obtain ⟨L, e1, e2, e3⟩ := bitLenAux_bounds f (x / 2) (by omega) (by rw [Nat.pow_succ] at h1; omega)
      refine ⟨L + 1, ?_, by rw [Nat.pow_succ]; omega, by rw [Nat.pow_succ]; omega⟩
      simp only [Lib.bitLenAux, show ¬ x = 0 by omega, if_false, e1]; omega
theorem leadz {x : Int} (h0 : 0 < x) (h1 : x < 4294967296) : ∃ s : Nat, s < 32 ∧ 32 - (Lib.bitLen x.toNat : Int) = s ∧ 2147483648 ≤ x * 2 ^ s ∧ x * 2 ^ s < 4294967296 := by
  obtain ⟨n, rfl⟩ := Int.eq_ofNat_of_zero_le (Int.le_of_lt h0)
  have h4 := Lib.bitLen_le n 32 (by omega) (by omega)
  obtain ⟨L, e1, e2, e3⟩ := bitLenAux_bounds 64 n (by omega) (by omega)
  have e4 : Lib.bitLen n = L + 1 := e1
  refine ⟨31 - L, by omega, by simp only [Int.toNat_natCast]; omega, ?_⟩
  have e5 : 2 ^ L * 2 ^ (31 - L) = 2147483648 := by rw [← Nat.pow_add, show L + (31 - L) = 31 by omega]
  have e6 : 2 ^ (L + 1) * 2 ^ (31 - L) = 4294967296 := by rw [← Nat.pow_add, show L + 1 + (31 - L) = 32 by omega]
  have p : 0 < 2 ^ (31 - L) := Nat.pow_pos (by omega)
  have e7 := Nat.mul_le_mul_right (2 ^ (31 - L)) e2
  have e8 := Nat.mul_lt_mul_of_pos_right e3 p
  have e9 : ((n : Int) * 2 ^ (31 - L)) = ((n * 2 ^ (31 - L) : Nat) : Int) := by simp
  rw [e9]; omega

theorem hi_mul_bounds (b : Int) {p : Int} (hp : 0 < p) : ∀ k, hi b k * p ≤ hi (b * p) k ∧ hi (b * p) k < (hi b k + 1) * p
  | 0 => by rw [hi_zero, hi_zero, Int.add_mul]; omega
  | k + 1 => by
    have h := hi_mul_bounds b hp k
    have hs := hi_split b k
    have d0 := dg_nonneg b k
    have d1 := dg_lt b k
    rw [hi_succ (b * p)]
    have e1 : hi b k * p = 4294967296 * (hi b (k + 1) * p) + dg b k * p := by rw [hs]; grind
    have e2 : (hi b k + 1) * p = 4294967296 * (hi b (k + 1) * p) + (dg b k + 1) * p := by rw [hs]; grind
    have e3 : (hi b (k + 1) + 1) * p = hi b (k + 1) * p + p := by grind
    have e4 : 0 ≤ dg b k * p := Int.mul_nonneg d0 (by omega)
    have e5 : (dg b k + 1) * p ≤ 4294967296 * p := Int.mul_le_mul_of_nonneg_right (by omega) (by omega)
    rw [e1, e2] at h
    rw [e3]
    omega
/-- the divisor, its top digit made great -/
theorem norm_nl {b : Int} {m s : Nat} (hb : NL b (m + 1)) (h1 : 2147483648 ≤ dg b m * 2 ^ s) (h2 : dg b m * 2 ^ s < 4294967296) (hs : s < 32) : NL (b * 2 ^ s) (m + 1) ∧ 2147483648 ≤ dg (b * 2 ^ s) m := by
  have hp : (0 : Int) < 2 ^ s := Int.pow_pos (by omega)
  have ht := hb.topdig (by omega)
  simp only [Nat.add_sub_cancel] at ht
  have h3 := hi_mul_bounds b hp m
  rw [← ht.1] at h3
  obtain ⟨hp1, _, hp3⟩ := pow_split hs
  have h4 : (dg b m + 1) * 2 ^ s ≤ 4294967296 := by
    rw [← hp1, Int.mul_comm (2 ^ s)] at h2
    have h5 := Int.lt_of_mul_lt_mul_right h2 (Int.le_of_lt hp)
    rw [← hp1, Int.mul_comm (2 ^ s)]
    exact Int.mul_le_mul_of_nonneg_right (by omega) (Int.le_of_lt hp)
  have h6 : hi (b * 2 ^ s) (m + 1) = 0 := by rw [hi_succ]; omega
  have h7 := hi_split (b * 2 ^ s) m
  rw [h6] at h7
  exact ⟨⟨Int.mul_nonneg hb.nonneg (by omega), h6, fun _ => by simp only [Nat.add_sub_cancel]; omega⟩, by omega⟩
theorem NL.uniq {n : Int} {k m : Nat} (h : NL n k) (g : NL n m) : k = m := by
  rcases Nat.lt_trichotomy k m with e | e | e
  · exact absurd (hi_ge h.top (by omega)) (g.full (by omega))
  · exact e
  · exact absurd (hi_ge g.top (by omega)) (h.full (by omega))
/-- the window of the rest, one digit further down -/
def win (U V : Int) (i : Nat) : Int := hi U (i + 1) % V * 4294967296 + dg U i
theorem win_hi (U V : Int) (i : Nat) : hi (win U V i) 1 = hi U (i + 1) % V := by
  have d0 := dg_nonneg U i
  have d1 := dg_lt U i
  unfold win
  rw [hi_succ, hi_zero]; omega
theorem win_dg0 (U V : Int) (i : Nat) : dg (win U V i) 0 = dg U i := by
  have d0 := dg_nonneg U i
  have d1 := dg_lt U i
  have : dg (win U V i) 0 = win U V i % 4294967296 := rfl
  rw [this]; unfold win; omega
theorem win_dgs (U V : Int) (i k : Nat) : dg (win U V i) (k + 1) = dg (hi U (i + 1) % V) k := by
  unfold dg
  rw [Nat.add_comm k 1, hi_add, win_hi]
theorem win_lt (U : Int) {V : Int} (hV : 0 < V) (i : Nat) : win U V i < V * 4294967296 ∧ 0 ≤ win U V i := by
  have d0 := dg_nonneg U i
  have d1 := dg_lt U i
  have h1 := Int.emod_nonneg (hi U (i + 1)) (show V ≠ 0 by omega)
  have h2 := Int.emod_lt_of_pos (hi U (i + 1)) hV
  unfold win; omega
theorem win_top (U : Int) {V : Int} {n : Nat} (hV : 0 < V) (hn : hi V n = 0) (i : Nat) : hi (win U V i) (n + 1) = 0 := by
  have h1 := Int.emod_nonneg (hi U (i + 1)) (show V ≠ 0 by omega)
  have h2 := Int.emod_lt_of_pos (hi U (i + 1)) hV
  rw [Nat.add_comm, hi_add, win_hi]
  have h3 := hi_mono (Int.le_of_lt h2) n
  have h4 := hi_nonneg h1 n
  omega
theorem win_div (U : Int) {V : Int} (hV : 0 < V) (i : Nat) : win U V i / V = dg (U / V) i ∧ win U V i % V = hi U i % V := by
  have hs := hi_split U i
  have hd0 := dg_nonneg U i
  have hd := dg_lt U i
  have hlt := win_lt U hV i
  have e1 : hi U i = win U V i + V * (4294967296 * (hi U (i + 1) / V)) := by
    have := Int.emod_add_mul_ediv (hi U (i + 1)) V
    unfold win; rw [hs]; grind
  have e2 : hi (U / V) i = win U V i / V + 4294967296 * (hi U (i + 1) / V) := by
    rw [hi_div U V hV, e1, Int.add_mul_ediv_left _ _ (show V ≠ 0 by omega)]
  have h4 : win U V i / V < 4294967296 := Int.ediv_lt_of_lt_mul hV (by rw [Int.mul_comm]; exact hlt.1)
  have h5 : 0 ≤ win U V i / V := Int.ediv_nonneg hlt.2 (by omega)
  have hdd : dg (U / V) i = hi (U / V) i % 4294967296 := rfl
  refine ⟨by rw [hdd, e2]; omega, ?_⟩
  rw [e1, Int.add_mul_emod_self_left]
/-- the first window -/
theorem first_lt {a b p : Int} {q m : Nat} (ha : hi a (q + (m + 1)) = 0) (hb : NL b (m + 1)) (hp : 0 < p) : hi (a * p) (q + 1) < b * p := by
  have hbt := hb.full (by omega)
  simp only [Nat.add_sub_cancel] at hbt
  have hb1 := hi_nonneg hb.nonneg m
  have h2 := (hi_mul_bounds a hp (q + 1)).2
  have h3 : hi a (q + 1) < b := by
    rcases Int.lt_or_le (hi a (q + 1)) b with h | h
    · exact h
    · have h4 := hi_mono h m
      rw [← hi_add, show q + 1 + m = q + (m + 1) by omega, ha] at h4
      omega
  have h5 : (hi a (q + 1) + 1) * p ≤ b * p := Int.mul_le_mul_of_nonneg_right (by omega) (by omega)
  omega
end Go.Proofs.YtgopfikljndklaaDoor
