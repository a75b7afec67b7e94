/- The contracts of DivMod and Compare. -/
import Derived.Test.YtgopfikljndklaaDoorGen2
namespace Go.Proofs.YtgopfikljndklaaDoor
open Go.RowKit

theorem divmod_i {k m : Nat} {x y x2 y2 : Value} {z u : Int} {w : World} (hz : IsInt w k x y z) (hu : IsInt w m x2 y2 u) (hu0 : 0 < u) (hkm : k + k + m + m + 66 ≤ 1000000) :
    Calls Tryd.prog 45 #[.agg #[x, y], .agg #[x2, y2]] w fun e w' => (∃ x' y' x3 y3, e = .returned (.tuple #[.agg #[x', y'], .agg #[x3, y3], .int .i64 0]) ∧ IsInt w' k x' y' (z / u) ∧ IsInt w' m x3 y3 (z % u)) ∧ Gr w w' := by
  have hu' := hu
  obtain ⟨ao, la, ca, rfl, rfl, ha, hs⟩ := hz
  obtain ⟨bo, lb, cb, rfl, rfl, hb, ht⟩ := hu
  have hla := ha.nl.len_sz hs.nat
  have hlb := hb.nl.len_sz ht.nat
  have e0 : ((u.natAbs : Nat) : Int) = u := by omega
  have e1 : decide (u < 0) = false := by simp; omega
  rw [e1] at hu' ⊢
  rw [e0] at hb
  have hM := Int.emod_nonneg (z.natAbs : Int) (b := u) (by omega)
  have hL := Int.emod_lt_of_pos (z.natAbs : Int) hu0
  have hQ : 0 ≤ (z.natAbs : Int) / u := Int.ediv_nonneg (by omega) (by omega)
  have hD := Int.mul_ediv_add_emod (z.natAbs : Int) u
  have hqle : (z.natAbs : Int) / u ≤ (z.natAbs : Int) := Int.ediv_le_self _ (by omega)
  have hkk : Sz k (z / u) := by
    refine hs.of_le ?_
    rcases Int.lt_or_le z 0 with h | h
    · have h1 : z ≤ z / u := by
        rw [Int.le_ediv_iff_mul_le hu0]
        have : z * u ≤ z * 1 := Int.mul_le_mul_of_nonpos_left (by omega) (by omega)
        omega
      have h2 : z / u < 0 := Int.ediv_neg_of_neg_of_pos h hu0
      omega
    · have h1 : z / u ≤ z := Int.ediv_le_self _ h
      have h2 : 0 ≤ z / u := Int.ediv_nonneg h (by omega)
      omega
  have hmm : Sz m (z % u) := by
    refine ht.of_le ?_
    have := Int.emod_nonneg z (b := u) (by omega)
    have := Int.emod_lt_of_pos z hu0
    omega
  -- z in terms of its magnitude
  have key : ∀ q r : Int, z = u * q + r → 0 ≤ r → r < u → z / u = q ∧ z % u = r := fun q r h h0 h1 => by
    rw [Int.ediv_emod_unique hu0]
    exact ⟨by omega, h0, h1⟩
  by_cases h0 : (z.natAbs : Int) % u = 0
  · have hk := key (if z < 0 then -((z.natAbs : Int) / u) else (z.natAbs : Int) / u) 0 (by
      split
      · rw [Int.mul_neg]; omega
      · omega) (by omega) hu0
    refine (divmod_0 (Z := z / u) (K := k) ha hb hu' (by omega) (by omega) hu0 h0 ?_ (fun hp => ?_) hkk (by omega) (by omega)).mono ?_
    · rw [hk.1]; split <;> omega
    · rw [hk.1]
      by_cases hz0 : z < 0
      · simp [hz0]; omega
      · simp [hz0]; omega
    · rintro e w1 ⟨⟨x', y', x3, y3, he, h1, h2⟩, g⟩
      exact ⟨⟨x', y', x3, y3, he, h1, by rw [hk.2]; exact h2⟩, g⟩
  · by_cases hz0 : z < 0
    · have e2 : decide (z < 0) = true := by simpa using hz0
      rw [e2]
      have hk := key (-((z.natAbs : Int) / u) - 1) (-((z.natAbs : Int) % u) + u) (by
        rw [Int.mul_sub, Int.mul_neg]; omega) (by omega) (by omega)
      refine (divmod_t (K := k) ha hb hu' (by omega) (by omega) hu0 (by omega) hL hQ (hs.of_le (by omega)) (by omega) (by omega)).mono ?_
      rintro e w1 ⟨⟨x', y', x3, y3, he, h1, h2⟩, g⟩
      rw [← hk.1] at h1
      rw [← hk.2] at h2
      exact ⟨⟨x', y', x3, y3, he, h1.resz hkk, h2.resz hmm⟩, g⟩
    · have e2 : decide (z < 0) = false := by simpa using hz0
      rw [e2]
      have ez : (z.natAbs : Int) = z := by omega
      refine (divmod_f (K := k) ha hb hu' (by omega) (by omega) hu0 (by omega) hL hQ (by rw [ez]; exact hkk) (by omega) (by omega)).mono ?_
      rintro e w1 ⟨⟨x', y', x3, y3, he, h1, h2⟩, g⟩
      rw [ez] at h1 h2
      exact ⟨⟨x', y', x3, y3, he, h1, h2⟩, g⟩

theorem compare_i {k m : Nat} {x y x2 y2 : Value} {z u : Int} {w : World} (hz : IsInt w k x y z) (hu : IsInt w m x2 y2 u) (hk : k ≤ 1000000) (hm : m ≤ 1000000) :
    Calls Tryd.prog 68 #[.agg #[x, y], .agg #[x2, y2]] w fun e w' => e = .returned (.int .i64 (sgn (z - u))) ∧ Gr w w' := by
  obtain ⟨ao, la, ca, rfl, rfl, ha, hs⟩ := hz
  obtain ⟨bo, lb, cb, rfl, rfl, hb, ht⟩ := hu
  have hla := ha.nl.len_sz hs.nat
  have hlb := hb.nl.len_sz ht.nat
  by_cases h1 : z < 0 <;> by_cases h2 : u < 0
  · have d1 : decide (z < 0) = true := by simpa using h1
    have d2 : decide (u < 0) = true := by simpa using h2
    rw [d1, d2]
    have e : z - u = (u.natAbs : Int) - (z.natAbs : Int) := by omega
    rw [e]; exact cmp_tt ha hb (by omega) (by omega)
  · have d1 : decide (z < 0) = true := by simpa using h1
    have d2 : decide (u < 0) = false := by simpa using h2
    rw [d1, d2, sgn_neg (by omega)]; exact cmp_tf ha hb (by omega) (by omega)
  · have d1 : decide (z < 0) = false := by simpa using h1
    have d2 : decide (u < 0) = true := by simpa using h2
    rw [d1, d2, sgn_pos (by omega)]; exact cmp_ft ha hb (by omega) (by omega)
  · have d1 : decide (z < 0) = false := by simpa using h1
    have d2 : decide (u < 0) = false := by simpa using h2
    rw [d1, d2]
    have e : z - u = (z.natAbs : Int) - (u.natAbs : Int) := by omega
    rw [e]; exact cmp_ff ha hb (by omega) (by omega)

/-! ### rationals -/
/-- the four cells of a rational -/
structure IsRat (w : World) (k : Nat) (c0 c1 c2 c3 : Value) (q : Rat) : Prop where
  num : IsInt w k c0 c1 q.num
  den : ∃ D, IsInt w k c2 c3 D ∧ (D = (q.den : Int) ∨ D = 0 ∧ q.den = 1)
  big : 64 ≤ k
theorem IsRat.kp {w w' : World} {k : Nat} {c0 c1 c2 c3 : Value} {q : Rat} (h : IsRat w k c0 c1 c2 c3 q) (hb : Kp w w') : IsRat w' k c0 c1 c2 c3 q := by
  obtain ⟨h1, ⟨D, h2, h3⟩, h4⟩ := h
  exact ⟨h1.kp hb, ⟨D, h2.kp hb, h3⟩, h4⟩
theorem IsRat.gr {w w' : World} {k : Nat} {c0 c1 c2 c3 : Value} {q : Rat} (h : IsRat w k c0 c1 c2 c3 q) (hb : Gr w w') : IsRat w' k c0 c1 c2 c3 q := h.kp hb.kp
theorem IsRat.one0 {w : World} {k : Nat} {c0 c1 c2 c3 : Value} {q : Rat} (h : IsRat w k c0 c1 c2 c3 q) : c0.oneCell' = true := h.num.one0
theorem IsRat.one1 {w : World} {k : Nat} {c0 c1 c2 c3 : Value} {q : Rat} (h : IsRat w k c0 c1 c2 c3 q) : c1.oneCell' = true := h.num.one1
theorem IsRat.one2 {w : World} {k : Nat} {c0 c1 c2 c3 : Value} {q : Rat} (h : IsRat w k c0 c1 c2 c3 q) : c2.oneCell' = true := by
  obtain ⟨D, h2, _⟩ := h.den; exact h2.one0
theorem IsRat.one3 {w : World} {k : Nat} {c0 c1 c2 c3 : Value} {q : Rat} (h : IsRat w k c0 c1 c2 c3 q) : c3.oneCell' = true := by
  obtain ⟨D, h2, _⟩ := h.den; exact h2.one1
theorem IsRat.mono {w : World} {k m : Nat} {c0 c1 c2 c3 : Value} {q : Rat} (h : IsRat w k c0 c1 c2 c3 q) (hk : k ≤ m) : IsRat w m c0 c1 c2 c3 q := by
  obtain ⟨h1, ⟨D, h2, h3⟩, h4⟩ := h
  exact ⟨h1.mono hk, ⟨D, h2.mono hk, h3⟩, Nat.le_trans h4 hk⟩
theorem IsRat.zero (w : World) {k : Nat} (hk : 64 ≤ k) : IsRat w k (.bool false) (.slice none 0 0) (.bool false) (.slice none 0 0) 0 :=
  ⟨IsInt.zero w k, ⟨0, IsInt.zero w k, .inr ⟨rfl, rfl⟩⟩, hk⟩
theorem IsRat.int {w : World} {k : Nat} {c0 c1 : Value} {z : Int} (h : IsInt w k c0 c1 z) (hk : 64 ≤ k) : IsRat w k c0 c1 (.bool false) (.slice none 0 0) (z : Rat) :=
  ⟨h, ⟨0, IsInt.zero w k, .inr ⟨rfl, rfl⟩⟩, hk⟩
end Go.Proofs.YtgopfikljndklaaDoor
