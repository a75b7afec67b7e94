/- The contracts on rationals that the printed walks use. -/
import Derived.Test.YtgopfikljndklaaDoorGen3
namespace Go.Proofs.YtgopfikljndklaaDoor
open Go.RowKit

theorem sgn_eq_zero {z : Int} : sgn z = 0 ↔ z = 0 := by
  unfold sgn
  by_cases h : z < 0
  · rw [if_pos h]; omega
  · rw [if_neg h]
    by_cases h2 : z = 0
    · simp [h2]
    · rw [if_neg h2]; omega
theorem whole_i {k : Nat} {c0 c1 c2 c3 : Value} {q : Rat} {w : World} (h : IsRat w k c0 c1 c2 c3 q) (hk : k ≤ 1000000) :
    Calls Tryd.prog 59 #[.agg #[c0, c1, c2, c3]] w fun e w' => e = .returned (.bool (decide (q.den = 1))) ∧ Gr w w' := by
  obtain ⟨D, h2, h3⟩ := h.den
  have hp := q.den_pos
  rcases h3 with h3 | ⟨h3, h4⟩
  · have e : (sgn (D - 1) == 0) = decide (q.den = 1) := by
      rw [Bool.eq_iff_iff, beq_iff_eq, sgn_eq_zero, decide_eq_true_iff]; omega
    have := whole_p (c0 := c0) (c1 := c1) h2 (by omega) hk
    rw [e] at this
    exact this
  · subst h3
    have e : decide (q.den = 1) = true := by simpa using h4
    rw [e]
    exact whole_z h2
theorem whole_t {k : Nat} {c0 c1 c2 c3 : Value} {q : Rat} {w : World} (h : IsRat w k c0 c1 c2 c3 q) (hk : k ≤ 1000000) (hq : q.den = 1) :
    Calls Tryd.prog 59 #[.agg #[c0, c1, c2, c3]] w fun e w' => e = .returned (.bool true) ∧ Gr w w' := by
  have := whole_i h hk
  rw [decide_eq_true hq] at this
  exact this
theorem whole_f {k : Nat} {c0 c1 c2 c3 : Value} {q : Rat} {w : World} (h : IsRat w k c0 c1 c2 c3 q) (hk : k ≤ 1000000) (hq : q.den ≠ 1) :
    Calls Tryd.prog 59 #[.agg #[c0, c1, c2, c3]] w fun e w' => e = .returned (.bool false) ∧ Gr w w' := by
  have := whole_i h hk
  rw [decide_eq_false hq] at this
  exact this
theorem den_i {k : Nat} {c0 c1 c2 c3 : Value} {q : Rat} {w : World} (h : IsRat w k c0 c1 c2 c3 q) :
    Calls Tryd.prog 47 #[.agg #[c0, c1, c2, c3]] w fun e w' => (∃ x' y', e = .returned (.agg #[x', y']) ∧ IsInt w' k x' y' (q.den : Int)) ∧ Gr w w' := by
  obtain ⟨D, h2, h3⟩ := h.den
  have hp := q.den_pos
  rcases h3 with h3 | ⟨h3, h4⟩
  · subst h3
    exact den_p h2 (by omega)
  · subst h3
    refine (den_z (c0 := c0) (c1 := c1) h2).mono ?_
    rintro e w1 ⟨⟨x, y, he, hi⟩, g⟩
    rw [h4]
    exact ⟨⟨x, y, he, hi.mono h.big⟩, g⟩
theorem add_e {k m : Nat} (n : Nat) {x y x2 y2 : Value} {z u : Int} {w : World} (hz : IsInt w k x y z) (hu : IsInt w m x2 y2 u) (h1 : k ≤ n) (h2 : m ≤ n) (hk : 2 * n + 1 ≤ 1000000) :
    Calls Tryd.prog 65 #[.agg #[x, y], .agg #[x2, y2]] w fun e w' => (∃ x' y', e = .returned (.agg #[x', y']) ∧ IsInt w' (n + 1) x' y' (z + u)) ∧ Gr w w' := by
  refine (add_i (hz.mono h1) (hu.mono h2) (by omega)).mono ?_
  rintro e w1 ⟨⟨x, y, he, hi⟩, g⟩
  exact ⟨⟨x, y, he, hi.resz ((hz.sz.mono h1).add' (hu.sz.mono h2))⟩, g⟩

theorem reduced_i {k m : Nat} (K : Nat) {n0 n1 d0 d1 : Value} {N D : Int} {w : World} (hn : IsInt w k n0 n1 N) (hd : IsInt w m d0 d1 D) (h0 : 0 < D) (h1 : k ≤ K) (h2 : m ≤ K) (h3 : 64 ≤ K) (h4 : 8 * K ≤ 1000000) :
    Calls Tryd.prog 52 #[.agg #[n0, n1], .agg #[d0, d1]] w fun e w' => (∃ c0 c1 c2 c3, e = .returned (.agg #[c0, c1, c2, c3]) ∧ IsRat w' K c0 c1 c2 c3 (Rat.divInt N D)) ∧ Gr w w' := by
  have hN := hn.mono h1
  have hD := hd.mono h2
  have en : (Rat.divInt N D).num = N / (Int.gcd N D : Int) := by
    rw [Rat.num_divInt, Int.sign_eq_one_of_pos h0, Int.one_mul, Int.gcd_comm]
  have ed : ((Rat.divInt N D).den : Int) = D / (Int.gcd N D : Int) := by
    rw [Rat.den_divInt, if_neg (by omega), Int.gcd_comm, Int.natCast_ediv]
    congr 1
    omega
  have hg0 : 0 < (Int.gcd N D : Int) := by
    have : Int.gcd N D ≠ 0 := by rw [Ne, Int.gcd_eq_zero_iff]; omega
    omega
  by_cases hg : (Int.gcd N D : Int) = 1
  · refine (reduced_p1 hN hD (by omega) h0 (by rw [hg]; rfl)).mono ?_
    rintro e w1 ⟨⟨x, y, x2, y2, he, hi, hi2⟩, g⟩
    rw [hg, Int.ediv_one] at en ed
    exact ⟨⟨x, y, x2, y2, he, by rw [en]; exact hi, ⟨D, hi2, .inl ed.symm⟩, h3⟩, g⟩
  · have hb : (sgn ((Int.gcd N D : Int) - 1) != 0) = true := by
      have : sgn ((Int.gcd N D : Int) - 1) ≠ 0 := fun h => hg (by have := sgn_eq_zero.1 h; omega)
      simpa using this
    refine (reduced_pg hN hD (by omega) h0 hb ⟨hg0, Int.gcd_dvd_left ..⟩ ⟨hg0, Int.gcd_dvd_right ..⟩).mono ?_
    rintro e w1 ⟨⟨x, y, x2, y2, he, hi, hi2⟩, g⟩
    exact ⟨⟨x, y, x2, y2, he, by rw [en]; exact hi, ⟨_, hi2, .inl ed.symm⟩, h3⟩, g⟩

theorem rat_add (a b : Rat) : Rat.divInt (a.num * b.den + b.num * a.den) (a.den * b.den) = a + b := by
  have := Rat.divInt_add_divInt a.num b.num (d₁ := a.den) (d₂ := b.den) (by have := a.den_pos; omega) (by have := b.den_pos; omega)
  rw [Rat.num_divInt_den, Rat.num_divInt_den] at this
  exact this.symm
theorem rat_mul (a b : Rat) : Rat.divInt (a.num * b.num) (a.den * b.den) = a * b := by
  have := Rat.divInt_mul_divInt a.num b.num (d₁ := a.den) (d₂ := b.den)
  rw [Rat.num_divInt_den, Rat.num_divInt_den] at this
  exact this.symm
theorem rat_int {q : Rat} (h : q.den = 1) : ((q.num : Int) : Rat) = q := by
  apply Rat.ext
  · exact Rat.num_intCast _
  · rw [h]; exact Rat.den_intCast _
theorem rat_div (a b : Rat) : Rat.divInt (a.num * b.den) (a.den * b.num) = a / b := by
  rw [Rat.div_def, Rat.inv_def]
  have := Rat.divInt_mul_divInt a.num b.den (d₁ := a.den) (d₂ := b.num)
  rw [Rat.num_divInt_den] at this
  exact this.symm
theorem IsRat.neg {w : World} {k : Nat} {c0 c1 c2 c3 x y : Value} {q : Rat} (h : IsRat w k c0 c1 c2 c3 q) (hi : IsInt w k x y (-q.num)) : IsRat w k x y c2 c3 (-q) := by
  obtain ⟨D, h2, h3⟩ := h.den
  exact ⟨hi, ⟨D, h2, h3⟩, h.big⟩
/-- the order of two rationals -/
def rcmp (a b : Rat) : Int := sgn (a.num * b.den - b.num * a.den)
theorem rcmp_int {a b : Rat} (ha : a.den = 1) (hb : b.den = 1) : rcmp a b = sgn (a.num - b.num) := by
  unfold rcmp; rw [ha, hb]; simp
theorem rcmp_zero {a b : Rat} : rcmp a b = 0 ↔ a = b := by
  unfold rcmp
  rw [sgn_eq_zero]
  constructor
  · intro h
    rw [← Rat.num_divInt_den a, ← Rat.num_divInt_den b]
    rw [Rat.divInt_eq_divInt_iff (by have := a.den_pos; omega) (by have := b.den_pos; omega)]
    omega
  · rintro rfl; omega
end Go.Proofs.YtgopfikljndklaaDoor
