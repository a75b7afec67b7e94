/- What a primitive vector is made of: plain facts. -/
import Derived.Test.YtgopfikljndklaaDoorGen8
namespace Go.Proofs.YtgopfikljndklaaDoor
open Go.RowKit

/-- the least common multiple of d and x, as the code takes it -/
def lcmS (d x : Int) : Int := d / (Int.gcd d x : Int) * x
theorem gcd_ex (d : Int) (q : Rat) : 0 < (Int.gcd d (q.den : Int) : Int) ∧ (Int.gcd d (q.den : Int) : Int) ∣ d := by
  have := q.den_pos
  refine ⟨?_, Int.gcd_dvd_left ..⟩
  have : Int.gcd d (q.den : Int) ≠ 0 := by rw [Ne, Int.gcd_eq_zero_iff]; omega
  omega
theorem lcmS_pos {d : Int} (q : Rat) (h : 0 < d) : 0 < lcmS d (q.den : Int) := by
  have := q.den_pos
  obtain ⟨h1, h2⟩ := gcd_ex d q
  obtain ⟨c, hc⟩ := h2
  unfold lcmS
  refine Int.mul_pos ?_ (by omega)
  have : d / (Int.gcd d (q.den : Int) : Int) = c := by
    conv => lhs; lhs; rw [hc]
    exact Int.mul_ediv_cancel_left c (by omega)
  rw [this]
  rcases Int.lt_or_le 0 c with h3 | h3
  · exact h3
  · have := Int.mul_nonpos_of_nonneg_of_nonpos (Int.le_of_lt h1) h3; omega
def pden (a1 a2 a3 : Rat) : Int := lcmS (lcmS (lcmS 1 (a1.den : Int)) (a2.den : Int)) (a3.den : Int)
theorem pden_pos (a1 a2 a3 : Rat) : 0 < pden a1 a2 a3 := lcmS_pos _ (lcmS_pos _ (lcmS_pos _ (by omega)))
def pgcd (a1 a2 a3 : Rat) : Int :=
  (Int.gcd (Int.gcd (Int.gcd 0 (Rat.divInt (pden a1 a2 a3) 1 * a1).num : Int) (Rat.divInt (pden a1 a2 a3) 1 * a2).num : Int) (Rat.divInt (pden a1 a2 a3) 1 * a3).num : Int)
theorem rat_num0 {q : Rat} : q.num = 0 ↔ q = 0 := Rat.num_eq_zero
theorem rat_pden {d : Int} (h : 0 < d) : Rat.divInt d 1 ≠ 0 := by
  intro e
  rw [← Rat.num_eq_zero] at e
  rw [Rat.num_divInt] at e
  simp at e
  omega
theorem pgcd_pos {a1 a2 a3 : Rat} (h : ¬(a1 = 0 ∧ a2 = 0 ∧ a3 = 0)) : 0 < pgcd a1 a2 a3 := by
  have h0 : 0 ≤ pgcd a1 a2 a3 := Int.natCast_nonneg _
  have hd := rat_pden (pden_pos a1 a2 a3)
  rcases Int.lt_or_le 0 (pgcd a1 a2 a3) with h1 | h1
  · exact h1
  · exfalso
    apply h
    have e : pgcd a1 a2 a3 = 0 := by omega
    unfold pgcd at e
    have e1 := Int.gcd_eq_zero_iff.1 (Int.natCast_eq_zero.1 e)
    have e2 := Int.gcd_eq_zero_iff.1 (Int.natCast_eq_zero.1 e1.1)
    have e3 := Int.gcd_eq_zero_iff.1 (Int.natCast_eq_zero.1 e2.1)
    have z : ∀ a : Rat, (Rat.divInt (pden a1 a2 a3) 1 * a).num = 0 → a = 0 := fun a ha => by
      rw [Rat.num_eq_zero] at ha
      rcases Rat.mul_eq_zero.1 ha with h2 | h2
      · exact absurd h2 hd
      · exact h2
    exact ⟨z _ e3.2, z _ e2.2, z _ e1.2⟩
/-- a coordinate of the primitive vector -/
def prim (a1 a2 a3 x : Rat) : Rat := Rat.divInt 1 (pgcd a1 a2 a3) * (Rat.divInt (pden a1 a2 a3) 1 * x)
/-- the factor -/
def pfac (a1 a2 a3 : Rat) : Rat := Rat.divInt 1 (pgcd a1 a2 a3) * Rat.divInt (pden a1 a2 a3) 1
theorem prim_fac (a1 a2 a3 x : Rat) : prim a1 a2 a3 x = pfac a1 a2 a3 * x := by unfold prim pfac; rw [Rat.mul_assoc]
theorem vzero_iff {a1 a2 a3 : Rat} : (vcmp a1 a2 a3 0 0 0 == (0 : Int)) = true ↔ (a1 = 0 ∧ a2 = 0 ∧ a3 = 0) := by rw [beq_iff_eq, vcmp_zero]
theorem vzero_false {a1 a2 a3 : Rat} : (vcmp a1 a2 a3 0 0 0 == (0 : Int)) = false ↔ ¬(a1 = 0 ∧ a2 = 0 ∧ a3 = 0) := by rw [← vzero_iff]; simp
end Go.Proofs.YtgopfikljndklaaDoor
