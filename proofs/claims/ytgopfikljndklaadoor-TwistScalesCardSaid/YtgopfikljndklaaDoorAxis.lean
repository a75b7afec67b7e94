/- Plain facts on axes. -/
import Derived.Test.YtgopfikljndklaaDoorGen10
namespace Go.Proofs.YtgopfikljndklaaDoor
open Go.RowKit

theorem rat_sq_nonneg (a : Rat) : 0 ≤ a * a := by
  rcases Rat.le_total (a := 0) (b := a) with h | h
  · exact Rat.mul_nonneg h h
  · have : 0 ≤ (-a) * (-a) := Rat.mul_nonneg (by grind) (by grind)
    grind
theorem dot_pos {a1 a2 a3 : Rat} (h : ¬(a1 = 0 ∧ a2 = 0 ∧ a3 = 0)) : 0 < 0 + a1 * a1 + a2 * a2 + a3 * a3 := by
  have h1 := rat_sq_nonneg a1
  have h2 := rat_sq_nonneg a2
  have h3 := rat_sq_nonneg a3
  rcases (show 0 < a1 * a1 ∨ 0 = a1 * a1 by grind) with h1 | h1
  · grind
  rcases (show 0 < a2 * a2 ∨ 0 = a2 * a2 by grind) with h2 | h2
  · grind
  rcases (show 0 < a3 * a3 ∨ 0 = a3 * a3 by grind) with h3 | h3
  · grind
  exfalso
  apply h
  refine ⟨?_, ?_, ?_⟩
  · rcases Rat.mul_eq_zero.1 h1.symm with h | h <;> exact h
  · rcases Rat.mul_eq_zero.1 h2.symm with h | h <;> exact h
  · rcases Rat.mul_eq_zero.1 h3.symm with h | h <;> exact h
theorem num_pos {a : Rat} (h : 0 < a) : 0 < a.num := by
  have h1 : 0 ≤ a.num := Rat.num_nonneg.2 (by grind)
  have h2 : a.num ≠ 0 := fun e => by rw [Rat.num_eq_zero] at e; grind
  omega
theorem sgnz_t {q : Rat} (h : q ≠ 0) : (sgn q.num != (0 : Int)) = true := by
  have : sgn q.num ≠ 0 := fun e => h (Rat.num_eq_zero.1 (sgn_eq_zero.1 e))
  simpa using this
theorem sgnz_f {q : Rat} (h : q = 0) : (sgn q.num != (0 : Int)) = false := by
  subst h; rfl
theorem sgne_f {q : Rat} (h : q ≠ 0) : (sgn q.num == (0 : Int)) = false := by
  have : sgn q.num ≠ 0 := fun e => h (Rat.num_eq_zero.1 (sgn_eq_zero.1 e))
  simpa using this
theorem sgne_t {q : Rat} (h : q = 0) : (sgn q.num == (0 : Int)) = true := by
  subst h; rfl
end Go.Proofs.YtgopfikljndklaaDoor
