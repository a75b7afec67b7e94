/- What TwistScales asks beside the walks. -/
import Derived.Test.YtgopfikljndklaaDoorGen14
import Derived.Test.YtgopfikljndklaaDoorScal
import Derived.Test.YtgopfikljndklaaDoorArr
namespace Go.Proofs.YtgopfikljndklaaDoor
open Go.RowKit

theorem tz_den_pos (a : Rat) : 0 < (a.den : Int) := Int.natCast_pos.2 a.den_pos
def all6 (a1 a2 a3 a4 a5 a6 : Rat) : Prop := (a1 = 0 ∧ a2 = 0 ∧ a3 = 0) ∧ (a4 = 0 ∧ a5 = 0 ∧ a6 = 0)
theorem tden_pos (a1 a2 a3 a4 a5 a6 : Rat) : 0 < tden a1 a2 a3 a4 a5 a6 := (tden_facts a1 a2 a3 a4 a5 a6).1
theorem scal6 {n1 n2 n3 n4 n5 n6 D : Int} {a1 a2 a3 a4 a5 a6 : Rat} (hD : 0 < D) (e1 : a1 = (n1 : Rat) / (D : Rat)) (e2 : a2 = (n2 : Rat) / (D : Rat)) (e3 : a3 = (n3 : Rat) / (D : Rat)) (e4 : a4 = (n4 : Rat) / (D : Rat)) (e5 : a5 = (n5 : Rat) / (D : Rat)) (e6 : a6 = (n6 : Rat) / (D : Rat))
    (hg : 0 < gcdL 0 [n1, n2, n3, n4, n5, n6]) : 0 < tgcd a1 a2 a3 a4 a5 a6 ∧ ∀ (i : Nat) (h : i < 6), Rat.divInt (tden a1 a2 a3 a4 a5 a6) (tgcd a1 a2 a3 a4 a5 a6) * [a1, a2, a3, a4, a5, a6][i] = (([n1, n2, n3, n4, n5, n6][i] / gcdL 0 [n1, n2, n3, n4, n5, n6] : Int) : Rat) := by
  obtain ⟨hp, h1, h2, h3, h4, h5, h6⟩ := tden_facts a1 a2 a3 a4 a5 a6
  refine scal_list (ns := [n1, n2, n3, n4, n5, n6]) (qs := [a1, a2, a3, a4, a5, a6]) (D := D) (M := tden a1 a2 a3 a4 a5 a6) hD hp rfl (fun i h => ?_) (fun a ha => ?_) hg
  · match i, h with
    | 0, _ => exact e1
    | 1, _ => exact e2
    | 2, _ => exact e3
    | 3, _ => exact e4
    | 4, _ => exact e5
    | 5, _ => exact e6
  · simp only [List.mem_cons, List.not_mem_nil, or_false] at ha
    rcases ha with rfl | rfl | rfl | rfl | rfl | rfl <;> assumption
end Go.Proofs.YtgopfikljndklaaDoor
