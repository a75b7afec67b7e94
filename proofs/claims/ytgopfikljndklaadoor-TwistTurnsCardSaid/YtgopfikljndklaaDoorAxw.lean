/- AxisOf without cases: its answer as functions of the six numbers. -/
import Derived.Test.YtgopfikljndklaaDoorGen11
namespace Go.Proofs.YtgopfikljndklaaDoor
open Go.RowKit

abbrev dotq (a1 a2 a3 d1 d2 d3 : Rat) : Rat := 0 + a1 * d1 + a2 * d2 + a3 * d3
/-- the kind of an axis -/
def akind (a1 a2 a3 d1 d2 d3 : Rat) : Int :=
  if a1 = 0 ∧ a2 = 0 ∧ a3 = 0 then (if d1 = 0 ∧ d2 = 0 ∧ d3 = 0 then 0 else 1)
  else if dotq a1 a2 a3 d1 d2 d3 * (((1 : Int) : Rat) / dotq a1 a2 a3 a1 a2 a3) = 0 then 2 else 3
/-- a coordinate of the direction: x of the angular part, y of the linear one -/
def adir (a1 a2 a3 d1 d2 d3 x y : Rat) : Rat :=
  if a1 = 0 ∧ a2 = 0 ∧ a3 = 0 then (if d1 = 0 ∧ d2 = 0 ∧ d3 = 0 then 0 else prim d1 d2 d3 y) else prim a1 a2 a3 x
/-- a coordinate of the point: c of the cross product -/
def apt (a1 a2 a3 c : Rat) : Rat := if a1 = 0 ∧ a2 = 0 ∧ a3 = 0 then 0 else ((1 : Int) : Rat) / dotq a1 a2 a3 a1 a2 a3 * c
def apit (a1 a2 a3 d1 d2 d3 : Rat) : Rat := if a1 = 0 ∧ a2 = 0 ∧ a3 = 0 then 0 else dotq a1 a2 a3 d1 d2 d3 * (((1 : Int) : Rat) / dotq a1 a2 a3 a1 a2 a3)
theorem akind_2 {a1 a2 a3 d1 d2 d3 : Rat} (h : (akind a1 a2 a3 d1 d2 d3 != (2 : Int)) = false) : ¬(a1 = 0 ∧ a2 = 0 ∧ a3 = 0) := by
  intro ha
  unfold akind at h
  rw [if_pos ha] at h
  split at h <;> simp at h
theorem akind_3 {a1 a2 a3 d1 d2 d3 : Rat} (h : (akind a1 a2 a3 d1 d2 d3 != (3 : Int)) = false) : ¬(a1 = 0 ∧ a2 = 0 ∧ a3 = 0) := by
  intro ha
  unfold akind at h
  rw [if_pos ha] at h
  split at h <;> simp at h
theorem dot_ne {a1 a2 a3 : Rat} (h : ¬(a1 = 0 ∧ a2 = 0 ∧ a3 = 0)) : dotq a1 a2 a3 a1 a2 a3 ≠ 0 := by
  have := dot_pos h
  unfold dotq
  grind
theorem akind_rot {a1 a2 a3 d1 d2 d3 : Rat} (h : ¬(a1 = 0 ∧ a2 = 0 ∧ a3 = 0)) (hd : a1 * d1 + a2 * d2 + a3 * d3 = 0) : (akind a1 a2 a3 d1 d2 d3 != (2 : Int)) = false := by
  unfold akind
  rw [if_neg h, if_pos (by unfold dotq; grind)]
  rfl
end Go.Proofs.YtgopfikljndklaaDoor
