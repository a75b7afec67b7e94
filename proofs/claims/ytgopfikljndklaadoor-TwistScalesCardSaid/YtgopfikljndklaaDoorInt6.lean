/- The contracts on integers: Neg, Add, Mul, Sign. -/
import Derived.Test.YtgopfikljndklaaDoorGen1
namespace Go.Proofs.YtgopfikljndklaaDoor
open Go.RowKit

theorem Mag.pos {w : World} {ao : Option Addr} {len cap : Nat} {n : Int} (h : Mag w ao len cap n) : decide (0 < len) = decide (0 < n) := by
  have h1 := h.nl.len_zero
  have h2 := h.nl.nonneg
  by_cases e : len = 0
  · have e2 := h1.1 e
    simp [e, e2]
  · have e2 : n ≠ 0 := fun h => e (h1.2 h)
    simp; omega
/-- a sign and a magnitude make an integer -/
theorem IsInt.mk' {w : World} {k : Nat} {s : Bool} {ao : Option Addr} {len cap : Nat} {n z : Int} (h : Mag w ao len cap n) (hn : n = (z.natAbs : Int)) (hs : 0 < n → s = decide (z < 0)) (hz : Sz k z) :
    IsInt w k (.bool (s && decide (0 < len))) (.slice ao len cap) z := by
  refine ⟨ao, len, cap, ?_, rfl, hn ▸ h, hz⟩
  rw [h.pos]
  by_cases e : 0 < n
  · rw [hs e]; simp [e]
  · have : ¬ z < 0 := by omega
    simp [e, this]

set_option maxHeartbeats 1000000 in
theorem neg_i {k : Nat} {x y : Value} {z : Int} {w : World} (hz : IsInt w k x y z) :
    Calls Tryd.prog 67 #[.agg #[x, y]] w fun e w' => (∃ x' y', e = .returned (.agg #[x', y']) ∧ IsInt w' k x' y' (-z)) ∧ Gr w w' := by
  obtain ⟨ao, len, cap, rfl, rfl, hm, hs⟩ := hz
  by_cases h0 : z < 0
  · have hd : decide (z < 0) = true := by simpa using h0
    rw [hd]
    go_enter Tryd.func67, Tryd.ntmps67
    go_wp2
    exact bodyPost_ret (v := .agg #[.bool false, .slice ao len cap]) (by simp [results, Tryd.results67, go_sem]) rfl
      ⟨⟨_, _, rfl, ao, len, cap, by simp; omega, rfl, by rw [Int.natAbs_neg]; exact hm.below (((Below.refl _ _).alloc (Nat.le_refl _) _).alloc (by simp) _), hs.neg⟩, ((Below.refl _ _).alloc (Nat.le_refl _) _).alloc (by simp) _⟩
  · have hd : decide (z < 0) = false := by simpa using h0
    rw [hd]
    go_enter Tryd.func67, Tryd.ntmps67
    go_wp2
    have h1 := hm.nl.len_zero
    exact bodyPost_ret (v := .agg #[.bool (decide (0 < len)), .slice ao len cap]) (by simp [results, Tryd.results67, go_sem]) rfl
      ⟨⟨_, _, rfl, ao, len, cap, by simp; omega, rfl, by rw [Int.natAbs_neg]; exact hm.below (((Below.refl _ _).alloc (Nat.le_refl _) _).alloc (by simp) _), hs.neg⟩, ((Below.refl _ _).alloc (Nat.le_refl _) _).alloc (by simp) _⟩

set_option maxHeartbeats 1000000 in
theorem sign_i {k : Nat} {x y : Value} {z : Int} {w : World} (hz : IsInt w k x y z) :
    Calls Tryd.prog 43 #[.agg #[x, y]] w fun e w' => e = .returned (.int .i64 (sgn z)) ∧ Gr w w' := by
  obtain ⟨ao, len, cap, rfl, rfl, hm, hs⟩ := hz
  have hp := hm.nl.len_zero
  by_cases h0 : len = 0
  · subst h0
    have e0 : z = 0 := by omega
    subst e0
    go_enter Tryd.func43, Tryd.ntmps43
    go_wp2
    go_ret
    exact ⟨rfl, (Below.refl _ _).alloc (Nat.le_refl _) _⟩
  · have hl : ((len : Int) == 0) = false := by simp; omega
    by_cases h1 : z < 0
    · have hd : decide (z < 0) = true := by simpa using h1
      rw [hd]
      go_enter Tryd.func43, Tryd.ntmps43
      go_wp2
      go_ret
      exact ⟨ret_int (sgn_neg h1).symm, (Below.refl _ _).alloc (Nat.le_refl _) _⟩
    · have hd : decide (z < 0) = false := by simpa using h1
      rw [hd]
      go_enter Tryd.func43, Tryd.ntmps43
      go_wp2
      go_ret
      exact ⟨ret_int (sgn_pos (by omega)).symm, (Below.refl _ _).alloc (Nat.le_refl _) _⟩

theorem mul_i {k m : Nat} {x y x2 y2 : Value} {z u : Int} {w : World} (hz : IsInt w k x y z) (hu : IsInt w m x2 y2 u) (hk : k + m ≤ 1000000) :
    Calls Tryd.prog 48 #[.agg #[x, y], .agg #[x2, y2]] w fun e w' => (∃ x' y', e = .returned (.agg #[x', y']) ∧ IsInt w' (k + m) x' y' (z * u)) ∧ Gr w w' := by
  obtain ⟨ao, la, ca, rfl, rfl, ha, hs⟩ := hz
  obtain ⟨bo, lb, cb, rfl, rfl, hb, ht⟩ := hu
  have hla := ha.nl.len_sz hs.nat
  have hlb := hb.nl.len_sz ht.nat
  refine (mul_raw _ _ _ _ ao bo la lb ca cb w (by omega) (by omega) ha hb).mono ?_
  rintro e w1 ⟨⟨go, n, cap, he, hm⟩, hB⟩
  refine ⟨⟨_, _, he, IsInt.mk' hm (by rw [Int.natAbs_mul]; simp) (fun hp => ?_) (hs.mul ht)⟩, hB⟩
  by_cases h1 : z < 0 <;> by_cases h2 : u < 0
  · have : ¬ z * u < 0 := by have := Int.mul_pos_of_neg_of_neg h1 h2; omega
    simp [h1, h2, this]
  · have h3 : u ≠ 0 := fun h => by subst h; simp at hp
    have : z * u < 0 := Int.mul_neg_of_neg_of_pos h1 (by omega)
    simp [h1, h2, this]
  · have h3 : z ≠ 0 := fun h => by subst h; simp at hp
    have : z * u < 0 := Int.mul_neg_of_pos_of_neg (by omega) h2
    simp [h1, h2, this]
  · have : ¬ z * u < 0 := by have := Int.mul_nonneg (show 0 ≤ z by omega) (show 0 ≤ u by omega); omega
    simp [h1, h2, this]

theorem add_i {k m : Nat} {x y x2 y2 : Value} {z u : Int} {w : World} (hz : IsInt w k x y z) (hu : IsInt w m x2 y2 u) (hk : k + m + 1 ≤ 1000000) :
    Calls Tryd.prog 65 #[.agg #[x, y], .agg #[x2, y2]] w fun e w' => (∃ x' y', e = .returned (.agg #[x', y']) ∧ IsInt w' (k + m + 1) x' y' (z + u)) ∧ Gr w w' := by
  obtain ⟨ao, la, ca, rfl, rfl, ha, hs⟩ := hz
  obtain ⟨bo, lb, cb, rfl, rfl, hb, ht⟩ := hu
  have hla := ha.nl.len_sz hs.nat
  have hlb := hb.nl.len_sz ht.nat
  have hsz := hs.add ht
  by_cases h : decide (z < 0) = decide (u < 0)
  · rw [← h]
    refine (add_same ha hb (by omega) (by omega)).mono ?_
    rintro e w1 ⟨⟨go, n, cap, he, hm⟩, hB⟩
    have h' : z < 0 ↔ u < 0 := by simpa using h
    exact ⟨⟨_, _, he, IsInt.mk' hm (by omega) (fun hp => by simp; omega) hsz⟩, hB⟩
  · have h2 : decide (u < 0) = !decide (z < 0) := by cases h3 : decide (z < 0) <;> cases h4 : decide (u < 0) <;> simp_all
    rw [h2]
    have h' : ¬ (z < 0 ↔ u < 0) := by simpa using h
    rcases Int.lt_or_le (z.natAbs : Int) (u.natAbs : Int) with h3 | h3
    · refine (add_diff_lt ha hb (by omega) (by omega) h3).mono ?_
      rintro e w1 ⟨⟨go, n, cap, he, hm⟩, hB⟩
      exact ⟨⟨_, _, he, IsInt.mk' hm (by omega) (fun hp => by rw [← h2]; simp; omega) hsz⟩, hB⟩
    · refine (add_diff_ge ha hb (by omega) (by omega) h3).mono ?_
      rintro e w1 ⟨⟨go, n, cap, he, hm⟩, hB⟩
      exact ⟨⟨_, _, he, IsInt.mk' hm (by omega) (fun hp => by simp; omega) hsz⟩, hB⟩
end Go.Proofs.YtgopfikljndklaaDoor
