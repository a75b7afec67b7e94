/- Joined of: Simp, Gen46, Gen48, Gen49, RowRationalSimplest. -/
import Derived.Test.YtloocadjbpgldaaGreatDoorPartE
import Derived.Test.YtloocadjbpgldaaGreatDoorPartF
import Derived.Test.YtloocadjbpgldaaGreatDoorPartD
import Derived.Test.YtloocadjbpgldaaGreatDoorCards
import Derived.Test.YtloocadjbpgldaaGreatDoorTie
/- The simplest rational between two others: plain laws, without the program. -/
namespace Go.Proofs.YtloocadjbpgldaaGreatDoor
open Go.RowKit

theorem rnum_pos {a : Rat} : 0 < a.num ↔ 0 < a := by rw [Rat.lt_iff]; simp
theorem rat_parts {n d : Int} (hd : 0 < d) (hc : Int.gcd n d = 1) : (Rat.divInt n d).num = n ∧ ((Rat.divInt n d).den : Int) = d := by
  have h1 := Rat.num_divInt n d
  have h2 := Rat.den_divInt n d
  rw [Int.gcd_comm] at hc
  rw [hc, Int.sign_eq_one_of_pos hd] at h1
  rw [hc, if_neg (by omega)] at h2
  refine ⟨by rw [h1]; simp, ?_⟩
  rw [h2]; simp; omega
theorem gcd_parts (a : Rat) : Int.gcd a.num (a.den : Int) = 1 := a.reduced
theorem rat_add_int (a : Rat) (z : Int) : (a + (z : Rat)).num = a.num + z * (a.den : Int) ∧ (a + (z : Rat)).den = a.den := by
  have h := rat_add a (z : Rat)
  rw [Rat.num_intCast, Rat.den_intCast] at h
  have h2 := rat_parts (n := a.num * ((1 : Nat) : Int) + z * a.den) (d := (a.den : Int) * ((1 : Nat) : Int)) (by have := a.den_pos; omega) (by
    have e := gcd_parts a
    rw [show ((1 : Nat) : Int) = 1 from rfl, Int.mul_one, Int.mul_one]
    simpa using e)
  rw [h] at h2
  refine ⟨by rw [h2.1]; omega, by have := h2.2; omega⟩
theorem rat_inv {a : Rat} (h : 0 < a) : (a⁻¹).num = (a.den : Int) ∧ ((a⁻¹).den : Int) = a.num := by
  have h1 : 0 < a.num := rnum_pos.2 h
  rw [Rat.num_inv, Rat.den_inv, Int.sign_eq_one_of_pos h1, if_neg (by omega)]
  exact ⟨by omega, by omega⟩
theorem inv_le {u v : Rat} (h : 0 < u) (h2 : u ≤ v) : v⁻¹ ≤ u⁻¹ := by
  have hv : 0 < v := by grind
  have e1 := Rat.mul_inv_cancel u (by grind)
  have e2 := Rat.mul_inv_cancel v (by grind)
  have h3 : 0 < u⁻¹ := Rat.inv_pos.2 h
  have h4 : 0 < v⁻¹ := Rat.inv_pos.2 hv
  have h5 : u * (u⁻¹ * v⁻¹) ≤ v * (u⁻¹ * v⁻¹) := Rat.mul_le_mul_of_nonneg_right h2 (Rat.le_of_lt (Rat.mul_pos h3 h4))
  have e3 : u * (u⁻¹ * v⁻¹) = v⁻¹ := by rw [← Rat.mul_assoc, e1, Rat.one_mul]
  have e4 : v * (u⁻¹ * v⁻¹) = u⁻¹ := by rw [Rat.mul_comm u⁻¹, ← Rat.mul_assoc, e2, Rat.one_mul]
  rw [e3, e4] at h5
  exact h5
/-- no numerator and no denominator of a rational from a to b is less than those of x -/
def Simp (a b x : Rat) : Prop := a ≤ x ∧ x ≤ b ∧ ∀ y : Rat, a ≤ y → y ≤ b → x.den ≤ y.den ∧ x.num ≤ y.num
theorem num_ge {y : Rat} (h : 0 < y) : y ≤ (y.num : Rat) := by
  rw [Rat.le_iff, Rat.num_intCast, Rat.den_intCast]
  have h1 : 0 < y.num := rnum_pos.2 h
  have h2 := y.den_pos
  have : y.num * 1 ≤ y.num * (y.den : Int) := Int.mul_le_mul_of_nonneg_left (by omega) (by omega)
  simpa using this
theorem simp_int {a b : Rat} (ha : 0 < a) (h : ((a.ceil : Int) : Rat) ≤ b) : Simp a b ((a.ceil : Int) : Rat) := by
  refine ⟨Rat.le_ceil, h, fun y h1 _ => ⟨?_, ?_⟩⟩
  · rw [Rat.den_intCast]; exact y.den_pos
  · rw [Rat.num_intCast, Rat.ceil_le_iff]
    exact Rat.le_trans h1 (num_ge (by grind))
/-- what is known when no integer lies between -/
theorem simp_gap {a b : Rat} (ha : 0 < a) (hab : a ≤ b) (h : ¬ ((a.ceil : Int) : Rat) ≤ b) :
    0 ≤ a.floor ∧ 0 < a - (a.floor : Rat) ∧ a - (a.floor : Rat) ≤ b - (a.floor : Rat) ∧ b - (a.floor : Rat) < 1 := by
  have h1 := Rat.floor_le a
  have h2 : ¬ a = (a.floor : Rat) := by
    intro e
    have : a.ceil ≤ a.floor := by rw [Rat.ceil_le_iff]; grind
    have h3 : ((a.ceil : Int) : Rat) ≤ (a.floor : Rat) := Rat.intCast_le_intCast.2 this
    grind
  have h3 : a.ceil ≤ a.floor + 1 := by
    rw [Rat.ceil_le_iff]
    have := Rat.lt_floor_add_one a
    grind
  have h4 : ((a.ceil : Int) : Rat) ≤ ((a.floor + 1 : Int) : Rat) := Rat.intCast_le_intCast.2 h3
  rw [Rat.intCast_add] at h4
  refine ⟨?_, by grind, by grind, by grind⟩
  have : (0 : Int) ≤ a.floor := by rw [Rat.le_floor_iff]; grind
  exact this
theorem rat_sub_int (a : Rat) (z : Int) : (a - (z : Rat)).num = a.num - z * (a.den : Int) ∧ (a - (z : Rat)).den = a.den := by
  have := rat_add_int a (-z)
  rw [Rat.intCast_neg, ← Rat.sub_eq_add_neg] at this
  refine ⟨by rw [this.1, Int.neg_mul]; omega, this.2⟩
theorem simp_step {a b x : Rat} (ha : 0 < a) (hab : a ≤ b) (h : ¬ ((a.ceil : Int) : Rat) ≤ b) (hx : Simp (b - (a.floor : Rat))⁻¹ (a - (a.floor : Rat))⁻¹ x) :
    Simp a b ((a.floor : Rat) + x⁻¹) := by
  obtain ⟨h1, h2, h3, h4⟩ := simp_gap ha hab h
  obtain ⟨x1, x2, x3⟩ := hx
  generalize hf : a.floor = f at *
  have hq : 0 < b - (f : Rat) := by grind
  have hx0 : 0 < x := by have := Rat.inv_pos.2 hq; grind
  have e1 := inv_le (Rat.inv_pos.2 hq) x1
  have e2 := inv_le hx0 x2
  rw [Rat.inv_inv] at e1 e2
  refine ⟨by grind, by grind, fun y y1 y2 => ?_⟩
  have hy0 : 0 < y - (f : Rat) := by grind
  have k := x3 (y - (f : Rat))⁻¹ (inv_le hy0 (by grind)) (inv_le h2 (by grind))
  have r1 := rat_inv hx0
  have r2 := rat_inv hy0
  have r3 := rat_add_int x⁻¹ f
  have r4 := rat_sub_int y f
  rw [Rat.add_comm]
  rw [r3.1, r3.2]
  have k1 : (x.den : Int) ≤ (((y - (f : Rat))⁻¹).den : Int) := by omega
  have k2 := k.2
  rw [r2.2, r4.1] at k1
  rw [r2.1, r4.2] at k2
  have k3 : f * x.num ≤ f * (y.den : Int) := Int.mul_le_mul_of_nonneg_left k2 h1
  refine ⟨by omega, ?_⟩
  rw [r1.1, r1.2]
  omega
/-- the numbers of the next two ends are less -/
theorem simp_next {a b u : Rat} (ha : 0 < a) (hab : a ≤ b) (h : ¬ ((a.ceil : Int) : Rat) ≤ b) (hu : a ≤ u) (hv : u ≤ b) :
    0 < (u - (a.floor : Rat)) ∧ (u - (a.floor : Rat)).num ≠ 0 ∧ ((u - (a.floor : Rat))⁻¹).num = (u.den : Int) ∧ ((u - (a.floor : Rat))⁻¹).den < u.den := by
  obtain ⟨h1, h2, h3, h4⟩ := simp_gap ha hab h
  have h5 : 0 < u - (a.floor : Rat) := by grind
  have r := rat_inv h5
  have r4 := rat_sub_int u a.floor
  have h6 : u - (a.floor : Rat) < 1 := by grind
  have h7 : (u - (a.floor : Rat)).num < ((u - (a.floor : Rat)).den : Int) := by
    rw [Rat.lt_iff] at h6
    simpa using h6
  have h8 : 0 < (u - (a.floor : Rat)).num := rnum_pos.2 h5
  refine ⟨h5, by omega, by rw [r.1, r4.2], ?_⟩
  have := r.2
  rw [r4.2] at h7
  omega
/-- the simplest rational, whatever the signs -/
def SimpQ (a b x : Rat) : Prop := (0 < a → Simp a b x) ∧ (b < 0 → Simp (-b) (-a) (-x)) ∧ (a ≤ 0 → 0 ≤ b → x = 0)
theorem SimpQ.le {a b x : Rat} (h : SimpQ a b x) (hab : a ≤ b) : a ≤ x ∧ x ≤ b ∧ x.den ≤ a.den ∧ x.den ≤ b.den := by
  rcases Classical.em (0 < a) with h1 | h1
  · obtain ⟨p, q, r⟩ := h.1 h1
    exact ⟨p, q, (r a Rat.le_refl hab).1, (r b hab Rat.le_refl).1⟩
  rcases Classical.em (b < 0) with h2 | h2
  · obtain ⟨p, q, r⟩ := h.2.1 h2
    have r1 := (r (-a) (by grind) Rat.le_refl).1
    have r2 := (r (-b) Rat.le_refl (by grind)).1
    rw [Rat.neg_den, Rat.neg_den] at r1 r2
    exact ⟨by grind, by grind, r1, r2⟩
  · have := h.2.2 (by grind) (by grind)
    subst this
    exact ⟨by grind, by grind, a.den_pos, b.den_pos⟩
theorem den_div_le (n : Int) {d : Nat} (hd : 0 < d) : (Rat.divInt n (d : Int)).den ≤ d := by
  rw [Rat.den_divInt, if_neg (by omega)]
  exact Nat.div_le_self _ _
theorem num_div_le {n : Int} {d : Nat} (hd : 0 < d) (hn : 0 < n) : (Rat.divInt n (d : Int)).num ≤ n := by
  rw [Rat.num_divInt, Int.sign_eq_one_of_pos (by omega), Int.one_mul]
  exact Int.ediv_le_self _ (by omega)
theorem div_mul_nat (n : Int) {d : Nat} (hd : 0 < d) : Rat.divInt n (d : Int) * ((d : Int) : Rat) = (n : Rat) := by
  rw [Rat.divInt_eq_div]
  have : ((d : Int) : Rat) ≠ 0 := by
    intro e
    have := Rat.intCast_inj.1 (e.trans rfl : ((d : Int) : Rat) = ((0 : Int) : Rat))
    omega
  exact Rat.div_mul_cancel this
theorem between_div {a b : Rat} {d : Nat} (hd : 0 < d) (n : Int) (h1 : a * ((d : Int) : Rat) ≤ (n : Rat)) (h2 : (n : Rat) ≤ b * ((d : Int) : Rat)) :
    a ≤ Rat.divInt n (d : Int) ∧ Rat.divInt n (d : Int) ≤ b := by
  have e := div_mul_nat n hd
  have hp : (0 : Rat) < ((d : Int) : Rat) := by
    have : ((0 : Int) : Rat) < ((d : Int) : Rat) := Rat.intCast_lt_intCast.2 (by omega)
    exact this
  rw [← e] at h1 h2
  exact ⟨Rat.le_of_mul_le_mul_right h1 hp, Rat.le_of_mul_le_mul_right h2 hp⟩
theorem rat_mul_den (x : Rat) : x * ((x.den : Int) : Rat) = (x.num : Rat) := by
  have := div_mul_nat x.num x.den_pos
  rw [Rat.num_divInt_den] at this
  exact this
theorem ref_low {a b x : Rat} {d : Nat} (h : SimpQ a b x) (hd : 1 ≤ d) (hd2 : d < x.den) : (b * ((d : Int) : Rat)).floor < (a * ((d : Int) : Rat)).ceil := by
  apply Int.lt_of_not_ge
  intro hle
  have h1 : a * ((d : Int) : Rat) ≤ (((a * ((d : Int) : Rat)).ceil : Int) : Rat) := Rat.le_ceil
  have h2 : (((a * ((d : Int) : Rat)).ceil : Int) : Rat) ≤ b * ((d : Int) : Rat) := Rat.le_trans (Rat.intCast_le_intCast.2 hle) (Rat.floor_le _)
  obtain ⟨k1, k2⟩ := between_div (by omega) _ h1 h2
  have k3 := den_div_le (a * ((d : Int) : Rat)).ceil (d := d) (by omega)
  generalize hy : Rat.divInt (a * ((d : Int) : Rat)).ceil (d : Int) = y at *
  rcases Classical.em (0 < a) with a0 | a0
  · have := ((h.1 a0).2.2 y k1 k2).1; omega
  rcases Classical.em (b < 0) with b0 | b0
  · have := ((h.2.1 b0).2.2 (-y) (by grind) (by grind)).1
    rw [Rat.neg_den, Rat.neg_den] at this; omega
  · have := h.2.2 (by grind) (by grind)
    subst this
    have : (0 : Rat).den = 1 := rfl
    omega
theorem ref_stop {a b x : Rat} {d : Nat} (h : SimpQ a b x) (hab : a ≤ b) (hd : 1 ≤ d) (hd2 : d = x.den) : (a * ((d : Int) : Rat)).ceil ≤ x.num ∧ x.num ≤ (b * ((d : Int) : Rat)).floor := by
  obtain ⟨k1, k2, _, _⟩ := h.le hab
  have hp : (0 : Rat) ≤ ((d : Int) : Rat) := by
    have : ((0 : Int) : Rat) ≤ ((d : Int) : Rat) := Rat.intCast_le_intCast.2 (by omega)
    exact this
  have e := rat_mul_den x
  rw [← hd2] at e
  rw [Rat.ceil_le_iff, Rat.le_floor_iff, ← e]
  exact ⟨Rat.mul_le_mul_of_nonneg_right k1 hp, Rat.mul_le_mul_of_nonneg_right k2 hp⟩
theorem ref_step {a b x : Rat} {d : Nat} (h : SimpQ a b x) (hab : a ≤ b) (hd : 1 ≤ d) (hd2 : d ≤ x.den) (hl : (b * ((d : Int) : Rat)).floor < (a * ((d : Int) : Rat)).ceil) : d < x.den := by
  rcases Nat.lt_or_ge d x.den with k | k
  · exact k
  · have := ref_stop h hab hd (by omega); omega
theorem ref_done {a b x : Rat} {d : Nat} (h : SimpQ a b x) (hd : 1 ≤ d) (hd2 : d ≤ x.den) (hl : ¬ (b * ((d : Int) : Rat)).floor < (a * ((d : Int) : Rat)).ceil) : d = x.den := by
  rcases Nat.lt_or_ge d x.den with k | k
  · exact absurd (ref_low h hd k) hl
  · omega
theorem ref_pos {a b x : Rat} {d : Nat} (h : SimpQ a b x) (hab : a ≤ b) (hd : 1 ≤ d) (hd2 : d = x.den) (hl : 0 < (a * ((d : Int) : Rat)).ceil) : Rat.divInt (a * ((d : Int) : Rat)).ceil (d : Int) = x := by
  have hp : (0 : Rat) < ((d : Int) : Rat) := by
    have : ((0 : Int) : Rat) < ((d : Int) : Rat) := Rat.intCast_lt_intCast.2 (by omega)
    exact this
  have a0 : 0 < a := by
    rw [Rat.lt_ceil_iff] at hl
    have := Rat.not_le.1 (fun hn : a ≤ 0 => Rat.not_lt.2 (show a * ((d : Int) : Rat) ≤ ((0 : Int) : Rat) by
      have := Rat.mul_le_mul_of_nonneg_right hn (Rat.le_of_lt hp)
      rw [Rat.zero_mul] at this; exact this) hl)
    exact this
  obtain ⟨s1, s2⟩ := ref_stop h hab hd hd2
  have h1 : a * ((d : Int) : Rat) ≤ (((a * ((d : Int) : Rat)).ceil : Int) : Rat) := Rat.le_ceil
  have h2 : (((a * ((d : Int) : Rat)).ceil : Int) : Rat) ≤ b * ((d : Int) : Rat) := Rat.le_trans (Rat.intCast_le_intCast.2 (Int.le_trans s1 s2)) (Rat.floor_le _)
  obtain ⟨k1, k2⟩ := between_div (by omega) _ h1 h2
  have k3 := ((h.1 a0).2.2 _ k1 k2).2
  have k4 := num_div_le (n := (a * ((d : Int) : Rat)).ceil) (d := d) (by omega) hl
  have : (a * ((d : Int) : Rat)).ceil = x.num := by omega
  rw [this, hd2, Rat.num_divInt_den]
theorem ref_neg {a b x : Rat} {d : Nat} (h : SimpQ a b x) (hab : a ≤ b) (hd : 1 ≤ d) (hd2 : d = x.den) (hl : (b * ((d : Int) : Rat)).floor < 0) : Rat.divInt (b * ((d : Int) : Rat)).floor (d : Int) = x := by
  have hp : (0 : Rat) < ((d : Int) : Rat) := by
    have : ((0 : Int) : Rat) < ((d : Int) : Rat) := Rat.intCast_lt_intCast.2 (by omega)
    exact this
  have b0 : b < 0 := by
    rw [Rat.floor_lt_iff] at hl
    have := Rat.not_le.1 (fun hn : 0 ≤ b => Rat.not_lt.2 (show ((0 : Int) : Rat) ≤ b * ((d : Int) : Rat) by
      have := Rat.mul_le_mul_of_nonneg_right hn (Rat.le_of_lt hp)
      rw [Rat.zero_mul] at this; exact this) hl)
    exact this
  obtain ⟨s1, s2⟩ := ref_stop h hab hd hd2
  have h1 : a * ((d : Int) : Rat) ≤ (((b * ((d : Int) : Rat)).floor : Int) : Rat) := Rat.le_trans Rat.le_ceil (Rat.intCast_le_intCast.2 (Int.le_trans s1 s2))
  have h2 : (((b * ((d : Int) : Rat)).floor : Int) : Rat) ≤ b * ((d : Int) : Rat) := Rat.floor_le _
  obtain ⟨k1, k2⟩ := between_div (by omega) _ h1 h2
  have k3 := ((h.2.1 b0).2.2 (-Rat.divInt (b * ((d : Int) : Rat)).floor (d : Int)) (by grind) (by grind)).2
  rw [Rat.neg_divInt] at k3
  have k4 := num_div_le (n := -(b * ((d : Int) : Rat)).floor) (d := d) (by omega) (by omega)
  rw [Rat.neg_num] at k3
  have : (b * ((d : Int) : Rat)).floor = x.num := by omega
  rw [this, hd2, Rat.num_divInt_den]
theorem ref_mid {a b x : Rat} {d : Nat} (h : SimpQ a b x) (hd : 1 ≤ d) (h1 : ¬ 0 < (a * ((d : Int) : Rat)).ceil) (h2 : ¬ (b * ((d : Int) : Rat)).floor < 0) : x = 0 := by
  have hp : (0 : Rat) < ((d : Int) : Rat) := by
    have : ((0 : Int) : Rat) < ((d : Int) : Rat) := Rat.intCast_lt_intCast.2 (by omega)
    exact this
  have e1 := Rat.not_lt.1 (fun k => h1 (Rat.lt_ceil_iff.2 k))
  have e2 := Rat.not_lt.1 (fun k => h2 (Rat.floor_lt_iff.2 k))
  rw [show ((0 : Int) : Rat) = 0 * ((d : Int) : Rat) by rw [Rat.zero_mul]; rfl] at e1 e2
  exact h.2.2 (Rat.le_of_mul_le_mul_right e1 hp) (Rat.le_of_mul_le_mul_right e2 hp)
theorem floor_int (a : Rat) : a.num / (a.den : Int) = a.floor := (Rat.floor_def a).symm
theorem ceil_int (a : Rat) : -((-a).num / ((-a).den : Int)) = a.ceil := by rw [Rat.ceil_eq_neg_floor_neg, Rat.floor_def]
theorem IsRat.resz {w : World} {k m : Nat} {c0 c1 c2 c3 : Value} {q : Rat} (h : IsRat w k c0 c1 c2 c3 q) (h1 : Sz m q.num ∧ Sz m (q.den : Int)) (hm : 64 ≤ m) : IsRat w m c0 c1 c2 c3 q := by
  obtain ⟨a, ⟨D, b, c⟩, _⟩ := h
  refine ⟨a.resz h1.1, ⟨D, b.resz ?_, c⟩, hm⟩
  rcases c with rfl | ⟨rfl, _⟩
  · exact h1.2
  · exact Sz.zero m
theorem IsRat.szs {w : World} {k : Nat} {c0 c1 c2 c3 : Value} {q : Rat} (h : IsRat w k c0 c1 c2 c3 q) : Sz k q.num ∧ Sz k (q.den : Int) := by
  refine ⟨h.num.sz, ?_⟩
  obtain ⟨D, h2, rfl | ⟨rfl, e⟩⟩ := h.den
  · exact h2.sz
  · rw [e]
    have := h.big
    show (1 : Nat) < 2 ^ k
    exact Nat.one_lt_two_pow (by omega)
theorem btw_sz {a b u : Rat} {k : Nat} (ha : 0 < a) (hab : a ≤ b) (h : ¬ ((a.ceil : Int) : Rat) ≤ b) (hu : a ≤ u) (hv : u ≤ b) (hs : Sz k u.num ∧ Sz k (u.den : Int)) :
    Sz k ((u - (a.floor : Rat))⁻¹).num ∧ Sz k (((u - (a.floor : Rat))⁻¹).den : Int) := by
  obtain ⟨_, _, h3, h4⟩ := simp_next ha hab h hu hv
  rw [h3]
  refine ⟨hs.2, ?_⟩
  have := hs.2
  unfold Sz at this ⊢
  omega
theorem simp_ne {a b x : Rat} (ha : 0 < a) (h : Simp a b x) : x.num ≠ 0 := by
  have h1 : 0 < x := by have := h.1; grind
  have := rnum_pos.2 h1
  omega
theorem simp_sz {a b x : Rat} {k : Nat} (ha : 0 < a) (hab : a ≤ b) (h : Simp a b x) (hs : Sz k a.num ∧ Sz k (a.den : Int)) : Sz k x.num ∧ Sz k (x.den : Int) := by
  have h1 : 0 < x := by have := h.1; grind
  have h2 := rnum_pos.2 h1
  have h3 := rnum_pos.2 ha
  obtain ⟨h4, h5⟩ := h.2.2 a Rat.le_refl hab
  obtain ⟨s1, s2⟩ := hs
  unfold Sz at s1 s2 ⊢
  omega
end Go.Proofs.YtloocadjbpgldaaGreatDoor
/- Printed by a program of the prover's: the simplest rational between two. -/
namespace Go.Proofs.YtloocadjbpgldaaGreatDoor
open Go.RowKit

set_option maxRecDepth 100000 in
set_option maxHeartbeats 1000000 in
theorem inv_r {k : Nat} {u0 u1 u2 u3 : Value} {a : Rat} {w : World} (ha : IsRat w k u0 u1 u2 u3 a) (h0 : a.num ≠ 0) (_hk : k ≤ 100000) :
    Calls Tryz.prog 136 #[(.agg #[u0, u1, u2, u3])] w fun e w' => (∃ c0 c1 c2 c3, e = .returned (.agg #[c0, c1, c2, c3]) ∧ IsRat w' k c0 c1 c2 c3 (a⁻¹)) ∧ Gr w w' := by
 have hka := ha.big
 go_enter Tryz.func136, Tryz.ntmps136
 have hB := Gr.refl w
 refine wp_seq_k (fun K1 k1 => ?_)
 refine rg [0, 1] ?_
 refine se ?_
 refine eb 31 #[u0, u1, u2, u3] 1 hB fun b2 w2 g2 L2 o2 q2 hB => ?_
 simp only [p3, p4]
 refine se ?_
 refine ea 31 #[(.bool false), (.slice none 0 0), (.bool false), (.slice none 0 0)] 2 hB fun b3 w3 g3 L3 o3 q3 hB => ?_
 have ne2_3 := L2.ne o3
 simp only [p3, p4]
 refine sq_nil ?_
 refine k1 _ _ ?_
 try clear k1 K1
 refine wp_seq_k (fun K4 k4 => ?_)
 have gd13 := Gr.drew w3
 replace hB := hB.trans gd13
 replace L2 := L2.gr (g3.trans gd13)
 refine wp_region_ord (fun w' => Lc w' b2 #[u0, u1, u2, u3] 31) [(true, 0), (true, 2), (true, 3), (false, 1), (false, 4), (false, 5)] (by kernel_rfl) (by kernel_rfl) (by kernel_rfl) (by decide) (fun _ _ _ _ _ h => h) L2 ?_
 refine ow 3 (.agg #[u0, u1, u2, u3]) rfl (fun w' hS => (rl 31 0 [u0, u1, u2, u3] hS)) ?_
 simp only [p3, p4]
 refine ov 5 (.pointer (some ⟨b2, 0, none⟩)) ?_
 simp only [p3, p4]
 refine ow 6 (.agg #[u0, u1]) rfl (fun w' hS => (rl 27 0 [u0, u1] hS)) ?_
 simp only [p3, p4]
 refine oe ?_
 have kq16 := g2.kp.trans (g3.kp.trans gd13.kp)
 replace ha := ha.kp kq16
 refine ec 4 (den_i ha) ?_
 rintro e15 w15 ⟨⟨x15, y15, rfl, h15⟩, g15⟩
 refine ⟨_, rfl, ?_⟩
 replace hB := hB.trans g15
 replace L2 := L2.gr g15
 refine ⟨L2, ?_⟩
 simp only [p3, p4]
 refine oe ?_
 replace ha := ha.kp g15.kp
 refine ec 7 (reduced_a k h15 ha.num h0 (by omega) (by omega) (by omega) (by omega)) ?_
 rintro e18 w18 ⟨⟨p18, q18, r18, s18, rfl, h18⟩, g18⟩
 refine ⟨_, rfl, ?_⟩
 replace hB := hB.trans g18
 replace L2 := L2.gr g18
 refine ⟨L2, ?_⟩
 simp only [p3, p4]
 refine oe ?_
 replace L3 := L3.gr (gd13.trans (g15.trans g18))
 refine es 31 0 (.agg #[p18, q18, r18, s18]) [p18, q18, r18, s18] #[p18, q18, r18, s18] L3 hB q3 ⟨h18.one0, h18.one1, h18.one2, h18.one3, trivial⟩ fun w20 st20 kp20 L3 hB => ?_
 replace L2 := st20.lc L2 ne2_3
 refine ⟨L2, ?_⟩
 refine ord_nil ?_
 refine k4 _ _ ?_
 try clear k4 K4
 refine wp_ret ?_
 refine bodyPost_ret (v := (.agg #[p18, q18, r18, s18])) (ret_cell _ _ _ rfl rfl L3 (by kernel_rfl)) rfl ⟨?_, hB⟩
 replace h18 := h18.kp kp20
 exact ⟨_, _, _, _, rfl, by rw [Rat.inv_def]; exact h18⟩

def BTW (k : Nat) (a b : Rat) : Prop := ∀ (w : World) (u0 u1 u2 u3 v0 v1 v2 v3 : Value), IsRat w k u0 u1 u2 u3 a → IsRat w k v0 v1 v2 v3 b →
  Calls Tryz.prog 108 #[.agg #[u0, u1, u2, u3], .agg #[v0, v1, v2, v3]] w fun e w' => (∃ x c0 c1 c2 c3, e = .returned (.agg #[c0, c1, c2, c3]) ∧ IsRat w' k c0 c1 c2 c3 x ∧ Simp a b x) ∧ Gr w w'

set_option maxRecDepth 100000 in
set_option maxHeartbeats 1000000 in
theorem btw_0 {k : Nat} {u0 u1 u2 u3 v0 v1 v2 v3 : Value} {a b : Rat} {w : World} (ha : IsRat w k u0 u1 u2 u3 a) (hb : IsRat w k v0 v1 v2 v3 b) (_hk : k ≤ 20000) (a0 : 0 < a) (hc : ((a.ceil : Int) : Rat) ≤ b) :
    Calls Tryz.prog 108 #[(.agg #[u0, u1, u2, u3]), (.agg #[v0, v1, v2, v3])] w fun e w' => (∃ x c0 c1 c2 c3, e = .returned (.agg #[c0, c1, c2, c3]) ∧ IsRat w' k c0 c1 c2 c3 x ∧ Simp a b x) ∧ Gr w w' := by
 have hka := ha.big
 have ht : decide (rcmp ((((a).ceil : Int) : Rat)) (b) ≤ (0 : Int)) = true := by rw [decide_eq_true_eq, rcmp_le]; exact hc
 go_enter Tryz.func108, Tryz.ntmps108
 have hB := Gr.refl w
 refine wp_seq_k (fun K1 k1 => ?_)
 refine rg [0, 1, 2] ?_
 refine se ?_
 refine eb 31 #[u0, u1, u2, u3] 2 hB fun b2 w2 g2 L2 o2 q2 hB => ?_
 simp only [p3, p4]
 refine se ?_
 refine eb 31 #[v0, v1, v2, v3] 3 hB fun b3 w3 g3 L3 o3 q3 hB => ?_
 simp only [p3, p4]
 refine se ?_
 refine ea 31 #[(.bool false), (.slice none 0 0), (.bool false), (.slice none 0 0)] 4 hB fun b4 w4 g4 L4 o4 q4 hB => ?_
 replace L2 := L2.gr g3
 simp only [p3, p4]
 refine sq_nil ?_
 refine k1 _ _ ?_
 try clear k1 K1
 refine wp_seq_k (fun K5 k5 => ?_)
 refine wp_seq_k (fun K6 k6 => ?_)
 refine rg [0, 1, 2, 3, 4] ?_
 replace L2 := L2.gr g4
 refine sw 7 (.agg #[u0, u1, u2, u3]) rfl (rl 31 0 [u0, u1, u2, u3] L2) ?_
 simp only [p3, p4]
 refine se ?_
 have kq8 := g2.kp.trans (g3.kp.trans g4.kp)
 replace ha := ha.kp kq8
 refine ec 8 (ceil_r ha (by omega)) ?_
 rintro e7 w7 ⟨⟨x7, y7, rfl, h7⟩, g7⟩
 refine ⟨_, rfl, ?_⟩
 replace hB := hB.trans g7
 rw [ceil_int] at h7
 simp only [p3, p4]
 refine sv 9 (.agg #[x7, y7, (.bool false), (.slice none 0 0)]) ?_
 simp only [p3, p4]
 refine se ?_
 refine ea 31 #[(.bool false), (.slice none 0 0), (.bool false), (.slice none 0 0)] 5 hB fun b9 w9 g9 L9 o9 q9 hB => ?_
 replace L3 := L3.gr (g4.trans g7)
 have ne3_9 := L3.ne o9
 replace L4 := L4.gr g7
 have ne4_9 := L4.ne o9
 simp only [p3, p4]
 refine se ?_
 refine es 31 0 (.agg #[x7, y7, (.bool false), (.slice none 0 0)]) [x7, y7, (.bool false), (.slice none 0 0)] #[x7, y7, (.bool false), (.slice none 0 0)] L9 hB q9 ⟨h7.one0, h7.one1, rfl, rfl, trivial⟩ fun w10 st10 kp10 L9 hB => ?_
 refine sq_nil ?_
 refine k6 _ _ ?_
 try clear k6 K6
 refine wp_seq_k (fun K11 k11 => ?_)
 refine rg [0, 1, 2, 3] ?_
 refine sw 10 (.agg #[x7, y7, (.bool false), (.slice none 0 0)]) rfl (rl 31 0 [x7, y7, (.bool false), (.slice none 0 0)] L9) ?_
 simp only [p3, p4]
 replace L3 := st10.lc (L3.gr g9) ne3_9
 refine sw 11 (.agg #[v0, v1, v2, v3]) rfl (rl 31 0 [v0, v1, v2, v3] L3) ?_
 simp only [p3, p4]
 refine se ?_
 have kq13 := g9.kp.trans kp10
 replace h7 := h7.kp kq13
 have kq14 := g2.kp.trans (g3.kp.trans (g4.kp.trans (g7.kp.trans (g9.kp.trans kp10))))
 replace hb := hb.kp kq14
 refine ec 12 (compare_r (IsRat.int h7 (by omega)) hb (by omega)) ?_
 rintro e12 w12 ⟨rfl, g12⟩
 refine ⟨_, rfl, ?_⟩
 replace hB := hB.trans g12
 simp only [p3, p4]
 refine sw 13 (.bool true) rfl (RunV.bool (x := decide (rcmp ((((a).ceil : Int) : Rat)) (b) ≤ (0 : Int))) (rvk (by kernel_rfl)) ht) ?_
 simp only [p3, p4]
 refine sq_nil ?_
 refine k11 _ _ ?_
 try clear k11 K11
 refine wp_cond_true rfl ?_
 refine wp_seq_k (fun K15 k15 => ?_)
 refine rg [0, 1] ?_
 replace L9 := L9.gr g12
 refine sw 14 (.agg #[x7, y7, (.bool false), (.slice none 0 0)]) rfl (rl 31 0 [x7, y7, (.bool false), (.slice none 0 0)] L9) ?_
 simp only [p3, p4]
 refine se ?_
 replace L4 := (st10.lc (L4.gr g9) ne4_9).gr g12
 refine es 31 0 (.agg #[x7, y7, (.bool false), (.slice none 0 0)]) [x7, y7, (.bool false), (.slice none 0 0)] #[x7, y7, (.bool false), (.slice none 0 0)] L4 hB q4 ⟨h7.one0, h7.one1, rfl, rfl, trivial⟩ fun w16 st16 kp16 L4 hB => ?_
 refine sq_nil ?_
 refine k15 _ _ ?_
 try clear k15 K15
 refine wp_ret ?_
 simp only [Exit.then]
 refine bodyPost_ret (v := (.agg #[x7, y7, (.bool false), (.slice none 0 0)])) (ret_cell _ _ _ rfl rfl L4 (by kernel_rfl)) rfl ⟨?_, hB⟩
 have kq17 := g12.kp.trans kp16
 replace h7 := h7.kp kq17
 exact ⟨_, _, _, _, _, rfl, IsRat.int h7 (by omega), simp_int a0 hc⟩

set_option maxRecDepth 100000 in
set_option maxHeartbeats 1000000 in
theorem btw_1 {k : Nat} {u0 u1 u2 u3 v0 v1 v2 v3 : Value} {a b : Rat} {w : World} (ha : IsRat w k u0 u1 u2 u3 a) (hb : IsRat w k v0 v1 v2 v3 b) (_hk : k ≤ 20000) (a0 : 0 < a) (hab : a ≤ b) (hc : ¬ ((a.ceil : Int) : Rat) ≤ b) (ih : BTW k (b - (a.floor : Rat))⁻¹ (a - (a.floor : Rat))⁻¹) :
    Calls Tryz.prog 108 #[(.agg #[u0, u1, u2, u3]), (.agg #[v0, v1, v2, v3])] w fun e w' => (∃ x c0 c1 c2 c3, e = .returned (.agg #[c0, c1, c2, c3]) ∧ IsRat w' k c0 c1 c2 c3 x ∧ Simp a b x) ∧ Gr w w' := by
 have hka := ha.big
 have zha := ha.szs
 have zhb := hb.szs
 have ht : decide (rcmp ((((a).ceil : Int) : Rat)) (b) ≤ (0 : Int)) = false := by rw [decide_eq_false_iff_not, rcmp_le]; exact hc
 go_enter Tryz.func108, Tryz.ntmps108
 have hB := Gr.refl w
 refine wp_seq_k (fun K1 k1 => ?_)
 refine rg [0, 1, 2] ?_
 refine se ?_
 refine eb 31 #[u0, u1, u2, u3] 2 hB fun b2 w2 g2 L2 o2 q2 hB => ?_
 simp only [p3, p4]
 refine se ?_
 refine eb 31 #[v0, v1, v2, v3] 3 hB fun b3 w3 g3 L3 o3 q3 hB => ?_
 simp only [p3, p4]
 refine se ?_
 refine ea 31 #[(.bool false), (.slice none 0 0), (.bool false), (.slice none 0 0)] 4 hB fun b4 w4 g4 L4 o4 q4 hB => ?_
 replace L2 := L2.gr g3
 have ne2_4 := L2.ne o4
 have ne3_4 := L3.ne o4
 simp only [p3, p4]
 refine sq_nil ?_
 refine k1 _ _ ?_
 try clear k1 K1
 refine wp_seq_k (fun K5 k5 => ?_)
 refine wp_seq_k (fun K6 k6 => ?_)
 refine rg [0, 1, 2, 3, 4] ?_
 replace L2 := L2.gr g4
 refine sw 7 (.agg #[u0, u1, u2, u3]) rfl (rl 31 0 [u0, u1, u2, u3] L2) ?_
 simp only [p3, p4]
 refine se ?_
 have kq8 := g2.kp.trans (g3.kp.trans g4.kp)
 replace ha := ha.kp kq8
 refine ec 8 (ceil_r ha (by omega)) ?_
 rintro e7 w7 ⟨⟨x7, y7, rfl, h7⟩, g7⟩
 refine ⟨_, rfl, ?_⟩
 replace hB := hB.trans g7
 rw [ceil_int] at h7
 simp only [p3, p4]
 refine sv 9 (.agg #[x7, y7, (.bool false), (.slice none 0 0)]) ?_
 simp only [p3, p4]
 refine se ?_
 refine ea 31 #[(.bool false), (.slice none 0 0), (.bool false), (.slice none 0 0)] 5 hB fun b9 w9 g9 L9 o9 q9 hB => ?_
 replace L2 := L2.gr g7
 have ne2_9 := L2.ne o9
 replace L3 := L3.gr (g4.trans g7)
 have ne3_9 := L3.ne o9
 replace L4 := L4.gr g7
 have ne4_9 := L4.ne o9
 simp only [p3, p4]
 refine se ?_
 refine es 31 0 (.agg #[x7, y7, (.bool false), (.slice none 0 0)]) [x7, y7, (.bool false), (.slice none 0 0)] #[x7, y7, (.bool false), (.slice none 0 0)] L9 hB q9 ⟨h7.one0, h7.one1, rfl, rfl, trivial⟩ fun w10 st10 kp10 L9 hB => ?_
 refine sq_nil ?_
 refine k6 _ _ ?_
 try clear k6 K6
 refine wp_seq_k (fun K11 k11 => ?_)
 refine rg [0, 1, 2, 3] ?_
 refine sw 10 (.agg #[x7, y7, (.bool false), (.slice none 0 0)]) rfl (rl 31 0 [x7, y7, (.bool false), (.slice none 0 0)] L9) ?_
 simp only [p3, p4]
 replace L3 := st10.lc (L3.gr g9) ne3_9
 refine sw 11 (.agg #[v0, v1, v2, v3]) rfl (rl 31 0 [v0, v1, v2, v3] L3) ?_
 simp only [p3, p4]
 refine se ?_
 have kq13 := g9.kp.trans kp10
 replace h7 := h7.kp kq13
 have kq14 := g2.kp.trans (g3.kp.trans (g4.kp.trans (g7.kp.trans (g9.kp.trans kp10))))
 replace hb := hb.kp kq14
 refine ec 12 (compare_r (IsRat.int h7 (by omega)) hb (by omega)) ?_
 rintro e12 w12 ⟨rfl, g12⟩
 refine ⟨_, rfl, ?_⟩
 replace hB := hB.trans g12
 simp only [p3, p4]
 refine sw 13 (.bool false) rfl (RunV.bool (x := decide (rcmp ((((a).ceil : Int) : Rat)) (b) ≤ (0 : Int))) (rvk (by kernel_rfl)) ht) ?_
 simp only [p3, p4]
 refine sq_nil ?_
 refine k11 _ _ ?_
 try clear k11 K11
 refine wp_cond_false rfl ?_
 refine wp_skip ?_
 refine k5 _ _ ?_
 try clear k5 K5
 refine wp_seq_k (fun K15 k15 => ?_)
 refine rg [0, 1, 2, 3, 4] ?_
 replace L2 := (st10.lc (L2.gr g9) ne2_9).gr g12
 refine sw 15 (.agg #[u0, u1, u2, u3]) rfl (rl 31 0 [u0, u1, u2, u3] L2) ?_
 simp only [p3, p4]
 refine se ?_
 have kq17 := g7.kp.trans (g9.kp.trans (kp10.trans g12.kp))
 replace ha := ha.kp kq17
 refine ec 16 (floor_r ha (by omega)) ?_
 rintro e16 w16 ⟨⟨x16, y16, rfl, h16⟩, g16⟩
 refine ⟨_, rfl, ?_⟩
 replace hB := hB.trans g16
 rw [floor_int] at h16
 simp only [p3, p4]
 refine sv 17 (.agg #[x16, y16, (.bool false), (.slice none 0 0)]) ?_
 simp only [p3, p4]
 refine se ?_
 refine ea 31 #[(.bool false), (.slice none 0 0), (.bool false), (.slice none 0 0)] 6 hB fun b18 w18 g18 L18 o18 q18 hB => ?_
 replace L2 := L2.gr g16
 have ne2_18 := L2.ne o18
 replace L3 := L3.gr (g12.trans g16)
 have ne3_18 := L3.ne o18
 replace L4 := (st10.lc (L4.gr g9) ne4_9).gr (g12.trans g16)
 have ne4_18 := L4.ne o18
 simp only [p3, p4]
 refine se ?_
 refine es 31 0 (.agg #[x16, y16, (.bool false), (.slice none 0 0)]) [x16, y16, (.bool false), (.slice none 0 0)] #[x16, y16, (.bool false), (.slice none 0 0)] L18 hB q18 ⟨h16.one0, h16.one1, rfl, rfl, trivial⟩ fun w19 st19 kp19 L18 hB => ?_
 refine sq_nil ?_
 refine k15 _ _ ?_
 try clear k15 K15
 refine wp_seq_k (fun K20 k20 => ?_)
 have gd44 := Gr.drew w19
 replace hB := hB.trans gd44
 replace L2 := (st19.lc (L2.gr g18) ne2_18).gr gd44
 replace L3 := (st19.lc (L3.gr g18) ne3_18).gr gd44
 replace L18 := L18.gr gd44
 refine wp_region_ord (fun w' => Lc w' b2 #[u0, u1, u2, u3] 31 ∧ Lc w' b3 #[v0, v1, v2, v3] 31 ∧ Lc w' b18 #[x16, y16, (.bool false), (.slice none 0 0)] 31) [(true, 0), (true, 1), (true, 2), (true, 5), (true, 6), (false, 3), (false, 4), (false, 7), (false, 8), (false, 9), (false, 10), (false, 11), (false, 12)] (by kernel_rfl) (by kernel_rfl) (by kernel_rfl) (by decide) (fun _ _ _ _ _ h => h) ⟨L2, L3, L18⟩ ?_
 refine ow 18 (.agg #[x16, y16, (.bool false), (.slice none 0 0)]) rfl (fun w' hS => (rl 31 0 [x16, y16, (.bool false), (.slice none 0 0)] hS.2.2)) ?_
 simp only [p3, p4]
 refine ow 19 (.agg #[v0, v1, v2, v3]) rfl (fun w' hS => (rl 31 0 [v0, v1, v2, v3] hS.2.1)) ?_
 simp only [p3, p4]
 refine ow 20 (.agg #[x16, y16, (.bool false), (.slice none 0 0)]) rfl (fun w' hS => (rl 31 0 [x16, y16, (.bool false), (.slice none 0 0)] hS.2.2)) ?_
 simp only [p3, p4]
 refine ow 23 (.agg #[u0, u1, u2, u3]) rfl (fun w' hS => (rl 31 0 [u0, u1, u2, u3] hS.1)) ?_
 simp only [p3, p4]
 refine ow 24 (.agg #[x16, y16, (.bool false), (.slice none 0 0)]) rfl (fun w' hS => (rl 31 0 [x16, y16, (.bool false), (.slice none 0 0)] hS.2.2)) ?_
 simp only [p3, p4]
 refine oe ?_
 have kq47 := g12.kp.trans (g16.kp.trans (g18.kp.trans (kp19.trans gd44.kp)))
 replace hb := hb.kp kq47
 have kq48 := g18.kp.trans (kp19.trans gd44.kp)
 replace h16 := h16.kp kq48
 refine ec 21 (sub_r hb (IsRat.int h16 (by omega)) (by omega)) ?_
 rintro e46 w46 ⟨⟨p46, q46, r46, s46, rfl, h46⟩, g46⟩
 refine ⟨_, rfl, ?_⟩
 replace hB := hB.trans g46
 replace L2 := L2.gr g46
 replace L3 := L3.gr g46
 replace L18 := L18.gr g46
 refine ⟨⟨L2, L3, L18⟩, ?_⟩
 simp only [p3, p4]
 refine oe ?_
 refine ec 22 (inv_r h46 (simp_next a0 hab hc hab Rat.le_refl).2.1 (by omega)) ?_
 rintro e50 w50 ⟨⟨p50, q50, r50, s50, rfl, h50⟩, g50⟩
 refine ⟨_, rfl, ?_⟩
 replace hB := hB.trans g50
 replace h50 := h50.resz (btw_sz a0 hab hc hab Rat.le_refl zhb) hka
 replace L2 := L2.gr g50
 replace L3 := L3.gr g50
 replace L18 := L18.gr g50
 refine ⟨⟨L2, L3, L18⟩, ?_⟩
 simp only [p3, p4]
 refine oe ?_
 have kq53 := g16.kp.trans (g18.kp.trans (kp19.trans (gd44.kp.trans (g46.kp.trans g50.kp))))
 replace ha := ha.kp kq53
 have kq54 := g46.kp.trans g50.kp
 replace h16 := h16.kp kq54
 refine ec 25 (sub_r ha (IsRat.int h16 (by omega)) (by omega)) ?_
 rintro e52 w52 ⟨⟨p52, q52, r52, s52, rfl, h52⟩, g52⟩
 refine ⟨_, rfl, ?_⟩
 replace hB := hB.trans g52
 replace L2 := L2.gr g52
 replace L3 := L3.gr g52
 replace L18 := L18.gr g52
 refine ⟨⟨L2, L3, L18⟩, ?_⟩
 simp only [p3, p4]
 refine oe ?_
 refine ec 26 (inv_r h52 (simp_next a0 hab hc Rat.le_refl hab).2.1 (by omega)) ?_
 rintro e56 w56 ⟨⟨p56, q56, r56, s56, rfl, h56⟩, g56⟩
 refine ⟨_, rfl, ?_⟩
 replace hB := hB.trans g56
 replace h56 := h56.resz (btw_sz a0 hab hc Rat.le_refl hab zha) hka
 replace L2 := L2.gr g56
 replace L3 := L3.gr g56
 replace L18 := L18.gr g56
 refine ⟨⟨L2, L3, L18⟩, ?_⟩
 simp only [p3, p4]
 refine oe ?_
 have kq59 := g52.kp.trans g56.kp
 replace h50 := h50.kp kq59
 refine ec 27 (ih _ _ _ _ _ _ _ _ _ h50 h56) ?_
 rintro e58 w58 ⟨⟨sx, p58, q58, r58, s58, rfl, h58, hs⟩, g58⟩
 refine ⟨_, rfl, ?_⟩
 replace hB := hB.trans g58
 replace L2 := L2.gr g58
 replace L3 := L3.gr g58
 replace L18 := L18.gr g58
 refine ⟨⟨L2, L3, L18⟩, ?_⟩
 simp only [p3, p4]
 refine oe ?_
 refine ec 28 (inv_r h58 (simp_ne (Rat.inv_pos.2 (simp_next a0 hab hc hab Rat.le_refl).1) hs) (by omega)) ?_
 rintro e61 w61 ⟨⟨p61, q61, r61, s61, rfl, h61⟩, g61⟩
 refine ⟨_, rfl, ?_⟩
 replace hB := hB.trans g61
 replace L2 := L2.gr g61
 replace L3 := L3.gr g61
 replace L18 := L18.gr g61
 refine ⟨⟨L2, L3, L18⟩, ?_⟩
 simp only [p3, p4]
 refine oe ?_
 have kq64 := g52.kp.trans (g56.kp.trans (g58.kp.trans g61.kp))
 replace h16 := h16.kp kq64
 refine ec 29 (add_r (IsRat.int h16 (by omega)) h61 (by omega)) ?_
 rintro e63 w63 ⟨⟨p63, q63, r63, s63, rfl, h63⟩, g63⟩
 refine ⟨_, rfl, ?_⟩
 replace hB := hB.trans g63
 replace L2 := L2.gr g63
 replace L3 := L3.gr g63
 replace L18 := L18.gr g63
 refine ⟨⟨L2, L3, L18⟩, ?_⟩
 simp only [p3, p4]
 refine oe ?_
 replace L4 := (st19.lc (L4.gr g18) ne4_18).gr (gd44.trans (g46.trans (g50.trans (g52.trans (g56.trans (g58.trans (g61.trans g63)))))))
 refine es 31 0 (.agg #[p63, q63, r63, s63]) [p63, q63, r63, s63] #[p63, q63, r63, s63] L4 hB q4 ⟨h63.one0, h63.one1, h63.one2, h63.one3, trivial⟩ fun w66 st66 kp66 L4 hB => ?_
 replace L2 := st66.lc L2 ne2_4
 replace L3 := st66.lc L3 ne3_4
 replace L18 := st66.lc L18 (Ne.symm ne4_18)
 refine ⟨⟨L2, L3, L18⟩, ?_⟩
 refine ord_nil ?_
 refine k20 _ _ ?_
 try clear k20 K20
 refine wp_ret ?_
 refine bodyPost_ret (v := (.agg #[p63, q63, r63, s63])) (ret_cell _ _ _ rfl rfl L4 (by kernel_rfl)) rfl ⟨?_, hB⟩
 replace h63 := h63.kp kp66
 exact ⟨_, _, _, _, _, rfl, (h63).resz (simp_sz a0 hab (simp_step a0 hab hc hs) zha) hka, simp_step a0 hab hc hs⟩

theorem btw_all {k : Nat} (hk : k ≤ 20000) : ∀ (n : Nat) (a b : Rat), a.den + b.den ≤ n → 0 < a → a ≤ b → BTW k a b
  | 0, a, b, hn, _, _ => by have := a.den_pos; omega
  | n + 1, a, b, hn, a0, hab => by
    intro w u0 u1 u2 u3 v0 v1 v2 v3 ha hb
    by_cases hc : ((a.ceil : Int) : Rat) ≤ b
    · exact btw_0 ha hb hk a0 hc
    · have h1 := simp_next a0 hab hc Rat.le_refl hab
      have h2 := simp_next a0 hab hc hab Rat.le_refl
      refine btw_1 ha hb hk a0 hab hc (btw_all hk n _ _ (by omega) (Rat.inv_pos.2 h2.1) (inv_le h1.1 ?_))
      have := simp_gap a0 hab hc
      exact this.2.2.1
theorem between_r {k : Nat} {u0 u1 u2 u3 v0 v1 v2 v3 : Value} {a b : Rat} {w : World} (ha : IsRat w k u0 u1 u2 u3 a) (hb : IsRat w k v0 v1 v2 v3 b) (hk : k ≤ 20000) (a0 : 0 < a) (hab : a ≤ b) : Calls Tryz.prog 108 #[(.agg #[u0, u1, u2, u3]), (.agg #[v0, v1, v2, v3])] w fun e w' => (∃ x c0 c1 c2 c3, e = .returned (.agg #[c0, c1, c2, c3]) ∧ IsRat w' k c0 c1 c2 c3 x ∧ Simp a b x) ∧ Gr w w' := btw_all hk _ a b (Nat.le_refl _) a0 hab _ _ _ _ _ _ _ _ _ ha hb

set_option maxRecDepth 100000 in
set_option maxHeartbeats 1000000 in
theorem simplest_x {k : Nat} {u0 u1 u2 u3 v0 v1 v2 v3 : Value} {a b : Rat} {w : World} (ha : IsRat w k u0 u1 u2 u3 a) (hb : IsRat w k v0 v1 v2 v3 b) (_hk : k ≤ 20000) (hab : b < a) :
    Calls Tryz.prog 61 #[(.agg #[u0, u1, u2, u3]), (.agg #[v0, v1, v2, v3])] w fun e w' => e = .returned (.tuple #[.agg #[.bool false, .slice none 0 0, .bool false, .slice none 0 0], .int .i64 8]) ∧ Gr w w' := by
 have e1 : decide ((0 : Int) < rcmp (a) (b)) = true := by rw [decide_eq_true_eq, rcmp_gt]; exact hab
 go_enter Tryz.func61, Tryz.ntmps61
 have hB := Gr.refl w
 refine wp_seq_k (fun K1 k1 => ?_)
 refine rg [0, 1, 2, 3] ?_
 refine se ?_
 refine eb 31 #[u0, u1, u2, u3] 2 hB fun b2 w2 g2 L2 o2 q2 hB => ?_
 simp only [p3, p4]
 refine se ?_
 refine eb 31 #[v0, v1, v2, v3] 3 hB fun b3 w3 g3 L3 o3 q3 hB => ?_
 simp only [p3, p4]
 refine se ?_
 refine ea 31 #[(.bool false), (.slice none 0 0), (.bool false), (.slice none 0 0)] 4 hB fun b4 w4 g4 L4 o4 q4 hB => ?_
 replace L2 := L2.gr g3
 simp only [p3, p4]
 refine sv 5 (.int .i64 0) ?_
 simp only [p3, p4]
 refine sq_nil ?_
 refine k1 _ _ ?_
 try clear k1 K1
 refine wp_seq_k (fun K5 k5 => ?_)
 refine wp_block ?_
 refine wp_seq_k (fun K6 k6 => ?_)
 refine rg [0, 1, 2, 3, 4] ?_
 replace L2 := L2.gr g4
 refine sw 7 (.agg #[u0, u1, u2, u3]) rfl (rl 31 0 [u0, u1, u2, u3] L2) ?_
 simp only [p3, p4]
 replace L3 := L3.gr g4
 refine sw 8 (.agg #[v0, v1, v2, v3]) rfl (rl 31 0 [v0, v1, v2, v3] L3) ?_
 simp only [p3, p4]
 refine se ?_
 have kq8 := g2.kp.trans (g3.kp.trans g4.kp)
 replace ha := ha.kp kq8
 replace hb := hb.kp kq8
 refine ec 9 (compare_r ha hb (by omega)) ?_
 rintro e7 w7 ⟨rfl, g7⟩
 refine ⟨_, rfl, ?_⟩
 replace hB := hB.trans g7
 simp only [p3, p4]
 refine sw 10 (.bool true) rfl (RunV.bool (x := decide ((0 : Int) < rcmp (a) (b))) (rvk (by kernel_rfl)) e1) ?_
 simp only [p3, p4]
 refine sv 6 (.bool true) ?_
 simp only [p3, p4]
 refine sq_nil ?_
 refine k6 _ _ ?_
 try clear k6 K6
 refine wp_cond_true rfl ?_
 refine wp_seq_k (fun K9 k9 => ?_)
 refine rg [0, 1, 2] ?_
 refine sv 11 (.agg #[(.bool false), (.slice none 0 0), (.bool false), (.slice none 0 0)]) ?_
 simp only [p3, p4]
 refine se ?_
 replace L4 := L4.gr g7
 refine es 31 0 (.agg #[(.bool false), (.slice none 0 0), (.bool false), (.slice none 0 0)]) [(.bool false), (.slice none 0 0), (.bool false), (.slice none 0 0)] #[(.bool false), (.slice none 0 0), (.bool false), (.slice none 0 0)] L4 hB q4 ⟨rfl, rfl, rfl, rfl, trivial⟩ fun w10 st10 kp10 L4 hB => ?_
 refine sv 5 (.int .i64 8) ?_
 simp only [p3, p4]
 refine sq_nil ?_
 refine k9 _ _ ?_
 try clear k9 K9
 refine wp_ret ?_
 simp only [Exit.then, Exit.inBlock]
 refine bodyPost_ret (v := (.tuple #[(.agg #[(.bool false), (.slice none 0 0), (.bool false), (.slice none 0 0)]), (.int .i64 8)])) (ret_cell_tmp' _ _ _ rfl rfl L4 (by kernel_rfl) rfl) rfl ⟨?_, hB⟩
 exact rfl

set_option maxRecDepth 100000 in
set_option maxHeartbeats 1000000 in
theorem simplest_p {k : Nat} {u0 u1 u2 u3 v0 v1 v2 v3 : Value} {a b : Rat} {w : World} (ha : IsRat w k u0 u1 u2 u3 a) (hb : IsRat w k v0 v1 v2 v3 b) (hk : k ≤ 20000) (hab : a ≤ b) (a0 : 0 < a) :
    Calls Tryz.prog 61 #[(.agg #[u0, u1, u2, u3]), (.agg #[v0, v1, v2, v3])] w fun e w' => (∃ x c0 c1 c2 c3, e = .returned (.tuple #[.agg #[c0, c1, c2, c3], .int .i64 0]) ∧ IsRat w' k c0 c1 c2 c3 x ∧ SimpQ a b x) ∧ Gr w w' := by
 have e1 : decide ((0 : Int) < rcmp (a) (b)) = false := by rw [decide_eq_false_iff_not, rcmp_gt]; exact Rat.not_lt.2 hab
 have e2 : decide ((0 : Int) < sgn (a).num) = true := by rw [decide_eq_true_eq, num_sgn, rcmp_gt]; exact a0
 go_enter Tryz.func61, Tryz.ntmps61
 have hB := Gr.refl w
 refine wp_seq_k (fun K1 k1 => ?_)
 refine rg [0, 1, 2, 3] ?_
 refine se ?_
 refine eb 31 #[u0, u1, u2, u3] 2 hB fun b2 w2 g2 L2 o2 q2 hB => ?_
 simp only [p3, p4]
 refine se ?_
 refine eb 31 #[v0, v1, v2, v3] 3 hB fun b3 w3 g3 L3 o3 q3 hB => ?_
 simp only [p3, p4]
 refine se ?_
 refine ea 31 #[(.bool false), (.slice none 0 0), (.bool false), (.slice none 0 0)] 4 hB fun b4 w4 g4 L4 o4 q4 hB => ?_
 replace L2 := L2.gr g3
 simp only [p3, p4]
 refine sv 5 (.int .i64 0) ?_
 simp only [p3, p4]
 refine sq_nil ?_
 refine k1 _ _ ?_
 try clear k1 K1
 refine wp_seq_k (fun K5 k5 => ?_)
 refine wp_block ?_
 refine wp_seq_k (fun K6 k6 => ?_)
 refine rg [0, 1, 2, 3, 4] ?_
 replace L2 := L2.gr g4
 refine sw 7 (.agg #[u0, u1, u2, u3]) rfl (rl 31 0 [u0, u1, u2, u3] L2) ?_
 simp only [p3, p4]
 replace L3 := L3.gr g4
 refine sw 8 (.agg #[v0, v1, v2, v3]) rfl (rl 31 0 [v0, v1, v2, v3] L3) ?_
 simp only [p3, p4]
 refine se ?_
 have kq8 := g2.kp.trans (g3.kp.trans g4.kp)
 replace ha := ha.kp kq8
 replace hb := hb.kp kq8
 refine ec 9 (compare_r ha hb (by omega)) ?_
 rintro e7 w7 ⟨rfl, g7⟩
 refine ⟨_, rfl, ?_⟩
 replace hB := hB.trans g7
 simp only [p3, p4]
 refine sw 10 (.bool false) rfl (RunV.bool (x := decide ((0 : Int) < rcmp (a) (b))) (rvk (by kernel_rfl)) e1) ?_
 simp only [p3, p4]
 refine sv 6 (.bool false) ?_
 simp only [p3, p4]
 refine sq_nil ?_
 refine k6 _ _ ?_
 try clear k6 K6
 refine wp_cond_false rfl ?_
 refine wp_seq_k (fun K9 k9 => ?_)
 refine rg [0, 1, 2, 3] ?_
 replace L2 := L2.gr g7
 refine sw 13 (.agg #[u0, u1, u2, u3]) rfl (rl 31 0 [u0, u1, u2, u3] L2) ?_
 simp only [p3, p4]
 refine se ?_
 replace ha := ha.kp g7.kp
 refine ec 14 (sign_r ha) ?_
 rintro e10 w10 ⟨rfl, g10⟩
 refine ⟨_, rfl, ?_⟩
 replace hB := hB.trans g10
 simp only [p3, p4]
 refine sw 15 (.bool true) rfl (RunV.bool (x := decide ((0 : Int) < sgn (a).num)) (rvk (by kernel_rfl)) e2) ?_
 simp only [p3, p4]
 refine sv 12 (.bool true) ?_
 simp only [p3, p4]
 refine sq_nil ?_
 refine k9 _ _ ?_
 try clear k9 K9
 refine wp_cond_true rfl ?_
 refine wp_seq_k (fun K11 k11 => ?_)
 refine rg [0, 1, 2, 3, 4] ?_
 replace L2 := L2.gr g10
 refine sw 16 (.agg #[u0, u1, u2, u3]) rfl (rl 31 0 [u0, u1, u2, u3] L2) ?_
 simp only [p3, p4]
 replace L3 := L3.gr (g7.trans g10)
 refine sw 17 (.agg #[v0, v1, v2, v3]) rfl (rl 31 0 [v0, v1, v2, v3] L3) ?_
 simp only [p3, p4]
 refine se ?_
 replace ha := ha.kp g10.kp
 have kq13 := g7.kp.trans g10.kp
 replace hb := hb.kp kq13
 refine ec 18 (between_r ha hb hk a0 hab) ?_
 rintro e12 w12 ⟨⟨sx, p12, q12, r12, s12, rfl, h12, hs⟩, g12⟩
 refine ⟨_, rfl, ?_⟩
 replace hB := hB.trans g12
 simp only [p3, p4]
 refine se ?_
 replace L4 := L4.gr (g7.trans (g10.trans g12))
 refine es 31 0 (.agg #[p12, q12, r12, s12]) [p12, q12, r12, s12] #[p12, q12, r12, s12] L4 hB q4 ⟨h12.one0, h12.one1, h12.one2, h12.one3, trivial⟩ fun w14 st14 kp14 L4 hB => ?_
 refine sv 5 (.int .i64 0) ?_
 simp only [p3, p4]
 refine sq_nil ?_
 refine k11 _ _ ?_
 try clear k11 K11
 refine wp_ret ?_
 simp only [Exit.then, Exit.inBlock]
 refine bodyPost_ret (v := (.tuple #[(.agg #[p12, q12, r12, s12]), (.int .i64 0)])) (ret_cell_tmp' _ _ _ rfl rfl L4 (by kernel_rfl) rfl) rfl ⟨?_, hB⟩
 replace h12 := h12.kp kp14
 exact ⟨_, _, _, _, _, rfl, h12, fun _ => hs, fun h => absurd a0 (by grind), fun h => absurd a0 (by grind)⟩

set_option maxRecDepth 100000 in
set_option maxHeartbeats 1000000 in
theorem simplest_n {k : Nat} {u0 u1 u2 u3 v0 v1 v2 v3 : Value} {a b : Rat} {w : World} (ha : IsRat w k u0 u1 u2 u3 a) (hb : IsRat w k v0 v1 v2 v3 b) (hk : k ≤ 20000) (hab : a ≤ b) (b0 : b < 0) :
    Calls Tryz.prog 61 #[(.agg #[u0, u1, u2, u3]), (.agg #[v0, v1, v2, v3])] w fun e w' => (∃ x c0 c1 c2 c3, e = .returned (.tuple #[.agg #[c0, c1, c2, c3], .int .i64 0]) ∧ IsRat w' k c0 c1 c2 c3 x ∧ SimpQ a b x) ∧ Gr w w' := by
 have e1 : decide ((0 : Int) < rcmp (a) (b)) = false := by rw [decide_eq_false_iff_not, rcmp_gt]; exact Rat.not_lt.2 hab
 have e2 : decide ((0 : Int) < sgn (a).num) = false := by rw [decide_eq_false_iff_not, num_sgn, rcmp_gt]; grind
 have e3 : decide (sgn (b).num < (0 : Int)) = true := by rw [decide_eq_true_eq, num_sgn, rcmp_lt]; exact b0
 go_enter Tryz.func61, Tryz.ntmps61
 have hB := Gr.refl w
 refine wp_seq_k (fun K1 k1 => ?_)
 refine rg [0, 1, 2, 3] ?_
 refine se ?_
 refine eb 31 #[u0, u1, u2, u3] 2 hB fun b2 w2 g2 L2 o2 q2 hB => ?_
 simp only [p3, p4]
 refine se ?_
 refine eb 31 #[v0, v1, v2, v3] 3 hB fun b3 w3 g3 L3 o3 q3 hB => ?_
 simp only [p3, p4]
 refine se ?_
 refine ea 31 #[(.bool false), (.slice none 0 0), (.bool false), (.slice none 0 0)] 4 hB fun b4 w4 g4 L4 o4 q4 hB => ?_
 replace L2 := L2.gr g3
 have ne2_4 := L2.ne o4
 have ne3_4 := L3.ne o4
 simp only [p3, p4]
 refine sv 5 (.int .i64 0) ?_
 simp only [p3, p4]
 refine sq_nil ?_
 refine k1 _ _ ?_
 try clear k1 K1
 refine wp_seq_k (fun K5 k5 => ?_)
 refine wp_block ?_
 refine wp_seq_k (fun K6 k6 => ?_)
 refine rg [0, 1, 2, 3, 4] ?_
 replace L2 := L2.gr g4
 refine sw 7 (.agg #[u0, u1, u2, u3]) rfl (rl 31 0 [u0, u1, u2, u3] L2) ?_
 simp only [p3, p4]
 replace L3 := L3.gr g4
 refine sw 8 (.agg #[v0, v1, v2, v3]) rfl (rl 31 0 [v0, v1, v2, v3] L3) ?_
 simp only [p3, p4]
 refine se ?_
 have kq8 := g2.kp.trans (g3.kp.trans g4.kp)
 replace ha := ha.kp kq8
 replace hb := hb.kp kq8
 refine ec 9 (compare_r ha hb (by omega)) ?_
 rintro e7 w7 ⟨rfl, g7⟩
 refine ⟨_, rfl, ?_⟩
 replace hB := hB.trans g7
 simp only [p3, p4]
 refine sw 10 (.bool false) rfl (RunV.bool (x := decide ((0 : Int) < rcmp (a) (b))) (rvk (by kernel_rfl)) e1) ?_
 simp only [p3, p4]
 refine sv 6 (.bool false) ?_
 simp only [p3, p4]
 refine sq_nil ?_
 refine k6 _ _ ?_
 try clear k6 K6
 refine wp_cond_false rfl ?_
 refine wp_seq_k (fun K9 k9 => ?_)
 refine rg [0, 1, 2, 3] ?_
 replace L2 := L2.gr g7
 refine sw 13 (.agg #[u0, u1, u2, u3]) rfl (rl 31 0 [u0, u1, u2, u3] L2) ?_
 simp only [p3, p4]
 refine se ?_
 replace ha := ha.kp g7.kp
 refine ec 14 (sign_r ha) ?_
 rintro e10 w10 ⟨rfl, g10⟩
 refine ⟨_, rfl, ?_⟩
 replace hB := hB.trans g10
 simp only [p3, p4]
 refine sw 15 (.bool false) rfl (RunV.bool (x := decide ((0 : Int) < sgn (a).num)) (rvk (by kernel_rfl)) e2) ?_
 simp only [p3, p4]
 refine sv 12 (.bool false) ?_
 simp only [p3, p4]
 refine sq_nil ?_
 refine k9 _ _ ?_
 try clear k9 K9
 refine wp_cond_false rfl ?_
 refine wp_seq_k (fun K11 k11 => ?_)
 refine rg [0, 1, 2, 3] ?_
 replace L3 := L3.gr (g7.trans g10)
 refine sw 20 (.agg #[v0, v1, v2, v3]) rfl (rl 31 0 [v0, v1, v2, v3] L3) ?_
 simp only [p3, p4]
 refine se ?_
 have kq13 := g7.kp.trans g10.kp
 replace hb := hb.kp kq13
 refine ec 21 (sign_r hb) ?_
 rintro e12 w12 ⟨rfl, g12⟩
 refine ⟨_, rfl, ?_⟩
 replace hB := hB.trans g12
 simp only [p3, p4]
 refine sw 22 (.bool true) rfl (RunV.bool (x := decide (sgn (b).num < (0 : Int))) (rvk (by kernel_rfl)) e3) ?_
 simp only [p3, p4]
 refine sv 19 (.bool true) ?_
 simp only [p3, p4]
 refine sq_nil ?_
 refine k11 _ _ ?_
 try clear k11 K11
 refine wp_cond_true rfl ?_
 refine wp_seq_k (fun K14 k14 => ?_)
 have gd28 := Gr.drew w12
 replace hB := hB.trans gd28
 replace L2 := L2.gr (g10.trans (g12.trans gd28))
 replace L3 := L3.gr (g12.trans gd28)
 refine wp_region_ord (fun w' => Lc w' b2 #[u0, u1, u2, u3] 31 ∧ Lc w' b3 #[v0, v1, v2, v3] 31) [(true, 0), (true, 2), (false, 1), (false, 3), (false, 4), (false, 5), (false, 6), (true, 7)] (by kernel_rfl) (by kernel_rfl) (by kernel_rfl) (by decide) (fun _ _ _ _ _ h => h) ⟨L2, L3⟩ ?_
 refine ow 23 (.agg #[v0, v1, v2, v3]) rfl (fun w' hS => (rl 31 0 [v0, v1, v2, v3] hS.2)) ?_
 simp only [p3, p4]
 refine ow 25 (.agg #[u0, u1, u2, u3]) rfl (fun w' hS => (rl 31 0 [u0, u1, u2, u3] hS.1)) ?_
 simp only [p3, p4]
 refine oe ?_
 have kq31 := g12.kp.trans gd28.kp
 replace hb := hb.kp kq31
 refine ec 24 (neg_r hb ) ?_
 rintro e30 w30 ⟨⟨p30, q30, r30, s30, rfl, h30⟩, g30⟩
 refine ⟨_, rfl, ?_⟩
 replace hB := hB.trans g30
 replace L2 := L2.gr g30
 replace L3 := L3.gr g30
 refine ⟨⟨L2, L3⟩, ?_⟩
 simp only [p3, p4]
 refine oe ?_
 have kq34 := g10.kp.trans (g12.kp.trans (gd28.kp.trans g30.kp))
 replace ha := ha.kp kq34
 refine ec 26 (neg_r ha ) ?_
 rintro e33 w33 ⟨⟨p33, q33, r33, s33, rfl, h33⟩, g33⟩
 refine ⟨_, rfl, ?_⟩
 replace hB := hB.trans g33
 replace L2 := L2.gr g33
 replace L3 := L3.gr g33
 refine ⟨⟨L2, L3⟩, ?_⟩
 simp only [p3, p4]
 refine oe ?_
 replace h30 := h30.kp g33.kp
 refine ec 27 (between_r h30 h33 hk (by grind) (by grind)) ?_
 rintro e36 w36 ⟨⟨sx, p36, q36, r36, s36, rfl, h36, hs⟩, g36⟩
 refine ⟨_, rfl, ?_⟩
 replace hB := hB.trans g36
 replace L2 := L2.gr g36
 replace L3 := L3.gr g36
 refine ⟨⟨L2, L3⟩, ?_⟩
 simp only [p3, p4]
 refine oe ?_
 refine ec 28 (neg_r h36 ) ?_
 rintro e38 w38 ⟨⟨p38, q38, r38, s38, rfl, h38⟩, g38⟩
 refine ⟨_, rfl, ?_⟩
 replace hB := hB.trans g38
 replace L2 := L2.gr g38
 replace L3 := L3.gr g38
 refine ⟨⟨L2, L3⟩, ?_⟩
 simp only [p3, p4]
 refine oe ?_
 replace L4 := L4.gr (g7.trans (g10.trans (g12.trans (gd28.trans (g30.trans (g33.trans (g36.trans g38)))))))
 refine es 31 0 (.agg #[p38, q38, r38, s38]) [p38, q38, r38, s38] #[p38, q38, r38, s38] L4 hB q4 ⟨h38.one0, h38.one1, h38.one2, h38.one3, trivial⟩ fun w40 st40 kp40 L4 hB => ?_
 replace L2 := st40.lc L2 ne2_4
 replace L3 := st40.lc L3 ne3_4
 refine ⟨⟨L2, L3⟩, ?_⟩
 refine ov 5 (.int .i64 0) ?_
 simp only [p3, p4]
 refine ord_nil ?_
 refine k14 _ _ ?_
 try clear k14 K14
 refine wp_ret ?_
 simp only [Exit.then, Exit.inBlock]
 refine bodyPost_ret (v := (.tuple #[(.agg #[p38, q38, r38, s38]), (.int .i64 0)])) (ret_cell_tmp' _ _ _ rfl rfl L4 (by kernel_rfl) rfl) rfl ⟨?_, hB⟩
 replace h38 := h38.kp kp40
 exact ⟨_, _, _, _, _, rfl, h38, fun h => absurd b0 (by grind), fun _ => by rw [Rat.neg_neg]; exact hs, fun _ h => absurd b0 (by grind)⟩

set_option maxRecDepth 100000 in
set_option maxHeartbeats 1000000 in
theorem simplest_z {k : Nat} {u0 u1 u2 u3 v0 v1 v2 v3 : Value} {a b : Rat} {w : World} (ha : IsRat w k u0 u1 u2 u3 a) (hb : IsRat w k v0 v1 v2 v3 b) (_hk : k ≤ 20000) (hab : a ≤ b) (_a0 : a ≤ 0) (_b0 : 0 ≤ b) :
    Calls Tryz.prog 61 #[(.agg #[u0, u1, u2, u3]), (.agg #[v0, v1, v2, v3])] w fun e w' => (∃ x c0 c1 c2 c3, e = .returned (.tuple #[.agg #[c0, c1, c2, c3], .int .i64 0]) ∧ IsRat w' k c0 c1 c2 c3 x ∧ SimpQ a b x) ∧ Gr w w' := by
 have hka := ha.big
 have e1 : decide ((0 : Int) < rcmp (a) (b)) = false := by rw [decide_eq_false_iff_not, rcmp_gt]; exact Rat.not_lt.2 hab
 have e2 : decide ((0 : Int) < sgn (a).num) = false := by rw [decide_eq_false_iff_not, num_sgn, rcmp_gt]; grind
 have e3 : decide (sgn (b).num < (0 : Int)) = false := by rw [decide_eq_false_iff_not, num_sgn, rcmp_lt]; grind
 go_enter Tryz.func61, Tryz.ntmps61
 have hB := Gr.refl w
 refine wp_seq_k (fun K1 k1 => ?_)
 refine rg [0, 1, 2, 3] ?_
 refine se ?_
 refine eb 31 #[u0, u1, u2, u3] 2 hB fun b2 w2 g2 L2 o2 q2 hB => ?_
 simp only [p3, p4]
 refine se ?_
 refine eb 31 #[v0, v1, v2, v3] 3 hB fun b3 w3 g3 L3 o3 q3 hB => ?_
 simp only [p3, p4]
 refine se ?_
 refine ea 31 #[(.bool false), (.slice none 0 0), (.bool false), (.slice none 0 0)] 4 hB fun b4 w4 g4 L4 o4 q4 hB => ?_
 replace L2 := L2.gr g3
 simp only [p3, p4]
 refine sv 5 (.int .i64 0) ?_
 simp only [p3, p4]
 refine sq_nil ?_
 refine k1 _ _ ?_
 try clear k1 K1
 refine wp_seq_k (fun K5 k5 => ?_)
 refine wp_block ?_
 refine wp_seq_k (fun K6 k6 => ?_)
 refine rg [0, 1, 2, 3, 4] ?_
 replace L2 := L2.gr g4
 refine sw 7 (.agg #[u0, u1, u2, u3]) rfl (rl 31 0 [u0, u1, u2, u3] L2) ?_
 simp only [p3, p4]
 replace L3 := L3.gr g4
 refine sw 8 (.agg #[v0, v1, v2, v3]) rfl (rl 31 0 [v0, v1, v2, v3] L3) ?_
 simp only [p3, p4]
 refine se ?_
 have kq8 := g2.kp.trans (g3.kp.trans g4.kp)
 replace ha := ha.kp kq8
 replace hb := hb.kp kq8
 refine ec 9 (compare_r ha hb (by omega)) ?_
 rintro e7 w7 ⟨rfl, g7⟩
 refine ⟨_, rfl, ?_⟩
 replace hB := hB.trans g7
 simp only [p3, p4]
 refine sw 10 (.bool false) rfl (RunV.bool (x := decide ((0 : Int) < rcmp (a) (b))) (rvk (by kernel_rfl)) e1) ?_
 simp only [p3, p4]
 refine sv 6 (.bool false) ?_
 simp only [p3, p4]
 refine sq_nil ?_
 refine k6 _ _ ?_
 try clear k6 K6
 refine wp_cond_false rfl ?_
 refine wp_seq_k (fun K9 k9 => ?_)
 refine rg [0, 1, 2, 3] ?_
 replace L2 := L2.gr g7
 refine sw 13 (.agg #[u0, u1, u2, u3]) rfl (rl 31 0 [u0, u1, u2, u3] L2) ?_
 simp only [p3, p4]
 refine se ?_
 replace ha := ha.kp g7.kp
 refine ec 14 (sign_r ha) ?_
 rintro e10 w10 ⟨rfl, g10⟩
 refine ⟨_, rfl, ?_⟩
 replace hB := hB.trans g10
 simp only [p3, p4]
 refine sw 15 (.bool false) rfl (RunV.bool (x := decide ((0 : Int) < sgn (a).num)) (rvk (by kernel_rfl)) e2) ?_
 simp only [p3, p4]
 refine sv 12 (.bool false) ?_
 simp only [p3, p4]
 refine sq_nil ?_
 refine k9 _ _ ?_
 try clear k9 K9
 refine wp_cond_false rfl ?_
 refine wp_seq_k (fun K11 k11 => ?_)
 refine rg [0, 1, 2, 3] ?_
 replace L3 := L3.gr (g7.trans g10)
 refine sw 20 (.agg #[v0, v1, v2, v3]) rfl (rl 31 0 [v0, v1, v2, v3] L3) ?_
 simp only [p3, p4]
 refine se ?_
 have kq13 := g7.kp.trans g10.kp
 replace hb := hb.kp kq13
 refine ec 21 (sign_r hb) ?_
 rintro e12 w12 ⟨rfl, g12⟩
 refine ⟨_, rfl, ?_⟩
 replace hB := hB.trans g12
 simp only [p3, p4]
 refine sw 22 (.bool false) rfl (RunV.bool (x := decide (sgn (b).num < (0 : Int))) (rvk (by kernel_rfl)) e3) ?_
 simp only [p3, p4]
 refine sv 19 (.bool false) ?_
 simp only [p3, p4]
 refine sq_nil ?_
 refine k11 _ _ ?_
 try clear k11 K11
 refine wp_cond_false rfl ?_
 refine wp_skip ?_
 refine k5 _ _ ?_
 try clear k5 K5
 refine wp_seq_k (fun K14 k14 => ?_)
 refine rg [0, 1, 2] ?_
 refine sv 29 (.agg #[(.bool false), (.slice none 0 0), (.bool false), (.slice none 0 0)]) ?_
 simp only [p3, p4]
 refine se ?_
 replace L4 := L4.gr (g7.trans (g10.trans g12))
 refine es 31 0 (.agg #[(.bool false), (.slice none 0 0), (.bool false), (.slice none 0 0)]) [(.bool false), (.slice none 0 0), (.bool false), (.slice none 0 0)] #[(.bool false), (.slice none 0 0), (.bool false), (.slice none 0 0)] L4 hB q4 ⟨rfl, rfl, rfl, rfl, trivial⟩ fun w15 st15 kp15 L4 hB => ?_
 refine sv 5 (.int .i64 0) ?_
 simp only [p3, p4]
 refine sq_nil ?_
 refine k14 _ _ ?_
 try clear k14 K14
 refine wp_ret ?_
 refine bodyPost_ret (v := (.tuple #[(.agg #[(.bool false), (.slice none 0 0), (.bool false), (.slice none 0 0)]), (.int .i64 0)])) (ret_cell_tmp' _ _ _ rfl rfl L4 (by kernel_rfl) rfl) rfl ⟨?_, hB⟩
 exact ⟨_, _, _, _, _, rfl, IsRat.zero _ hka, fun h => absurd h (by grind), fun h => absurd h (by grind), fun _ _ => rfl⟩

theorem simplest_r {k : Nat} {u0 u1 u2 u3 v0 v1 v2 v3 : Value} {a b : Rat} {w : World} (ha : IsRat w k u0 u1 u2 u3 a) (hb : IsRat w k v0 v1 v2 v3 b) (hk : k ≤ 20000) (hab : a ≤ b) : Calls Tryz.prog 61 #[(.agg #[u0, u1, u2, u3]), (.agg #[v0, v1, v2, v3])] w fun e w' => (∃ x c0 c1 c2 c3, e = .returned (.tuple #[.agg #[c0, c1, c2, c3], .int .i64 0]) ∧ IsRat w' k c0 c1 c2 c3 x ∧ SimpQ a b x) ∧ Gr w w' := by
  by_cases a0 : 0 < a
  · exact simplest_p ha hb hk hab a0
  · by_cases b0 : b < 0
    · exact simplest_n ha hb hk hab b0
    · exact simplest_z ha hb hk hab (by grind) (by grind)

end Go.Proofs.YtloocadjbpgldaaGreatDoor
/- Printed by a program of the prover's: the reference's Simplest. -/
namespace Go.Proofs.YtloocadjbpgldaaGreatDoor
open Go.RowKit

theorem rsz_muli {k m : Nat} {a : Rat} {z : Int} (ha : Sz k a.num ∧ Sz k (a.den : Int)) (hz : Sz m z) : Sz (k + m) (a * (z : Rat)).num ∧ Sz (k + m) ((a * (z : Rat)).den : Int) := by
  rw [← rat_mul]
  refine sz_divInt (ha.1.mul hz) ?_ ?_
  · rw [Rat.den_intCast, Int.natCast_one, Int.mul_one]; exact ha.2.mono (by omega)
  · rw [Rat.den_intCast, Int.natCast_one, Int.mul_one]; exact Int.ne_of_gt (den_pos_i a)
theorem sz_floor {k : Nat} {a : Rat} (ha : Sz k a.num ∧ Sz k (a.den : Int)) : Sz k a.floor := by
  rw [← floor_int]; exact sz_div ha.1 (den_pos_i a)
theorem sz_ceil {k : Nat} {a : Rat} (ha : Sz k a.num ∧ Sz k (a.den : Int)) : Sz k a.ceil := by
  rw [← ceil_int]; exact (sz_div (rsz_neg ha).1 (den_pos_i _)).neg
theorem r2_mul_i {k m : Nat} (a : Rat) (z : Int) (ha : Sz k a.num ∧ Sz k (a.den : Int)) (hz : Sz m z) (h1 : 0 < m) (hk : k + m ≤ 6000) (w : World) :
    Calls Tryz.prog 48 #[.string ⟨(ratL a).toArray⟩, .string ⟨(Lib.itoa z).toArray⟩] w fun e w' => e = .returned (.string ⟨(ratL (a * (z : Rat))).toArray⟩) ∧ Gr w w' := by
  have := r2_mul a (z : Rat) ha ⟨hz, show (1 : Nat) < 2 ^ m from Nat.one_lt_two_pow (by omega)⟩ hk w
  rw [ratL_iz] at this
  exact this
theorem r2_ceil_c {k : Nat} (a : Rat) (ha : Sz k a.num ∧ Sz k (a.den : Int)) (hk : k ≤ 6000) (w : World) :
    Calls Tryz.prog 43 #[.string ⟨(ratL a).toArray⟩] w fun e w' => e = .returned (.string ⟨(Lib.itoa a.ceil).toArray⟩) ∧ Gr w w' := by
  have := r2_ceil a ha hk w
  rw [ceil_int] at this
  exact this
theorem r2_floor_c {k : Nat} (a : Rat) (ha : Sz k a.num ∧ Sz k (a.den : Int)) (hk : k ≤ 6000) (w : World) :
    Calls Tryz.prog 42 #[.string ⟨(ratL a).toArray⟩] w fun e w' => e = .returned (.string ⟨(Lib.itoa a.floor).toArray⟩) ∧ Gr w w' := by
  have := r2_floor a ha hk w
  rw [floor_int] at this
  exact this

theorem sgn_hi {x y : Int} (h : decide ((0 : Int) < sgn (x - y)) = true) : y < x := by
  rw [decide_eq_true_eq, sgn_pos0] at h; omega
theorem sgn_lo {x y : Int} (h : decide ((0 : Int) < sgn (x - y)) = false) : ¬ y < x := by
  rw [decide_eq_false_iff_not, sgn_pos0] at h; omega
theorem sgn_up {x : Int} {t : Bool} (h : decide ((0 : Int) < sgn x) = t) : decide (0 < x) = t := by
  rw [← h]; exact decide_eq_decide.2 sgn_pos0.symm
theorem sgn_dn {x : Int} {t : Bool} (h : decide (sgn x < (0 : Int)) = t) : decide (x < 0) = t := by
  rw [← h]; exact decide_eq_decide.2 sgn_lt0.symm

set_option maxRecDepth 100000 in
set_option maxHeartbeats 1000000 in
theorem r2_simplest {k : Nat} (ra rb x : Rat) (ha : Sz k ra.num ∧ Sz k (ra.den : Int)) (hb : Sz k rb.num ∧ Sz k (rb.den : Int)) (_hk : k ≤ 2000) (hs : SimpQ ra rb x) (hab : ra ≤ rb) (_hx : x.den ≤ 1000000000) (w : World) :
    Calls Tryz.prog 62 #[(.string ⟨(ratL (ra) : List UInt8).toArray⟩), (.string ⟨(ratL (rb) : List UInt8).toArray⟩)] w fun e w' => e = .returned (.string ⟨(ratL x).toArray⟩) ∧ Gr w w' := by
 go_enter Tryz.func62, Tryz.ntmps62
 have hB := Gr.refl w
 refine wp_seq_k (fun K1 k1 => ?_)
 refine rg [0] ?_
 refine sv 4 (.string ⟨([] : List UInt8).toArray⟩) ?_
 simp only [p3, p4]
 refine sq_nil ?_
 refine k1 _ _ ?_
 try clear k1 K1
 refine wp_seq_k (fun K2 k2 => ?_)
 refine rg [0] ?_
 refine sv 5 (.int .i64 1) ?_
 simp only [p3, p4]
 refine sq_nil ?_
 refine k2 _ _ ?_
 try clear k2 K2
 refine wp_block ?_
 refine wp_loop_inv (a := ⟨List.toArray ?l3, []⟩) (fun n a w' => ∃ (d : Nat) (u3 : Nat → Value), x.den - d = n ∧ a = ⟨[(.string ⟨(ratL (ra) : List UInt8).toArray⟩), (.string ⟨(ratL (rb) : List UInt8).toArray⟩), undef, undef, (u3 4), (.int .i64 ((d : Int))), (u3 6), (u3 7), (u3 8), (u3 9), (u3 10), (u3 11), (u3 12), (u3 13), (u3 14), (u3 15), (u3 16), (u3 17), (u3 18), (u3 19), (u3 20), (u3 21), (u3 22), (u3 23), (u3 24), (u3 25), (u3 26), (u3 27), (u3 28), (u3 29), (u3 30), (u3 31), (u3 32), (u3 33), (u3 34), (u3 35), (u3 36), (u3 37), (u3 38)].toArray, []⟩ ∧ 1 ≤ d ∧ d ≤ x.den ∧ Gr w w') (x.den - 1) ?_ ?_
 ·exact ⟨1, (fun i => List.getD ?l3 i undef), rfl, rfl, (by omega), (by have := x.den_pos; omega), hB⟩
 rintro n3 a3 w3 ⟨d, u3, rfl, rfl, hd1, hd2, hB⟩ K3 k3
 have hdz : Sz 64 (d : Int) := Sz.i64 (by omega) (by omega)
 refine wp_seq_k (fun K4 k4 => ?_)
 refine wp_block ?_
 refine wp_seq_k (fun K5 k5 => ?_)
 refine rg [0, 1, 2] ?_
 refine sv 11 (.int .i64 ((d : Int))) ?_
 simp only [p3, p4]
 refine se ?_
 refine ec 12 (r1_from ((d : Int)) (by omega) (by omega) _) ?_
 rintro e6 w6 ⟨rfl, g6⟩
 refine ⟨_, rfl, ?_⟩
 replace hB := hB.trans g6
 simp only [p3, p4]
 refine sv 6 (.string ⟨(Lib.itoa (((d : Int))) : List UInt8).toArray⟩) ?_
 simp only [p3, p4]
 refine sq_nil ?_
 refine k5 _ _ ?_
 try clear k5 K5
 refine wp_seq_k (fun K7 k7 => ?_)
 refine rg [0, 1, 2, 3, 4, 5, 6, 7, 8, 9] ?_
 refine sv 13 (.string ⟨(ratL (ra) : List UInt8).toArray⟩) ?_
 simp only [p3, p4]
 refine sv 14 (.string ⟨(Lib.itoa (((d : Int))) : List UInt8).toArray⟩) ?_
 simp only [p3, p4]
 refine se ?_
 refine ec 15 (r2_mul_i ra (d : Int) ha hdz (by decide) (by omega) _) ?_
 rintro e8 w8 ⟨rfl, g8⟩
 refine ⟨_, rfl, ?_⟩
 replace hB := hB.trans g8
 simp only [p3, p4]
 refine se ?_
 refine ec 16 (r2_ceil_c (ra * ((d : Int) : Rat)) (rsz_muli ha hdz) (by omega) _) ?_
 rintro e9 w9 ⟨rfl, g9⟩
 refine ⟨_, rfl, ?_⟩
 replace hB := hB.trans g9
 simp only [p3, p4]
 refine sv 17 (.string ⟨(ratL (rb) : List UInt8).toArray⟩) ?_
 simp only [p3, p4]
 refine sv 18 (.string ⟨(Lib.itoa (((d : Int))) : List UInt8).toArray⟩) ?_
 simp only [p3, p4]
 refine se ?_
 refine ec 19 (r2_mul_i rb (d : Int) hb hdz (by decide) (by omega) _) ?_
 rintro e10 w10 ⟨rfl, g10⟩
 refine ⟨_, rfl, ?_⟩
 replace hB := hB.trans g10
 simp only [p3, p4]
 refine se ?_
 refine ec 20 (r2_floor_c (rb * ((d : Int) : Rat)) (rsz_muli hb hdz) (by omega) _) ?_
 rintro e11 w11 ⟨rfl, g11⟩
 refine ⟨_, rfl, ?_⟩
 replace hB := hB.trans g11
 simp only [p3, p4]
 refine sv 7 (.string ⟨(Lib.itoa ((ra * ((d : Int) : Rat)).ceil) : List UInt8).toArray⟩) ?_
 simp only [p3, p4]
 refine sv 8 (.string ⟨(Lib.itoa ((rb * ((d : Int) : Rat)).floor) : List UInt8).toArray⟩) ?_
 simp only [p3, p4]
 refine sq_nil ?_
 refine k7 _ _ ?_
 try clear k7 K7
 refine wp_seq_k (fun K12 k12 => ?_)
 refine wp_seq_k (fun K13 k13 => ?_)
 refine rg [0, 1, 2, 3] ?_
 refine sv 21 (.string ⟨(Lib.itoa ((ra * ((d : Int) : Rat)).ceil) : List UInt8).toArray⟩) ?_
 simp only [p3, p4]
 refine sv 22 (.string ⟨(Lib.itoa ((rb * ((d : Int) : Rat)).floor) : List UInt8).toArray⟩) ?_
 simp only [p3, p4]
 refine se ?_
 refine ec 23 (r1_compare ((ra * ((d : Int) : Rat)).ceil) ((rb * ((d : Int) : Rat)).floor) (sz_ceil (rsz_muli ha hdz)) (sz_floor (rsz_muli hb hdz)) (by omega) _) ?_
 rintro e14 w14 ⟨rfl, g14⟩
 refine ⟨_, rfl, ?_⟩
 replace hB := hB.trans g14
 simp only [p3, p4]
 refine sv 24 (.bool (decide ((0 : Int) < sgn ((ra * ((d : Int) : Rat)).ceil - (rb * ((d : Int) : Rat)).floor)))) ?_
 simp only [p3, p4]
 refine sq_nil ?_
 refine k13 _ _ ?_
 try clear k13 K13
 refine wp_cond_split (t := decide ((0 : Int) < sgn ((ra * ((d : Int) : Rat)).ceil - (rb * ((d : Int) : Rat)).floor))) rfl (fun hb15 => ?_) (fun hb15 => ?_)
 ·refine wp_exit ?_
  simp only [Exit.then, Exit.inBlock, ↓reduceIte]
  refine k4 _ _ ?_
  try clear k4 K4
  refine rg [0, 1, 2] ?_
  refine sv 9 (.int .i64 ((d : Int))) ?_
  simp only [p3, p4]
  refine sw 10 (.int .i64 (((d : Int) + 1))) rfl (RunV.int (x := IntKind.i64.wrap (((d : Int) + 1))) (y := ((d : Int) + 1)) (rvk (by kernel_rfl)) (by first | rfl | (rw [IntKind.wrap_i64]; omega))) ?_
  simp only [p3, p4]
  refine sv 5 (.int .i64 (((d : Int) + 1))) ?_
  simp only [p3, p4]
  refine sq_nil ?_
  refine k3 (x.den - (d + 1)) ⟨List.toArray ?l16, []⟩ _ (by have := ref_step hs hab hd1 hd2 (sgn_hi hb15); omega) ?_
  exact ⟨d + 1, (fun i => List.getD ?l16 i undef), rfl, rfl, (by omega), (by have := ref_step hs hab hd1 hd2 (sgn_hi hb15); omega), hB⟩
 ·refine wp_skip ?_
  refine k12 _ _ ?_
  try clear k12 K12
  refine wp_seq_k (fun K17 k17 => ?_)
  refine wp_block ?_
  refine wp_seq_k (fun K18 k18 => ?_)
  refine rg [0, 1, 2, 3] ?_
  refine sv 26 (.string ⟨(Lib.itoa ((ra * ((d : Int) : Rat)).ceil) : List UInt8).toArray⟩) ?_
  simp only [p3, p4]
  refine se ?_
  refine ec 27 (r1_sign_i ((ra * ((d : Int) : Rat)).ceil) _) ?_
  rintro e19 w19 ⟨rfl, g19⟩
  refine ⟨_, rfl, ?_⟩
  replace hB := hB.trans g19
  simp only [p3, p4]
  refine sv 28 (.bool (decide ((0 : Int) < sgn ((ra * ((d : Int) : Rat)).ceil)))) ?_
  simp only [p3, p4]
  refine sv 25 (.bool (decide ((0 : Int) < sgn ((ra * ((d : Int) : Rat)).ceil)))) ?_
  simp only [p3, p4]
  refine sq_nil ?_
  refine k18 _ _ ?_
  try clear k18 K18
  refine wp_cond_split (t := decide ((0 : Int) < sgn ((ra * ((d : Int) : Rat)).ceil))) rfl (fun hb20 => ?_) (fun hb20 => ?_)
  ·refine wp_seq_k (fun K21 k21 => ?_)
   refine rg [0, 1, 2, 3] ?_
   refine sv 29 (.string ⟨(Lib.itoa ((ra * ((d : Int) : Rat)).ceil) : List UInt8).toArray⟩) ?_
   simp only [p3, p4]
   refine sv 30 (.string ⟨(Lib.itoa (((d : Int))) : List UInt8).toArray⟩) ?_
   simp only [p3, p4]
   refine se ?_
   refine ec 31 (r2_text_q (k := k + 64) ((ra * ((d : Int) : Rat)).ceil) (((d : Int))) _ rfl (sz_ceil (rsz_muli ha hdz)) (hdz.mono (by omega)) (by omega) (by omega) _) ?_
   rintro e22 w22 ⟨rfl, g22⟩
   refine ⟨_, rfl, ?_⟩
   replace hB := hB.trans g22
   simp only [p3, p4]
   refine sv 4 (.string ⟨(ratL (Rat.divInt ((ra * ((d : Int) : Rat)).ceil) (((d : Int)))) : List UInt8).toArray⟩) ?_
   simp only [p3, p4]
   refine sq_nil ?_
   refine k21 _ _ ?_
   try clear k21 K21
   refine wp_ret ?_
   simp only [Exit.then, Exit.inBlock]
   refine bodyPost_ret (v := (.string ⟨(ratL (Rat.divInt ((ra * ((d : Int) : Rat)).ceil) (((d : Int)))) : List UInt8).toArray⟩)) (ret_tmp rfl rfl) rfl ⟨?_, hB⟩
   exact (by rw [ref_pos hs hab hd1 (ref_done hs hd1 hd2 (sgn_lo hb15)) (of_decide_eq_true (sgn_up hb20))])
  ·refine wp_seq_k (fun K23 k23 => ?_)
   refine rg [0, 1, 2, 3] ?_
   refine sv 33 (.string ⟨(Lib.itoa ((rb * ((d : Int) : Rat)).floor) : List UInt8).toArray⟩) ?_
   simp only [p3, p4]
   refine se ?_
   refine ec 34 (r1_sign_i ((rb * ((d : Int) : Rat)).floor) _) ?_
   rintro e24 w24 ⟨rfl, g24⟩
   refine ⟨_, rfl, ?_⟩
   replace hB := hB.trans g24
   simp only [p3, p4]
   refine sv 35 (.bool (decide (sgn ((rb * ((d : Int) : Rat)).floor) < (0 : Int)))) ?_
   simp only [p3, p4]
   refine sv 32 (.bool (decide (sgn ((rb * ((d : Int) : Rat)).floor) < (0 : Int)))) ?_
   simp only [p3, p4]
   refine sq_nil ?_
   refine k23 _ _ ?_
   try clear k23 K23
   refine wp_cond_split (t := decide (sgn ((rb * ((d : Int) : Rat)).floor) < (0 : Int))) rfl (fun hb25 => ?_) (fun hb25 => ?_)
   ·refine wp_seq_k (fun K26 k26 => ?_)
    refine rg [0, 1, 2, 3] ?_
    refine sv 36 (.string ⟨(Lib.itoa ((rb * ((d : Int) : Rat)).floor) : List UInt8).toArray⟩) ?_
    simp only [p3, p4]
    refine sv 37 (.string ⟨(Lib.itoa (((d : Int))) : List UInt8).toArray⟩) ?_
    simp only [p3, p4]
    refine se ?_
    refine ec 38 (r2_text_q (k := k + 64) ((rb * ((d : Int) : Rat)).floor) (((d : Int))) _ rfl (sz_floor (rsz_muli hb hdz)) (hdz.mono (by omega)) (by omega) (by omega) _) ?_
    rintro e27 w27 ⟨rfl, g27⟩
    refine ⟨_, rfl, ?_⟩
    replace hB := hB.trans g27
    simp only [p3, p4]
    refine sv 4 (.string ⟨(ratL (Rat.divInt ((rb * ((d : Int) : Rat)).floor) (((d : Int)))) : List UInt8).toArray⟩) ?_
    simp only [p3, p4]
    refine sq_nil ?_
    refine k26 _ _ ?_
    try clear k26 K26
    refine wp_ret ?_
    simp only [Exit.then, Exit.inBlock]
    refine bodyPost_ret (v := (.string ⟨(ratL (Rat.divInt ((rb * ((d : Int) : Rat)).floor) (((d : Int)))) : List UInt8).toArray⟩)) (ret_tmp rfl rfl) rfl ⟨?_, hB⟩
    exact (by rw [ref_neg hs hab hd1 (ref_done hs hd1 hd2 (sgn_lo hb15)) (of_decide_eq_true (sgn_dn hb25))])
   ·refine wp_skip ?_
    refine k17 _ _ ?_
    try clear k17 K17
    refine wp_seq_k (fun K28 k28 => ?_)
    refine rg [0] ?_
    refine sv 4 (.string ⟨([48] : List UInt8).toArray⟩) ?_
    simp only [p3, p4]
    refine sq_nil ?_
    refine k28 _ _ ?_
    try clear k28 K28
    refine wp_ret ?_
    simp only [Exit.then, Exit.inBlock]
    refine bodyPost_ret (v := (.string ⟨([48] : List UInt8).toArray⟩)) (ret_tmp rfl rfl) rfl ⟨?_, hB⟩
    exact (by rw [ref_mid hs hd1 (of_decide_eq_false (sgn_up hb20)) (of_decide_eq_false (sgn_dn hb25)), show ratL 0 = [48] from eq_of_beq (ratL_litw (by kernel_rfl) (itoa_litp 0 (by kernel_rfl) (by decide)))])

end Go.Proofs.YtloocadjbpgldaaGreatDoor
/- Printed by a program of the prover's: RationalSimplest. -/
namespace Go.Proofs.YtloocadjbpgldaaGreatDoor
open Go.RowKit

theorem simp_den {a b x : Rat} (hs : SimpQ a b x) (hab : a ≤ b) (h : (ratL a).length ≤ 7) : x.den ≤ 1000000000 := by
  have h1 := (hs.le hab).2.2.1
  have h2 := (ratL_sz a h).2
  unfold Sz at h2
  omega

set_option maxRecDepth 100000 in
set_option maxHeartbeats 1000000 in
theorem simpl_la (a : Rat) (_ha : Sz 160 a.num ∧ Sz 160 (a.den : Int)) (la : okT (ratL (a)) = true) (b : Rat) (_hb : Sz 160 b.num ∧ Sz 160 (b.den : Int)) (lb : okT (ratL (b)) = true) (_ha7 : 7 < (ratL a).length) (w : World) (ht : Tab w) (_hm : Mx w) :
    Calls Tryz.prog 11 #[(.string ⟨(ratL (a) : List UInt8).toArray⟩), (.string ⟨(ratL (b) : List UInt8).toArray⟩)] w fun e w' => e = .returned (.bool true) ∧ Gr w w' := by
 have lok : (okT (ratL (a)) && okT (ratL (b))) = true := okT_2 la lb
 have la7 : decide ((7 : Int) < ((ratL (a)).length : Int)) = true := by simp; omega
 go_enter Tryz.func11, Tryz.ntmps11
 have hB := Gr.refl w
 refine wp_seq_k (fun K1 k1 => ?_)
 refine rg [0] ?_
 refine sv 4 (.bool false) ?_
 simp only [p3, p4]
 refine sq_nil ?_
 refine k1 _ _ ?_
 try clear k1 K1
 refine wp_seq_k (fun K2 k2 => ?_)
 refine wp_seq_k (fun K3 k3 => ?_)
 refine rg [0, 1, 2, 3, 4, 5, 6, 7, 8, 9, 10, 11, 12, 13, 14, 15, 16, 17, 18] ?_
 refine se ?_
 refine ec 7 (known2 _ (ht.gr hB)) ?_
 rintro e4 w4 ⟨rfl, g4⟩
 refine ⟨_, rfl, ?_⟩
 replace hB := hB.trans g4
 simp only [p3, p4]
 refine sv 8 (.bool false) ?_
 simp only [p3, p4]
 refine sv 9 (.bool false) ?_
 simp only [p3, p4]
 refine sv 10 (.string ⟨(ratL (a) : List UInt8).toArray⟩) ?_
 simp only [p3, p4]
 refine sv 11 (.string ⟨(ratL (b) : List UInt8).toArray⟩) ?_
 simp only [p3, p4]
 refine se ?_
 refine eff_bs 9 2 #[(.string ⟨(ratL (a) : List UInt8).toArray⟩), (.string ⟨(ratL (b) : List UInt8).toArray⟩)] (some 12) rfl (fun _ => by kernel_rfl) (fun b5 w5 g5 L5 q5 => ?_)
 replace hB := hB.trans g5
 simp only [putl, p3, p4]
 refine se ?_
 refine ec 13 (right2 (ratL (a)) (ratL (b)) L5) ?_
 rintro e6 w6 ⟨rfl, g6⟩
 refine ⟨_, rfl, ?_⟩
 replace hB := hB.trans g6
 simp only [p3, p4]
 refine sw 14 (.bool false) rfl (RunV.bool (x := !((okT (ratL (a)) && okT (ratL (b))))) (rvk (by kernel_rfl)) (show (!((okT (ratL (a)) && okT (ratL (b))))) = false by rw [lok]; rfl)) ?_
 simp only [p3, p4]
 refine sv 15 (.bool false) ?_
 simp only [p3, p4]
 refine sv 16 (.bool false) ?_
 simp only [p3, p4]
 refine sv 17 (.string ⟨(ratL (a) : List UInt8).toArray⟩) ?_
 simp only [p3, p4]
 refine sv 18 (.int .i64 (((ratL (a)).length : Int))) ?_
 simp only [p3, p4]
 refine sw 19 (.bool true) rfl (RunV.bool (x := decide ((7 : Int) < ((ratL (a)).length : Int))) (rvk (by kernel_rfl)) la7) ?_
 simp only [p3, p4]
 refine sv 20 (.bool true) ?_
 simp only [p3, p4]
 refine sv 21 (.bool true) ?_
 simp only [p3, p4]
 refine ss 22 ?_
 simp only [p3, p4]
 refine ss 23 ?_
 simp only [p3, p4]
 refine ss 24 ?_
 simp only [p3, p4]
 refine sv 25 (.bool true) ?_
 simp only [p3, p4]
 refine sq_nil ?_
 refine k3 _ _ ?_
 try clear k3 K3
 refine wp_cond_true rfl ?_
 refine wp_seq_k (fun K7 k7 => ?_)
 refine rg [0, 1] ?_
 refine se ?_
 refine ec 26 (known2 _ (ht.gr hB)) ?_
 rintro e8 w8 ⟨rfl, g8⟩
 refine ⟨_, rfl, ?_⟩
 replace hB := hB.trans g8
 simp only [p3, p4]
 refine sv 4 (.bool true) ?_
 simp only [p3, p4]
 refine sq_nil ?_
 refine k7 _ _ ?_
 try clear k7 K7
 refine wp_ret ?_
 simp only [Exit.then]
 refine bodyPost_ret (v := (.bool true)) (ret_tmp rfl rfl) rfl ⟨?_, hB⟩
 exact rfl

set_option maxRecDepth 100000 in
set_option maxHeartbeats 1000000 in
theorem simpl_lb (a : Rat) (_ha : Sz 160 a.num ∧ Sz 160 (a.den : Int)) (la : okT (ratL (a)) = true) (b : Rat) (_hb : Sz 160 b.num ∧ Sz 160 (b.den : Int)) (lb : okT (ratL (b)) = true) (_ha7 : (ratL a).length ≤ 7) (_hb7 : 7 < (ratL b).length) (w : World) (ht : Tab w) (_hm : Mx w) :
    Calls Tryz.prog 11 #[(.string ⟨(ratL (a) : List UInt8).toArray⟩), (.string ⟨(ratL (b) : List UInt8).toArray⟩)] w fun e w' => e = .returned (.bool true) ∧ Gr w w' := by
 have lok : (okT (ratL (a)) && okT (ratL (b))) = true := okT_2 la lb
 have la7 : decide ((7 : Int) < ((ratL (a)).length : Int)) = false := by simp; omega
 have lb7 : decide ((7 : Int) < ((ratL (b)).length : Int)) = true := by simp; omega
 go_enter Tryz.func11, Tryz.ntmps11
 have hB := Gr.refl w
 refine wp_seq_k (fun K1 k1 => ?_)
 refine rg [0] ?_
 refine sv 4 (.bool false) ?_
 simp only [p3, p4]
 refine sq_nil ?_
 refine k1 _ _ ?_
 try clear k1 K1
 refine wp_seq_k (fun K2 k2 => ?_)
 refine wp_seq_k (fun K3 k3 => ?_)
 refine rg [0, 1, 2, 3, 4, 5, 6, 7, 8, 9, 10, 11, 12, 13, 14, 15, 16, 17, 18] ?_
 refine se ?_
 refine ec 7 (known2 _ (ht.gr hB)) ?_
 rintro e4 w4 ⟨rfl, g4⟩
 refine ⟨_, rfl, ?_⟩
 replace hB := hB.trans g4
 simp only [p3, p4]
 refine sv 8 (.bool false) ?_
 simp only [p3, p4]
 refine sv 9 (.bool false) ?_
 simp only [p3, p4]
 refine sv 10 (.string ⟨(ratL (a) : List UInt8).toArray⟩) ?_
 simp only [p3, p4]
 refine sv 11 (.string ⟨(ratL (b) : List UInt8).toArray⟩) ?_
 simp only [p3, p4]
 refine se ?_
 refine eff_bs 9 2 #[(.string ⟨(ratL (a) : List UInt8).toArray⟩), (.string ⟨(ratL (b) : List UInt8).toArray⟩)] (some 12) rfl (fun _ => by kernel_rfl) (fun b5 w5 g5 L5 q5 => ?_)
 replace hB := hB.trans g5
 simp only [putl, p3, p4]
 refine se ?_
 refine ec 13 (right2 (ratL (a)) (ratL (b)) L5) ?_
 rintro e6 w6 ⟨rfl, g6⟩
 refine ⟨_, rfl, ?_⟩
 replace hB := hB.trans g6
 simp only [p3, p4]
 refine sw 14 (.bool false) rfl (RunV.bool (x := !((okT (ratL (a)) && okT (ratL (b))))) (rvk (by kernel_rfl)) (show (!((okT (ratL (a)) && okT (ratL (b))))) = false by rw [lok]; rfl)) ?_
 simp only [p3, p4]
 refine sv 15 (.bool false) ?_
 simp only [p3, p4]
 refine sv 16 (.bool false) ?_
 simp only [p3, p4]
 refine sv 17 (.string ⟨(ratL (a) : List UInt8).toArray⟩) ?_
 simp only [p3, p4]
 refine sv 18 (.int .i64 (((ratL (a)).length : Int))) ?_
 simp only [p3, p4]
 refine sw 19 (.bool false) rfl (RunV.bool (x := decide ((7 : Int) < ((ratL (a)).length : Int))) (rvk (by kernel_rfl)) la7) ?_
 simp only [p3, p4]
 refine sv 20 (.bool false) ?_
 simp only [p3, p4]
 refine sv 21 (.bool false) ?_
 simp only [p3, p4]
 refine sv 22 (.string ⟨(ratL (b) : List UInt8).toArray⟩) ?_
 simp only [p3, p4]
 refine sv 23 (.int .i64 (((ratL (b)).length : Int))) ?_
 simp only [p3, p4]
 refine sw 24 (.bool true) rfl (RunV.bool (x := decide ((7 : Int) < ((ratL (b)).length : Int))) (rvk (by kernel_rfl)) lb7) ?_
 simp only [p3, p4]
 refine sv 25 (.bool true) ?_
 simp only [p3, p4]
 refine sq_nil ?_
 refine k3 _ _ ?_
 try clear k3 K3
 refine wp_cond_true rfl ?_
 refine wp_seq_k (fun K7 k7 => ?_)
 refine rg [0, 1] ?_
 refine se ?_
 refine ec 26 (known2 _ (ht.gr hB)) ?_
 rintro e8 w8 ⟨rfl, g8⟩
 refine ⟨_, rfl, ?_⟩
 replace hB := hB.trans g8
 simp only [p3, p4]
 refine sv 4 (.bool true) ?_
 simp only [p3, p4]
 refine sq_nil ?_
 refine k7 _ _ ?_
 try clear k7 K7
 refine wp_ret ?_
 simp only [Exit.then]
 refine bodyPost_ret (v := (.bool true)) (ret_tmp rfl rfl) rfl ⟨?_, hB⟩
 exact rfl

theorem lawSi0  : (ratL (0) == ([48] : List UInt8)) = true := ratL_litw (by kernel_rfl) (itoa_litp 0 (by kernel_rfl) (by decide))
set_option maxRecDepth 100000 in
set_option maxHeartbeats 1000000 in
theorem simpl_x (a : Rat) (ha : Sz 160 a.num ∧ Sz 160 (a.den : Int)) (la : okT (ratL (a)) = true) (b : Rat) (hb : Sz 160 b.num ∧ Sz 160 (b.den : Int)) (lb : okT (ratL (b)) = true) (_ha7 : (ratL a).length ≤ 7) (_hb7 : (ratL b).length ≤ 7) (hba : b < a) (w : World) (ht : Tab w) (hm : Mx w) :
    Calls Tryz.prog 11 #[(.string ⟨(ratL (a) : List UInt8).toArray⟩), (.string ⟨(ratL (b) : List UInt8).toArray⟩)] w fun e w' => e = .returned (.bool true) ∧ Gr w w' := by
 have lok : (okT (ratL (a)) && okT (ratL (b))) = true := okT_2 la lb
 have la7 : decide ((7 : Int) < ((ratL (a)).length : Int)) = false := by simp; omega
 have lb7 : decide ((7 : Int) < ((ratL (b)).length : Int)) = false := by simp; omega
 have hc : decide ((0 : Int) < rcmp (a) (b)) = true := by rw [decide_eq_true_eq, rcmp_gt]; exact hba
 go_enter Tryz.func11, Tryz.ntmps11
 have hB := Gr.refl w
 refine wp_seq_k (fun K1 k1 => ?_)
 refine rg [0] ?_
 refine sv 4 (.bool false) ?_
 simp only [p3, p4]
 refine sq_nil ?_
 refine k1 _ _ ?_
 try clear k1 K1
 refine wp_seq_k (fun K2 k2 => ?_)
 refine wp_seq_k (fun K3 k3 => ?_)
 refine rg [0, 1, 2, 3, 4, 5, 6, 7, 8, 9, 10, 11, 12, 13, 14, 15, 16, 17, 18] ?_
 refine se ?_
 refine ec 7 (known2 _ (ht.gr hB)) ?_
 rintro e4 w4 ⟨rfl, g4⟩
 refine ⟨_, rfl, ?_⟩
 replace hB := hB.trans g4
 simp only [p3, p4]
 refine sv 8 (.bool false) ?_
 simp only [p3, p4]
 refine sv 9 (.bool false) ?_
 simp only [p3, p4]
 refine sv 10 (.string ⟨(ratL (a) : List UInt8).toArray⟩) ?_
 simp only [p3, p4]
 refine sv 11 (.string ⟨(ratL (b) : List UInt8).toArray⟩) ?_
 simp only [p3, p4]
 refine se ?_
 refine eff_bs 9 2 #[(.string ⟨(ratL (a) : List UInt8).toArray⟩), (.string ⟨(ratL (b) : List UInt8).toArray⟩)] (some 12) rfl (fun _ => by kernel_rfl) (fun b5 w5 g5 L5 q5 => ?_)
 replace hB := hB.trans g5
 simp only [putl, p3, p4]
 refine se ?_
 refine ec 13 (right2 (ratL (a)) (ratL (b)) L5) ?_
 rintro e6 w6 ⟨rfl, g6⟩
 refine ⟨_, rfl, ?_⟩
 replace hB := hB.trans g6
 simp only [p3, p4]
 refine sw 14 (.bool false) rfl (RunV.bool (x := !((okT (ratL (a)) && okT (ratL (b))))) (rvk (by kernel_rfl)) (show (!((okT (ratL (a)) && okT (ratL (b))))) = false by rw [lok]; rfl)) ?_
 simp only [p3, p4]
 refine sv 15 (.bool false) ?_
 simp only [p3, p4]
 refine sv 16 (.bool false) ?_
 simp only [p3, p4]
 refine sv 17 (.string ⟨(ratL (a) : List UInt8).toArray⟩) ?_
 simp only [p3, p4]
 refine sv 18 (.int .i64 (((ratL (a)).length : Int))) ?_
 simp only [p3, p4]
 refine sw 19 (.bool false) rfl (RunV.bool (x := decide ((7 : Int) < ((ratL (a)).length : Int))) (rvk (by kernel_rfl)) la7) ?_
 simp only [p3, p4]
 refine sv 20 (.bool false) ?_
 simp only [p3, p4]
 refine sv 21 (.bool false) ?_
 simp only [p3, p4]
 refine sv 22 (.string ⟨(ratL (b) : List UInt8).toArray⟩) ?_
 simp only [p3, p4]
 refine sv 23 (.int .i64 (((ratL (b)).length : Int))) ?_
 simp only [p3, p4]
 refine sw 24 (.bool false) rfl (RunV.bool (x := decide ((7 : Int) < ((ratL (b)).length : Int))) (rvk (by kernel_rfl)) lb7) ?_
 simp only [p3, p4]
 refine sv 25 (.bool false) ?_
 simp only [p3, p4]
 refine sq_nil ?_
 refine k3 _ _ ?_
 try clear k3 K3
 refine wp_cond_false rfl ?_
 refine wp_skip ?_
 refine k2 _ _ ?_
 try clear k2 K2
 refine wp_seq_k (fun K7 k7 => ?_)
 refine rg [0, 1, 2, 3, 4, 5, 6, 7, 8, 9, 10] ?_
 refine sv 28 (.string ⟨(ratL (a) : List UInt8).toArray⟩) ?_
 simp only [p3, p4]
 refine se ?_
 refine ec 29 (lread_q a ha la _ (hm.gr hB)) ?_
 rintro e8 w8 ⟨⟨p8, q8, r8, s8, rfl, h8⟩, g8⟩
 refine ⟨_, rfl, ?_⟩
 replace hB := hB.trans g8
 simp only [p3, p4]
 refine sv 30 (.string ⟨(ratL (b) : List UInt8).toArray⟩) ?_
 simp only [p3, p4]
 refine se ?_
 refine ec 31 (lread_q b hb lb _ (hm.gr hB)) ?_
 rintro e9 w9 ⟨⟨p9, q9, r9, s9, rfl, h9⟩, g9⟩
 refine ⟨_, rfl, ?_⟩
 replace hB := hB.trans g9
 simp only [p3, p4]
 refine se ?_
 replace h8 := h8.kp g9.kp
 refine ec 32 (simplest_x h8 h9 (by omega) hba) ?_
 rintro e10 w10 ⟨rfl, g10⟩
 refine ⟨_, rfl, ?_⟩
 replace hB := hB.trans g10
 simp only [p3, p4]
 refine sv 27 (.tuple #[(.agg #[(.bool false), (.slice none 0 0), (.bool false), (.slice none 0 0)]), (.int .i64 8)]) ?_
 simp only [p3, p4]
 refine sv 33 (.agg #[(.bool false), (.slice none 0 0), (.bool false), (.slice none 0 0)]) ?_
 simp only [p3, p4]
 refine sv 34 (.int .i64 8) ?_
 simp only [p3, p4]
 refine se ?_
 refine ea 31 #[(.bool false), (.slice none 0 0), (.bool false), (.slice none 0 0)] 5 hB fun b11 w11 g11 L11 o11 q11 hB => ?_
 simp only [p3, p4]
 refine se ?_
 refine es 31 0 (.agg #[(.bool false), (.slice none 0 0), (.bool false), (.slice none 0 0)]) [(.bool false), (.slice none 0 0), (.bool false), (.slice none 0 0)] #[(.bool false), (.slice none 0 0), (.bool false), (.slice none 0 0)] L11 hB q11 ⟨rfl, rfl, rfl, rfl, trivial⟩ fun w12 st12 kp12 L11 hB => ?_
 refine sv 6 (.int .i64 8) ?_
 simp only [p3, p4]
 refine sq_nil ?_
 refine k7 _ _ ?_
 try clear k7 K7
 refine wp_seq_k (fun K13 k13 => ?_)
 refine wp_seq_k (fun K14 k14 => ?_)
 refine rg [0, 1, 2, 3] ?_
 refine sv 35 (.string ⟨(ratL (a) : List UInt8).toArray⟩) ?_
 simp only [p3, p4]
 refine sv 36 (.string ⟨(ratL (b) : List UInt8).toArray⟩) ?_
 simp only [p3, p4]
 refine se ?_
 refine ec 37 (r2_compare (a) (b) ha hb (by omega) _) ?_
 rintro e15 w15 ⟨rfl, g15⟩
 refine ⟨_, rfl, ?_⟩
 replace hB := hB.trans g15
 simp only [p3, p4]
 refine sw 38 (.bool true) rfl (RunV.bool (x := decide ((0 : Int) < rcmp (a) (b))) (rvk (by kernel_rfl)) hc) ?_
 simp only [p3, p4]
 refine sq_nil ?_
 refine k14 _ _ ?_
 try clear k14 K14
 refine wp_cond_true rfl ?_
 refine wp_seq_k (fun K16 k16 => ?_)
 refine rg [0, 1, 2, 3, 4, 5, 6] ?_
 refine sv 39 (.int .i64 8) ?_
 simp only [p3, p4]
 refine sv 40 (.bool true) ?_
 simp only [p3, p4]
 refine sv 41 (.bool true) ?_
 simp only [p3, p4]
 replace L11 := L11.gr g15
 refine sw 42 (.agg #[(.bool false), (.slice none 0 0), (.bool false), (.slice none 0 0)]) rfl (rl 31 0 [(.bool false), (.slice none 0 0), (.bool false), (.slice none 0 0)] L11) ?_
 simp only [p3, p4]
 refine se ?_
 refine ec 43 (is_q ([48]) (IsRat.zero _ (k := 64) (Nat.le_refl _)) (by omega) (ht.gr hB)) ?_
 rintro e17 w17 ⟨rfl, g17⟩
 refine ⟨_, rfl, ?_⟩
 replace hB := hB.trans g17
 simp only [p3, p4]
 have hb18 : ((ratL (0)) == (([48] : List UInt8))) = true := (lawSi0  )
 refine sw 44 (.bool true) rfl (RunV.bool (x := (ratL (0)) == (([48] : List UInt8))) (rvk (by kernel_rfl)) hb18) ?_
 simp only [p3, p4]
 refine sv 4 (.bool true) ?_
 simp only [p3, p4]
 refine sq_nil ?_
 refine k16 _ _ ?_
 try clear k16 K16
 refine wp_ret ?_
 simp only [Exit.then]
 refine bodyPost_ret (v := (.bool true)) (ret_tmp rfl rfl) rfl ⟨?_, hB⟩
 exact rfl

set_option maxRecDepth 100000 in
set_option maxHeartbeats 1000000 in
theorem simpl_q (a : Rat) (ha : Sz 160 a.num ∧ Sz 160 (a.den : Int)) (la : okT (ratL (a)) = true) (b : Rat) (hb : Sz 160 b.num ∧ Sz 160 (b.den : Int)) (lb : okT (ratL (b)) = true) (ha7 : (ratL a).length ≤ 7) (_hb7 : (ratL b).length ≤ 7) (hab : a ≤ b) (w : World) (ht : Tab w) (hm : Mx w) :
    Calls Tryz.prog 11 #[(.string ⟨(ratL (a) : List UInt8).toArray⟩), (.string ⟨(ratL (b) : List UInt8).toArray⟩)] w fun e w' => e = .returned (.bool true) ∧ Gr w w' := by
 have lok : (okT (ratL (a)) && okT (ratL (b))) = true := okT_2 la lb
 have la7 : decide ((7 : Int) < ((ratL (a)).length : Int)) = false := by simp; omega
 have lb7 : decide ((7 : Int) < ((ratL (b)).length : Int)) = false := by simp; omega
 have hc : decide ((0 : Int) < rcmp (a) (b)) = false := by rw [decide_eq_false_iff_not, rcmp_gt]; exact Rat.not_lt.2 hab
 go_enter Tryz.func11, Tryz.ntmps11
 have hB := Gr.refl w
 refine wp_seq_k (fun K1 k1 => ?_)
 refine rg [0] ?_
 refine sv 4 (.bool false) ?_
 simp only [p3, p4]
 refine sq_nil ?_
 refine k1 _ _ ?_
 try clear k1 K1
 refine wp_seq_k (fun K2 k2 => ?_)
 refine wp_seq_k (fun K3 k3 => ?_)
 refine rg [0, 1, 2, 3, 4, 5, 6, 7, 8, 9, 10, 11, 12, 13, 14, 15, 16, 17, 18] ?_
 refine se ?_
 refine ec 7 (known2 _ (ht.gr hB)) ?_
 rintro e4 w4 ⟨rfl, g4⟩
 refine ⟨_, rfl, ?_⟩
 replace hB := hB.trans g4
 simp only [p3, p4]
 refine sv 8 (.bool false) ?_
 simp only [p3, p4]
 refine sv 9 (.bool false) ?_
 simp only [p3, p4]
 refine sv 10 (.string ⟨(ratL (a) : List UInt8).toArray⟩) ?_
 simp only [p3, p4]
 refine sv 11 (.string ⟨(ratL (b) : List UInt8).toArray⟩) ?_
 simp only [p3, p4]
 refine se ?_
 refine eff_bs 9 2 #[(.string ⟨(ratL (a) : List UInt8).toArray⟩), (.string ⟨(ratL (b) : List UInt8).toArray⟩)] (some 12) rfl (fun _ => by kernel_rfl) (fun b5 w5 g5 L5 q5 => ?_)
 replace hB := hB.trans g5
 simp only [putl, p3, p4]
 refine se ?_
 refine ec 13 (right2 (ratL (a)) (ratL (b)) L5) ?_
 rintro e6 w6 ⟨rfl, g6⟩
 refine ⟨_, rfl, ?_⟩
 replace hB := hB.trans g6
 simp only [p3, p4]
 refine sw 14 (.bool false) rfl (RunV.bool (x := !((okT (ratL (a)) && okT (ratL (b))))) (rvk (by kernel_rfl)) (show (!((okT (ratL (a)) && okT (ratL (b))))) = false by rw [lok]; rfl)) ?_
 simp only [p3, p4]
 refine sv 15 (.bool false) ?_
 simp only [p3, p4]
 refine sv 16 (.bool false) ?_
 simp only [p3, p4]
 refine sv 17 (.string ⟨(ratL (a) : List UInt8).toArray⟩) ?_
 simp only [p3, p4]
 refine sv 18 (.int .i64 (((ratL (a)).length : Int))) ?_
 simp only [p3, p4]
 refine sw 19 (.bool false) rfl (RunV.bool (x := decide ((7 : Int) < ((ratL (a)).length : Int))) (rvk (by kernel_rfl)) la7) ?_
 simp only [p3, p4]
 refine sv 20 (.bool false) ?_
 simp only [p3, p4]
 refine sv 21 (.bool false) ?_
 simp only [p3, p4]
 refine sv 22 (.string ⟨(ratL (b) : List UInt8).toArray⟩) ?_
 simp only [p3, p4]
 refine sv 23 (.int .i64 (((ratL (b)).length : Int))) ?_
 simp only [p3, p4]
 refine sw 24 (.bool false) rfl (RunV.bool (x := decide ((7 : Int) < ((ratL (b)).length : Int))) (rvk (by kernel_rfl)) lb7) ?_
 simp only [p3, p4]
 refine sv 25 (.bool false) ?_
 simp only [p3, p4]
 refine sq_nil ?_
 refine k3 _ _ ?_
 try clear k3 K3
 refine wp_cond_false rfl ?_
 refine wp_skip ?_
 refine k2 _ _ ?_
 try clear k2 K2
 refine wp_seq_k (fun K7 k7 => ?_)
 refine rg [0, 1, 2, 3, 4, 5, 6, 7, 8, 9, 10] ?_
 refine sv 28 (.string ⟨(ratL (a) : List UInt8).toArray⟩) ?_
 simp only [p3, p4]
 refine se ?_
 refine ec 29 (lread_q a ha la _ (hm.gr hB)) ?_
 rintro e8 w8 ⟨⟨p8, q8, r8, s8, rfl, h8⟩, g8⟩
 refine ⟨_, rfl, ?_⟩
 replace hB := hB.trans g8
 simp only [p3, p4]
 refine sv 30 (.string ⟨(ratL (b) : List UInt8).toArray⟩) ?_
 simp only [p3, p4]
 refine se ?_
 refine ec 31 (lread_q b hb lb _ (hm.gr hB)) ?_
 rintro e9 w9 ⟨⟨p9, q9, r9, s9, rfl, h9⟩, g9⟩
 refine ⟨_, rfl, ?_⟩
 replace hB := hB.trans g9
 simp only [p3, p4]
 refine se ?_
 replace h8 := h8.kp g9.kp
 refine ec 32 (simplest_r h8 h9 (by omega) hab) ?_
 rintro e10 w10 ⟨⟨sx, p10, q10, r10, s10, rfl, h10, hs⟩, g10⟩
 refine ⟨_, rfl, ?_⟩
 replace hB := hB.trans g10
 simp only [p3, p4]
 refine sv 27 (.tuple #[(.agg #[p10, q10, r10, s10]), (.int .i64 0)]) ?_
 simp only [p3, p4]
 refine sv 33 (.agg #[p10, q10, r10, s10]) ?_
 simp only [p3, p4]
 refine sv 34 (.int .i64 0) ?_
 simp only [p3, p4]
 refine se ?_
 refine ea 31 #[(.bool false), (.slice none 0 0), (.bool false), (.slice none 0 0)] 5 hB fun b11 w11 g11 L11 o11 q11 hB => ?_
 simp only [p3, p4]
 refine se ?_
 refine es 31 0 (.agg #[p10, q10, r10, s10]) [p10, q10, r10, s10] #[p10, q10, r10, s10] L11 hB q11 ⟨h10.one0, h10.one1, h10.one2, h10.one3, trivial⟩ fun w12 st12 kp12 L11 hB => ?_
 refine sv 6 (.int .i64 0) ?_
 simp only [p3, p4]
 refine sq_nil ?_
 refine k7 _ _ ?_
 try clear k7 K7
 refine wp_seq_k (fun K13 k13 => ?_)
 refine wp_seq_k (fun K14 k14 => ?_)
 refine rg [0, 1, 2, 3] ?_
 refine sv 35 (.string ⟨(ratL (a) : List UInt8).toArray⟩) ?_
 simp only [p3, p4]
 refine sv 36 (.string ⟨(ratL (b) : List UInt8).toArray⟩) ?_
 simp only [p3, p4]
 refine se ?_
 refine ec 37 (r2_compare (a) (b) ha hb (by omega) _) ?_
 rintro e15 w15 ⟨rfl, g15⟩
 refine ⟨_, rfl, ?_⟩
 replace hB := hB.trans g15
 simp only [p3, p4]
 refine sw 38 (.bool false) rfl (RunV.bool (x := decide ((0 : Int) < rcmp (a) (b))) (rvk (by kernel_rfl)) hc) ?_
 simp only [p3, p4]
 refine sq_nil ?_
 refine k14 _ _ ?_
 try clear k14 K14
 refine wp_cond_false rfl ?_
 refine wp_skip ?_
 refine k13 _ _ ?_
 try clear k13 K13
 refine wp_seq_k (fun K16 k16 => ?_)
 have gd24 := Gr.drew w15
 replace hB := hB.trans gd24
 replace L11 := L11.gr (g15.trans gd24)
 refine wp_region_ord (fun w' => Lc w' b11 #[p10, q10, r10, s10] 31) [(true, 0), (true, 1), (true, 2), (true, 3), (true, 4), (true, 5), (false, 6), (false, 7), (true, 8), (true, 9)] (by kernel_rfl) (by kernel_rfl) (by kernel_rfl) (by decide) (fun _ _ _ _ _ h => h) L11 ?_
 refine ov 45 (.int .i64 0) ?_
 simp only [p3, p4]
 refine ov 46 (.bool true) ?_
 simp only [p3, p4]
 refine ov 47 (.bool true) ?_
 simp only [p3, p4]
 refine ow 48 (.agg #[p10, q10, r10, s10]) rfl (fun w' hS => (rl 31 0 [p10, q10, r10, s10] hS)) ?_
 simp only [p3, p4]
 refine ov 49 (.string ⟨(ratL (a) : List UInt8).toArray⟩) ?_
 simp only [p3, p4]
 refine ov 50 (.string ⟨(ratL (b) : List UInt8).toArray⟩) ?_
 simp only [p3, p4]
 refine oe ?_
 refine ec 51 (r2_simplest a b sx ha hb (by omega) hs hab (simp_den hs hab ha7) _) ?_
 rintro e26 w26 ⟨rfl, g26⟩
 refine ⟨_, rfl, ?_⟩
 replace hB := hB.trans g26
 replace L11 := L11.gr g26
 refine ⟨L11, ?_⟩
 simp only [p3, p4]
 refine oe ?_
 have kq29 := g11.kp.trans (kp12.trans (g15.kp.trans (gd24.kp.trans g26.kp)))
 replace h10 := h10.kp kq29
 refine ec 52 (is_q (ratL (sx)) h10 (by omega) (ht.gr hB)) ?_
 rintro e28 w28 ⟨rfl, g28⟩
 refine ⟨_, rfl, ?_⟩
 replace hB := hB.trans g28
 replace L11 := L11.gr g28
 refine ⟨L11, ?_⟩
 simp only [p3, p4]
 have hb30 : ((ratL (sx)) == (ratL (sx))) = true := (text_lit rfl)
 refine ow 53 (.bool true) rfl (fun w' hS => (RunV.bool (x := (ratL (sx)) == (ratL (sx))) (rvk (by kernel_rfl)) hb30)) ?_
 simp only [p3, p4]
 refine ov 4 (.bool true) ?_
 simp only [p3, p4]
 refine ord_nil ?_
 refine k16 _ _ ?_
 try clear k16 K16
 refine wp_ret ?_
 refine bodyPost_ret (v := (.bool true)) (ret_tmp rfl rfl) rfl ⟨?_, hB⟩
 exact rfl

set_option maxRecDepth 100000 in
set_option maxHeartbeats 1000000 in
theorem simpl_b (X Y : List UInt8) (hok : (okT (X) && okT (Y)) = false) (w : World) (ht : Tab w) (_hm : Mx w) :
    Calls Tryz.prog 11 #[(.string ⟨(X : List UInt8).toArray⟩), (.string ⟨(Y : List UInt8).toArray⟩)] w fun e w' => e = .returned (.bool true) ∧ Gr w w' := by
 go_enter Tryz.func11, Tryz.ntmps11
 have hB := Gr.refl w
 refine wp_seq_k (fun K1 k1 => ?_)
 refine rg [0] ?_
 refine sv 4 (.bool false) ?_
 simp only [p3, p4]
 refine sq_nil ?_
 refine k1 _ _ ?_
 try clear k1 K1
 refine wp_seq_k (fun K2 k2 => ?_)
 refine wp_seq_k (fun K3 k3 => ?_)
 refine rg [0, 1, 2, 3, 4, 5, 6, 7, 8, 9, 10, 11, 12, 13, 14, 15, 16, 17, 18] ?_
 refine se ?_
 refine ec 7 (known2 _ (ht.gr hB)) ?_
 rintro e4 w4 ⟨rfl, g4⟩
 refine ⟨_, rfl, ?_⟩
 replace hB := hB.trans g4
 simp only [p3, p4]
 refine sv 8 (.bool false) ?_
 simp only [p3, p4]
 refine sv 9 (.bool false) ?_
 simp only [p3, p4]
 refine sv 10 (.string ⟨(X : List UInt8).toArray⟩) ?_
 simp only [p3, p4]
 refine sv 11 (.string ⟨(Y : List UInt8).toArray⟩) ?_
 simp only [p3, p4]
 refine se ?_
 refine eff_bs 9 2 #[(.string ⟨(X : List UInt8).toArray⟩), (.string ⟨(Y : List UInt8).toArray⟩)] (some 12) rfl (fun _ => by kernel_rfl) (fun b5 w5 g5 L5 q5 => ?_)
 replace hB := hB.trans g5
 simp only [putl, p3, p4]
 refine se ?_
 refine ec 13 (right2 (X) (Y) L5) ?_
 rintro e6 w6 ⟨rfl, g6⟩
 refine ⟨_, rfl, ?_⟩
 replace hB := hB.trans g6
 simp only [p3, p4]
 refine sw 14 (.bool true) rfl (RunV.bool (x := !((okT (X) && okT (Y)))) (rvk (by kernel_rfl)) (show (!((okT (X) && okT (Y)))) = true by rw [hok]; rfl)) ?_
 simp only [p3, p4]
 refine sv 15 (.bool true) ?_
 simp only [p3, p4]
 refine sv 16 (.bool true) ?_
 simp only [p3, p4]
 refine ss 17 ?_
 simp only [p3, p4]
 refine ss 18 ?_
 simp only [p3, p4]
 refine ss 19 ?_
 simp only [p3, p4]
 refine sv 20 (.bool true) ?_
 simp only [p3, p4]
 refine sv 21 (.bool true) ?_
 simp only [p3, p4]
 refine ss 22 ?_
 simp only [p3, p4]
 refine ss 23 ?_
 simp only [p3, p4]
 refine ss 24 ?_
 simp only [p3, p4]
 refine sv 25 (.bool true) ?_
 simp only [p3, p4]
 refine sq_nil ?_
 refine k3 _ _ ?_
 try clear k3 K3
 refine wp_cond_true rfl ?_
 refine wp_seq_k (fun K7 k7 => ?_)
 refine rg [0, 1] ?_
 refine se ?_
 refine ec 26 (known2 _ (ht.gr hB)) ?_
 rintro e8 w8 ⟨rfl, g8⟩
 refine ⟨_, rfl, ?_⟩
 replace hB := hB.trans g8
 simp only [p3, p4]
 refine sv 4 (.bool true) ?_
 simp only [p3, p4]
 refine sq_nil ?_
 refine k7 _ _ ?_
 try clear k7 K7
 refine wp_ret ?_
 simp only [Exit.then]
 refine bodyPost_ret (v := (.bool true)) (ret_tmp rfl rfl) rfl ⟨?_, hB⟩
 exact rfl

theorem rational_simplest (X Y : List UInt8) (w : World) (ht : Tab w) (hm : Mx w) :
    Calls Tryz.prog 11 #[(.string ⟨(X : List UInt8).toArray⟩), (.string ⟨(Y : List UInt8).toArray⟩)] w fun e w' => e = .returned (.bool true) ∧ Gr w w' := by
  rcases Bool.eq_false_or_eq_true (okT (X) && okT (Y)) with hok | hok
  · obtain ⟨a, rfl, ha, la⟩ := okT_rat (ok2_0 hok)
    obtain ⟨b, rfl, hb, lb⟩ := okT_rat (ok2_1 hok)
    by_cases ha7 : (ratL a).length ≤ 7
    · by_cases hb7 : (ratL b).length ≤ 7
      · by_cases hab : a ≤ b
        · exact simpl_q a ha la b hb lb ha7 hb7 hab w ht hm
        · exact simpl_x a ha la b hb lb ha7 hb7 (Rat.not_le.1 hab) w ht hm
      · exact simpl_lb a ha la b hb lb ha7 (by omega) w ht hm
    · exact simpl_la a ha la b hb lb (by omega) w ht hm
  · exact simpl_b X Y hok w ht hm

end Go.Proofs.YtloocadjbpgldaaGreatDoor
/- The law RationalSimplest holds of every input: its row, and its card tied to the program's text. Printed by a program of the prover's. -/
namespace Go.Proofs.YtloocadjbpgldaaGreatDoor
open Go.ChangeShapes Go.WideShapes Go.ChangeAt Go.RowKit

theorem rationalSimplest_table {W : World} (h : laidMetH Tryz.prog Rows.rationalSimplestRow.laid W) : Tab W :=
  Lib.tabIs_of_head (rest := _) (g := 2) (t := 171) (e := 84) (n := 20) (by kernel_rfl) (by kernel_rfl) (by kernel_rfl) (by kernel_rfl) (by kernel_rfl) (by kernel_rfl) ((show laidMet Tryz.prog Rows.rationalSimplestRow.laid W from (MakeChecks.laidMetH_plain _ _ _ (by kernel_rfl)) ▸ h).tail.tail)
theorem rationalSimplest_maxlen {W : World} (h : W.ShapedOpen Tryz.prog) : Mx W :=
  Go.Proofs.cell_of_shapedOpen_int (zero := #[.int .i64 0]) (g := 3) (t := 3) h (of_decide_eq_true (by kernel_rfl)) (by kernel_rfl) rfl (by kernel_rfl) (by kernel_rfl) Tryz.underlying3
set_option maxRecDepth 100000 in
theorem rationalSimplest_contract (H : Type) (enc : TypeId × Value → H) (W : World) (base : Nat) (args : Array Value) (ds gs : List (DataW H)) (before : List MemPlace)
    (hval : ∀ (j : Nat) t v, Tryz.f11.params[j]? = some t → args[j]? = some v → Value.okWide Tryz.prog W .any base t v)
    (hW : DataW.Whole enc Tryz.prog Tryz.f11.params.toList Rows.rationalSimplestSpec.vars false W args.toList ds gs before) (hL : laidMetH Tryz.prog Rows.rationalSimplestRow.laid W) (hsh : W.ShapedOpen Tryz.prog) :
    Calls Tryz.prog 11 args W fun e W' => ∃ v, e = .returned v ∧ Rows.rationalSimplestSpec.post enc Tryz.prog Tryz.f11 false true false false W args v W' := by
  have hW' := hW
  obtain ⟨p, q, hA0, hV, rfl, hfz, hnd⟩ := hW
  have hA : DataW.TrodAll enc Tryz.prog W 0 (fun _ => true) true Tryz.f11.params.toList args.toList ds p := hA0
  rw [Tryz.params11] at hA hval
  obtain ⟨v0, vs0, d0, ds0, p0, q0, hargs, rfl, rfl, h0, r0⟩ := trodAll_cons hA
  obtain ⟨v1, vs1, d1, ds1, p1, q1, rfl, rfl, rfl, h1, r1⟩ := trodAll_cons r0
  obtain ⟨rfl, rfl, rfl⟩ := trodAll_nil r1
  obtain rfl : args = #[v0, v1] := by cases args; simp_all
  obtain ⟨rfl, rfl⟩ := trodVars_none hV
  obtain ⟨n0_0, rfl⟩ := open_text (by kernel_rfl) (hval 0 9 v0 rfl rfl)
  obtain ⟨n1_0, rfl⟩ := open_text (by kernel_rfl) (hval 1 9 v1 rfl rfl)
  refine (rational_simplest n0_0 n1_0 W (rationalSimplest_table hL) (rationalSimplest_maxlen hsh)).mono fun e W' ⟨he, hg⟩ => ?_
  subst he
  exact ⟨_, rfl, law_post (tb := 4) laidOut (by kernel_rfl) (by kernel_rfl) (by kernel_rfl) rfl hW' rfl hg⟩
noncomputable def rationalSimplest_world (os : Os) : World := World.laidAll Tryz.prog os Rows.rationalSimplestRow.laid
theorem rationalSimplest_met (os : Os) : laidMet Tryz.prog Rows.rationalSimplestRow.laid ((rationalSimplest_world os).forCall (fun _ _ => 0) ⟨#[], #[.string ⟨#[]⟩, .string ⟨#[]⟩], []⟩).memory :=
  laidMet_laidAll _ (by kernel_rfl) (by kernel_rfl)
theorem rationalSimplest_reads (os : Os) {H : Type} (enc : TypeId × Value → H) : ∃ places, DataW.whole enc Tryz.prog ((rationalSimplest_world os).forCall (fun _ _ => 0) ⟨#[], #[.string ⟨#[]⟩, .string ⟨#[]⟩], []⟩).memory Tryz.f11.params.toList Rows.rationalSimplestSpec.vars false (#[.string ⟨#[]⟩, .string ⟨#[]⟩] : Array Value).toList 8 = some ([.lit (.string []), .lit (.string [])], [], places) :=
  ⟨[], by kernel_rfl⟩
set_option maxRecDepth 100000 in
theorem rationalSimplest_lifted (os : Os) (started : os.Started) (H : Type) (enc : TypeId × Value → H) (F : Stop.Interp) :
    ReturnsInHanded {} Tryz.checked os 11 .any ((OpenSpec.ofChange Rows.rationalSimplestSpec).preRow enc Tryz.prog Tryz.f11 Rows.rationalSimplestRow.domain false Rows.rationalSimplestRow.laid) (((OpenSpec.ofChange Rows.rationalSimplestSpec).at F).post enc Tryz.prog Tryz.f11 false true false false) := by
  obtain ⟨places, hx⟩ := rationalSimplest_reads os enc
  refine returnsInHanded_of_row (C := Tryz.checked) (s := OpenSpec.ofChange Rows.rationalSimplestSpec) own started (by kernel_rfl) Tryz.func11
    (witness_row_sh (enc := enc) (C := Tryz.checked) false (rationalSimplest_world os) #[.string ⟨#[]⟩, .string ⟨#[]⟩] (World.laidAll_os _ _ _) (World.shaped_of_ZipB (by kernel_rfl) (by kernel_rfl)) (by kernel_rfl)
      (OpenSpec.preRow_of_cond 8 hx (by kernel_rfl) (fun k hk => by cases hk) (by kernel_rfl) (by rw [MakeChecks.laidMetH_plain _ _ _ (by kernel_rfl)]; exact rationalSimplest_met os))) ?_
  intro W base args ds gs before hval hW _ _ _ hL hsh _
  exact rationalSimplest_contract H enc W base args ds gs before hval hW hL hsh
theorem rationalSimplest_said : Rows.RationalSimplestSaid :=
  OpenClaim.holds_of_cond 11 Tryz.f11 rfl rfl rfl rfl rfl rfl rfl ⟨rfl, rfl, rfl, rfl, rfl⟩ rfl rfl rfl rfl rfl (by kernel_rfl) Tryz.func11 (by kernel_rfl)
    (of_decide_eq_true (by kernel_rfl)) (by unfold Func.isWrapper; first | (rw [if_pos (by decide +kernel)]; kernel_rfl) | (rw [if_neg (by decide +kernel)]; exact ⟨rfl, rfl⟩))
    (fun os started H enc _ F => by rw [OpenClaim.pre_eq_preRow]; exact rationalSimplest_lifted os started H enc F)
theorem rationalSimplest_plain (f : FuncId) (fn : Func) (hf : Tryz.pinned.checked.prog.funcNamed "dowel/dowellaw02.RationalSimplest" = some f) (hfn : Tryz.pinned.checked.prog.funcs[f]? = some fn) :
    true = Tryz.pinned.checked.prog.looks [] ∧ ∀ (j : Nat) t, fn.params[j]? = some t → Tryz.pinned.checked.prog.wantsStandIn t = false := by
  obtain rfl : f = 11 := Option.some.inj ((show Tryz.prog.funcNamed "dowel/dowellaw02.RationalSimplest" = some 11 by kernel_rfl).symm.trans hf) |>.symm
  obtain rfl : fn = Tryz.f11 := (Option.some.inj (Tryz.func11.symm.trans hfn)).symm
  refine ⟨by kernel_rfl, fun j t ht => ?_⟩
  rw [Tryz.params11] at ht
  have hm := Array.mem_of_getElem? ht
  have hall : (#[9, 9] : Array TypeId).toList.all (fun t => !Tryz.prog.wantsStandIn t) = true := by kernel_rfl
  have := List.all_eq_true.1 hall t (Array.mem_toList_iff.2 hm)
  have h3 : Tryz.prog.wantsStandIn t = false := by simpa using this
  exact h3
/-- the card -/
theorem rationalSimplest_card : Rows.RationalSimplestCardSaid :=
  Claim7.holds_tied_plain_at .later [] _ _ _ _ rationalSimplest_said (fun _ h => by cases h) (by kernel_rfl) (fun _ h => by cases h) rationalSimplest_row_tie rfl ⟨rfl, rfl⟩ (by kernel_rfl) rfl rationalSimplest_plain (by kernel_rfl)
end Go.Proofs.YtloocadjbpgldaaGreatDoor
