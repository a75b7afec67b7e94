/- Joined of: Simp, Gen46, Gen48, Gen50, RowRationalOrder. -/
import Derived.Test.YtloocadjbpgldaaGreatDoorPartE
import Derived.Test.YtloocadjbpgldaaGreatDoorPartF
import Derived.Test.YtloocadjbpgldaaGreatDoorPartD
import Derived.Test.YtloocadjbpgldaaGreatDoorCards
import Derived.Test.YtloocadjbpgldaaGreatDoorTie
/- The simplest rational between two others: plain laws, without the program. -/
namespace Go.Proofs.YtloocadjbpgldaaGreatDoor
open Go.RowKit

theorem rnum_pos {a : Rat} : 0 < a.num ↔ 0 < a := by rw [Rat.lt_iff]; simp
theorem rat_parts {n d : Int} (hd : 0 < d) (hc : Int.gcd n d = 1) : (Rat.divInt n d).num = n ∧ ((Rat.divInt n d).den : Int) = d := by
  have h1 := Rat.num_divInt n d
  have h2 := Rat.den_divInt n d
  rw [Int.gcd_comm] at hc
  rw [hc, Int.sign_eq_one_of_pos hd] at h1
  rw [hc, if_neg (by omega)] at h2
  refine ⟨by rw [h1]; simp, ?_⟩
  rw [h2]; simp; omega
theorem gcd_parts (a : Rat) : Int.gcd a.num (a.den : Int) = 1 := a.reduced
theorem rat_add_int (a : Rat) (z : Int) : (a + (z : Rat)).num = a.num + z * (a.den : Int) ∧ (a + (z : Rat)).den = a.den := by
  have h := rat_add a (z : Rat)
  rw [Rat.num_intCast, Rat.den_intCast] at h
  have h2 := rat_parts (n := a.num * ((1 : Nat) : Int) + z * a.den) (d := (a.den : Int) * ((1 : Nat) : Int)) (by have := a.den_pos; omega) (by
    have e := gcd_parts a
    rw [show ((1 : Nat) : Int) = 1 from rfl, Int.mul_one, Int.mul_one]
    simpa using e)
  rw [h] at h2
  refine ⟨by rw [h2.1]; omega, by have := h2.2; omega⟩
theorem rat_inv {a : Rat} (h : 0 < a) : (a⁻¹).num = (a.den : Int) ∧ ((a⁻¹).den : Int) = a.num := by
  have h1 : 0 < a.num := rnum_pos.2 h
  rw [Rat.num_inv, Rat.den_inv, Int.sign_eq_one_of_pos h1, if_neg (by omega)]
  exact ⟨by omega, by omega⟩
theorem inv_le {u v : Rat} (h : 0 < u) (h2 : u ≤ v) : v⁻¹ ≤ u⁻¹ := by
  have hv : 0 < v := by grind
  have e1 := Rat.mul_inv_cancel u (by grind)
  have e2 := Rat.mul_inv_cancel v (by grind)
  have h3 : 0 < u⁻¹ := Rat.inv_pos.2 h
  have h4 : 0 < v⁻¹ := Rat.inv_pos.2 hv
  have h5 : u * (u⁻¹ * v⁻¹) ≤ v * (u⁻¹ * v⁻¹) := Rat.mul_le_mul_of_nonneg_right h2 (Rat.le_of_lt (Rat.mul_pos h3 h4))
  have e3 : u * (u⁻¹ * v⁻¹) = v⁻¹ := by rw [← Rat.mul_assoc, e1, Rat.one_mul]
  have e4 : v * (u⁻¹ * v⁻¹) = u⁻¹ := by rw [Rat.mul_comm u⁻¹, ← Rat.mul_assoc, e2, Rat.one_mul]
  rw [e3, e4] at h5
  exact h5
/-- no numerator and no denominator of a rational from a to b is less than those of x -/
def Simp (a b x : Rat) : Prop := a ≤ x ∧ x ≤ b ∧ ∀ y : Rat, a ≤ y → y ≤ b → x.den ≤ y.den ∧ x.num ≤ y.num
theorem num_ge {y : Rat} (h : 0 < y) : y ≤ (y.num : Rat) := by
  rw [Rat.le_iff, Rat.num_intCast, Rat.den_intCast]
  have h1 : 0 < y.num := rnum_pos.2 h
  have h2 := y.den_pos
  have : y.num * 1 ≤ y.num * (y.den : Int) := Int.mul_le_mul_of_nonneg_left (by omega) (by omega)
  simpa using this
theorem simp_int {a b : Rat} (ha : 0 < a) (h : ((a.ceil : Int) : Rat) ≤ b) : Simp a b ((a.ceil : Int) : Rat) := by
  refine ⟨Rat.le_ceil, h, fun y h1 _ => ⟨?_, ?_⟩⟩
  · rw [Rat.den_intCast]; exact y.den_pos
  · rw [Rat.num_intCast, Rat.ceil_le_iff]
    exact Rat.le_trans h1 (num_ge (by grind))
/-- what is known when no integer lies between -/
theorem simp_gap {a b : Rat} (ha : 0 < a) (hab : a ≤ b) (h : ¬ ((a.ceil : Int) : Rat) ≤ b) :
    0 ≤ a.floor ∧ 0 < a - (a.floor : Rat) ∧ a - (a.floor : Rat) ≤ b - (a.floor : Rat) ∧ b - (a.floor : Rat) < 1 := by
  have h1 := Rat.floor_le a
  have h2 : ¬ a = (a.floor : Rat) := by
    intro e
    have : a.ceil ≤ a.floor := by rw [Rat.ceil_le_iff]; grind
    have h3 : ((a.ceil : Int) : Rat) ≤ (a.floor : Rat) := Rat.intCast_le_intCast.2 this
    grind
  have h3 : a.ceil ≤ a.floor + 1 := by
    rw [Rat.ceil_le_iff]
    have := Rat.lt_floor_add_one a
    grind
  have h4 : ((a.ceil : Int) : Rat) ≤ ((a.floor + 1 : Int) : Rat) := Rat.intCast_le_intCast.2 h3
  rw [Rat.intCast_add] at h4
  refine ⟨?_, by grind, by grind, by grind⟩
  have : (0 : Int) ≤ a.floor := by rw [Rat.le_floor_iff]; grind
  exact this
theorem rat_sub_int (a : Rat) (z : Int) : (a - (z : Rat)).num = a.num - z * (a.den : Int) ∧ (a - (z : Rat)).den = a.den := by
  have := rat_add_int a (-z)
  rw [Rat.intCast_neg, ← Rat.sub_eq_add_neg] at this
  refine ⟨by rw [this.1, Int.neg_mul]; omega, this.2⟩
theorem simp_step {a b x : Rat} (ha : 0 < a) (hab : a ≤ b) (h : ¬ ((a.ceil : Int) : Rat) ≤ b) (hx : Simp (b - (a.floor : Rat))⁻¹ (a - (a.floor : Rat))⁻¹ x) :
    Simp a b ((a.floor : Rat) + x⁻¹) := by
  obtain ⟨h1, h2, h3, h4⟩ := simp_gap ha hab h
  obtain ⟨x1, x2, x3⟩ := hx
  generalize hf : a.floor = f at *
  have hq : 0 < b - (f : Rat) := by grind
  have hx0 : 0 < x := by have := Rat.inv_pos.2 hq; grind
  have e1 := inv_le (Rat.inv_pos.2 hq) x1
  have e2 := inv_le hx0 x2
  rw [Rat.inv_inv] at e1 e2
  refine ⟨by grind, by grind, fun y y1 y2 => ?_⟩
  have hy0 : 0 < y - (f : Rat) := by grind
  have k := x3 (y - (f : Rat))⁻¹ (inv_le hy0 (by grind)) (inv_le h2 (by grind))
  have r1 := rat_inv hx0
  have r2 := rat_inv hy0
  have r3 := rat_add_int x⁻¹ f
  have r4 := rat_sub_int y f
  rw [Rat.add_comm]
  rw [r3.1, r3.2]
  have k1 : (x.den : Int) ≤ (((y - (f : Rat))⁻¹).den : Int) := by omega
  have k2 := k.2
  rw [r2.2, r4.1] at k1
  rw [r2.1, r4.2] at k2
  have k3 : f * x.num ≤ f * (y.den : Int) := Int.mul_le_mul_of_nonneg_left k2 h1
  refine ⟨by omega, ?_⟩
  rw [r1.1, r1.2]
  omega
/-- the numbers of the next two ends are less -/
theorem simp_next {a b u : Rat} (ha : 0 < a) (hab : a ≤ b) (h : ¬ ((a.ceil : Int) : Rat) ≤ b) (hu : a ≤ u) (hv : u ≤ b) :
    0 < (u - (a.floor : Rat)) ∧ (u - (a.floor : Rat)).num ≠ 0 ∧ ((u - (a.floor : Rat))⁻¹).num = (u.den : Int) ∧ ((u - (a.floor : Rat))⁻¹).den < u.den := by
  obtain ⟨h1, h2, h3, h4⟩ := simp_gap ha hab h
  have h5 : 0 < u - (a.floor : Rat) := by grind
  have r := rat_inv h5
  have r4 := rat_sub_int u a.floor
  have h6 : u - (a.floor : Rat) < 1 := by grind
  have h7 : (u - (a.floor : Rat)).num < ((u - (a.floor : Rat)).den : Int) := by
    rw [Rat.lt_iff] at h6
    simpa using h6
  have h8 : 0 < (u - (a.floor : Rat)).num := rnum_pos.2 h5
  refine ⟨h5, by omega, by rw [r.1, r4.2], ?_⟩
  have := r.2
  rw [r4.2] at h7
  omega
/-- the simplest rational, whatever the signs -/
def SimpQ (a b x : Rat) : Prop := (0 < a → Simp a b x) ∧ (b < 0 → Simp (-b) (-a) (-x)) ∧ (a ≤ 0 → 0 ≤ b → x = 0)
theorem SimpQ.le {a b x : Rat} (h : SimpQ a b x) (hab : a ≤ b) : a ≤ x ∧ x ≤ b ∧ x.den ≤ a.den ∧ x.den ≤ b.den := by
  rcases Classical.em (0 < a) with h1 | h1
  · obtain ⟨p, q, r⟩ := h.1 h1
    exact ⟨p, q, (r a Rat.le_refl hab).1, (r b hab Rat.le_refl).1⟩
  rcases Classical.em (b < 0) with h2 | h2
  · obtain ⟨p, q, r⟩ := h.2.1 h2
    have r1 := (r (-a) (by grind) Rat.le_refl).1
    have r2 := (r (-b) Rat.le_refl (by grind)).1
    rw [Rat.neg_den, Rat.neg_den] at r1 r2
    exact ⟨by grind, by grind, r1, r2⟩
  · have := h.2.2 (by grind) (by grind)
    subst this
    exact ⟨by grind, by grind, a.den_pos, b.den_pos⟩
theorem den_div_le (n : Int) {d : Nat} (hd : 0 < d) : (Rat.divInt n (d : Int)).den ≤ d := by
  rw [Rat.den_divInt, if_neg (by omega)]
  exact Nat.div_le_self _ _
theorem num_div_le {n : Int} {d : Nat} (hd : 0 < d) (hn : 0 < n) : (Rat.divInt n (d : Int)).num ≤ n := by
  rw [Rat.num_divInt, Int.sign_eq_one_of_pos (by omega), Int.one_mul]
  exact Int.ediv_le_self _ (by omega)
theorem div_mul_nat (n : Int) {d : Nat} (hd : 0 < d) : Rat.divInt n (d : Int) * ((d : Int) : Rat) = (n : Rat) := by
  rw [Rat.divInt_eq_div]
  have : ((d : Int) : Rat) ≠ 0 := by
    intro e
    have := Rat.intCast_inj.1 (e.trans rfl : ((d : Int) : Rat) = ((0 : Int) : Rat))
    omega
  exact Rat.div_mul_cancel this
theorem between_div {a b : Rat} {d : Nat} (hd : 0 < d) (n : Int) (h1 : a * ((d : Int) : Rat) ≤ (n : Rat)) (h2 : (n : Rat) ≤ b * ((d : Int) : Rat)) :
    a ≤ Rat.divInt n (d : Int) ∧ Rat.divInt n (d : Int) ≤ b := by
  have e := div_mul_nat n hd
  have hp : (0 : Rat) < ((d : Int) : Rat) := by
    have : ((0 : Int) : Rat) < ((d : Int) : Rat) := Rat.intCast_lt_intCast.2 (by omega)
    exact this
  rw [← e] at h1 h2
  exact ⟨Rat.le_of_mul_le_mul_right h1 hp, Rat.le_of_mul_le_mul_right h2 hp⟩
theorem rat_mul_den (x : Rat) : x * ((x.den : Int) : Rat) = (x.num : Rat) := by
  have := div_mul_nat x.num x.den_pos
  rw [Rat.num_divInt_den] at this
  exact this
theorem ref_low {a b x : Rat} {d : Nat} (h : SimpQ a b x) (hd : 1 ≤ d) (hd2 : d < x.den) : (b * ((d : Int) : Rat)).floor < (a * ((d : Int) : Rat)).ceil := by
  apply Int.lt_of_not_ge
  intro hle
  have h1 : a * ((d : Int) : Rat) ≤ (((a * ((d : Int) : Rat)).ceil : Int) : Rat) := Rat.le_ceil
  have h2 : (((a * ((d : Int) : Rat)).ceil : Int) : Rat) ≤ b * ((d : Int) : Rat) := Rat.le_trans (Rat.intCast_le_intCast.2 hle) (Rat.floor_le _)
  obtain ⟨k1, k2⟩ := between_div (by omega) _ h1 h2
  have k3 := den_div_le (a * ((d : Int) : Rat)).ceil (d := d) (by omega)
  generalize hy : Rat.divInt (a * ((d : Int) : Rat)).ceil (d : Int) = y at *
  rcases Classical.em (0 < a) with a0 | a0
  · have := ((h.1 a0).2.2 y k1 k2).1; omega
  rcases Classical.em (b < 0) with b0 | b0
  · have := ((h.2.1 b0).2.2 (-y) (by grind) (by grind)).1
    rw [Rat.neg_den, Rat.neg_den] at this; omega
  · have := h.2.2 (by grind) (by grind)
    subst this
    have : (0 : Rat).den = 1 := rfl
    omega
theorem ref_stop {a b x : Rat} {d : Nat} (h : SimpQ a b x) (hab : a ≤ b) (hd : 1 ≤ d) (hd2 : d = x.den) : (a * ((d : Int) : Rat)).ceil ≤ x.num ∧ x.num ≤ (b * ((d : Int) : Rat)).floor := by
  obtain ⟨k1, k2, _, _⟩ := h.le hab
  have hp : (0 : Rat) ≤ ((d : Int) : Rat) := by
    have : ((0 : Int) : Rat) ≤ ((d : Int) : Rat) := Rat.intCast_le_intCast.2 (by omega)
    exact this
  have e := rat_mul_den x
  rw [← hd2] at e
  rw [Rat.ceil_le_iff, Rat.le_floor_iff, ← e]
  exact ⟨Rat.mul_le_mul_of_nonneg_right k1 hp, Rat.mul_le_mul_of_nonneg_right k2 hp⟩
theorem ref_step {a b x : Rat} {d : Nat} (h : SimpQ a b x) (hab : a ≤ b) (hd : 1 ≤ d) (hd2 : d ≤ x.den) (hl : (b * ((d : Int) : Rat)).floor < (a * ((d : Int) : Rat)).ceil) : d < x.den := by
  rcases Nat.lt_or_ge d x.den with k | k
  · exact k
  · have := ref_stop h hab hd (by omega); omega
theorem ref_done {a b x : Rat} {d : Nat} (h : SimpQ a b x) (hd : 1 ≤ d) (hd2 : d ≤ x.den) (hl : ¬ (b * ((d : Int) : Rat)).floor < (a * ((d : Int) : Rat)).ceil) : d = x.den := by
  rcases Nat.lt_or_ge d x.den with k | k
  · exact absurd (ref_low h hd k) hl
  · omega
theorem ref_pos {a b x : Rat} {d : Nat} (h : SimpQ a b x) (hab : a ≤ b) (hd : 1 ≤ d) (hd2 : d = x.den) (hl : 0 < (a * ((d : Int) : Rat)).ceil) : Rat.divInt (a * ((d : Int) : Rat)).ceil (d : Int) = x := by
  have hp : (0 : Rat) < ((d : Int) : Rat) := by
    have : ((0 : Int) : Rat) < ((d : Int) : Rat) := Rat.intCast_lt_intCast.2 (by omega)
    exact this
  have a0 : 0 < a := by
    rw [Rat.lt_ceil_iff] at hl
    have := Rat.not_le.1 (fun hn : a ≤ 0 => Rat.not_lt.2 (show a * ((d : Int) : Rat) ≤ ((0 : Int) : Rat) by
      have := Rat.mul_le_mul_of_nonneg_right hn (Rat.le_of_lt hp)
      rw [Rat.zero_mul] at this; exact this) hl)
    exact this
  obtain ⟨s1, s2⟩ := ref_stop h hab hd hd2
  have h1 : a * ((d : Int) : Rat) ≤ (((a * ((d : Int) : Rat)).ceil : Int) : Rat) := Rat.le_ceil
  have h2 : (((a * ((d : Int) : Rat)).ceil : Int) : Rat) ≤ b * ((d : Int) : Rat) := Rat.le_trans (Rat.intCast_le_intCast.2 (Int.le_trans s1 s2)) (Rat.floor_le _)
  obtain ⟨k1, k2⟩ := between_div (by omega) _ h1 h2
  have k3 := ((h.1 a0).2.2 _ k1 k2).2
  have k4 := num_div_le (n := (a * ((d : Int) : Rat)).ceil) (d := d) (by omega) hl
  have : (a * ((d : Int) : Rat)).ceil = x.num := by omega
  rw [this, hd2, Rat.num_divInt_den]
theorem ref_neg {a b x : Rat} {d : Nat} (h : SimpQ a b x) (hab : a ≤ b) (hd : 1 ≤ d) (hd2 : d = x.den) (hl : (b * ((d : Int) : Rat)).floor < 0) : Rat.divInt (b * ((d : Int) : Rat)).floor (d : Int) = x := by
  have hp : (0 : Rat) < ((d : Int) : Rat) := by
    have : ((0 : Int) : Rat) < ((d : Int) : Rat) := Rat.intCast_lt_intCast.2 (by omega)
    exact this
  have b0 : b < 0 := by
    rw [Rat.floor_lt_iff] at hl
    have := Rat.not_le.1 (fun hn : 0 ≤ b => Rat.not_lt.2 (show ((0 : Int) : Rat) ≤ b * ((d : Int) : Rat) by
      have := Rat.mul_le_mul_of_nonneg_right hn (Rat.le_of_lt hp)
      rw [Rat.zero_mul] at this; exact this) hl)
    exact this
  obtain ⟨s1, s2⟩ := ref_stop h hab hd hd2
  have h1 : a * ((d : Int) : Rat) ≤ (((b * ((d : Int) : Rat)).floor : Int) : Rat) := Rat.le_trans Rat.le_ceil (Rat.intCast_le_intCast.2 (Int.le_trans s1 s2))
  have h2 : (((b * ((d : Int) : Rat)).floor : Int) : Rat) ≤ b * ((d : Int) : Rat) := Rat.floor_le _
  obtain ⟨k1, k2⟩ := between_div (by omega) _ h1 h2
  have k3 := ((h.2.1 b0).2.2 (-Rat.divInt (b * ((d : Int) : Rat)).floor (d : Int)) (by grind) (by grind)).2
  rw [Rat.neg_divInt] at k3
  have k4 := num_div_le (n := -(b * ((d : Int) : Rat)).floor) (d := d) (by omega) (by omega)
  rw [Rat.neg_num] at k3
  have : (b * ((d : Int) : Rat)).floor = x.num := by omega
  rw [this, hd2, Rat.num_divInt_den]
theorem ref_mid {a b x : Rat} {d : Nat} (h : SimpQ a b x) (hd : 1 ≤ d) (h1 : ¬ 0 < (a * ((d : Int) : Rat)).ceil) (h2 : ¬ (b * ((d : Int) : Rat)).floor < 0) : x = 0 := by
  have hp : (0 : Rat) < ((d : Int) : Rat) := by
    have : ((0 : Int) : Rat) < ((d : Int) : Rat) := Rat.intCast_lt_intCast.2 (by omega)
    exact this
  have e1 := Rat.not_lt.1 (fun k => h1 (Rat.lt_ceil_iff.2 k))
  have e2 := Rat.not_lt.1 (fun k => h2 (Rat.floor_lt_iff.2 k))
  rw [show ((0 : Int) : Rat) = 0 * ((d : Int) : Rat) by rw [Rat.zero_mul]; rfl] at e1 e2
  exact h.2.2 (Rat.le_of_mul_le_mul_right e1 hp) (Rat.le_of_mul_le_mul_right e2 hp)
theorem floor_int (a : Rat) : a.num / (a.den : Int) = a.floor := (Rat.floor_def a).symm
theorem ceil_int (a : Rat) : -((-a).num / ((-a).den : Int)) = a.ceil := by rw [Rat.ceil_eq_neg_floor_neg, Rat.floor_def]
theorem IsRat.resz {w : World} {k m : Nat} {c0 c1 c2 c3 : Value} {q : Rat} (h : IsRat w k c0 c1 c2 c3 q) (h1 : Sz m q.num ∧ Sz m (q.den : Int)) (hm : 64 ≤ m) : IsRat w m c0 c1 c2 c3 q := by
  obtain ⟨a, ⟨D, b, c⟩, _⟩ := h
  refine ⟨a.resz h1.1, ⟨D, b.resz ?_, c⟩, hm⟩
  rcases c with rfl | ⟨rfl, _⟩
  · exact h1.2
  · exact Sz.zero m
theorem IsRat.szs {w : World} {k : Nat} {c0 c1 c2 c3 : Value} {q : Rat} (h : IsRat w k c0 c1 c2 c3 q) : Sz k q.num ∧ Sz k (q.den : Int) := by
  refine ⟨h.num.sz, ?_⟩
  obtain ⟨D, h2, rfl | ⟨rfl, e⟩⟩ := h.den
  · exact h2.sz
  · rw [e]
    have := h.big
    show (1 : Nat) < 2 ^ k
    exact Nat.one_lt_two_pow (by omega)
theorem btw_sz {a b u : Rat} {k : Nat} (ha : 0 < a) (hab : a ≤ b) (h : ¬ ((a.ceil : Int) : Rat) ≤ b) (hu : a ≤ u) (hv : u ≤ b) (hs : Sz k u.num ∧ Sz k (u.den : Int)) :
    Sz k ((u - (a.floor : Rat))⁻¹).num ∧ Sz k (((u - (a.floor : Rat))⁻¹).den : Int) := by
  obtain ⟨_, _, h3, h4⟩ := simp_next ha hab h hu hv
  rw [h3]
  refine ⟨hs.2, ?_⟩
  have := hs.2
  unfold Sz at this ⊢
  omega
theorem simp_ne {a b x : Rat} (ha : 0 < a) (h : Simp a b x) : x.num ≠ 0 := by
  have h1 : 0 < x := by have := h.1; grind
  have := rnum_pos.2 h1
  omega
theorem simp_sz {a b x : Rat} {k : Nat} (ha : 0 < a) (hab : a ≤ b) (h : Simp a b x) (hs : Sz k a.num ∧ Sz k (a.den : Int)) : Sz k x.num ∧ Sz k (x.den : Int) := by
  have h1 : 0 < x := by have := h.1; grind
  have h2 := rnum_pos.2 h1
  have h3 := rnum_pos.2 ha
  obtain ⟨h4, h5⟩ := h.2.2 a Rat.le_refl hab
  obtain ⟨s1, s2⟩ := hs
  unfold Sz at s1 s2 ⊢
  omega
end Go.Proofs.YtloocadjbpgldaaGreatDoor
/- Printed by a program of the prover's: the simplest rational between two. -/
namespace Go.Proofs.YtloocadjbpgldaaGreatDoor
open Go.RowKit

set_option maxRecDepth 100000 in
set_option maxHeartbeats 1000000 in
theorem inv_r {k : Nat} {u0 u1 u2 u3 : Value} {a : Rat} {w : World} (ha : IsRat w k u0 u1 u2 u3 a) (h0 : a.num ≠ 0) (_hk : k ≤ 100000) :
    Calls Tryz.prog 136 #[(.agg #[u0, u1, u2, u3])] w fun e w' => (∃ c0 c1 c2 c3, e = .returned (.agg #[c0, c1, c2, c3]) ∧ IsRat w' k c0 c1 c2 c3 (a⁻¹)) ∧ Gr w w' := by
 have hka := ha.big
 go_enter Tryz.func136, Tryz.ntmps136
 have hB := Gr.refl w
 refine wp_seq_k (fun K1 k1 => ?_)
 refine rg [0, 1] ?_
 refine se ?_
 refine eb 31 #[u0, u1, u2, u3] 1 hB fun b2 w2 g2 L2 o2 q2 hB => ?_
 simp only [p3, p4]
 refine se ?_
 refine ea 31 #[(.bool false), (.slice none 0 0), (.bool false), (.slice none 0 0)] 2 hB fun b3 w3 g3 L3 o3 q3 hB => ?_
 have ne2_3 := L2.ne o3
 simp only [p3, p4]
 refine sq_nil ?_
 refine k1 _ _ ?_
 try clear k1 K1
 refine wp_seq_k (fun K4 k4 => ?_)
 have gd13 := Gr.drew w3
 replace hB := hB.trans gd13
 replace L2 := L2.gr (g3.trans gd13)
 refine wp_region_ord (fun w' => Lc w' b2 #[u0, u1, u2, u3] 31) [(true, 0), (true, 2), (true, 3), (false, 1), (false, 4), (false, 5)] (by kernel_rfl) (by kernel_rfl) (by kernel_rfl) (by decide) (fun _ _ _ _ _ h => h) L2 ?_
 refine ow 3 (.agg #[u0, u1, u2, u3]) rfl (fun w' hS => (rl 31 0 [u0, u1, u2, u3] hS)) ?_
 simp only [p3, p4]
 refine ov 5 (.pointer (some ⟨b2, 0, none⟩)) ?_
 simp only [p3, p4]
 refine ow 6 (.agg #[u0, u1]) rfl (fun w' hS => (rl 27 0 [u0, u1] hS)) ?_
 simp only [p3, p4]
 refine oe ?_
 have kq16 := g2.kp.trans (g3.kp.trans gd13.kp)
 replace ha := ha.kp kq16
 refine ec 4 (den_i ha) ?_
 rintro e15 w15 ⟨⟨x15, y15, rfl, h15⟩, g15⟩
 refine ⟨_, rfl, ?_⟩
 replace hB := hB.trans g15
 replace L2 := L2.gr g15
 refine ⟨L2, ?_⟩
 simp only [p3, p4]
 refine oe ?_
 replace ha := ha.kp g15.kp
 refine ec 7 (reduced_a k h15 ha.num h0 (by omega) (by omega) (by omega) (by omega)) ?_
 rintro e18 w18 ⟨⟨p18, q18, r18, s18, rfl, h18⟩, g18⟩
 refine ⟨_, rfl, ?_⟩
 replace hB := hB.trans g18
 replace L2 := L2.gr g18
 refine ⟨L2, ?_⟩
 simp only [p3, p4]
 refine oe ?_
 replace L3 := L3.gr (gd13.trans (g15.trans g18))
 refine es 31 0 (.agg #[p18, q18, r18, s18]) [p18, q18, r18, s18] #[p18, q18, r18, s18] L3 hB q3 ⟨h18.one0, h18.one1, h18.one2, h18.one3, trivial⟩ fun w20 st20 kp20 L3 hB => ?_
 replace L2 := st20.lc L2 ne2_3
 refine ⟨L2, ?_⟩
 refine ord_nil ?_
 refine k4 _ _ ?_
 try clear k4 K4
 refine wp_ret ?_
 refine bodyPost_ret (v := (.agg #[p18, q18, r18, s18])) (ret_cell _ _ _ rfl rfl L3 (by kernel_rfl)) rfl ⟨?_, hB⟩
 replace h18 := h18.kp kp20
 exact ⟨_, _, _, _, rfl, by rw [Rat.inv_def]; exact h18⟩

def BTW (k : Nat) (a b : Rat) : Prop := ∀ (w : World) (u0 u1 u2 u3 v0 v1 v2 v3 : Value), IsRat w k u0 u1 u2 u3 a → IsRat w k v0 v1 v2 v3 b →
  Calls Tryz.prog 108 #[.agg #[u0, u1, u2, u3], .agg #[v0, v1, v2, v3]] w fun e w' => (∃ x c0 c1 c2 c3, e = .returned (.agg #[c0, c1, c2, c3]) ∧ IsRat w' k c0 c1 c2 c3 x ∧ Simp a b x) ∧ Gr w w'

set_option maxRecDepth 100000 in
set_option maxHeartbeats 1000000 in
theorem btw_0 {k : Nat} {u0 u1 u2 u3 v0 v1 v2 v3 : Value} {a b : Rat} {w : World} (ha : IsRat w k u0 u1 u2 u3 a) (hb : IsRat w k v0 v1 v2 v3 b) (_hk : k ≤ 20000) (a0 : 0 < a) (hc : ((a.ceil : Int) : Rat) ≤ b) :
    Calls Tryz.prog 108 #[(.agg #[u0, u1, u2, u3]), (.agg #[v0, v1, v2, v3])] w fun e w' => (∃ x c0 c1 c2 c3, e = .returned (.agg #[c0, c1, c2, c3]) ∧ IsRat w' k c0 c1 c2 c3 x ∧ Simp a b x) ∧ Gr w w' := by
 have hka := ha.big
 have ht : decide (rcmp ((((a).ceil : Int) : Rat)) (b) ≤ (0 : Int)) = true := by rw [decide_eq_true_eq, rcmp_le]; exact hc
 go_enter Tryz.func108, Tryz.ntmps108
 have hB := Gr.refl w
 refine wp_seq_k (fun K1 k1 => ?_)
 refine rg [0, 1, 2] ?_
 refine se ?_
 refine eb 31 #[u0, u1, u2, u3] 2 hB fun b2 w2 g2 L2 o2 q2 hB => ?_
 simp only [p3, p4]
 refine se ?_
 refine eb 31 #[v0, v1, v2, v3] 3 hB fun b3 w3 g3 L3 o3 q3 hB => ?_
 simp only [p3, p4]
 refine se ?_
 refine ea 31 #[(.bool false), (.slice none 0 0), (.bool false), (.slice none 0 0)] 4 hB fun b4 w4 g4 L4 o4 q4 hB => ?_
 replace L2 := L2.gr g3
 simp only [p3, p4]
 refine sq_nil ?_
 refine k1 _ _ ?_
 try clear k1 K1
 refine wp_seq_k (fun K5 k5 => ?_)
 refine wp_seq_k (fun K6 k6 => ?_)
 refine rg [0, 1, 2, 3, 4] ?_
 replace L2 := L2.gr g4
 refine sw 7 (.agg #[u0, u1, u2, u3]) rfl (rl 31 0 [u0, u1, u2, u3] L2) ?_
 simp only [p3, p4]
 refine se ?_
 have kq8 := g2.kp.trans (g3.kp.trans g4.kp)
 replace ha := ha.kp kq8
 refine ec 8 (ceil_r ha (by omega)) ?_
 rintro e7 w7 ⟨⟨x7, y7, rfl, h7⟩, g7⟩
 refine ⟨_, rfl, ?_⟩
 replace hB := hB.trans g7
 rw [ceil_int] at h7
 simp only [p3, p4]
 refine sv 9 (.agg #[x7, y7, (.bool false), (.slice none 0 0)]) ?_
 simp only [p3, p4]
 refine se ?_
 refine ea 31 #[(.bool false), (.slice none 0 0), (.bool false), (.slice none 0 0)] 5 hB fun b9 w9 g9 L9 o9 q9 hB => ?_
 replace L3 := L3.gr (g4.trans g7)
 have ne3_9 := L3.ne o9
 replace L4 := L4.gr g7
 have ne4_9 := L4.ne o9
 simp only [p3, p4]
 refine se ?_
 refine es 31 0 (.agg #[x7, y7, (.bool false), (.slice none 0 0)]) [x7, y7, (.bool false), (.slice none 0 0)] #[x7, y7, (.bool false), (.slice none 0 0)] L9 hB q9 ⟨h7.one0, h7.one1, rfl, rfl, trivial⟩ fun w10 st10 kp10 L9 hB => ?_
 refine sq_nil ?_
 refine k6 _ _ ?_
 try clear k6 K6
 refine wp_seq_k (fun K11 k11 => ?_)
 refine rg [0, 1, 2, 3] ?_
 refine sw 10 (.agg #[x7, y7, (.bool false), (.slice none 0 0)]) rfl (rl 31 0 [x7, y7, (.bool false), (.slice none 0 0)] L9) ?_
 simp only [p3, p4]
 replace L3 := st10.lc (L3.gr g9) ne3_9
 refine sw 11 (.agg #[v0, v1, v2, v3]) rfl (rl 31 0 [v0, v1, v2, v3] L3) ?_
 simp only [p3, p4]
 refine se ?_
 have kq13 := g9.kp.trans kp10
 replace h7 := h7.kp kq13
 have kq14 := g2.kp.trans (g3.kp.trans (g4.kp.trans (g7.kp.trans (g9.kp.trans kp10))))
 replace hb := hb.kp kq14
 refine ec 12 (compare_r (IsRat.int h7 (by omega)) hb (by omega)) ?_
 rintro e12 w12 ⟨rfl, g12⟩
 refine ⟨_, rfl, ?_⟩
 replace hB := hB.trans g12
 simp only [p3, p4]
 refine sw 13 (.bool true) rfl (RunV.bool (x := decide (rcmp ((((a).ceil : Int) : Rat)) (b) ≤ (0 : Int))) (rvk (by kernel_rfl)) ht) ?_
 simp only [p3, p4]
 refine sq_nil ?_
 refine k11 _ _ ?_
 try clear k11 K11
 refine wp_cond_true rfl ?_
 refine wp_seq_k (fun K15 k15 => ?_)
 refine rg [0, 1] ?_
 replace L9 := L9.gr g12
 refine sw 14 (.agg #[x7, y7, (.bool false), (.slice none 0 0)]) rfl (rl 31 0 [x7, y7, (.bool false), (.slice none 0 0)] L9) ?_
 simp only [p3, p4]
 refine se ?_
 replace L4 := (st10.lc (L4.gr g9) ne4_9).gr g12
 refine es 31 0 (.agg #[x7, y7, (.bool false), (.slice none 0 0)]) [x7, y7, (.bool false), (.slice none 0 0)] #[x7, y7, (.bool false), (.slice none 0 0)] L4 hB q4 ⟨h7.one0, h7.one1, rfl, rfl, trivial⟩ fun w16 st16 kp16 L4 hB => ?_
 refine sq_nil ?_
 refine k15 _ _ ?_
 try clear k15 K15
 refine wp_ret ?_
 simp only [Exit.then]
 refine bodyPost_ret (v := (.agg #[x7, y7, (.bool false), (.slice none 0 0)])) (ret_cell _ _ _ rfl rfl L4 (by kernel_rfl)) rfl ⟨?_, hB⟩
 have kq17 := g12.kp.trans kp16
 replace h7 := h7.kp kq17
 exact ⟨_, _, _, _, _, rfl, IsRat.int h7 (by omega), simp_int a0 hc⟩

set_option maxRecDepth 100000 in
set_option maxHeartbeats 1000000 in
theorem btw_1 {k : Nat} {u0 u1 u2 u3 v0 v1 v2 v3 : Value} {a b : Rat} {w : World} (ha : IsRat w k u0 u1 u2 u3 a) (hb : IsRat w k v0 v1 v2 v3 b) (_hk : k ≤ 20000) (a0 : 0 < a) (hab : a ≤ b) (hc : ¬ ((a.ceil : Int) : Rat) ≤ b) (ih : BTW k (b - (a.floor : Rat))⁻¹ (a - (a.floor : Rat))⁻¹) :
    Calls Tryz.prog 108 #[(.agg #[u0, u1, u2, u3]), (.agg #[v0, v1, v2, v3])] w fun e w' => (∃ x c0 c1 c2 c3, e = .returned (.agg #[c0, c1, c2, c3]) ∧ IsRat w' k c0 c1 c2 c3 x ∧ Simp a b x) ∧ Gr w w' := by
 have hka := ha.big
 have zha := ha.szs
 have zhb := hb.szs
 have ht : decide (rcmp ((((a).ceil : Int) : Rat)) (b) ≤ (0 : Int)) = false := by rw [decide_eq_false_iff_not, rcmp_le]; exact hc
 go_enter Tryz.func108, Tryz.ntmps108
 have hB := Gr.refl w
 refine wp_seq_k (fun K1 k1 => ?_)
 refine rg [0, 1, 2] ?_
 refine se ?_
 refine eb 31 #[u0, u1, u2, u3] 2 hB fun b2 w2 g2 L2 o2 q2 hB => ?_
 simp only [p3, p4]
 refine se ?_
 refine eb 31 #[v0, v1, v2, v3] 3 hB fun b3 w3 g3 L3 o3 q3 hB => ?_
 simp only [p3, p4]
 refine se ?_
 refine ea 31 #[(.bool false), (.slice none 0 0), (.bool false), (.slice none 0 0)] 4 hB fun b4 w4 g4 L4 o4 q4 hB => ?_
 replace L2 := L2.gr g3
 have ne2_4 := L2.ne o4
 have ne3_4 := L3.ne o4
 simp only [p3, p4]
 refine sq_nil ?_
 refine k1 _ _ ?_
 try clear k1 K1
 refine wp_seq_k (fun K5 k5 => ?_)
 refine wp_seq_k (fun K6 k6 => ?_)
 refine rg [0, 1, 2, 3, 4] ?_
 replace L2 := L2.gr g4
 refine sw 7 (.agg #[u0, u1, u2, u3]) rfl (rl 31 0 [u0, u1, u2, u3] L2) ?_
 simp only [p3, p4]
 refine se ?_
 have kq8 := g2.kp.trans (g3.kp.trans g4.kp)
 replace ha := ha.kp kq8
 refine ec 8 (ceil_r ha (by omega)) ?_
 rintro e7 w7 ⟨⟨x7, y7, rfl, h7⟩, g7⟩
 refine ⟨_, rfl, ?_⟩
 replace hB := hB.trans g7
 rw [ceil_int] at h7
 simp only [p3, p4]
 refine sv 9 (.agg #[x7, y7, (.bool false), (.slice none 0 0)]) ?_
 simp only [p3, p4]
 refine se ?_
 refine ea 31 #[(.bool false), (.slice none 0 0), (.bool false), (.slice none 0 0)] 5 hB fun b9 w9 g9 L9 o9 q9 hB => ?_
 replace L2 := L2.gr g7
 have ne2_9 := L2.ne o9
 replace L3 := L3.gr (g4.trans g7)
 have ne3_9 := L3.ne o9
 replace L4 := L4.gr g7
 have ne4_9 := L4.ne o9
 simp only [p3, p4]
 refine se ?_
 refine es 31 0 (.agg #[x7, y7, (.bool false), (.slice none 0 0)]) [x7, y7, (.bool false), (.slice none 0 0)] #[x7, y7, (.bool false), (.slice none 0 0)] L9 hB q9 ⟨h7.one0, h7.one1, rfl, rfl, trivial⟩ fun w10 st10 kp10 L9 hB => ?_
 refine sq_nil ?_
 refine k6 _ _ ?_
 try clear k6 K6
 refine wp_seq_k (fun K11 k11 => ?_)
 refine rg [0, 1, 2, 3] ?_
 refine sw 10 (.agg #[x7, y7, (.bool false), (.slice none 0 0)]) rfl (rl 31 0 [x7, y7, (.bool false), (.slice none 0 0)] L9) ?_
 simp only [p3, p4]
 replace L3 := st10.lc (L3.gr g9) ne3_9
 refine sw 11 (.agg #[v0, v1, v2, v3]) rfl (rl 31 0 [v0, v1, v2, v3] L3) ?_
 simp only [p3, p4]
 refine se ?_
 have kq13 := g9.kp.trans kp10
 replace h7 := h7.kp kq13
 have kq14 := g2.kp.trans (g3.kp.trans (g4.kp.trans (g7.kp.trans (g9.kp.trans kp10))))
 replace hb := hb.kp kq14
 refine ec 12 (compare_r (IsRat.int h7 (by omega)) hb (by omega)) ?_
 rintro e12 w12 ⟨rfl, g12⟩
 refine ⟨_, rfl, ?_⟩
 replace hB := hB.trans g12
 simp only [p3, p4]
 refine sw 13 (.bool false) rfl (RunV.bool (x := decide (rcmp ((((a).ceil : Int) : Rat)) (b) ≤ (0 : Int))) (rvk (by kernel_rfl)) ht) ?_
 simp only [p3, p4]
 refine sq_nil ?_
 refine k11 _ _ ?_
 try clear k11 K11
 refine wp_cond_false rfl ?_
 refine wp_skip ?_
 refine k5 _ _ ?_
 try clear k5 K5
 refine wp_seq_k (fun K15 k15 => ?_)
 refine rg [0, 1, 2, 3, 4] ?_
 replace L2 := (st10.lc (L2.gr g9) ne2_9).gr g12
 refine sw 15 (.agg #[u0, u1, u2, u3]) rfl (rl 31 0 [u0, u1, u2, u3] L2) ?_
 simp only [p3, p4]
 refine se ?_
 have kq17 := g7.kp.trans (g9.kp.trans (kp10.trans g12.kp))
 replace ha := ha.kp kq17
 refine ec 16 (floor_r ha (by omega)) ?_
 rintro e16 w16 ⟨⟨x16, y16, rfl, h16⟩, g16⟩
 refine ⟨_, rfl, ?_⟩
 replace hB := hB.trans g16
 rw [floor_int] at h16
 simp only [p3, p4]
 refine sv 17 (.agg #[x16, y16, (.bool false), (.slice none 0 0)]) ?_
 simp only [p3, p4]
 refine se ?_
 refine ea 31 #[(.bool false), (.slice none 0 0), (.bool false), (.slice none 0 0)] 6 hB fun b18 w18 g18 L18 o18 q18 hB => ?_
 replace L2 := L2.gr g16
 have ne2_18 := L2.ne o18
 replace L3 := L3.gr (g12.trans g16)
 have ne3_18 := L3.ne o18
 replace L4 := (st10.lc (L4.gr g9) ne4_9).gr (g12.trans g16)
 have ne4_18 := L4.ne o18
 simp only [p3, p4]
 refine se ?_
 refine es 31 0 (.agg #[x16, y16, (.bool false), (.slice none 0 0)]) [x16, y16, (.bool false), (.slice none 0 0)] #[x16, y16, (.bool false), (.slice none 0 0)] L18 hB q18 ⟨h16.one0, h16.one1, rfl, rfl, trivial⟩ fun w19 st19 kp19 L18 hB => ?_
 refine sq_nil ?_
 refine k15 _ _ ?_
 try clear k15 K15
 refine wp_seq_k (fun K20 k20 => ?_)
 have gd44 := Gr.drew w19
 replace hB := hB.trans gd44
 replace L2 := (st19.lc (L2.gr g18) ne2_18).gr gd44
 replace L3 := (st19.lc (L3.gr g18) ne3_18).gr gd44
 replace L18 := L18.gr gd44
 refine wp_region_ord (fun w' => Lc w' b2 #[u0, u1, u2, u3] 31 ∧ Lc w' b3 #[v0, v1, v2, v3] 31 ∧ Lc w' b18 #[x16, y16, (.bool false), (.slice none 0 0)] 31) [(true, 0), (true, 1), (true, 2), (true, 5), (true, 6), (false, 3), (false, 4), (false, 7), (false, 8), (false, 9), (false, 10), (false, 11), (false, 12)] (by kernel_rfl) (by kernel_rfl) (by kernel_rfl) (by decide) (fun _ _ _ _ _ h => h) ⟨L2, L3, L18⟩ ?_
 refine ow 18 (.agg #[x16, y16, (.bool false), (.slice none 0 0)]) rfl (fun w' hS => (rl 31 0 [x16, y16, (.bool false), (.slice none 0 0)] hS.2.2)) ?_
 simp only [p3, p4]
 refine ow 19 (.agg #[v0, v1, v2, v3]) rfl (fun w' hS => (rl 31 0 [v0, v1, v2, v3] hS.2.1)) ?_
 simp only [p3, p4]
 refine ow 20 (.agg #[x16, y16, (.bool false), (.slice none 0 0)]) rfl (fun w' hS => (rl 31 0 [x16, y16, (.bool false), (.slice none 0 0)] hS.2.2)) ?_
 simp only [p3, p4]
 refine ow 23 (.agg #[u0, u1, u2, u3]) rfl (fun w' hS => (rl 31 0 [u0, u1, u2, u3] hS.1)) ?_
 simp only [p3, p4]
 refine ow 24 (.agg #[x16, y16, (.bool false), (.slice none 0 0)]) rfl (fun w' hS => (rl 31 0 [x16, y16, (.bool false), (.slice none 0 0)] hS.2.2)) ?_
 simp only [p3, p4]
 refine oe ?_
 have kq47 := g12.kp.trans (g16.kp.trans (g18.kp.trans (kp19.trans gd44.kp)))
 replace hb := hb.kp kq47
 have kq48 := g18.kp.trans (kp19.trans gd44.kp)
 replace h16 := h16.kp kq48
 refine ec 21 (sub_r hb (IsRat.int h16 (by omega)) (by omega)) ?_
 rintro e46 w46 ⟨⟨p46, q46, r46, s46, rfl, h46⟩, g46⟩
 refine ⟨_, rfl, ?_⟩
 replace hB := hB.trans g46
 replace L2 := L2.gr g46
 replace L3 := L3.gr g46
 replace L18 := L18.gr g46
 refine ⟨⟨L2, L3, L18⟩, ?_⟩
 simp only [p3, p4]
 refine oe ?_
 refine ec 22 (inv_r h46 (simp_next a0 hab hc hab Rat.le_refl).2.1 (by omega)) ?_
 rintro e50 w50 ⟨⟨p50, q50, r50, s50, rfl, h50⟩, g50⟩
 refine ⟨_, rfl, ?_⟩
 replace hB := hB.trans g50
 replace h50 := h50.resz (btw_sz a0 hab hc hab Rat.le_refl zhb) hka
 replace L2 := L2.gr g50
 replace L3 := L3.gr g50
 replace L18 := L18.gr g50
 refine ⟨⟨L2, L3, L18⟩, ?_⟩
 simp only [p3, p4]
 refine oe ?_
 have kq53 := g16.kp.trans (g18.kp.trans (kp19.trans (gd44.kp.trans (g46.kp.trans g50.kp))))
 replace ha := ha.kp kq53
 have kq54 := g46.kp.trans g50.kp
 replace h16 := h16.kp kq54
 refine ec 25 (sub_r ha (IsRat.int h16 (by omega)) (by omega)) ?_
 rintro e52 w52 ⟨⟨p52, q52, r52, s52, rfl, h52⟩, g52⟩
 refine ⟨_, rfl, ?_⟩
 replace hB := hB.trans g52
 replace L2 := L2.gr g52
 replace L3 := L3.gr g52
 replace L18 := L18.gr g52
 refine ⟨⟨L2, L3, L18⟩, ?_⟩
 simp only [p3, p4]
 refine oe ?_
 refine ec 26 (inv_r h52 (simp_next a0 hab hc Rat.le_refl hab).2.1 (by omega)) ?_
 rintro e56 w56 ⟨⟨p56, q56, r56, s56, rfl, h56⟩, g56⟩
 refine ⟨_, rfl, ?_⟩
 replace hB := hB.trans g56
 replace h56 := h56.resz (btw_sz a0 hab hc Rat.le_refl hab zha) hka
 replace L2 := L2.gr g56
 replace L3 := L3.gr g56
 replace L18 := L18.gr g56
 refine ⟨⟨L2, L3, L18⟩, ?_⟩
 simp only [p3, p4]
 refine oe ?_
 have kq59 := g52.kp.trans g56.kp
 replace h50 := h50.kp kq59
 refine ec 27 (ih _ _ _ _ _ _ _ _ _ h50 h56) ?_
 rintro e58 w58 ⟨⟨sx, p58, q58, r58, s58, rfl, h58, hs⟩, g58⟩
 refine ⟨_, rfl, ?_⟩
 replace hB := hB.trans g58
 replace L2 := L2.gr g58
 replace L3 := L3.gr g58
 replace L18 := L18.gr g58
 refine ⟨⟨L2, L3, L18⟩, ?_⟩
 simp only [p3, p4]
 refine oe ?_
 refine ec 28 (inv_r h58 (simp_ne (Rat.inv_pos.2 (simp_next a0 hab hc hab Rat.le_refl).1) hs) (by omega)) ?_
 rintro e61 w61 ⟨⟨p61, q61, r61, s61, rfl, h61⟩, g61⟩
 refine ⟨_, rfl, ?_⟩
 replace hB := hB.trans g61
 replace L2 := L2.gr g61
 replace L3 := L3.gr g61
 replace L18 := L18.gr g61
 refine ⟨⟨L2, L3, L18⟩, ?_⟩
 simp only [p3, p4]
 refine oe ?_
 have kq64 := g52.kp.trans (g56.kp.trans (g58.kp.trans g61.kp))
 replace h16 := h16.kp kq64
 refine ec 29 (add_r (IsRat.int h16 (by omega)) h61 (by omega)) ?_
 rintro e63 w63 ⟨⟨p63, q63, r63, s63, rfl, h63⟩, g63⟩
 refine ⟨_, rfl, ?_⟩
 replace hB := hB.trans g63
 replace L2 := L2.gr g63
 replace L3 := L3.gr g63
 replace L18 := L18.gr g63
 refine ⟨⟨L2, L3, L18⟩, ?_⟩
 simp only [p3, p4]
 refine oe ?_
 replace L4 := (st19.lc (L4.gr g18) ne4_18).gr (gd44.trans (g46.trans (g50.trans (g52.trans (g56.trans (g58.trans (g61.trans g63)))))))
 refine es 31 0 (.agg #[p63, q63, r63, s63]) [p63, q63, r63, s63] #[p63, q63, r63, s63] L4 hB q4 ⟨h63.one0, h63.one1, h63.one2, h63.one3, trivial⟩ fun w66 st66 kp66 L4 hB => ?_
 replace L2 := st66.lc L2 ne2_4
 replace L3 := st66.lc L3 ne3_4
 replace L18 := st66.lc L18 (Ne.symm ne4_18)
 refine ⟨⟨L2, L3, L18⟩, ?_⟩
 refine ord_nil ?_
 refine k20 _ _ ?_
 try clear k20 K20
 refine wp_ret ?_
 refine bodyPost_ret (v := (.agg #[p63, q63, r63, s63])) (ret_cell _ _ _ rfl rfl L4 (by kernel_rfl)) rfl ⟨?_, hB⟩
 replace h63 := h63.kp kp66
 exact ⟨_, _, _, _, _, rfl, (h63).resz (simp_sz a0 hab (simp_step a0 hab hc hs) zha) hka, simp_step a0 hab hc hs⟩

theorem btw_all {k : Nat} (hk : k ≤ 20000) : ∀ (n : Nat) (a b : Rat), a.den + b.den ≤ n → 0 < a → a ≤ b → BTW k a b
  | 0, a, b, hn, _, _ => by have := a.den_pos; omega
  | n + 1, a, b, hn, a0, hab => by
    intro w u0 u1 u2 u3 v0 v1 v2 v3 ha hb
    by_cases hc : ((a.ceil : Int) : Rat) ≤ b
    · exact btw_0 ha hb hk a0 hc
    · have h1 := simp_next a0 hab hc Rat.le_refl hab
      have h2 := simp_next a0 hab hc hab Rat.le_refl
      refine btw_1 ha hb hk a0 hab hc (btw_all hk n _ _ (by omega) (Rat.inv_pos.2 h2.1) (inv_le h1.1 ?_))
      have := simp_gap a0 hab hc
      exact this.2.2.1
theorem between_r {k : Nat} {u0 u1 u2 u3 v0 v1 v2 v3 : Value} {a b : Rat} {w : World} (ha : IsRat w k u0 u1 u2 u3 a) (hb : IsRat w k v0 v1 v2 v3 b) (hk : k ≤ 20000) (a0 : 0 < a) (hab : a ≤ b) : Calls Tryz.prog 108 #[(.agg #[u0, u1, u2, u3]), (.agg #[v0, v1, v2, v3])] w fun e w' => (∃ x c0 c1 c2 c3, e = .returned (.agg #[c0, c1, c2, c3]) ∧ IsRat w' k c0 c1 c2 c3 x ∧ Simp a b x) ∧ Gr w w' := btw_all hk _ a b (Nat.le_refl _) a0 hab _ _ _ _ _ _ _ _ _ ha hb

set_option maxRecDepth 100000 in
set_option maxHeartbeats 1000000 in
theorem simplest_x {k : Nat} {u0 u1 u2 u3 v0 v1 v2 v3 : Value} {a b : Rat} {w : World} (ha : IsRat w k u0 u1 u2 u3 a) (hb : IsRat w k v0 v1 v2 v3 b) (_hk : k ≤ 20000) (hab : b < a) :
    Calls Tryz.prog 61 #[(.agg #[u0, u1, u2, u3]), (.agg #[v0, v1, v2, v3])] w fun e w' => e = .returned (.tuple #[.agg #[.bool false, .slice none 0 0, .bool false, .slice none 0 0], .int .i64 8]) ∧ Gr w w' := by
 have e1 : decide ((0 : Int) < rcmp (a) (b)) = true := by rw [decide_eq_true_eq, rcmp_gt]; exact hab
 go_enter Tryz.func61, Tryz.ntmps61
 have hB := Gr.refl w
 refine wp_seq_k (fun K1 k1 => ?_)
 refine rg [0, 1, 2, 3] ?_
 refine se ?_
 refine eb 31 #[u0, u1, u2, u3] 2 hB fun b2 w2 g2 L2 o2 q2 hB => ?_
 simp only [p3, p4]
 refine se ?_
 refine eb 31 #[v0, v1, v2, v3] 3 hB fun b3 w3 g3 L3 o3 q3 hB => ?_
 simp only [p3, p4]
 refine se ?_
 refine ea 31 #[(.bool false), (.slice none 0 0), (.bool false), (.slice none 0 0)] 4 hB fun b4 w4 g4 L4 o4 q4 hB => ?_
 replace L2 := L2.gr g3
 simp only [p3, p4]
 refine sv 5 (.int .i64 0) ?_
 simp only [p3, p4]
 refine sq_nil ?_
 refine k1 _ _ ?_
 try clear k1 K1
 refine wp_seq_k (fun K5 k5 => ?_)
 refine wp_block ?_
 refine wp_seq_k (fun K6 k6 => ?_)
 refine rg [0, 1, 2, 3, 4] ?_
 replace L2 := L2.gr g4
 refine sw 7 (.agg #[u0, u1, u2, u3]) rfl (rl 31 0 [u0, u1, u2, u3] L2) ?_
 simp only [p3, p4]
 replace L3 := L3.gr g4
 refine sw 8 (.agg #[v0, v1, v2, v3]) rfl (rl 31 0 [v0, v1, v2, v3] L3) ?_
 simp only [p3, p4]
 refine se ?_
 have kq8 := g2.kp.trans (g3.kp.trans g4.kp)
 replace ha := ha.kp kq8
 replace hb := hb.kp kq8
 refine ec 9 (compare_r ha hb (by omega)) ?_
 rintro e7 w7 ⟨rfl, g7⟩
 refine ⟨_, rfl, ?_⟩
 replace hB := hB.trans g7
 simp only [p3, p4]
 refine sw 10 (.bool true) rfl (RunV.bool (x := decide ((0 : Int) < rcmp (a) (b))) (rvk (by kernel_rfl)) e1) ?_
 simp only [p3, p4]
 refine sv 6 (.bool true) ?_
 simp only [p3, p4]
 refine sq_nil ?_
 refine k6 _ _ ?_
 try clear k6 K6
 refine wp_cond_true rfl ?_
 refine wp_seq_k (fun K9 k9 => ?_)
 refine rg [0, 1, 2] ?_
 refine sv 11 (.agg #[(.bool false), (.slice none 0 0), (.bool false), (.slice none 0 0)]) ?_
 simp only [p3, p4]
 refine se ?_
 replace L4 := L4.gr g7
 refine es 31 0 (.agg #[(.bool false), (.slice none 0 0), (.bool false), (.slice none 0 0)]) [(.bool false), (.slice none 0 0), (.bool false), (.slice none 0 0)] #[(.bool false), (.slice none 0 0), (.bool false), (.slice none 0 0)] L4 hB q4 ⟨rfl, rfl, rfl, rfl, trivial⟩ fun w10 st10 kp10 L4 hB => ?_
 refine sv 5 (.int .i64 8) ?_
 simp only [p3, p4]
 refine sq_nil ?_
 refine k9 _ _ ?_
 try clear k9 K9
 refine wp_ret ?_
 simp only [Exit.then, Exit.inBlock]
 refine bodyPost_ret (v := (.tuple #[(.agg #[(.bool false), (.slice none 0 0), (.bool false), (.slice none 0 0)]), (.int .i64 8)])) (ret_cell_tmp' _ _ _ rfl rfl L4 (by kernel_rfl) rfl) rfl ⟨?_, hB⟩
 exact rfl

set_option maxRecDepth 100000 in
set_option maxHeartbeats 1000000 in
theorem simplest_p {k : Nat} {u0 u1 u2 u3 v0 v1 v2 v3 : Value} {a b : Rat} {w : World} (ha : IsRat w k u0 u1 u2 u3 a) (hb : IsRat w k v0 v1 v2 v3 b) (hk : k ≤ 20000) (hab : a ≤ b) (a0 : 0 < a) :
    Calls Tryz.prog 61 #[(.agg #[u0, u1, u2, u3]), (.agg #[v0, v1, v2, v3])] w fun e w' => (∃ x c0 c1 c2 c3, e = .returned (.tuple #[.agg #[c0, c1, c2, c3], .int .i64 0]) ∧ IsRat w' k c0 c1 c2 c3 x ∧ SimpQ a b x) ∧ Gr w w' := by
 have e1 : decide ((0 : Int) < rcmp (a) (b)) = false := by rw [decide_eq_false_iff_not, rcmp_gt]; exact Rat.not_lt.2 hab
 have e2 : decide ((0 : Int) < sgn (a).num) = true := by rw [decide_eq_true_eq, num_sgn, rcmp_gt]; exact a0
 go_enter Tryz.func61, Tryz.ntmps61
 have hB := Gr.refl w
 refine wp_seq_k (fun K1 k1 => ?_)
 refine rg [0, 1, 2, 3] ?_
 refine se ?_
 refine eb 31 #[u0, u1, u2, u3] 2 hB fun b2 w2 g2 L2 o2 q2 hB => ?_
 simp only [p3, p4]
 refine se ?_
 refine eb 31 #[v0, v1, v2, v3] 3 hB fun b3 w3 g3 L3 o3 q3 hB => ?_
 simp only [p3, p4]
 refine se ?_
 refine ea 31 #[(.bool false), (.slice none 0 0), (.bool false), (.slice none 0 0)] 4 hB fun b4 w4 g4 L4 o4 q4 hB => ?_
 replace L2 := L2.gr g3
 simp only [p3, p4]
 refine sv 5 (.int .i64 0) ?_
 simp only [p3, p4]
 refine sq_nil ?_
 refine k1 _ _ ?_
 try clear k1 K1
 refine wp_seq_k (fun K5 k5 => ?_)
 refine wp_block ?_
 refine wp_seq_k (fun K6 k6 => ?_)
 refine rg [0, 1, 2, 3, 4] ?_
 replace L2 := L2.gr g4
 refine sw 7 (.agg #[u0, u1, u2, u3]) rfl (rl 31 0 [u0, u1, u2, u3] L2) ?_
 simp only [p3, p4]
 replace L3 := L3.gr g4
 refine sw 8 (.agg #[v0, v1, v2, v3]) rfl (rl 31 0 [v0, v1, v2, v3] L3) ?_
 simp only [p3, p4]
 refine se ?_
 have kq8 := g2.kp.trans (g3.kp.trans g4.kp)
 replace ha := ha.kp kq8
 replace hb := hb.kp kq8
 refine ec 9 (compare_r ha hb (by omega)) ?_
 rintro e7 w7 ⟨rfl, g7⟩
 refine ⟨_, rfl, ?_⟩
 replace hB := hB.trans g7
 simp only [p3, p4]
 refine sw 10 (.bool false) rfl (RunV.bool (x := decide ((0 : Int) < rcmp (a) (b))) (rvk (by kernel_rfl)) e1) ?_
 simp only [p3, p4]
 refine sv 6 (.bool false) ?_
 simp only [p3, p4]
 refine sq_nil ?_
 refine k6 _ _ ?_
 try clear k6 K6
 refine wp_cond_false rfl ?_
 refine wp_seq_k (fun K9 k9 => ?_)
 refine rg [0, 1, 2, 3] ?_
 replace L2 := L2.gr g7
 refine sw 13 (.agg #[u0, u1, u2, u3]) rfl (rl 31 0 [u0, u1, u2, u3] L2) ?_
 simp only [p3, p4]
 refine se ?_
 replace ha := ha.kp g7.kp
 refine ec 14 (sign_r ha) ?_
 rintro e10 w10 ⟨rfl, g10⟩
 refine ⟨_, rfl, ?_⟩
 replace hB := hB.trans g10
 simp only [p3, p4]
 refine sw 15 (.bool true) rfl (RunV.bool (x := decide ((0 : Int) < sgn (a).num)) (rvk (by kernel_rfl)) e2) ?_
 simp only [p3, p4]
 refine sv 12 (.bool true) ?_
 simp only [p3, p4]
 refine sq_nil ?_
 refine k9 _ _ ?_
 try clear k9 K9
 refine wp_cond_true rfl ?_
 refine wp_seq_k (fun K11 k11 => ?_)
 refine rg [0, 1, 2, 3, 4] ?_
 replace L2 := L2.gr g10
 refine sw 16 (.agg #[u0, u1, u2, u3]) rfl (rl 31 0 [u0, u1, u2, u3] L2) ?_
 simp only [p3, p4]
 replace L3 := L3.gr (g7.trans g10)
 refine sw 17 (.agg #[v0, v1, v2, v3]) rfl (rl 31 0 [v0, v1, v2, v3] L3) ?_
 simp only [p3, p4]
 refine se ?_
 replace ha := ha.kp g10.kp
 have kq13 := g7.kp.trans g10.kp
 replace hb := hb.kp kq13
 refine ec 18 (between_r ha hb hk a0 hab) ?_
 rintro e12 w12 ⟨⟨sx, p12, q12, r12, s12, rfl, h12, hs⟩, g12⟩
 refine ⟨_, rfl, ?_⟩
 replace hB := hB.trans g12
 simp only [p3, p4]
 refine se ?_
 replace L4 := L4.gr (g7.trans (g10.trans g12))
 refine es 31 0 (.agg #[p12, q12, r12, s12]) [p12, q12, r12, s12] #[p12, q12, r12, s12] L4 hB q4 ⟨h12.one0, h12.one1, h12.one2, h12.one3, trivial⟩ fun w14 st14 kp14 L4 hB => ?_
 refine sv 5 (.int .i64 0) ?_
 simp only [p3, p4]
 refine sq_nil ?_
 refine k11 _ _ ?_
 try clear k11 K11
 refine wp_ret ?_
 simp only [Exit.then, Exit.inBlock]
 refine bodyPost_ret (v := (.tuple #[(.agg #[p12, q12, r12, s12]), (.int .i64 0)])) (ret_cell_tmp' _ _ _ rfl rfl L4 (by kernel_rfl) rfl) rfl ⟨?_, hB⟩
 replace h12 := h12.kp kp14
 exact ⟨_, _, _, _, _, rfl, h12, fun _ => hs, fun h => absurd a0 (by grind), fun h => absurd a0 (by grind)⟩

set_option maxRecDepth 100000 in
set_option maxHeartbeats 1000000 in
theorem simplest_n {k : Nat} {u0 u1 u2 u3 v0 v1 v2 v3 : Value} {a b : Rat} {w : World} (ha : IsRat w k u0 u1 u2 u3 a) (hb : IsRat w k v0 v1 v2 v3 b) (hk : k ≤ 20000) (hab : a ≤ b) (b0 : b < 0) :
    Calls Tryz.prog 61 #[(.agg #[u0, u1, u2, u3]), (.agg #[v0, v1, v2, v3])] w fun e w' => (∃ x c0 c1 c2 c3, e = .returned (.tuple #[.agg #[c0, c1, c2, c3], .int .i64 0]) ∧ IsRat w' k c0 c1 c2 c3 x ∧ SimpQ a b x) ∧ Gr w w' := by
 have e1 : decide ((0 : Int) < rcmp (a) (b)) = false := by rw [decide_eq_false_iff_not, rcmp_gt]; exact Rat.not_lt.2 hab
 have e2 : decide ((0 : Int) < sgn (a).num) = false := by rw [decide_eq_false_iff_not, num_sgn, rcmp_gt]; grind
 have e3 : decide (sgn (b).num < (0 : Int)) = true := by rw [decide_eq_true_eq, num_sgn, rcmp_lt]; exact b0
 go_enter Tryz.func61, Tryz.ntmps61
 have hB := Gr.refl w
 refine wp_seq_k (fun K1 k1 => ?_)
 refine rg [0, 1, 2, 3] ?_
 refine se ?_
 refine eb 31 #[u0, u1, u2, u3] 2 hB fun b2 w2 g2 L2 o2 q2 hB => ?_
 simp only [p3, p4]
 refine se ?_
 refine eb 31 #[v0, v1, v2, v3] 3 hB fun b3 w3 g3 L3 o3 q3 hB => ?_
 simp only [p3, p4]
 refine se ?_
 refine ea 31 #[(.bool false), (.slice none 0 0), (.bool false), (.slice none 0 0)] 4 hB fun b4 w4 g4 L4 o4 q4 hB => ?_
 replace L2 := L2.gr g3
 have ne2_4 := L2.ne o4
 have ne3_4 := L3.ne o4
 simp only [p3, p4]
 refine sv 5 (.int .i64 0) ?_
 simp only [p3, p4]
 refine sq_nil ?_
 refine k1 _ _ ?_
 try clear k1 K1
 refine wp_seq_k (fun K5 k5 => ?_)
 refine wp_block ?_
 refine wp_seq_k (fun K6 k6 => ?_)
 refine rg [0, 1, 2, 3, 4] ?_
 replace L2 := L2.gr g4
 refine sw 7 (.agg #[u0, u1, u2, u3]) rfl (rl 31 0 [u0, u1, u2, u3] L2) ?_
 simp only [p3, p4]
 replace L3 := L3.gr g4
 refine sw 8 (.agg #[v0, v1, v2, v3]) rfl (rl 31 0 [v0, v1, v2, v3] L3) ?_
 simp only [p3, p4]
 refine se ?_
 have kq8 := g2.kp.trans (g3.kp.trans g4.kp)
 replace ha := ha.kp kq8
 replace hb := hb.kp kq8
 refine ec 9 (compare_r ha hb (by omega)) ?_
 rintro e7 w7 ⟨rfl, g7⟩
 refine ⟨_, rfl, ?_⟩
 replace hB := hB.trans g7
 simp only [p3, p4]
 refine sw 10 (.bool false) rfl (RunV.bool (x := decide ((0 : Int) < rcmp (a) (b))) (rvk (by kernel_rfl)) e1) ?_
 simp only [p3, p4]
 refine sv 6 (.bool false) ?_
 simp only [p3, p4]
 refine sq_nil ?_
 refine k6 _ _ ?_
 try clear k6 K6
 refine wp_cond_false rfl ?_
 refine wp_seq_k (fun K9 k9 => ?_)
 refine rg [0, 1, 2, 3] ?_
 replace L2 := L2.gr g7
 refine sw 13 (.agg #[u0, u1, u2, u3]) rfl (rl 31 0 [u0, u1, u2, u3] L2) ?_
 simp only [p3, p4]
 refine se ?_
 replace ha := ha.kp g7.kp
 refine ec 14 (sign_r ha) ?_
 rintro e10 w10 ⟨rfl, g10⟩
 refine ⟨_, rfl, ?_⟩
 replace hB := hB.trans g10
 simp only [p3, p4]
 refine sw 15 (.bool false) rfl (RunV.bool (x := decide ((0 : Int) < sgn (a).num)) (rvk (by kernel_rfl)) e2) ?_
 simp only [p3, p4]
 refine sv 12 (.bool false) ?_
 simp only [p3, p4]
 refine sq_nil ?_
 refine k9 _ _ ?_
 try clear k9 K9
 refine wp_cond_false rfl ?_
 refine wp_seq_k (fun K11 k11 => ?_)
 refine rg [0, 1, 2, 3] ?_
 replace L3 := L3.gr (g7.trans g10)
 refine sw 20 (.agg #[v0, v1, v2, v3]) rfl (rl 31 0 [v0, v1, v2, v3] L3) ?_
 simp only [p3, p4]
 refine se ?_
 have kq13 := g7.kp.trans g10.kp
 replace hb := hb.kp kq13
 refine ec 21 (sign_r hb) ?_
 rintro e12 w12 ⟨rfl, g12⟩
 refine ⟨_, rfl, ?_⟩
 replace hB := hB.trans g12
 simp only [p3, p4]
 refine sw 22 (.bool true) rfl (RunV.bool (x := decide (sgn (b).num < (0 : Int))) (rvk (by kernel_rfl)) e3) ?_
 simp only [p3, p4]
 refine sv 19 (.bool true) ?_
 simp only [p3, p4]
 refine sq_nil ?_
 refine k11 _ _ ?_
 try clear k11 K11
 refine wp_cond_true rfl ?_
 refine wp_seq_k (fun K14 k14 => ?_)
 have gd28 := Gr.drew w12
 replace hB := hB.trans gd28
 replace L2 := L2.gr (g10.trans (g12.trans gd28))
 replace L3 := L3.gr (g12.trans gd28)
 refine wp_region_ord (fun w' => Lc w' b2 #[u0, u1, u2, u3] 31 ∧ Lc w' b3 #[v0, v1, v2, v3] 31) [(true, 0), (true, 2), (false, 1), (false, 3), (false, 4), (false, 5), (false, 6), (true, 7)] (by kernel_rfl) (by kernel_rfl) (by kernel_rfl) (by decide) (fun _ _ _ _ _ h => h) ⟨L2, L3⟩ ?_
 refine ow 23 (.agg #[v0, v1, v2, v3]) rfl (fun w' hS => (rl 31 0 [v0, v1, v2, v3] hS.2)) ?_
 simp only [p3, p4]
 refine ow 25 (.agg #[u0, u1, u2, u3]) rfl (fun w' hS => (rl 31 0 [u0, u1, u2, u3] hS.1)) ?_
 simp only [p3, p4]
 refine oe ?_
 have kq31 := g12.kp.trans gd28.kp
 replace hb := hb.kp kq31
 refine ec 24 (neg_r hb ) ?_
 rintro e30 w30 ⟨⟨p30, q30, r30, s30, rfl, h30⟩, g30⟩
 refine ⟨_, rfl, ?_⟩
 replace hB := hB.trans g30
 replace L2 := L2.gr g30
 replace L3 := L3.gr g30
 refine ⟨⟨L2, L3⟩, ?_⟩
 simp only [p3, p4]
 refine oe ?_
 have kq34 := g10.kp.trans (g12.kp.trans (gd28.kp.trans g30.kp))
 replace ha := ha.kp kq34
 refine ec 26 (neg_r ha ) ?_
 rintro e33 w33 ⟨⟨p33, q33, r33, s33, rfl, h33⟩, g33⟩
 refine ⟨_, rfl, ?_⟩
 replace hB := hB.trans g33
 replace L2 := L2.gr g33
 replace L3 := L3.gr g33
 refine ⟨⟨L2, L3⟩, ?_⟩
 simp only [p3, p4]
 refine oe ?_
 replace h30 := h30.kp g33.kp
 refine ec 27 (between_r h30 h33 hk (by grind) (by grind)) ?_
 rintro e36 w36 ⟨⟨sx, p36, q36, r36, s36, rfl, h36, hs⟩, g36⟩
 refine ⟨_, rfl, ?_⟩
 replace hB := hB.trans g36
 replace L2 := L2.gr g36
 replace L3 := L3.gr g36
 refine ⟨⟨L2, L3⟩, ?_⟩
 simp only [p3, p4]
 refine oe ?_
 refine ec 28 (neg_r h36 ) ?_
 rintro e38 w38 ⟨⟨p38, q38, r38, s38, rfl, h38⟩, g38⟩
 refine ⟨_, rfl, ?_⟩
 replace hB := hB.trans g38
 replace L2 := L2.gr g38
 replace L3 := L3.gr g38
 refine ⟨⟨L2, L3⟩, ?_⟩
 simp only [p3, p4]
 refine oe ?_
 replace L4 := L4.gr (g7.trans (g10.trans (g12.trans (gd28.trans (g30.trans (g33.trans (g36.trans g38)))))))
 refine es 31 0 (.agg #[p38, q38, r38, s38]) [p38, q38, r38, s38] #[p38, q38, r38, s38] L4 hB q4 ⟨h38.one0, h38.one1, h38.one2, h38.one3, trivial⟩ fun w40 st40 kp40 L4 hB => ?_
 replace L2 := st40.lc L2 ne2_4
 replace L3 := st40.lc L3 ne3_4
 refine ⟨⟨L2, L3⟩, ?_⟩
 refine ov 5 (.int .i64 0) ?_
 simp only [p3, p4]
 refine ord_nil ?_
 refine k14 _ _ ?_
 try clear k14 K14
 refine wp_ret ?_
 simp only [Exit.then, Exit.inBlock]
 refine bodyPost_ret (v := (.tuple #[(.agg #[p38, q38, r38, s38]), (.int .i64 0)])) (ret_cell_tmp' _ _ _ rfl rfl L4 (by kernel_rfl) rfl) rfl ⟨?_, hB⟩
 replace h38 := h38.kp kp40
 exact ⟨_, _, _, _, _, rfl, h38, fun h => absurd b0 (by grind), fun _ => by rw [Rat.neg_neg]; exact hs, fun _ h => absurd b0 (by grind)⟩

set_option maxRecDepth 100000 in
set_option maxHeartbeats 1000000 in
theorem simplest_z {k : Nat} {u0 u1 u2 u3 v0 v1 v2 v3 : Value} {a b : Rat} {w : World} (ha : IsRat w k u0 u1 u2 u3 a) (hb : IsRat w k v0 v1 v2 v3 b) (_hk : k ≤ 20000) (hab : a ≤ b) (_a0 : a ≤ 0) (_b0 : 0 ≤ b) :
    Calls Tryz.prog 61 #[(.agg #[u0, u1, u2, u3]), (.agg #[v0, v1, v2, v3])] w fun e w' => (∃ x c0 c1 c2 c3, e = .returned (.tuple #[.agg #[c0, c1, c2, c3], .int .i64 0]) ∧ IsRat w' k c0 c1 c2 c3 x ∧ SimpQ a b x) ∧ Gr w w' := by
 have hka := ha.big
 have e1 : decide ((0 : Int) < rcmp (a) (b)) = false := by rw [decide_eq_false_iff_not, rcmp_gt]; exact Rat.not_lt.2 hab
 have e2 : decide ((0 : Int) < sgn (a).num) = false := by rw [decide_eq_false_iff_not, num_sgn, rcmp_gt]; grind
 have e3 : decide (sgn (b).num < (0 : Int)) = false := by rw [decide_eq_false_iff_not, num_sgn, rcmp_lt]; grind
 go_enter Tryz.func61, Tryz.ntmps61
 have hB := Gr.refl w
 refine wp_seq_k (fun K1 k1 => ?_)
 refine rg [0, 1, 2, 3] ?_
 refine se ?_
 refine eb 31 #[u0, u1, u2, u3] 2 hB fun b2 w2 g2 L2 o2 q2 hB => ?_
 simp only [p3, p4]
 refine se ?_
 refine eb 31 #[v0, v1, v2, v3] 3 hB fun b3 w3 g3 L3 o3 q3 hB => ?_
 simp only [p3, p4]
 refine se ?_
 refine ea 31 #[(.bool false), (.slice none 0 0), (.bool false), (.slice none 0 0)] 4 hB fun b4 w4 g4 L4 o4 q4 hB => ?_
 replace L2 := L2.gr g3
 simp only [p3, p4]
 refine sv 5 (.int .i64 0) ?_
 simp only [p3, p4]
 refine sq_nil ?_
 refine k1 _ _ ?_
 try clear k1 K1
 refine wp_seq_k (fun K5 k5 => ?_)
 refine wp_block ?_
 refine wp_seq_k (fun K6 k6 => ?_)
 refine rg [0, 1, 2, 3, 4] ?_
 replace L2 := L2.gr g4
 refine sw 7 (.agg #[u0, u1, u2, u3]) rfl (rl 31 0 [u0, u1, u2, u3] L2) ?_
 simp only [p3, p4]
 replace L3 := L3.gr g4
 refine sw 8 (.agg #[v0, v1, v2, v3]) rfl (rl 31 0 [v0, v1, v2, v3] L3) ?_
 simp only [p3, p4]
 refine se ?_
 have kq8 := g2.kp.trans (g3.kp.trans g4.kp)
 replace ha := ha.kp kq8
 replace hb := hb.kp kq8
 refine ec 9 (compare_r ha hb (by omega)) ?_
 rintro e7 w7 ⟨rfl, g7⟩
 refine ⟨_, rfl, ?_⟩
 replace hB := hB.trans g7
 simp only [p3, p4]
 refine sw 10 (.bool false) rfl (RunV.bool (x := decide ((0 : Int) < rcmp (a) (b))) (rvk (by kernel_rfl)) e1) ?_
 simp only [p3, p4]
 refine sv 6 (.bool false) ?_
 simp only [p3, p4]
 refine sq_nil ?_
 refine k6 _ _ ?_
 try clear k6 K6
 refine wp_cond_false rfl ?_
 refine wp_seq_k (fun K9 k9 => ?_)
 refine rg [0, 1, 2, 3] ?_
 replace L2 := L2.gr g7
 refine sw 13 (.agg #[u0, u1, u2, u3]) rfl (rl 31 0 [u0, u1, u2, u3] L2) ?_
 simp only [p3, p4]
 refine se ?_
 replace ha := ha.kp g7.kp
 refine ec 14 (sign_r ha) ?_
 rintro e10 w10 ⟨rfl, g10⟩
 refine ⟨_, rfl, ?_⟩
 replace hB := hB.trans g10
 simp only [p3, p4]
 refine sw 15 (.bool false) rfl (RunV.bool (x := decide ((0 : Int) < sgn (a).num)) (rvk (by kernel_rfl)) e2) ?_
 simp only [p3, p4]
 refine sv 12 (.bool false) ?_
 simp only [p3, p4]
 refine sq_nil ?_
 refine k9 _ _ ?_
 try clear k9 K9
 refine wp_cond_false rfl ?_
 refine wp_seq_k (fun K11 k11 => ?_)
 refine rg [0, 1, 2, 3] ?_
 replace L3 := L3.gr (g7.trans g10)
 refine sw 20 (.agg #[v0, v1, v2, v3]) rfl (rl 31 0 [v0, v1, v2, v3] L3) ?_
 simp only [p3, p4]
 refine se ?_
 have kq13 := g7.kp.trans g10.kp
 replace hb := hb.kp kq13
 refine ec 21 (sign_r hb) ?_
 rintro e12 w12 ⟨rfl, g12⟩
 refine ⟨_, rfl, ?_⟩
 replace hB := hB.trans g12
 simp only [p3, p4]
 refine sw 22 (.bool false) rfl (RunV.bool (x := decide (sgn (b).num < (0 : Int))) (rvk (by kernel_rfl)) e3) ?_
 simp only [p3, p4]
 refine sv 19 (.bool false) ?_
 simp only [p3, p4]
 refine sq_nil ?_
 refine k11 _ _ ?_
 try clear k11 K11
 refine wp_cond_false rfl ?_
 refine wp_skip ?_
 refine k5 _ _ ?_
 try clear k5 K5
 refine wp_seq_k (fun K14 k14 => ?_)
 refine rg [0, 1, 2] ?_
 refine sv 29 (.agg #[(.bool false), (.slice none 0 0), (.bool false), (.slice none 0 0)]) ?_
 simp only [p3, p4]
 refine se ?_
 replace L4 := L4.gr (g7.trans (g10.trans g12))
 refine es 31 0 (.agg #[(.bool false), (.slice none 0 0), (.bool false), (.slice none 0 0)]) [(.bool false), (.slice none 0 0), (.bool false), (.slice none 0 0)] #[(.bool false), (.slice none 0 0), (.bool false), (.slice none 0 0)] L4 hB q4 ⟨rfl, rfl, rfl, rfl, trivial⟩ fun w15 st15 kp15 L4 hB => ?_
 refine sv 5 (.int .i64 0) ?_
 simp only [p3, p4]
 refine sq_nil ?_
 refine k14 _ _ ?_
 try clear k14 K14
 refine wp_ret ?_
 refine bodyPost_ret (v := (.tuple #[(.agg #[(.bool false), (.slice none 0 0), (.bool false), (.slice none 0 0)]), (.int .i64 0)])) (ret_cell_tmp' _ _ _ rfl rfl L4 (by kernel_rfl) rfl) rfl ⟨?_, hB⟩
 exact ⟨_, _, _, _, _, rfl, IsRat.zero _ hka, fun h => absurd h (by grind), fun h => absurd h (by grind), fun _ _ => rfl⟩

theorem simplest_r {k : Nat} {u0 u1 u2 u3 v0 v1 v2 v3 : Value} {a b : Rat} {w : World} (ha : IsRat w k u0 u1 u2 u3 a) (hb : IsRat w k v0 v1 v2 v3 b) (hk : k ≤ 20000) (hab : a ≤ b) : Calls Tryz.prog 61 #[(.agg #[u0, u1, u2, u3]), (.agg #[v0, v1, v2, v3])] w fun e w' => (∃ x c0 c1 c2 c3, e = .returned (.tuple #[.agg #[c0, c1, c2, c3], .int .i64 0]) ∧ IsRat w' k c0 c1 c2 c3 x ∧ SimpQ a b x) ∧ Gr w w' := by
  by_cases a0 : 0 < a
  · exact simplest_p ha hb hk hab a0
  · by_cases b0 : b < 0
    · exact simplest_n ha hb hk hab b0
    · exact simplest_z ha hb hk hab (by grind) (by grind)

end Go.Proofs.YtloocadjbpgldaaGreatDoor
/- Printed by a program of the prover's: the reference's Simplest. -/
namespace Go.Proofs.YtloocadjbpgldaaGreatDoor
open Go.RowKit

theorem rsz_muli {k m : Nat} {a : Rat} {z : Int} (ha : Sz k a.num ∧ Sz k (a.den : Int)) (hz : Sz m z) : Sz (k + m) (a * (z : Rat)).num ∧ Sz (k + m) ((a * (z : Rat)).den : Int) := by
  rw [← rat_mul]
  refine sz_divInt (ha.1.mul hz) ?_ ?_
  · rw [Rat.den_intCast, Int.natCast_one, Int.mul_one]; exact ha.2.mono (by omega)
  · rw [Rat.den_intCast, Int.natCast_one, Int.mul_one]; exact Int.ne_of_gt (den_pos_i a)
theorem sz_floor {k : Nat} {a : Rat} (ha : Sz k a.num ∧ Sz k (a.den : Int)) : Sz k a.floor := by
  rw [← floor_int]; exact sz_div ha.1 (den_pos_i a)
theorem sz_ceil {k : Nat} {a : Rat} (ha : Sz k a.num ∧ Sz k (a.den : Int)) : Sz k a.ceil := by
  rw [← ceil_int]; exact (sz_div (rsz_neg ha).1 (den_pos_i _)).neg
theorem r2_mul_i {k m : Nat} (a : Rat) (z : Int) (ha : Sz k a.num ∧ Sz k (a.den : Int)) (hz : Sz m z) (h1 : 0 < m) (hk : k + m ≤ 6000) (w : World) :
    Calls Tryz.prog 48 #[.string ⟨(ratL a).toArray⟩, .string ⟨(Lib.itoa z).toArray⟩] w fun e w' => e = .returned (.string ⟨(ratL (a * (z : Rat))).toArray⟩) ∧ Gr w w' := by
  have := r2_mul a (z : Rat) ha ⟨hz, show (1 : Nat) < 2 ^ m from Nat.one_lt_two_pow (by omega)⟩ hk w
  rw [ratL_iz] at this
  exact this
theorem r2_ceil_c {k : Nat} (a : Rat) (ha : Sz k a.num ∧ Sz k (a.den : Int)) (hk : k ≤ 6000) (w : World) :
    Calls Tryz.prog 43 #[.string ⟨(ratL a).toArray⟩] w fun e w' => e = .returned (.string ⟨(Lib.itoa a.ceil).toArray⟩) ∧ Gr w w' := by
  have := r2_ceil a ha hk w
  rw [ceil_int] at this
  exact this
theorem r2_floor_c {k : Nat} (a : Rat) (ha : Sz k a.num ∧ Sz k (a.den : Int)) (hk : k ≤ 6000) (w : World) :
    Calls Tryz.prog 42 #[.string ⟨(ratL a).toArray⟩] w fun e w' => e = .returned (.string ⟨(Lib.itoa a.floor).toArray⟩) ∧ Gr w w' := by
  have := r2_floor a ha hk w
  rw [floor_int] at this
  exact this

theorem sgn_hi {x y : Int} (h : decide ((0 : Int) < sgn (x - y)) = true) : y < x := by
  rw [decide_eq_true_eq, sgn_pos0] at h; omega
theorem sgn_lo {x y : Int} (h : decide ((0 : Int) < sgn (x - y)) = false) : ¬ y < x := by
  rw [decide_eq_false_iff_not, sgn_pos0] at h; omega
theorem sgn_up {x : Int} {t : Bool} (h : decide ((0 : Int) < sgn x) = t) : decide (0 < x) = t := by
  rw [← h]; exact decide_eq_decide.2 sgn_pos0.symm
theorem sgn_dn {x : Int} {t : Bool} (h : decide (sgn x < (0 : Int)) = t) : decide (x < 0) = t := by
  rw [← h]; exact decide_eq_decide.2 sgn_lt0.symm

set_option maxRecDepth 100000 in
set_option maxHeartbeats 1000000 in
theorem r2_simplest {k : Nat} (ra rb x : Rat) (ha : Sz k ra.num ∧ Sz k (ra.den : Int)) (hb : Sz k rb.num ∧ Sz k (rb.den : Int)) (_hk : k ≤ 2000) (hs : SimpQ ra rb x) (hab : ra ≤ rb) (_hx : x.den ≤ 1000000000) (w : World) :
    Calls Tryz.prog 62 #[(.string ⟨(ratL (ra) : List UInt8).toArray⟩), (.string ⟨(ratL (rb) : List UInt8).toArray⟩)] w fun e w' => e = .returned (.string ⟨(ratL x).toArray⟩) ∧ Gr w w' := by
 go_enter Tryz.func62, Tryz.ntmps62
 have hB := Gr.refl w
 refine wp_seq_k (fun K1 k1 => ?_)
 refine rg [0] ?_
 refine sv 4 (.string ⟨([] : List UInt8).toArray⟩) ?_
 simp only [p3, p4]
 refine sq_nil ?_
 refine k1 _ _ ?_
 try clear k1 K1
 refine wp_seq_k (fun K2 k2 => ?_)
 refine rg [0] ?_
 refine sv 5 (.int .i64 1) ?_
 simp only [p3, p4]
 refine sq_nil ?_
 refine k2 _ _ ?_
 try clear k2 K2
 refine wp_block ?_
 refine wp_loop_inv (a := ⟨List.toArray ?l3, []⟩) (fun n a w' => ∃ (d : Nat) (u3 : Nat → Value), x.den - d = n ∧ a = ⟨[(.string ⟨(ratL (ra) : List UInt8).toArray⟩), (.string ⟨(ratL (rb) : List UInt8).toArray⟩), undef, undef, (u3 4), (.int .i64 ((d : Int))), (u3 6), (u3 7), (u3 8), (u3 9), (u3 10), (u3 11), (u3 12), (u3 13), (u3 14), (u3 15), (u3 16), (u3 17), (u3 18), (u3 19), (u3 20), (u3 21), (u3 22), (u3 23), (u3 24), (u3 25), (u3 26), (u3 27), (u3 28), (u3 29), (u3 30), (u3 31), (u3 32), (u3 33), (u3 34), (u3 35), (u3 36), (u3 37), (u3 38)].toArray, []⟩ ∧ 1 ≤ d ∧ d ≤ x.den ∧ Gr w w') (x.den - 1) ?_ ?_
 ·exact ⟨1, (fun i => List.getD ?l3 i undef), rfl, rfl, (by omega), (by have := x.den_pos; omega), hB⟩
 rintro n3 a3 w3 ⟨d, u3, rfl, rfl, hd1, hd2, hB⟩ K3 k3
 have hdz : Sz 64 (d : Int) := Sz.i64 (by omega) (by omega)
 refine wp_seq_k (fun K4 k4 => ?_)
 refine wp_block ?_
 refine wp_seq_k (fun K5 k5 => ?_)
 refine rg [0, 1, 2] ?_
 refine sv 11 (.int .i64 ((d : Int))) ?_
 simp only [p3, p4]
 refine se ?_
 refine ec 12 (r1_from ((d : Int)) (by omega) (by omega) _) ?_
 rintro e6 w6 ⟨rfl, g6⟩
 refine ⟨_, rfl, ?_⟩
 replace hB := hB.trans g6
 simp only [p3, p4]
 refine sv 6 (.string ⟨(Lib.itoa (((d : Int))) : List UInt8).toArray⟩) ?_
 simp only [p3, p4]
 refine sq_nil ?_
 refine k5 _ _ ?_
 try clear k5 K5
 refine wp_seq_k (fun K7 k7 => ?_)
 refine rg [0, 1, 2, 3, 4, 5, 6, 7, 8, 9] ?_
 refine sv 13 (.string ⟨(ratL (ra) : List UInt8).toArray⟩) ?_
 simp only [p3, p4]
 refine sv 14 (.string ⟨(Lib.itoa (((d : Int))) : List UInt8).toArray⟩) ?_
 simp only [p3, p4]
 refine se ?_
 refine ec 15 (r2_mul_i ra (d : Int) ha hdz (by decide) (by omega) _) ?_
 rintro e8 w8 ⟨rfl, g8⟩
 refine ⟨_, rfl, ?_⟩
 replace hB := hB.trans g8
 simp only [p3, p4]
 refine se ?_
 refine ec 16 (r2_ceil_c (ra * ((d : Int) : Rat)) (rsz_muli ha hdz) (by omega) _) ?_
 rintro e9 w9 ⟨rfl, g9⟩
 refine ⟨_, rfl, ?_⟩
 replace hB := hB.trans g9
 simp only [p3, p4]
 refine sv 17 (.string ⟨(ratL (rb) : List UInt8).toArray⟩) ?_
 simp only [p3, p4]
 refine sv 18 (.string ⟨(Lib.itoa (((d : Int))) : List UInt8).toArray⟩) ?_
 simp only [p3, p4]
 refine se ?_
 refine ec 19 (r2_mul_i rb (d : Int) hb hdz (by decide) (by omega) _) ?_
 rintro e10 w10 ⟨rfl, g10⟩
 refine ⟨_, rfl, ?_⟩
 replace hB := hB.trans g10
 simp only [p3, p4]
 refine se ?_
 refine ec 20 (r2_floor_c (rb * ((d : Int) : Rat)) (rsz_muli hb hdz) (by omega) _) ?_
 rintro e11 w11 ⟨rfl, g11⟩
 refine ⟨_, rfl, ?_⟩
 replace hB := hB.trans g11
 simp only [p3, p4]
 refine sv 7 (.string ⟨(Lib.itoa ((ra * ((d : Int) : Rat)).ceil) : List UInt8).toArray⟩) ?_
 simp only [p3, p4]
 refine sv 8 (.string ⟨(Lib.itoa ((rb * ((d : Int) : Rat)).floor) : List UInt8).toArray⟩) ?_
 simp only [p3, p4]
 refine sq_nil ?_
 refine k7 _ _ ?_
 try clear k7 K7
 refine wp_seq_k (fun K12 k12 => ?_)
 refine wp_seq_k (fun K13 k13 => ?_)
 refine rg [0, 1, 2, 3] ?_
 refine sv 21 (.string ⟨(Lib.itoa ((ra * ((d : Int) : Rat)).ceil) : List UInt8).toArray⟩) ?_
 simp only [p3, p4]
 refine sv 22 (.string ⟨(Lib.itoa ((rb * ((d : Int) : Rat)).floor) : List UInt8).toArray⟩) ?_
 simp only [p3, p4]
 refine se ?_
 refine ec 23 (r1_compare ((ra * ((d : Int) : Rat)).ceil) ((rb * ((d : Int) : Rat)).floor) (sz_ceil (rsz_muli ha hdz)) (sz_floor (rsz_muli hb hdz)) (by omega) _) ?_
 rintro e14 w14 ⟨rfl, g14⟩
 refine ⟨_, rfl, ?_⟩
 replace hB := hB.trans g14
 simp only [p3, p4]
 refine sv 24 (.bool (decide ((0 : Int) < sgn ((ra * ((d : Int) : Rat)).ceil - (rb * ((d : Int) : Rat)).floor)))) ?_
 simp only [p3, p4]
 refine sq_nil ?_
 refine k13 _ _ ?_
 try clear k13 K13
 refine wp_cond_split (t := decide ((0 : Int) < sgn ((ra * ((d : Int) : Rat)).ceil - (rb * ((d : Int) : Rat)).floor))) rfl (fun hb15 => ?_) (fun hb15 => ?_)
 ·refine wp_exit ?_
  simp only [Exit.then, Exit.inBlock, ↓reduceIte]
  refine k4 _ _ ?_
  try clear k4 K4
  refine rg [0, 1, 2] ?_
  refine sv 9 (.int .i64 ((d : Int))) ?_
  simp only [p3, p4]
  refine sw 10 (.int .i64 (((d : Int) + 1))) rfl (RunV.int (x := IntKind.i64.wrap (((d : Int) + 1))) (y := ((d : Int) + 1)) (rvk (by kernel_rfl)) (by first | rfl | (rw [IntKind.wrap_i64]; omega))) ?_
  simp only [p3, p4]
  refine sv 5 (.int .i64 (((d : Int) + 1))) ?_
  simp only [p3, p4]
  refine sq_nil ?_
  refine k3 (x.den - (d + 1)) ⟨List.toArray ?l16, []⟩ _ (by have := ref_step hs hab hd1 hd2 (sgn_hi hb15); omega) ?_
  exact ⟨d + 1, (fun i => List.getD ?l16 i undef), rfl, rfl, (by omega), (by have := ref_step hs hab hd1 hd2 (sgn_hi hb15); omega), hB⟩
 ·refine wp_skip ?_
  refine k12 _ _ ?_
  try clear k12 K12
  refine wp_seq_k (fun K17 k17 => ?_)
  refine wp_block ?_
  refine wp_seq_k (fun K18 k18 => ?_)
  refine rg [0, 1, 2, 3] ?_
  refine sv 26 (.string ⟨(Lib.itoa ((ra * ((d : Int) : Rat)).ceil) : List UInt8).toArray⟩) ?_
  simp only [p3, p4]
  refine se ?_
  refine ec 27 (r1_sign_i ((ra * ((d : Int) : Rat)).ceil) _) ?_
  rintro e19 w19 ⟨rfl, g19⟩
  refine ⟨_, rfl, ?_⟩
  replace hB := hB.trans g19
  simp only [p3, p4]
  refine sv 28 (.bool (decide ((0 : Int) < sgn ((ra * ((d : Int) : Rat)).ceil)))) ?_
  simp only [p3, p4]
  refine sv 25 (.bool (decide ((0 : Int) < sgn ((ra * ((d : Int) : Rat)).ceil)))) ?_
  simp only [p3, p4]
  refine sq_nil ?_
  refine k18 _ _ ?_
  try clear k18 K18
  refine wp_cond_split (t := decide ((0 : Int) < sgn ((ra * ((d : Int) : Rat)).ceil))) rfl (fun hb20 => ?_) (fun hb20 => ?_)
  ·refine wp_seq_k (fun K21 k21 => ?_)
   refine rg [0, 1, 2, 3] ?_
   refine sv 29 (.string ⟨(Lib.itoa ((ra * ((d : Int) : Rat)).ceil) : List UInt8).toArray⟩) ?_
   simp only [p3, p4]
   refine sv 30 (.string ⟨(Lib.itoa (((d : Int))) : List UInt8).toArray⟩) ?_
   simp only [p3, p4]
   refine se ?_
   refine ec 31 (r2_text_q (k := k + 64) ((ra * ((d : Int) : Rat)).ceil) (((d : Int))) _ rfl (sz_ceil (rsz_muli ha hdz)) (hdz.mono (by omega)) (by omega) (by omega) _) ?_
   rintro e22 w22 ⟨rfl, g22⟩
   refine ⟨_, rfl, ?_⟩
   replace hB := hB.trans g22
   simp only [p3, p4]
   refine sv 4 (.string ⟨(ratL (Rat.divInt ((ra * ((d : Int) : Rat)).ceil) (((d : Int)))) : List UInt8).toArray⟩) ?_
   simp only [p3, p4]
   refine sq_nil ?_
   refine k21 _ _ ?_
   try clear k21 K21
   refine wp_ret ?_
   simp only [Exit.then, Exit.inBlock]
   refine bodyPost_ret (v := (.string ⟨(ratL (Rat.divInt ((ra * ((d : Int) : Rat)).ceil) (((d : Int)))) : List UInt8).toArray⟩)) (ret_tmp rfl rfl) rfl ⟨?_, hB⟩
   exact (by rw [ref_pos hs hab hd1 (ref_done hs hd1 hd2 (sgn_lo hb15)) (of_decide_eq_true (sgn_up hb20))])
  ·refine wp_seq_k (fun K23 k23 => ?_)
   refine rg [0, 1, 2, 3] ?_
   refine sv 33 (.string ⟨(Lib.itoa ((rb * ((d : Int) : Rat)).floor) : List UInt8).toArray⟩) ?_
   simp only [p3, p4]
   refine se ?_
   refine ec 34 (r1_sign_i ((rb * ((d : Int) : Rat)).floor) _) ?_
   rintro e24 w24 ⟨rfl, g24⟩
   refine ⟨_, rfl, ?_⟩
   replace hB := hB.trans g24
   simp only [p3, p4]
   refine sv 35 (.bool (decide (sgn ((rb * ((d : Int) : Rat)).floor) < (0 : Int)))) ?_
   simp only [p3, p4]
   refine sv 32 (.bool (decide (sgn ((rb * ((d : Int) : Rat)).floor) < (0 : Int)))) ?_
   simp only [p3, p4]
   refine sq_nil ?_
   refine k23 _ _ ?_
   try clear k23 K23
   refine wp_cond_split (t := decide (sgn ((rb * ((d : Int) : Rat)).floor) < (0 : Int))) rfl (fun hb25 => ?_) (fun hb25 => ?_)
   ·refine wp_seq_k (fun K26 k26 => ?_)
    refine rg [0, 1, 2, 3] ?_
    refine sv 36 (.string ⟨(Lib.itoa ((rb * ((d : Int) : Rat)).floor) : List UInt8).toArray⟩) ?_
    simp only [p3, p4]
    refine sv 37 (.string ⟨(Lib.itoa (((d : Int))) : List UInt8).toArray⟩) ?_
    simp only [p3, p4]
    refine se ?_
    refine ec 38 (r2_text_q (k := k + 64) ((rb * ((d : Int) : Rat)).floor) (((d : Int))) _ rfl (sz_floor (rsz_muli hb hdz)) (hdz.mono (by omega)) (by omega) (by omega) _) ?_
    rintro e27 w27 ⟨rfl, g27⟩
    refine ⟨_, rfl, ?_⟩
    replace hB := hB.trans g27
    simp only [p3, p4]
    refine sv 4 (.string ⟨(ratL (Rat.divInt ((rb * ((d : Int) : Rat)).floor) (((d : Int)))) : List UInt8).toArray⟩) ?_
    simp only [p3, p4]
    refine sq_nil ?_
    refine k26 _ _ ?_
    try clear k26 K26
    refine wp_ret ?_
    simp only [Exit.then, Exit.inBlock]
    refine bodyPost_ret (v := (.string ⟨(ratL (Rat.divInt ((rb * ((d : Int) : Rat)).floor) (((d : Int)))) : List UInt8).toArray⟩)) (ret_tmp rfl rfl) rfl ⟨?_, hB⟩
    exact (by rw [ref_neg hs hab hd1 (ref_done hs hd1 hd2 (sgn_lo hb15)) (of_decide_eq_true (sgn_dn hb25))])
   ·refine wp_skip ?_
    refine k17 _ _ ?_
    try clear k17 K17
    refine wp_seq_k (fun K28 k28 => ?_)
    refine rg [0] ?_
    refine sv 4 (.string ⟨([48] : List UInt8).toArray⟩) ?_
    simp only [p3, p4]
    refine sq_nil ?_
    refine k28 _ _ ?_
    try clear k28 K28
    refine wp_ret ?_
    simp only [Exit.then, Exit.inBlock]
    refine bodyPost_ret (v := (.string ⟨([48] : List UInt8).toArray⟩)) (ret_tmp rfl rfl) rfl ⟨?_, hB⟩
    exact (by rw [ref_mid hs hd1 (of_decide_eq_false (sgn_up hb20)) (of_decide_eq_false (sgn_dn hb25)), show ratL 0 = [48] from eq_of_beq (ratL_litw (by kernel_rfl) (itoa_litp 0 (by kernel_rfl) (by decide)))])

end Go.Proofs.YtloocadjbpgldaaGreatDoor
/- Printed by a program of the prover's: RationalOrder. -/
namespace Go.Proofs.YtloocadjbpgldaaGreatDoor
open Go.RowKit

theorem rmin_eq (a b : Rat) : ∃ lo, lo = (if decide (rcmp b a < (0 : Int)) = true then b else a) ∧ (lo = a ∧ a ≤ b ∨ lo = b ∧ b ≤ a) := by
  refine ⟨_, rfl, ?_⟩
  by_cases h : b < a
  · rw [if_pos (decide_eq_true (rcmp_lt.2 h))]; exact .inr ⟨rfl, Rat.le_of_lt h⟩
  · rw [if_neg (by rw [decide_eq_true_eq, rcmp_lt]; exact h)]; exact .inl ⟨rfl, Rat.not_lt.1 h⟩
theorem rmax_eq (a b : Rat) : ∃ hi, hi = (if decide ((0 : Int) < rcmp b a) = true then b else a) ∧ (hi = a ∧ b ≤ a ∨ hi = b ∧ a ≤ b) := by
  refine ⟨_, rfl, ?_⟩
  by_cases h : a < b
  · rw [if_pos (decide_eq_true (rcmp_gt.2 h))]; exact .inr ⟨rfl, Rat.le_of_lt h⟩
  · rw [if_neg (by rw [decide_eq_true_eq, rcmp_gt]; exact h)]; exact .inl ⟨rfl, Rat.not_lt.1 h⟩
theorem ord_sub (a b : Rat) : sgn (a - b).num = rcmp a b := by
  rw [num_sgn]
  exact rcmp_eq (by grind) (by grind)
theorem ord_add (a b c : Rat) : rcmp (a + c) (b + c) = rcmp a b := rcmp_eq (by grind) (by grind)
theorem ord_mul (a b c : Rat) (h : 0 < c) : rcmp (a * c) (b * c) = rcmp a b := by
  refine rcmp_eq (Rat.mul_lt_mul_right h) ⟨fun e => ?_, fun e => by rw [e]⟩
  have h2 : c ≠ 0 := by grind
  have := congrArg (· * c⁻¹) e
  simp only [Rat.mul_assoc, Rat.mul_inv_cancel c h2, Rat.mul_one] at this
  exact this
theorem sgn_sub_le {x y : Nat} (h : x ≤ y) : decide (sgn ((x : Int) - (y : Int)) ≤ (0 : Int)) = true := by
  rw [decide_eq_true_eq]; unfold sgn; split <;> (try split) <;> omega

set_option maxRecDepth 100000 in
set_option maxHeartbeats 8000000 in
theorem order_p (a : Rat) (ha : Sz 160 a.num ∧ Sz 160 (a.den : Int)) (la : okT (ratL (a)) = true) (b : Rat) (hb : Sz 160 b.num ∧ Sz 160 (b.den : Int)) (lb : okT (ratL (b)) = true) (c : Rat) (hc : Sz 160 c.num ∧ Sz 160 (c.den : Int)) (lc : okT (ratL (c)) = true) (hc0 : 0 < c) (w : World) (ht : Tab w) (hm : Mx w) :
    Calls Tryz.prog 14 #[(.string ⟨(ratL (a) : List UInt8).toArray⟩), (.string ⟨(ratL (b) : List UInt8).toArray⟩), (.string ⟨(ratL (c) : List UInt8).toArray⟩)] w fun e w' => e = .returned (.bool true) ∧ Gr w w' := by
 have lok : ((okT (ratL (a)) && okT (ratL (b))) && okT (ratL (c))) = true := okT_3 la lb lc
 obtain ⟨lo, elo, klo⟩ := rmin_eq a b
 obtain ⟨hi, ehi, khi⟩ := rmax_eq a b
 have hlh : lo ≤ hi := by grind
 have hz : decide ((0 : Int) < sgn (c).num) = true := by rw [decide_eq_true_eq, num_sgn, rcmp_gt]; exact hc0
 go_enter Tryz.func14, Tryz.ntmps14
 have hB := Gr.refl w
 refine wp_seq_k (fun K1 k1 => ?_)
 refine rg [0] ?_
 refine sv 6 (.bool false) ?_
 simp only [p3, p4]
 refine sq_nil ?_
 refine k1 _ _ ?_
 try clear k1 K1
 refine wp_seq_k (fun K2 k2 => ?_)
 refine wp_seq_k (fun K3 k3 => ?_)
 refine rg [0, 1, 2, 3, 4, 5, 6, 7, 8, 9] ?_
 refine se ?_
 refine ec 15 (known2 _ (ht.gr hB)) ?_
 rintro e4 w4 ⟨rfl, g4⟩
 refine ⟨_, rfl, ?_⟩
 replace hB := hB.trans g4
 simp only [p3, p4]
 refine sv 16 (.bool false) ?_
 simp only [p3, p4]
 refine sv 17 (.bool false) ?_
 simp only [p3, p4]
 refine sv 18 (.string ⟨(ratL (a) : List UInt8).toArray⟩) ?_
 simp only [p3, p4]
 refine sv 19 (.string ⟨(ratL (b) : List UInt8).toArray⟩) ?_
 simp only [p3, p4]
 refine sv 20 (.string ⟨(ratL (c) : List UInt8).toArray⟩) ?_
 simp only [p3, p4]
 refine se ?_
 refine eff_bs 9 3 #[(.string ⟨(ratL (a) : List UInt8).toArray⟩), (.string ⟨(ratL (b) : List UInt8).toArray⟩), (.string ⟨(ratL (c) : List UInt8).toArray⟩)] (some 21) rfl (fun _ => by kernel_rfl) (fun b5 w5 g5 L5 q5 => ?_)
 replace hB := hB.trans g5
 simp only [putl, p3, p4]
 refine se ?_
 refine ec 22 (right3 (ratL (a)) (ratL (b)) (ratL (c)) L5) ?_
 rintro e6 w6 ⟨rfl, g6⟩
 refine ⟨_, rfl, ?_⟩
 replace hB := hB.trans g6
 simp only [p3, p4]
 refine sw 23 (.bool false) rfl (RunV.bool (x := !(((okT (ratL (a)) && okT (ratL (b))) && okT (ratL (c))))) (rvk (by kernel_rfl)) (show (!(((okT (ratL (a)) && okT (ratL (b))) && okT (ratL (c))))) = false by rw [lok]; rfl)) ?_
 simp only [p3, p4]
 refine sv 24 (.bool false) ?_
 simp only [p3, p4]
 refine sq_nil ?_
 refine k3 _ _ ?_
 try clear k3 K3
 refine wp_cond_false rfl ?_
 refine wp_skip ?_
 refine k2 _ _ ?_
 try clear k2 K2
 refine wp_seq_k (fun K7 k7 => ?_)
 refine rg [0, 1, 2, 3, 4, 5, 6, 7, 8, 9, 10, 11] ?_
 refine sv 26 (.string ⟨(ratL (a) : List UInt8).toArray⟩) ?_
 simp only [p3, p4]
 refine se ?_
 refine ec 27 (lread_q a ha la _ (hm.gr hB)) ?_
 rintro e8 w8 ⟨⟨p8, q8, r8, s8, rfl, h8⟩, g8⟩
 refine ⟨_, rfl, ?_⟩
 replace hB := hB.trans g8
 simp only [p3, p4]
 refine sv 28 (.string ⟨(ratL (b) : List UInt8).toArray⟩) ?_
 simp only [p3, p4]
 refine se ?_
 refine ec 29 (lread_q b hb lb _ (hm.gr hB)) ?_
 rintro e9 w9 ⟨⟨p9, q9, r9, s9, rfl, h9⟩, g9⟩
 refine ⟨_, rfl, ?_⟩
 replace hB := hB.trans g9
 simp only [p3, p4]
 refine sv 30 (.string ⟨(ratL (c) : List UInt8).toArray⟩) ?_
 simp only [p3, p4]
 refine se ?_
 refine ec 31 (lread_q c hc lc _ (hm.gr hB)) ?_
 rintro e10 w10 ⟨⟨p10, q10, r10, s10, rfl, h10⟩, g10⟩
 refine ⟨_, rfl, ?_⟩
 replace hB := hB.trans g10
 simp only [p3, p4]
 refine se ?_
 refine ea 31 #[(.bool false), (.slice none 0 0), (.bool false), (.slice none 0 0)] 7 hB fun b11 w11 g11 L11 o11 q11 hB => ?_
 simp only [p3, p4]
 refine se ?_
 refine ea 31 #[(.bool false), (.slice none 0 0), (.bool false), (.slice none 0 0)] 8 hB fun b12 w12 g12 L12 o12 q12 hB => ?_
 have ne11_12 := L11.ne o12
 simp only [p3, p4]
 refine se ?_
 refine ea 31 #[(.bool false), (.slice none 0 0), (.bool false), (.slice none 0 0)] 9 hB fun b13 w13 g13 L13 o13 q13 hB => ?_
 replace L11 := L11.gr g12
 have ne11_13 := L11.ne o13
 have ne12_13 := L12.ne o13
 simp only [p3, p4]
 refine se ?_
 replace L11 := L11.gr g13
 refine es 31 0 (.agg #[p8, q8, r8, s8]) [p8, q8, r8, s8] #[p8, q8, r8, s8] L11 hB q11 ⟨h8.one0, h8.one1, h8.one2, h8.one3, trivial⟩ fun w14 st14 kp14 L11 hB => ?_
 refine se ?_
 replace L12 := st14.lc (L12.gr g13) (Ne.symm ne11_12)
 refine es 31 0 (.agg #[p9, q9, r9, s9]) [p9, q9, r9, s9] #[p9, q9, r9, s9] L12 hB q12 ⟨h9.one0, h9.one1, h9.one2, h9.one3, trivial⟩ fun w15 st15 kp15 L12 hB => ?_
 refine se ?_
 replace L13 := st15.lc (st14.lc L13 (Ne.symm ne11_13)) (Ne.symm ne12_13)
 refine es 31 0 (.agg #[p10, q10, r10, s10]) [p10, q10, r10, s10] #[p10, q10, r10, s10] L13 hB q13 ⟨h10.one0, h10.one1, h10.one2, h10.one3, trivial⟩ fun w16 st16 kp16 L13 hB => ?_
 refine sq_nil ?_
 refine k7 _ _ ?_
 try clear k7 K7
 refine wp_seq_k (fun K17 k17 => ?_)
 refine rg [0, 1, 2, 3] ?_
 replace L11 := st16.lc (st15.lc L11 ne11_12) ne11_13
 refine sw 32 (.agg #[p8, q8, r8, s8]) rfl (rl 31 0 [p8, q8, r8, s8] L11) ?_
 simp only [p3, p4]
 replace L12 := st16.lc L12 ne12_13
 refine sw 33 (.agg #[p9, q9, r9, s9]) rfl (rl 31 0 [p9, q9, r9, s9] L12) ?_
 simp only [p3, p4]
 refine se ?_
 have kq19 := g9.kp.trans (g10.kp.trans (g11.kp.trans (g12.kp.trans (g13.kp.trans (kp14.trans (kp15.trans kp16))))))
 replace h8 := h8.kp kq19
 have kq20 := g10.kp.trans (g11.kp.trans (g12.kp.trans (g13.kp.trans (kp14.trans (kp15.trans kp16)))))
 replace h9 := h9.kp kq20
 refine ec 34 (compare_r h8 h9 (by omega)) ?_
 rintro e18 w18 ⟨rfl, g18⟩
 refine ⟨_, rfl, ?_⟩
 replace hB := hB.trans g18
 simp only [p3, p4]
 refine sv 10 (.int .i64 (rcmp (a) (b))) ?_
 simp only [p3, p4]
 refine sq_nil ?_
 refine k17 _ _ ?_
 try clear k17 K17
 refine wp_seq_k (fun K21 k21 => ?_)
 refine wp_seq_k (fun K22 k22 => ?_)
 have gd40 := Gr.drew w18
 replace hB := hB.trans gd40
 replace L11 := L11.gr (g18.trans gd40)
 replace L12 := L12.gr (g18.trans gd40)
 replace L13 := L13.gr (g18.trans gd40)
 refine wp_region_ord (fun w' => Lc w' b11 #[p8, q8, r8, s8] 31 ∧ Lc w' b12 #[p9, q9, r9, s9] 31 ∧ Lc w' b13 #[p10, q10, r10, s10] 31) [(true, 0), (true, 1), (true, 4), (false, 2), (false, 3), (true, 5), (true, 6), (true, 7), (true, 8), (true, 10), (true, 11), (true, 14), (false, 9), (false, 12), (false, 13), (true, 15), (true, 16)] (by kernel_rfl) (by kernel_rfl) (by kernel_rfl) (by decide) (fun _ _ _ _ _ h => h) ⟨L11, L12, L13⟩ ?_
 refine ow 35 (.agg #[p8, q8, r8, s8]) rfl (fun w' hS => (rl 31 0 [p8, q8, r8, s8] hS.1)) ?_
 simp only [p3, p4]
 refine ow 36 (.agg #[p9, q9, r9, s9]) rfl (fun w' hS => (rl 31 0 [p9, q9, r9, s9] hS.2.1)) ?_
 simp only [p3, p4]
 refine ov 39 (.int .i64 (rcmp (a) (b))) ?_
 simp only [p3, p4]
 refine oe ?_
 have kq43 := g18.kp.trans gd40.kp
 replace h8 := h8.kp kq43
 replace h9 := h9.kp kq43
 refine ec 37 (sub_r h8 h9 (by omega)) ?_
 rintro e42 w42 ⟨⟨p42, q42, r42, s42, rfl, h42⟩, g42⟩
 refine ⟨_, rfl, ?_⟩
 replace hB := hB.trans g42
 replace L11 := L11.gr g42
 replace L12 := L12.gr g42
 replace L13 := L13.gr g42
 refine ⟨⟨L11, L12, L13⟩, ?_⟩
 simp only [p3, p4]
 refine oe ?_
 refine ec 38 (sign_r h42) ?_
 rintro e45 w45 ⟨rfl, g45⟩
 refine ⟨_, rfl, ?_⟩
 replace hB := hB.trans g45
 replace L11 := L11.gr g45
 replace L12 := L12.gr g45
 replace L13 := L13.gr g45
 refine ⟨⟨L11, L12, L13⟩, ?_⟩
 simp only [p3, p4]
 have hb46 : ((sgn ((a - b)).num != rcmp (a) (b))) = false := (by rw [ord_sub a b]; simp)
 refine ow 40 (.bool false) rfl (fun w' hS => (RunV.bool (x := (sgn ((a - b)).num != rcmp (a) (b))) (rvk (by kernel_rfl)) hb46)) ?_
 simp only [p3, p4]
 refine ov 41 (.bool false) ?_
 simp only [p3, p4]
 refine ow 42 (.agg #[p8, q8, r8, s8]) rfl (fun w' hS => (rl 31 0 [p8, q8, r8, s8] hS.1)) ?_
 simp only [p3, p4]
 refine ow 43 (.agg #[p10, q10, r10, s10]) rfl (fun w' hS => (rl 31 0 [p10, q10, r10, s10] hS.2.2)) ?_
 simp only [p3, p4]
 refine ow 45 (.agg #[p9, q9, r9, s9]) rfl (fun w' hS => (rl 31 0 [p9, q9, r9, s9] hS.2.1)) ?_
 simp only [p3, p4]
 refine ow 46 (.agg #[p10, q10, r10, s10]) rfl (fun w' hS => (rl 31 0 [p10, q10, r10, s10] hS.2.2)) ?_
 simp only [p3, p4]
 refine ov 49 (.int .i64 (rcmp (a) (b))) ?_
 simp only [p3, p4]
 refine oe ?_
 have kq49 := g42.kp.trans g45.kp
 replace h8 := h8.kp kq49
 have kq50 := g11.kp.trans (g12.kp.trans (g13.kp.trans (kp14.trans (kp15.trans (kp16.trans (g18.kp.trans (gd40.kp.trans (g42.kp.trans g45.kp))))))))
 replace h10 := h10.kp kq50
 refine ec 44 (add_r h8 h10 (by omega)) ?_
 rintro e48 w48 ⟨⟨p48, q48, r48, s48, rfl, h48⟩, g48⟩
 refine ⟨_, rfl, ?_⟩
 replace hB := hB.trans g48
 replace L11 := L11.gr g48
 replace L12 := L12.gr g48
 replace L13 := L13.gr g48
 refine ⟨⟨L11, L12, L13⟩, ?_⟩
 simp only [p3, p4]
 refine oe ?_
 have kq53 := g42.kp.trans (g45.kp.trans g48.kp)
 replace h9 := h9.kp kq53
 replace h10 := h10.kp g48.kp
 refine ec 47 (add_r h9 h10 (by omega)) ?_
 rintro e52 w52 ⟨⟨p52, q52, r52, s52, rfl, h52⟩, g52⟩
 refine ⟨_, rfl, ?_⟩
 replace hB := hB.trans g52
 replace L11 := L11.gr g52
 replace L12 := L12.gr g52
 replace L13 := L13.gr g52
 refine ⟨⟨L11, L12, L13⟩, ?_⟩
 simp only [p3, p4]
 refine oe ?_
 replace h48 := h48.kp g52.kp
 refine ec 48 (compare_r h48 h52 (by omega)) ?_
 rintro e55 w55 ⟨rfl, g55⟩
 refine ⟨_, rfl, ?_⟩
 replace hB := hB.trans g55
 replace L11 := L11.gr g55
 replace L12 := L12.gr g55
 replace L13 := L13.gr g55
 refine ⟨⟨L11, L12, L13⟩, ?_⟩
 simp only [p3, p4]
 have hb56 : ((rcmp ((a + c)) ((b + c)) != rcmp (a) (b))) = false := (by rw [ord_add a b c]; simp)
 refine ow 50 (.bool false) rfl (fun w' hS => (RunV.bool (x := (rcmp ((a + c)) ((b + c)) != rcmp (a) (b))) (rvk (by kernel_rfl)) hb56)) ?_
 simp only [p3, p4]
 refine ov 51 (.bool false) ?_
 simp only [p3, p4]
 refine ord_nil ?_
 refine k22 _ _ ?_
 try clear k22 K22
 refine wp_cond_false rfl ?_
 refine wp_skip ?_
 refine k21 _ _ ?_
 try clear k21 K21
 refine wp_seq_k (fun K57 k57 => ?_)
 refine wp_seq_k (fun K58 k58 => ?_)
 have gd72 := Gr.drew w55
 replace hB := hB.trans gd72
 replace L11 := L11.gr gd72
 replace L12 := L12.gr gd72
 replace L13 := L13.gr gd72
 refine wp_region_ord (fun w' => Lc w' b11 #[p8, q8, r8, s8] 31 ∧ Lc w' b12 #[p9, q9, r9, s9] 31 ∧ Lc w' b13 #[p10, q10, r10, s10] 31) [(true, 0), (false, 1), (true, 2), (true, 3), (true, 4), (true, 5), (true, 7), (true, 8), (true, 11), (false, 6), (false, 9), (false, 10), (true, 12), (true, 13)] (by kernel_rfl) (by kernel_rfl) (by kernel_rfl) (by decide) (fun _ _ _ _ _ h => h) ⟨L11, L12, L13⟩ ?_
 refine ow 52 (.agg #[p10, q10, r10, s10]) rfl (fun w' hS => (rl 31 0 [p10, q10, r10, s10] hS.2.2)) ?_
 simp only [p3, p4]
 refine oe ?_
 have kq75 := g52.kp.trans (g55.kp.trans gd72.kp)
 replace h10 := h10.kp kq75
 refine ec 53 (sign_r h10) ?_
 rintro e74 w74 ⟨rfl, g74⟩
 refine ⟨_, rfl, ?_⟩
 replace hB := hB.trans g74
 replace L11 := L11.gr g74
 replace L12 := L12.gr g74
 replace L13 := L13.gr g74
 refine ⟨⟨L11, L12, L13⟩, ?_⟩
 simp only [p3, p4]
 refine ow 54 (.bool true) rfl (fun w' hS => (RunV.bool (x := decide ((0 : Int) < sgn (c).num)) (rvk (by kernel_rfl)) hz)) ?_
 simp only [p3, p4]
 refine ov 55 (.bool true) ?_
 simp only [p3, p4]
 refine ow 56 (.agg #[p8, q8, r8, s8]) rfl (fun w' hS => (rl 31 0 [p8, q8, r8, s8] hS.1)) ?_
 simp only [p3, p4]
 refine ow 57 (.agg #[p10, q10, r10, s10]) rfl (fun w' hS => (rl 31 0 [p10, q10, r10, s10] hS.2.2)) ?_
 simp only [p3, p4]
 refine ow 59 (.agg #[p9, q9, r9, s9]) rfl (fun w' hS => (rl 31 0 [p9, q9, r9, s9] hS.2.1)) ?_
 simp only [p3, p4]
 refine ow 60 (.agg #[p10, q10, r10, s10]) rfl (fun w' hS => (rl 31 0 [p10, q10, r10, s10] hS.2.2)) ?_
 simp only [p3, p4]
 refine ov 63 (.int .i64 (rcmp (a) (b))) ?_
 simp only [p3, p4]
 refine oe ?_
 have kq78 := g48.kp.trans (g52.kp.trans (g55.kp.trans (gd72.kp.trans g74.kp)))
 replace h8 := h8.kp kq78
 replace h10 := h10.kp g74.kp
 refine ec 58 (mul_r h8 h10 (by omega)) ?_
 rintro e77 w77 ⟨⟨p77, q77, r77, s77, rfl, h77⟩, g77⟩
 refine ⟨_, rfl, ?_⟩
 replace hB := hB.trans g77
 replace L11 := L11.gr g77
 replace L12 := L12.gr g77
 replace L13 := L13.gr g77
 refine ⟨⟨L11, L12, L13⟩, ?_⟩
 simp only [p3, p4]
 refine oe ?_
 have kq81 := g52.kp.trans (g55.kp.trans (gd72.kp.trans (g74.kp.trans g77.kp)))
 replace h9 := h9.kp kq81
 replace h10 := h10.kp g77.kp
 refine ec 61 (mul_r h9 h10 (by omega)) ?_
 rintro e80 w80 ⟨⟨p80, q80, r80, s80, rfl, h80⟩, g80⟩
 refine ⟨_, rfl, ?_⟩
 replace hB := hB.trans g80
 replace L11 := L11.gr g80
 replace L12 := L12.gr g80
 replace L13 := L13.gr g80
 refine ⟨⟨L11, L12, L13⟩, ?_⟩
 simp only [p3, p4]
 refine oe ?_
 replace h77 := h77.kp g80.kp
 refine ec 62 (compare_r h77 h80 (by omega)) ?_
 rintro e83 w83 ⟨rfl, g83⟩
 refine ⟨_, rfl, ?_⟩
 replace hB := hB.trans g83
 replace L11 := L11.gr g83
 replace L12 := L12.gr g83
 replace L13 := L13.gr g83
 refine ⟨⟨L11, L12, L13⟩, ?_⟩
 simp only [p3, p4]
 have hb84 : ((rcmp ((a * c)) ((b * c)) != rcmp (a) (b))) = false := (by rw [ord_mul a b c hc0]; simp)
 refine ow 64 (.bool false) rfl (fun w' hS => (RunV.bool (x := (rcmp ((a * c)) ((b * c)) != rcmp (a) (b))) (rvk (by kernel_rfl)) hb84)) ?_
 simp only [p3, p4]
 refine ov 65 (.bool false) ?_
 simp only [p3, p4]
 refine ord_nil ?_
 refine k58 _ _ ?_
 try clear k58 K58
 refine wp_cond_false rfl ?_
 refine wp_skip ?_
 refine k57 _ _ ?_
 try clear k57 K57
 refine wp_seq_k (fun K85 k85 => ?_)
 refine wp_seq_k (fun K86 k86 => ?_)
 refine rg [0, 1, 2, 3, 4, 5, 6, 7, 8, 9, 10, 11, 12, 13] ?_
 refine sv 66 (.int .i64 (rcmp (a) (b))) ?_
 simp only [p3, p4]
 refine sv 67 (.bool (decide (rcmp (a) (b) ≤ (0 : Int)))) ?_
 simp only [p3, p4]
 rcases Bool.eq_false_or_eq_true (decide (rcmp (a) (b) ≤ (0 : Int))) with hb87 | hb87
 ·refine sw 68 (.bool true) rfl (RunV.bool (x := decide (rcmp (a) (b) ≤ (0 : Int))) (rvk (by kernel_rfl)) hb87) ?_
  simp only [p3, p4]
  refine sw 69 (.agg #[p9, q9, r9, s9]) rfl (rl 31 0 [p9, q9, r9, s9] L12) ?_
  simp only [p3, p4]
  refine sw 70 (.agg #[p10, q10, r10, s10]) rfl (rl 31 0 [p10, q10, r10, s10] L13) ?_
  simp only [p3, p4]
  refine se ?_
  have kq89 := g80.kp.trans g83.kp
  replace h9 := h9.kp kq89
  replace h10 := h10.kp kq89
  refine ec 71 (compare_r h9 h10 (by omega)) ?_
  rintro e88 w88 ⟨rfl, g88⟩
  refine ⟨_, rfl, ?_⟩
  replace hB := hB.trans g88
  simp only [p3, p4]
  refine sv 72 (.bool (decide (rcmp (b) (c) ≤ (0 : Int)))) ?_
  simp only [p3, p4]
  refine sv 73 (.bool (decide (rcmp (b) (c) ≤ (0 : Int)))) ?_
  simp only [p3, p4]
  rcases Bool.eq_false_or_eq_true (decide (rcmp (b) (c) ≤ (0 : Int))) with hb90 | hb90
  ·refine sw 74 (.bool true) rfl (RunV.bool (x := decide (rcmp (b) (c) ≤ (0 : Int))) (rvk (by kernel_rfl)) hb90) ?_
   simp only [p3, p4]
   replace L11 := L11.gr g88
   refine sw 75 (.agg #[p8, q8, r8, s8]) rfl (rl 31 0 [p8, q8, r8, s8] L11) ?_
   simp only [p3, p4]
   replace L13 := L13.gr g88
   refine sw 76 (.agg #[p10, q10, r10, s10]) rfl (rl 31 0 [p10, q10, r10, s10] L13) ?_
   simp only [p3, p4]
   refine se ?_
   have kq92 := g77.kp.trans (g80.kp.trans (g83.kp.trans g88.kp))
   replace h8 := h8.kp kq92
   replace h10 := h10.kp g88.kp
   refine ec 77 (compare_r h8 h10 (by omega)) ?_
   rintro e91 w91 ⟨rfl, g91⟩
   refine ⟨_, rfl, ?_⟩
   replace hB := hB.trans g91
   simp only [p3, p4]
   have hb93 : (decide ((0 : Int) < rcmp (a) (c))) = false := (by rw [decide_eq_false_iff_not, rcmp_gt]; have := rcmp_le.1 (of_decide_eq_true hb87); have := rcmp_le.1 (of_decide_eq_true hb90); grind)
   refine sw 78 (.bool false) rfl (RunV.bool (x := decide ((0 : Int) < rcmp (a) (c))) (rvk (by kernel_rfl)) hb93) ?_
   simp only [p3, p4]
   refine sv 79 (.bool false) ?_
   simp only [p3, p4]
   refine sq_nil ?_
   refine k86 _ _ ?_
   try clear k86 K86
   refine wp_cond_false rfl ?_
   refine wp_skip ?_
   refine k85 _ _ ?_
   try clear k85 K85
   refine wp_seq_k (fun K94 k94 => ?_)
   have hz95 := Below.size hB
   replace L11 := L11.gr g91
   have lt11_95 := L11.lt
   replace L12 := L12.gr (g88.trans g91)
   have lt12_95 := L12.lt
   have gd95 := Gr.drew w91
   replace hB := hB.trans gd95
   replace L11 := L11.gr gd95
   replace L12 := L12.gr gd95
   refine wp_region_flo (fun w' => Lc w' b11 #[p8, q8, r8, s8] 31 ∧ Lc w' b12 #[p9, q9, r9, s9] 31) [(true, 0), (true, 1), (true, 3), (true, 4), (false, 2), (false, 5)] [⟨6, 11, 31, #[(.bool false), (.slice none 0 0), (.bool false), (.slice none 0 0)]⟩, ⟨7, 12, 31, #[(.bool false), (.slice none 0 0), (.bool false), (.slice none 0 0)]⟩] [(false, 8), (false, 9)] (by kernel_rfl) (by kernel_rfl) (by kernel_rfl) (by kernel_rfl) (by kernel_rfl) (by decide) (fun _ _ _ _ _ h => h) (fun _ _ _ _ _ h => h) (fun w' o h => ⟨Lc.gr h.1 (Gr.alloc w' o), Lc.gr h.2 (Gr.alloc w' o)⟩) ⟨L11, L12⟩ (by intro f hf; simp only [List.mem_cons, List.not_mem_nil, or_false] at hf; rcases hf with rfl | rfl <;> first | exact alloc_zero (z := (.agg #[(.bool false), (.slice none 0 0), (.bool false), (.slice none 0 0)])) (by kernel_rfl) rfl | exact alloc_zero (z := (.agg #[(.bool false), (.slice none 0 0), (.bool false), (.slice none 0 0)])) (by kernel_rfl) rfl) ?_
   refine fw 80 (.agg #[p8, q8, r8, s8]) rfl (fun w' hS => (rl 31 0 [p8, q8, r8, s8] hS.1)) ?_
   simp only [p3, p4]
   refine fw 81 (.agg #[p9, q9, r9, s9]) rfl (fun w' hS => (rl 31 0 [p9, q9, r9, s9] hS.2)) ?_
   simp only [p3, p4]
   refine fw 83 (.agg #[p8, q8, r8, s8]) rfl (fun w' hS => (rl 31 0 [p8, q8, r8, s8] hS.1)) ?_
   simp only [p3, p4]
   refine fw 84 (.agg #[p9, q9, r9, s9]) rfl (fun w' hS => (rl 31 0 [p9, q9, r9, s9] hS.2)) ?_
   simp only [p3, p4]
   refine flo_eff rfl rfl (fun w96 g96 _ K96 k96 => ?_)
   replace hB := hB.trans g96
   have kq98 := g91.kp.trans (gd95.kp.trans g96.kp)
   replace h8 := h8.kp kq98
   have kq99 := g88.kp.trans (g91.kp.trans (gd95.kp.trans g96.kp))
   replace h9 := h9.kp kq99
   refine ec 82 (min_r h8 h9 (by omega)) ?_
   rintro e97 w97 ⟨⟨p97, q97, r97, s97, rfl, h97⟩, g97⟩
   refine ⟨_, rfl, ?_⟩
   replace hB := hB.trans g97
   rw [← elo] at h97
   replace L11 := L11.gr (g96.trans g97)
   replace L12 := L12.gr (g96.trans g97)
   refine k96 _ _ g97 ⟨L11, L12⟩ ?_
   try clear k96 K96
   simp only [p3, p4]
   refine flo_eff rfl rfl (fun w100 g100 _ K100 k100 => ?_)
   replace hB := hB.trans g100
   have kq102 := g97.kp.trans g100.kp
   replace h8 := h8.kp kq102
   replace h9 := h9.kp kq102
   refine ec 85 (max_r h8 h9 (by omega)) ?_
   rintro e101 w101 ⟨⟨p101, q101, r101, s101, rfl, h101⟩, g101⟩
   refine ⟨_, rfl, ?_⟩
   replace hB := hB.trans g101
   rw [← ehi] at h101
   replace L11 := L11.gr (g100.trans g101)
   replace L12 := L12.gr (g100.trans g101)
   refine k100 _ _ g101 ⟨L11, L12⟩ ?_
   try clear k100 K100
   simp only [p3, p4]
   refine flo_nil (fun w103 g103 _ => ?_)
   replace hB := hB.trans g103
   refine floFin2 (fun b104 b105 (L104 : Lc w103 b104 #[(.bool false), (.slice none 0 0), (.bool false), (.slice none 0 0)] 31) q104 (L105 : Lc w103 b105 #[(.bool false), (.slice none 0 0), (.bool false), (.slice none 0 0)] 31) q105 ne104_105 => ?_)
   have ne11_104 : b11 ≠ b104 := Nat.ne_of_lt (Nat.lt_of_lt_of_le lt11_95 q104)
   have ne12_104 : b12 ≠ b104 := Nat.ne_of_lt (Nat.lt_of_lt_of_le lt12_95 q104)
   replace q104 := Nat.le_trans hz95 q104
   have ne11_105 : b11 ≠ b105 := Nat.ne_of_lt (Nat.lt_of_lt_of_le lt11_95 q105)
   have ne12_105 : b12 ≠ b105 := Nat.ne_of_lt (Nat.lt_of_lt_of_le lt12_95 q105)
   replace q105 := Nat.le_trans hz95 q105
   simp only [putl, p3, p4]
   refine oe ?_
   refine es 31 0 (.agg #[p97, q97, r97, s97]) [p97, q97, r97, s97] #[p97, q97, r97, s97] L104 hB q104 ⟨h97.one0, h97.one1, h97.one2, h97.one3, trivial⟩ fun w107 st107 kp107 L104 hB => ?_
   replace L11 := st107.lc (L11.gr g103) ne11_104
   replace L12 := st107.lc (L12.gr g103) ne12_104
   refine ⟨⟨L11, L12⟩, ?_⟩
   refine oe ?_
   replace L105 := st107.lc L105 (Ne.symm ne104_105)
   refine es 31 0 (.agg #[p101, q101, r101, s101]) [p101, q101, r101, s101] #[p101, q101, r101, s101] L105 hB q105 ⟨h101.one0, h101.one1, h101.one2, h101.one3, trivial⟩ fun w109 st109 kp109 L105 hB => ?_
   replace L11 := st109.lc L11 ne11_105
   replace L12 := st109.lc L12 ne12_105
   refine ⟨⟨L11, L12⟩, ?_⟩
   refine ord_nil ?_
   refine k94 _ _ ?_
   try clear k94 K94
   refine wp_seq_k (fun K110 k110 => ?_)
   refine rg [0, 1, 2, 3, 4, 5, 6, 7, 8] ?_
   replace L104 := st109.lc L104 ne104_105
   refine sw 87 (.agg #[p97, q97, r97, s97]) rfl (rl 31 0 [p97, q97, r97, s97] L104) ?_
   simp only [p3, p4]
   refine sw 88 (.agg #[p101, q101, r101, s101]) rfl (rl 31 0 [p101, q101, r101, s101] L105) ?_
   simp only [p3, p4]
   refine se ?_
   have kq112 := g100.kp.trans (g101.kp.trans (g103.kp.trans (kp107.trans kp109)))
   replace h97 := h97.kp kq112
   have kq113 := g103.kp.trans (kp107.trans kp109)
   replace h101 := h101.kp kq113
   refine ec 89 (simplest_r h97 h101 (by omega) hlh) ?_
   rintro e111 w111 ⟨⟨sx, p111, q111, r111, s111, rfl, h111, hs⟩, g111⟩
   refine ⟨_, rfl, ?_⟩
   replace hB := hB.trans g111
   simp only [p3, p4]
   refine sv 86 (.tuple #[(.agg #[p111, q111, r111, s111]), (.int .i64 0)]) ?_
   simp only [p3, p4]
   refine sv 90 (.agg #[p111, q111, r111, s111]) ?_
   simp only [p3, p4]
   refine sv 91 (.int .i64 0) ?_
   simp only [p3, p4]
   refine se ?_
   refine ea 31 #[(.bool false), (.slice none 0 0), (.bool false), (.slice none 0 0)] 13 hB fun b114 w114 g114 L114 o114 q114 hB => ?_
   replace L104 := L104.gr g111
   have ne104_114 := L104.ne o114
   replace L105 := L105.gr g111
   have ne105_114 := L105.ne o114
   simp only [p3, p4]
   refine se ?_
   refine es 31 0 (.agg #[p111, q111, r111, s111]) [p111, q111, r111, s111] #[p111, q111, r111, s111] L114 hB q114 ⟨h111.one0, h111.one1, h111.one2, h111.one3, trivial⟩ fun w115 st115 kp115 L114 hB => ?_
   refine sv 14 (.int .i64 0) ?_
   simp only [p3, p4]
   refine sq_nil ?_
   refine k110 _ _ ?_
   try clear k110 K110
   refine wp_seq_k (fun K116 k116 => ?_)
   have gd144 := Gr.drew w115
   replace hB := hB.trans gd144
   replace L104 := (st115.lc (L104.gr g114) ne104_114).gr gd144
   replace L105 := (st115.lc (L105.gr g114) ne105_114).gr gd144
   replace L114 := L114.gr gd144
   refine wp_region_ord (fun w' => Lc w' b104 #[p97, q97, r97, s97] 31 ∧ Lc w' b105 #[p101, q101, r101, s101] 31 ∧ Lc w' b114 #[p111, q111, r111, s111] 31) [(true, 0), (true, 1), (true, 2), (true, 3), (true, 4), (false, 5), (true, 6), (true, 7), (true, 8), (true, 9), (true, 10), (false, 11), (true, 12), (true, 13), (true, 14), (true, 15), (true, 17), (false, 16), (false, 18), (false, 19), (true, 20), (true, 21), (true, 22), (true, 23), (true, 25), (false, 24), (false, 26), (false, 27), (true, 28), (true, 29), (true, 30)] (by kernel_rfl) (by kernel_rfl) (by kernel_rfl) (by decide) (fun _ _ _ _ _ h => h) ⟨L104, L105, L114⟩ ?_
   refine ov 92 (.int .i64 0) ?_
   simp only [p3, p4]
   refine ov 93 (.bool true) ?_
   simp only [p3, p4]
   refine ov 94 (.bool true) ?_
   simp only [p3, p4]
   refine ow 95 (.agg #[p97, q97, r97, s97]) rfl (fun w' hS => (rl 31 0 [p97, q97, r97, s97] hS.1)) ?_
   simp only [p3, p4]
   refine ow 96 (.agg #[p111, q111, r111, s111]) rfl (fun w' hS => (rl 31 0 [p111, q111, r111, s111] hS.2.2)) ?_
   simp only [p3, p4]
   refine oe ?_
   have kq147 := g111.kp.trans (g114.kp.trans (kp115.trans gd144.kp))
   replace h97 := h97.kp kq147
   have kq148 := g114.kp.trans (kp115.trans gd144.kp)
   replace h111 := h111.kp kq148
   refine ec 97 (compare_r h97 h111 (by omega)) ?_
   rintro e146 w146 ⟨rfl, g146⟩
   refine ⟨_, rfl, ?_⟩
   replace hB := hB.trans g146
   replace L104 := L104.gr g146
   replace L105 := L105.gr g146
   replace L114 := L114.gr g146
   refine ⟨⟨L104, L105, L114⟩, ?_⟩
   simp only [p3, p4]
   have hb149 : (decide (rcmp (lo) (sx) ≤ (0 : Int))) = true := (by rw [decide_eq_true_eq, rcmp_le]; exact (hs.le hlh).1)
   refine ow 98 (.bool true) rfl (fun w' hS => (RunV.bool (x := decide (rcmp (lo) (sx) ≤ (0 : Int))) (rvk (by kernel_rfl)) hb149)) ?_
   simp only [p3, p4]
   refine ov 99 (.bool true) ?_
   simp only [p3, p4]
   refine ov 100 (.bool true) ?_
   simp only [p3, p4]
   refine ow 101 (.agg #[p111, q111, r111, s111]) rfl (fun w' hS => (rl 31 0 [p111, q111, r111, s111] hS.2.2)) ?_
   simp only [p3, p4]
   refine ow 102 (.agg #[p101, q101, r101, s101]) rfl (fun w' hS => (rl 31 0 [p101, q101, r101, s101] hS.2.1)) ?_
   simp only [p3, p4]
   refine oe ?_
   replace h111 := h111.kp g146.kp
   have kq152 := g111.kp.trans (g114.kp.trans (kp115.trans (gd144.kp.trans g146.kp)))
   replace h101 := h101.kp kq152
   refine ec 103 (compare_r h111 h101 (by omega)) ?_
   rintro e151 w151 ⟨rfl, g151⟩
   refine ⟨_, rfl, ?_⟩
   replace hB := hB.trans g151
   replace L104 := L104.gr g151
   replace L105 := L105.gr g151
   replace L114 := L114.gr g151
   refine ⟨⟨L104, L105, L114⟩, ?_⟩
   simp only [p3, p4]
   have hb153 : (decide (rcmp (sx) (hi) ≤ (0 : Int))) = true := (by rw [decide_eq_true_eq, rcmp_le]; exact (hs.le hlh).2.1)
   refine ow 104 (.bool true) rfl (fun w' hS => (RunV.bool (x := decide (rcmp (sx) (hi) ≤ (0 : Int))) (rvk (by kernel_rfl)) hb153)) ?_
   simp only [p3, p4]
   refine ov 105 (.bool true) ?_
   simp only [p3, p4]
   refine ov 106 (.bool true) ?_
   simp only [p3, p4]
   refine ow 107 (.agg #[p111, q111, r111, s111]) rfl (fun w' hS => (rl 31 0 [p111, q111, r111, s111] hS.2.2)) ?_
   simp only [p3, p4]
   refine ow 109 (.agg #[p97, q97, r97, s97]) rfl (fun w' hS => (rl 31 0 [p97, q97, r97, s97] hS.1)) ?_
   simp only [p3, p4]
   refine oe ?_
   replace h111 := h111.kp g151.kp
   refine ec 108 (den_i h111) ?_
   rintro e155 w155 ⟨⟨x155, y155, rfl, h155⟩, g155⟩
   refine ⟨_, rfl, ?_⟩
   replace hB := hB.trans g155
   replace L104 := L104.gr g155
   replace L105 := L105.gr g155
   replace L114 := L114.gr g155
   refine ⟨⟨L104, L105, L114⟩, ?_⟩
   simp only [p3, p4]
   refine oe ?_
   have kq158 := g146.kp.trans (g151.kp.trans g155.kp)
   replace h97 := h97.kp kq158
   refine ec 110 (den_i h97) ?_
   rintro e157 w157 ⟨⟨x157, y157, rfl, h157⟩, g157⟩
   refine ⟨_, rfl, ?_⟩
   replace hB := hB.trans g157
   replace L104 := L104.gr g157
   replace L105 := L105.gr g157
   replace L114 := L114.gr g157
   refine ⟨⟨L104, L105, L114⟩, ?_⟩
   simp only [p3, p4]
   refine oe ?_
   replace h155 := h155.kp g157.kp
   refine ec 111 (compare_i h155 h157 (by omega) (by omega)) ?_
   rintro e160 w160 ⟨rfl, g160⟩
   refine ⟨_, rfl, ?_⟩
   replace hB := hB.trans g160
   replace L104 := L104.gr g160
   replace L105 := L105.gr g160
   replace L114 := L114.gr g160
   refine ⟨⟨L104, L105, L114⟩, ?_⟩
   simp only [p3, p4]
   have hb161 : (decide (sgn ((sx.den : Int) - (lo.den : Int)) ≤ (0 : Int))) = true := (sgn_sub_le (hs.le hlh).2.2.1)
   refine ow 112 (.bool true) rfl (fun w' hS => (RunV.bool (x := decide (sgn ((sx.den : Int) - (lo.den : Int)) ≤ (0 : Int))) (rvk (by kernel_rfl)) hb161)) ?_
   simp only [p3, p4]
   refine ov 113 (.bool true) ?_
   simp only [p3, p4]
   refine ov 114 (.bool true) ?_
   simp only [p3, p4]
   refine ow 115 (.agg #[p111, q111, r111, s111]) rfl (fun w' hS => (rl 31 0 [p111, q111, r111, s111] hS.2.2)) ?_
   simp only [p3, p4]
   refine ow 117 (.agg #[p101, q101, r101, s101]) rfl (fun w' hS => (rl 31 0 [p101, q101, r101, s101] hS.2.1)) ?_
   simp only [p3, p4]
   refine oe ?_
   have kq164 := g155.kp.trans (g157.kp.trans g160.kp)
   replace h111 := h111.kp kq164
   refine ec 116 (den_i h111) ?_
   rintro e163 w163 ⟨⟨x163, y163, rfl, h163⟩, g163⟩
   refine ⟨_, rfl, ?_⟩
   replace hB := hB.trans g163
   replace L104 := L104.gr g163
   replace L105 := L105.gr g163
   replace L114 := L114.gr g163
   refine ⟨⟨L104, L105, L114⟩, ?_⟩
   simp only [p3, p4]
   refine oe ?_
   have kq167 := g151.kp.trans (g155.kp.trans (g157.kp.trans (g160.kp.trans g163.kp)))
   replace h101 := h101.kp kq167
   refine ec 118 (den_i h101) ?_
   rintro e166 w166 ⟨⟨x166, y166, rfl, h166⟩, g166⟩
   refine ⟨_, rfl, ?_⟩
   replace hB := hB.trans g166
   replace L104 := L104.gr g166
   replace L105 := L105.gr g166
   replace L114 := L114.gr g166
   refine ⟨⟨L104, L105, L114⟩, ?_⟩
   simp only [p3, p4]
   refine oe ?_
   replace h163 := h163.kp g166.kp
   refine ec 119 (compare_i h163 h166 (by omega) (by omega)) ?_
   rintro e169 w169 ⟨rfl, g169⟩
   refine ⟨_, rfl, ?_⟩
   replace hB := hB.trans g169
   replace L104 := L104.gr g169
   replace L105 := L105.gr g169
   replace L114 := L114.gr g169
   refine ⟨⟨L104, L105, L114⟩, ?_⟩
   simp only [p3, p4]
   have hb170 : (decide (sgn ((sx.den : Int) - (hi.den : Int)) ≤ (0 : Int))) = true := (sgn_sub_le (hs.le hlh).2.2.2)
   refine ow 120 (.bool true) rfl (fun w' hS => (RunV.bool (x := decide (sgn ((sx.den : Int) - (hi.den : Int)) ≤ (0 : Int))) (rvk (by kernel_rfl)) hb170)) ?_
   simp only [p3, p4]
   refine ov 121 (.bool true) ?_
   simp only [p3, p4]
   refine ov 6 (.bool true) ?_
   simp only [p3, p4]
   refine ord_nil ?_
   refine k116 _ _ ?_
   try clear k116 K116
   refine wp_ret ?_
   refine bodyPost_ret (v := (.bool true)) (ret_tmp rfl rfl) rfl ⟨?_, hB⟩
   exact rfl
  ·refine sw 74 (.bool false) rfl (RunV.bool (x := decide (rcmp (b) (c) ≤ (0 : Int))) (rvk (by kernel_rfl)) hb90) ?_
   simp only [p3, p4]
   refine ss 75 ?_
   simp only [p3, p4]
   refine ss 76 ?_
   simp only [p3, p4]
   refine ss 77 ?_
   simp only [p3, p4]
   refine ss 78 ?_
   simp only [p3, p4]
   refine sv 79 (.bool false) ?_
   simp only [p3, p4]
   refine sq_nil ?_
   refine k86 _ _ ?_
   try clear k86 K86
   refine wp_cond_false rfl ?_
   refine wp_skip ?_
   refine k85 _ _ ?_
   try clear k85 K85
   refine wp_seq_k (fun K171 k171 => ?_)
   have hz172 := Below.size hB
   replace L11 := L11.gr g88
   have lt11_172 := L11.lt
   replace L12 := L12.gr g88
   have lt12_172 := L12.lt
   have gd172 := Gr.drew w88
   replace hB := hB.trans gd172
   replace L11 := L11.gr gd172
   replace L12 := L12.gr gd172
   refine wp_region_flo (fun w' => Lc w' b11 #[p8, q8, r8, s8] 31 ∧ Lc w' b12 #[p9, q9, r9, s9] 31) [(true, 0), (true, 1), (true, 3), (true, 4), (false, 2), (false, 5)] [⟨6, 11, 31, #[(.bool false), (.slice none 0 0), (.bool false), (.slice none 0 0)]⟩, ⟨7, 12, 31, #[(.bool false), (.slice none 0 0), (.bool false), (.slice none 0 0)]⟩] [(false, 8), (false, 9)] (by kernel_rfl) (by kernel_rfl) (by kernel_rfl) (by kernel_rfl) (by kernel_rfl) (by decide) (fun _ _ _ _ _ h => h) (fun _ _ _ _ _ h => h) (fun w' o h => ⟨Lc.gr h.1 (Gr.alloc w' o), Lc.gr h.2 (Gr.alloc w' o)⟩) ⟨L11, L12⟩ (by intro f hf; simp only [List.mem_cons, List.not_mem_nil, or_false] at hf; rcases hf with rfl | rfl <;> first | exact alloc_zero (z := (.agg #[(.bool false), (.slice none 0 0), (.bool false), (.slice none 0 0)])) (by kernel_rfl) rfl | exact alloc_zero (z := (.agg #[(.bool false), (.slice none 0 0), (.bool false), (.slice none 0 0)])) (by kernel_rfl) rfl) ?_
   refine fw 80 (.agg #[p8, q8, r8, s8]) rfl (fun w' hS => (rl 31 0 [p8, q8, r8, s8] hS.1)) ?_
   simp only [p3, p4]
   refine fw 81 (.agg #[p9, q9, r9, s9]) rfl (fun w' hS => (rl 31 0 [p9, q9, r9, s9] hS.2)) ?_
   simp only [p3, p4]
   refine fw 83 (.agg #[p8, q8, r8, s8]) rfl (fun w' hS => (rl 31 0 [p8, q8, r8, s8] hS.1)) ?_
   simp only [p3, p4]
   refine fw 84 (.agg #[p9, q9, r9, s9]) rfl (fun w' hS => (rl 31 0 [p9, q9, r9, s9] hS.2)) ?_
   simp only [p3, p4]
   refine flo_eff rfl rfl (fun w173 g173 _ K173 k173 => ?_)
   replace hB := hB.trans g173
   have kq175 := g77.kp.trans (g80.kp.trans (g83.kp.trans (g88.kp.trans (gd172.kp.trans g173.kp))))
   replace h8 := h8.kp kq175
   have kq176 := g88.kp.trans (gd172.kp.trans g173.kp)
   replace h9 := h9.kp kq176
   refine ec 82 (min_r h8 h9 (by omega)) ?_
   rintro e174 w174 ⟨⟨p174, q174, r174, s174, rfl, h174⟩, g174⟩
   refine ⟨_, rfl, ?_⟩
   replace hB := hB.trans g174
   rw [← elo] at h174
   replace L11 := L11.gr (g173.trans g174)
   replace L12 := L12.gr (g173.trans g174)
   refine k173 _ _ g174 ⟨L11, L12⟩ ?_
   try clear k173 K173
   simp only [p3, p4]
   refine flo_eff rfl rfl (fun w177 g177 _ K177 k177 => ?_)
   replace hB := hB.trans g177
   have kq179 := g174.kp.trans g177.kp
   replace h8 := h8.kp kq179
   replace h9 := h9.kp kq179
   refine ec 85 (max_r h8 h9 (by omega)) ?_
   rintro e178 w178 ⟨⟨p178, q178, r178, s178, rfl, h178⟩, g178⟩
   refine ⟨_, rfl, ?_⟩
   replace hB := hB.trans g178
   rw [← ehi] at h178
   replace L11 := L11.gr (g177.trans g178)
   replace L12 := L12.gr (g177.trans g178)
   refine k177 _ _ g178 ⟨L11, L12⟩ ?_
   try clear k177 K177
   simp only [p3, p4]
   refine flo_nil (fun w180 g180 _ => ?_)
   replace hB := hB.trans g180
   refine floFin2 (fun b181 b182 (L181 : Lc w180 b181 #[(.bool false), (.slice none 0 0), (.bool false), (.slice none 0 0)] 31) q181 (L182 : Lc w180 b182 #[(.bool false), (.slice none 0 0), (.bool false), (.slice none 0 0)] 31) q182 ne181_182 => ?_)
   have ne11_181 : b11 ≠ b181 := Nat.ne_of_lt (Nat.lt_of_lt_of_le lt11_172 q181)
   have ne12_181 : b12 ≠ b181 := Nat.ne_of_lt (Nat.lt_of_lt_of_le lt12_172 q181)
   replace q181 := Nat.le_trans hz172 q181
   have ne11_182 : b11 ≠ b182 := Nat.ne_of_lt (Nat.lt_of_lt_of_le lt11_172 q182)
   have ne12_182 : b12 ≠ b182 := Nat.ne_of_lt (Nat.lt_of_lt_of_le lt12_172 q182)
   replace q182 := Nat.le_trans hz172 q182
   simp only [putl, p3, p4]
   refine oe ?_
   refine es 31 0 (.agg #[p174, q174, r174, s174]) [p174, q174, r174, s174] #[p174, q174, r174, s174] L181 hB q181 ⟨h174.one0, h174.one1, h174.one2, h174.one3, trivial⟩ fun w184 st184 kp184 L181 hB => ?_
   replace L11 := st184.lc (L11.gr g180) ne11_181
   replace L12 := st184.lc (L12.gr g180) ne12_181
   refine ⟨⟨L11, L12⟩, ?_⟩
   refine oe ?_
   replace L182 := st184.lc L182 (Ne.symm ne181_182)
   refine es 31 0 (.agg #[p178, q178, r178, s178]) [p178, q178, r178, s178] #[p178, q178, r178, s178] L182 hB q182 ⟨h178.one0, h178.one1, h178.one2, h178.one3, trivial⟩ fun w186 st186 kp186 L182 hB => ?_
   replace L11 := st186.lc L11 ne11_182
   replace L12 := st186.lc L12 ne12_182
   refine ⟨⟨L11, L12⟩, ?_⟩
   refine ord_nil ?_
   refine k171 _ _ ?_
   try clear k171 K171
   refine wp_seq_k (fun K187 k187 => ?_)
   refine rg [0, 1, 2, 3, 4, 5, 6, 7, 8] ?_
   replace L181 := st186.lc L181 ne181_182
   refine sw 87 (.agg #[p174, q174, r174, s174]) rfl (rl 31 0 [p174, q174, r174, s174] L181) ?_
   simp only [p3, p4]
   refine sw 88 (.agg #[p178, q178, r178, s178]) rfl (rl 31 0 [p178, q178, r178, s178] L182) ?_
   simp only [p3, p4]
   refine se ?_
   have kq189 := g177.kp.trans (g178.kp.trans (g180.kp.trans (kp184.trans kp186)))
   replace h174 := h174.kp kq189
   have kq190 := g180.kp.trans (kp184.trans kp186)
   replace h178 := h178.kp kq190
   refine ec 89 (simplest_r h174 h178 (by omega) hlh) ?_
   rintro e188 w188 ⟨⟨sx, p188, q188, r188, s188, rfl, h188, hs⟩, g188⟩
   refine ⟨_, rfl, ?_⟩
   replace hB := hB.trans g188
   simp only [p3, p4]
   refine sv 86 (.tuple #[(.agg #[p188, q188, r188, s188]), (.int .i64 0)]) ?_
   simp only [p3, p4]
   refine sv 90 (.agg #[p188, q188, r188, s188]) ?_
   simp only [p3, p4]
   refine sv 91 (.int .i64 0) ?_
   simp only [p3, p4]
   refine se ?_
   refine ea 31 #[(.bool false), (.slice none 0 0), (.bool false), (.slice none 0 0)] 13 hB fun b191 w191 g191 L191 o191 q191 hB => ?_
   replace L181 := L181.gr g188
   have ne181_191 := L181.ne o191
   replace L182 := L182.gr g188
   have ne182_191 := L182.ne o191
   simp only [p3, p4]
   refine se ?_
   refine es 31 0 (.agg #[p188, q188, r188, s188]) [p188, q188, r188, s188] #[p188, q188, r188, s188] L191 hB q191 ⟨h188.one0, h188.one1, h188.one2, h188.one3, trivial⟩ fun w192 st192 kp192 L191 hB => ?_
   refine sv 14 (.int .i64 0) ?_
   simp only [p3, p4]
   refine sq_nil ?_
   refine k187 _ _ ?_
   try clear k187 K187
   refine wp_seq_k (fun K193 k193 => ?_)
   have gd221 := Gr.drew w192
   replace hB := hB.trans gd221
   replace L181 := (st192.lc (L181.gr g191) ne181_191).gr gd221
   replace L182 := (st192.lc (L182.gr g191) ne182_191).gr gd221
   replace L191 := L191.gr gd221
   refine wp_region_ord (fun w' => Lc w' b181 #[p174, q174, r174, s174] 31 ∧ Lc w' b182 #[p178, q178, r178, s178] 31 ∧ Lc w' b191 #[p188, q188, r188, s188] 31) [(true, 0), (true, 1), (true, 2), (true, 3), (true, 4), (false, 5), (true, 6), (true, 7), (true, 8), (true, 9), (true, 10), (false, 11), (true, 12), (true, 13), (true, 14), (true, 15), (true, 17), (false, 16), (false, 18), (false, 19), (true, 20), (true, 21), (true, 22), (true, 23), (true, 25), (false, 24), (false, 26), (false, 27), (true, 28), (true, 29), (true, 30)] (by kernel_rfl) (by kernel_rfl) (by kernel_rfl) (by decide) (fun _ _ _ _ _ h => h) ⟨L181, L182, L191⟩ ?_
   refine ov 92 (.int .i64 0) ?_
   simp only [p3, p4]
   refine ov 93 (.bool true) ?_
   simp only [p3, p4]
   refine ov 94 (.bool true) ?_
   simp only [p3, p4]
   refine ow 95 (.agg #[p174, q174, r174, s174]) rfl (fun w' hS => (rl 31 0 [p174, q174, r174, s174] hS.1)) ?_
   simp only [p3, p4]
   refine ow 96 (.agg #[p188, q188, r188, s188]) rfl (fun w' hS => (rl 31 0 [p188, q188, r188, s188] hS.2.2)) ?_
   simp only [p3, p4]
   refine oe ?_
   have kq224 := g188.kp.trans (g191.kp.trans (kp192.trans gd221.kp))
   replace h174 := h174.kp kq224
   have kq225 := g191.kp.trans (kp192.trans gd221.kp)
   replace h188 := h188.kp kq225
   refine ec 97 (compare_r h174 h188 (by omega)) ?_
   rintro e223 w223 ⟨rfl, g223⟩
   refine ⟨_, rfl, ?_⟩
   replace hB := hB.trans g223
   replace L181 := L181.gr g223
   replace L182 := L182.gr g223
   replace L191 := L191.gr g223
   refine ⟨⟨L181, L182, L191⟩, ?_⟩
   simp only [p3, p4]
   have hb226 : (decide (rcmp (lo) (sx) ≤ (0 : Int))) = true := (by rw [decide_eq_true_eq, rcmp_le]; exact (hs.le hlh).1)
   refine ow 98 (.bool true) rfl (fun w' hS => (RunV.bool (x := decide (rcmp (lo) (sx) ≤ (0 : Int))) (rvk (by kernel_rfl)) hb226)) ?_
   simp only [p3, p4]
   refine ov 99 (.bool true) ?_
   simp only [p3, p4]
   refine ov 100 (.bool true) ?_
   simp only [p3, p4]
   refine ow 101 (.agg #[p188, q188, r188, s188]) rfl (fun w' hS => (rl 31 0 [p188, q188, r188, s188] hS.2.2)) ?_
   simp only [p3, p4]
   refine ow 102 (.agg #[p178, q178, r178, s178]) rfl (fun w' hS => (rl 31 0 [p178, q178, r178, s178] hS.2.1)) ?_
   simp only [p3, p4]
   refine oe ?_
   replace h188 := h188.kp g223.kp
   have kq229 := g188.kp.trans (g191.kp.trans (kp192.trans (gd221.kp.trans g223.kp)))
   replace h178 := h178.kp kq229
   refine ec 103 (compare_r h188 h178 (by omega)) ?_
   rintro e228 w228 ⟨rfl, g228⟩
   refine ⟨_, rfl, ?_⟩
   replace hB := hB.trans g228
   replace L181 := L181.gr g228
   replace L182 := L182.gr g228
   replace L191 := L191.gr g228
   refine ⟨⟨L181, L182, L191⟩, ?_⟩
   simp only [p3, p4]
   have hb230 : (decide (rcmp (sx) (hi) ≤ (0 : Int))) = true := (by rw [decide_eq_true_eq, rcmp_le]; exact (hs.le hlh).2.1)
   refine ow 104 (.bool true) rfl (fun w' hS => (RunV.bool (x := decide (rcmp (sx) (hi) ≤ (0 : Int))) (rvk (by kernel_rfl)) hb230)) ?_
   simp only [p3, p4]
   refine ov 105 (.bool true) ?_
   simp only [p3, p4]
   refine ov 106 (.bool true) ?_
   simp only [p3, p4]
   refine ow 107 (.agg #[p188, q188, r188, s188]) rfl (fun w' hS => (rl 31 0 [p188, q188, r188, s188] hS.2.2)) ?_
   simp only [p3, p4]
   refine ow 109 (.agg #[p174, q174, r174, s174]) rfl (fun w' hS => (rl 31 0 [p174, q174, r174, s174] hS.1)) ?_
   simp only [p3, p4]
   refine oe ?_
   replace h188 := h188.kp g228.kp
   refine ec 108 (den_i h188) ?_
   rintro e232 w232 ⟨⟨x232, y232, rfl, h232⟩, g232⟩
   refine ⟨_, rfl, ?_⟩
   replace hB := hB.trans g232
   replace L181 := L181.gr g232
   replace L182 := L182.gr g232
   replace L191 := L191.gr g232
   refine ⟨⟨L181, L182, L191⟩, ?_⟩
   simp only [p3, p4]
   refine oe ?_
   have kq235 := g223.kp.trans (g228.kp.trans g232.kp)
   replace h174 := h174.kp kq235
   refine ec 110 (den_i h174) ?_
   rintro e234 w234 ⟨⟨x234, y234, rfl, h234⟩, g234⟩
   refine ⟨_, rfl, ?_⟩
   replace hB := hB.trans g234
   replace L181 := L181.gr g234
   replace L182 := L182.gr g234
   replace L191 := L191.gr g234
   refine ⟨⟨L181, L182, L191⟩, ?_⟩
   simp only [p3, p4]
   refine oe ?_
   replace h232 := h232.kp g234.kp
   refine ec 111 (compare_i h232 h234 (by omega) (by omega)) ?_
   rintro e237 w237 ⟨rfl, g237⟩
   refine ⟨_, rfl, ?_⟩
   replace hB := hB.trans g237
   replace L181 := L181.gr g237
   replace L182 := L182.gr g237
   replace L191 := L191.gr g237
   refine ⟨⟨L181, L182, L191⟩, ?_⟩
   simp only [p3, p4]
   have hb238 : (decide (sgn ((sx.den : Int) - (lo.den : Int)) ≤ (0 : Int))) = true := (sgn_sub_le (hs.le hlh).2.2.1)
   refine ow 112 (.bool true) rfl (fun w' hS => (RunV.bool (x := decide (sgn ((sx.den : Int) - (lo.den : Int)) ≤ (0 : Int))) (rvk (by kernel_rfl)) hb238)) ?_
   simp only [p3, p4]
   refine ov 113 (.bool true) ?_
   simp only [p3, p4]
   refine ov 114 (.bool true) ?_
   simp only [p3, p4]
   refine ow 115 (.agg #[p188, q188, r188, s188]) rfl (fun w' hS => (rl 31 0 [p188, q188, r188, s188] hS.2.2)) ?_
   simp only [p3, p4]
   refine ow 117 (.agg #[p178, q178, r178, s178]) rfl (fun w' hS => (rl 31 0 [p178, q178, r178, s178] hS.2.1)) ?_
   simp only [p3, p4]
   refine oe ?_
   have kq241 := g232.kp.trans (g234.kp.trans g237.kp)
   replace h188 := h188.kp kq241
   refine ec 116 (den_i h188) ?_
   rintro e240 w240 ⟨⟨x240, y240, rfl, h240⟩, g240⟩
   refine ⟨_, rfl, ?_⟩
   replace hB := hB.trans g240
   replace L181 := L181.gr g240
   replace L182 := L182.gr g240
   replace L191 := L191.gr g240
   refine ⟨⟨L181, L182, L191⟩, ?_⟩
   simp only [p3, p4]
   refine oe ?_
   have kq244 := g228.kp.trans (g232.kp.trans (g234.kp.trans (g237.kp.trans g240.kp)))
   replace h178 := h178.kp kq244
   refine ec 118 (den_i h178) ?_
   rintro e243 w243 ⟨⟨x243, y243, rfl, h243⟩, g243⟩
   refine ⟨_, rfl, ?_⟩
   replace hB := hB.trans g243
   replace L181 := L181.gr g243
   replace L182 := L182.gr g243
   replace L191 := L191.gr g243
   refine ⟨⟨L181, L182, L191⟩, ?_⟩
   simp only [p3, p4]
   refine oe ?_
   replace h240 := h240.kp g243.kp
   refine ec 119 (compare_i h240 h243 (by omega) (by omega)) ?_
   rintro e246 w246 ⟨rfl, g246⟩
   refine ⟨_, rfl, ?_⟩
   replace hB := hB.trans g246
   replace L181 := L181.gr g246
   replace L182 := L182.gr g246
   replace L191 := L191.gr g246
   refine ⟨⟨L181, L182, L191⟩, ?_⟩
   simp only [p3, p4]
   have hb247 : (decide (sgn ((sx.den : Int) - (hi.den : Int)) ≤ (0 : Int))) = true := (sgn_sub_le (hs.le hlh).2.2.2)
   refine ow 120 (.bool true) rfl (fun w' hS => (RunV.bool (x := decide (sgn ((sx.den : Int) - (hi.den : Int)) ≤ (0 : Int))) (rvk (by kernel_rfl)) hb247)) ?_
   simp only [p3, p4]
   refine ov 121 (.bool true) ?_
   simp only [p3, p4]
   refine ov 6 (.bool true) ?_
   simp only [p3, p4]
   refine ord_nil ?_
   refine k193 _ _ ?_
   try clear k193 K193
   refine wp_ret ?_
   refine bodyPost_ret (v := (.bool true)) (ret_tmp rfl rfl) rfl ⟨?_, hB⟩
   exact rfl
 ·refine sw 68 (.bool false) rfl (RunV.bool (x := decide (rcmp (a) (b) ≤ (0 : Int))) (rvk (by kernel_rfl)) hb87) ?_
  simp only [p3, p4]
  refine ss 69 ?_
  simp only [p3, p4]
  refine ss 70 ?_
  simp only [p3, p4]
  refine ss 71 ?_
  simp only [p3, p4]
  refine ss 72 ?_
  simp only [p3, p4]
  refine sv 73 (.bool false) ?_
  simp only [p3, p4]
  refine sv 74 (.bool false) ?_
  simp only [p3, p4]
  refine ss 75 ?_
  simp only [p3, p4]
  refine ss 76 ?_
  simp only [p3, p4]
  refine ss 77 ?_
  simp only [p3, p4]
  refine ss 78 ?_
  simp only [p3, p4]
  refine sv 79 (.bool false) ?_
  simp only [p3, p4]
  refine sq_nil ?_
  refine k86 _ _ ?_
  try clear k86 K86
  refine wp_cond_false rfl ?_
  refine wp_skip ?_
  refine k85 _ _ ?_
  try clear k85 K85
  refine wp_seq_k (fun K248 k248 => ?_)
  have hz249 := Below.size hB
  have lt11_249 := L11.lt
  have lt12_249 := L12.lt
  have gd249 := Gr.drew w83
  replace hB := hB.trans gd249
  replace L11 := L11.gr gd249
  replace L12 := L12.gr gd249
  refine wp_region_flo (fun w' => Lc w' b11 #[p8, q8, r8, s8] 31 ∧ Lc w' b12 #[p9, q9, r9, s9] 31) [(true, 0), (true, 1), (true, 3), (true, 4), (false, 2), (false, 5)] [⟨6, 11, 31, #[(.bool false), (.slice none 0 0), (.bool false), (.slice none 0 0)]⟩, ⟨7, 12, 31, #[(.bool false), (.slice none 0 0), (.bool false), (.slice none 0 0)]⟩] [(false, 8), (false, 9)] (by kernel_rfl) (by kernel_rfl) (by kernel_rfl) (by kernel_rfl) (by kernel_rfl) (by decide) (fun _ _ _ _ _ h => h) (fun _ _ _ _ _ h => h) (fun w' o h => ⟨Lc.gr h.1 (Gr.alloc w' o), Lc.gr h.2 (Gr.alloc w' o)⟩) ⟨L11, L12⟩ (by intro f hf; simp only [List.mem_cons, List.not_mem_nil, or_false] at hf; rcases hf with rfl | rfl <;> first | exact alloc_zero (z := (.agg #[(.bool false), (.slice none 0 0), (.bool false), (.slice none 0 0)])) (by kernel_rfl) rfl | exact alloc_zero (z := (.agg #[(.bool false), (.slice none 0 0), (.bool false), (.slice none 0 0)])) (by kernel_rfl) rfl) ?_
  refine fw 80 (.agg #[p8, q8, r8, s8]) rfl (fun w' hS => (rl 31 0 [p8, q8, r8, s8] hS.1)) ?_
  simp only [p3, p4]
  refine fw 81 (.agg #[p9, q9, r9, s9]) rfl (fun w' hS => (rl 31 0 [p9, q9, r9, s9] hS.2)) ?_
  simp only [p3, p4]
  refine fw 83 (.agg #[p8, q8, r8, s8]) rfl (fun w' hS => (rl 31 0 [p8, q8, r8, s8] hS.1)) ?_
  simp only [p3, p4]
  refine fw 84 (.agg #[p9, q9, r9, s9]) rfl (fun w' hS => (rl 31 0 [p9, q9, r9, s9] hS.2)) ?_
  simp only [p3, p4]
  refine flo_eff rfl rfl (fun w250 g250 _ K250 k250 => ?_)
  replace hB := hB.trans g250
  have kq252 := g77.kp.trans (g80.kp.trans (g83.kp.trans (gd249.kp.trans g250.kp)))
  replace h8 := h8.kp kq252
  have kq253 := g80.kp.trans (g83.kp.trans (gd249.kp.trans g250.kp))
  replace h9 := h9.kp kq253
  refine ec 82 (min_r h8 h9 (by omega)) ?_
  rintro e251 w251 ⟨⟨p251, q251, r251, s251, rfl, h251⟩, g251⟩
  refine ⟨_, rfl, ?_⟩
  replace hB := hB.trans g251
  rw [← elo] at h251
  replace L11 := L11.gr (g250.trans g251)
  replace L12 := L12.gr (g250.trans g251)
  refine k250 _ _ g251 ⟨L11, L12⟩ ?_
  try clear k250 K250
  simp only [p3, p4]
  refine flo_eff rfl rfl (fun w254 g254 _ K254 k254 => ?_)
  replace hB := hB.trans g254
  have kq256 := g251.kp.trans g254.kp
  replace h8 := h8.kp kq256
  replace h9 := h9.kp kq256
  refine ec 85 (max_r h8 h9 (by omega)) ?_
  rintro e255 w255 ⟨⟨p255, q255, r255, s255, rfl, h255⟩, g255⟩
  refine ⟨_, rfl, ?_⟩
  replace hB := hB.trans g255
  rw [← ehi] at h255
  replace L11 := L11.gr (g254.trans g255)
  replace L12 := L12.gr (g254.trans g255)
  refine k254 _ _ g255 ⟨L11, L12⟩ ?_
  try clear k254 K254
  simp only [p3, p4]
  refine flo_nil (fun w257 g257 _ => ?_)
  replace hB := hB.trans g257
  refine floFin2 (fun b258 b259 (L258 : Lc w257 b258 #[(.bool false), (.slice none 0 0), (.bool false), (.slice none 0 0)] 31) q258 (L259 : Lc w257 b259 #[(.bool false), (.slice none 0 0), (.bool false), (.slice none 0 0)] 31) q259 ne258_259 => ?_)
  have ne11_258 : b11 ≠ b258 := Nat.ne_of_lt (Nat.lt_of_lt_of_le lt11_249 q258)
  have ne12_258 : b12 ≠ b258 := Nat.ne_of_lt (Nat.lt_of_lt_of_le lt12_249 q258)
  replace q258 := Nat.le_trans hz249 q258
  have ne11_259 : b11 ≠ b259 := Nat.ne_of_lt (Nat.lt_of_lt_of_le lt11_249 q259)
  have ne12_259 : b12 ≠ b259 := Nat.ne_of_lt (Nat.lt_of_lt_of_le lt12_249 q259)
  replace q259 := Nat.le_trans hz249 q259
  simp only [putl, p3, p4]
  refine oe ?_
  refine es 31 0 (.agg #[p251, q251, r251, s251]) [p251, q251, r251, s251] #[p251, q251, r251, s251] L258 hB q258 ⟨h251.one0, h251.one1, h251.one2, h251.one3, trivial⟩ fun w261 st261 kp261 L258 hB => ?_
  replace L11 := st261.lc (L11.gr g257) ne11_258
  replace L12 := st261.lc (L12.gr g257) ne12_258
  refine ⟨⟨L11, L12⟩, ?_⟩
  refine oe ?_
  replace L259 := st261.lc L259 (Ne.symm ne258_259)
  refine es 31 0 (.agg #[p255, q255, r255, s255]) [p255, q255, r255, s255] #[p255, q255, r255, s255] L259 hB q259 ⟨h255.one0, h255.one1, h255.one2, h255.one3, trivial⟩ fun w263 st263 kp263 L259 hB => ?_
  replace L11 := st263.lc L11 ne11_259
  replace L12 := st263.lc L12 ne12_259
  refine ⟨⟨L11, L12⟩, ?_⟩
  refine ord_nil ?_
  refine k248 _ _ ?_
  try clear k248 K248
  refine wp_seq_k (fun K264 k264 => ?_)
  refine rg [0, 1, 2, 3, 4, 5, 6, 7, 8] ?_
  replace L258 := st263.lc L258 ne258_259
  refine sw 87 (.agg #[p251, q251, r251, s251]) rfl (rl 31 0 [p251, q251, r251, s251] L258) ?_
  simp only [p3, p4]
  refine sw 88 (.agg #[p255, q255, r255, s255]) rfl (rl 31 0 [p255, q255, r255, s255] L259) ?_
  simp only [p3, p4]
  refine se ?_
  have kq266 := g254.kp.trans (g255.kp.trans (g257.kp.trans (kp261.trans kp263)))
  replace h251 := h251.kp kq266
  have kq267 := g257.kp.trans (kp261.trans kp263)
  replace h255 := h255.kp kq267
  refine ec 89 (simplest_r h251 h255 (by omega) hlh) ?_
  rintro e265 w265 ⟨⟨sx, p265, q265, r265, s265, rfl, h265, hs⟩, g265⟩
  refine ⟨_, rfl, ?_⟩
  replace hB := hB.trans g265
  simp only [p3, p4]
  refine sv 86 (.tuple #[(.agg #[p265, q265, r265, s265]), (.int .i64 0)]) ?_
  simp only [p3, p4]
  refine sv 90 (.agg #[p265, q265, r265, s265]) ?_
  simp only [p3, p4]
  refine sv 91 (.int .i64 0) ?_
  simp only [p3, p4]
  refine se ?_
  refine ea 31 #[(.bool false), (.slice none 0 0), (.bool false), (.slice none 0 0)] 13 hB fun b268 w268 g268 L268 o268 q268 hB => ?_
  replace L258 := L258.gr g265
  have ne258_268 := L258.ne o268
  replace L259 := L259.gr g265
  have ne259_268 := L259.ne o268
  simp only [p3, p4]
  refine se ?_
  refine es 31 0 (.agg #[p265, q265, r265, s265]) [p265, q265, r265, s265] #[p265, q265, r265, s265] L268 hB q268 ⟨h265.one0, h265.one1, h265.one2, h265.one3, trivial⟩ fun w269 st269 kp269 L268 hB => ?_
  refine sv 14 (.int .i64 0) ?_
  simp only [p3, p4]
  refine sq_nil ?_
  refine k264 _ _ ?_
  try clear k264 K264
  refine wp_seq_k (fun K270 k270 => ?_)
  have gd298 := Gr.drew w269
  replace hB := hB.trans gd298
  replace L258 := (st269.lc (L258.gr g268) ne258_268).gr gd298
  replace L259 := (st269.lc (L259.gr g268) ne259_268).gr gd298
  replace L268 := L268.gr gd298
  refine wp_region_ord (fun w' => Lc w' b258 #[p251, q251, r251, s251] 31 ∧ Lc w' b259 #[p255, q255, r255, s255] 31 ∧ Lc w' b268 #[p265, q265, r265, s265] 31) [(true, 0), (true, 1), (true, 2), (true, 3), (true, 4), (false, 5), (true, 6), (true, 7), (true, 8), (true, 9), (true, 10), (false, 11), (true, 12), (true, 13), (true, 14), (true, 15), (true, 17), (false, 16), (false, 18), (false, 19), (true, 20), (true, 21), (true, 22), (true, 23), (true, 25), (false, 24), (false, 26), (false, 27), (true, 28), (true, 29), (true, 30)] (by kernel_rfl) (by kernel_rfl) (by kernel_rfl) (by decide) (fun _ _ _ _ _ h => h) ⟨L258, L259, L268⟩ ?_
  refine ov 92 (.int .i64 0) ?_
  simp only [p3, p4]
  refine ov 93 (.bool true) ?_
  simp only [p3, p4]
  refine ov 94 (.bool true) ?_
  simp only [p3, p4]
  refine ow 95 (.agg #[p251, q251, r251, s251]) rfl (fun w' hS => (rl 31 0 [p251, q251, r251, s251] hS.1)) ?_
  simp only [p3, p4]
  refine ow 96 (.agg #[p265, q265, r265, s265]) rfl (fun w' hS => (rl 31 0 [p265, q265, r265, s265] hS.2.2)) ?_
  simp only [p3, p4]
  refine oe ?_
  have kq301 := g265.kp.trans (g268.kp.trans (kp269.trans gd298.kp))
  replace h251 := h251.kp kq301
  have kq302 := g268.kp.trans (kp269.trans gd298.kp)
  replace h265 := h265.kp kq302
  refine ec 97 (compare_r h251 h265 (by omega)) ?_
  rintro e300 w300 ⟨rfl, g300⟩
  refine ⟨_, rfl, ?_⟩
  replace hB := hB.trans g300
  replace L258 := L258.gr g300
  replace L259 := L259.gr g300
  replace L268 := L268.gr g300
  refine ⟨⟨L258, L259, L268⟩, ?_⟩
  simp only [p3, p4]
  have hb303 : (decide (rcmp (lo) (sx) ≤ (0 : Int))) = true := (by rw [decide_eq_true_eq, rcmp_le]; exact (hs.le hlh).1)
  refine ow 98 (.bool true) rfl (fun w' hS => (RunV.bool (x := decide (rcmp (lo) (sx) ≤ (0 : Int))) (rvk (by kernel_rfl)) hb303)) ?_
  simp only [p3, p4]
  refine ov 99 (.bool true) ?_
  simp only [p3, p4]
  refine ov 100 (.bool true) ?_
  simp only [p3, p4]
  refine ow 101 (.agg #[p265, q265, r265, s265]) rfl (fun w' hS => (rl 31 0 [p265, q265, r265, s265] hS.2.2)) ?_
  simp only [p3, p4]
  refine ow 102 (.agg #[p255, q255, r255, s255]) rfl (fun w' hS => (rl 31 0 [p255, q255, r255, s255] hS.2.1)) ?_
  simp only [p3, p4]
  refine oe ?_
  replace h265 := h265.kp g300.kp
  have kq306 := g265.kp.trans (g268.kp.trans (kp269.trans (gd298.kp.trans g300.kp)))
  replace h255 := h255.kp kq306
  refine ec 103 (compare_r h265 h255 (by omega)) ?_
  rintro e305 w305 ⟨rfl, g305⟩
  refine ⟨_, rfl, ?_⟩
  replace hB := hB.trans g305
  replace L258 := L258.gr g305
  replace L259 := L259.gr g305
  replace L268 := L268.gr g305
  refine ⟨⟨L258, L259, L268⟩, ?_⟩
  simp only [p3, p4]
  have hb307 : (decide (rcmp (sx) (hi) ≤ (0 : Int))) = true := (by rw [decide_eq_true_eq, rcmp_le]; exact (hs.le hlh).2.1)
  refine ow 104 (.bool true) rfl (fun w' hS => (RunV.bool (x := decide (rcmp (sx) (hi) ≤ (0 : Int))) (rvk (by kernel_rfl)) hb307)) ?_
  simp only [p3, p4]
  refine ov 105 (.bool true) ?_
  simp only [p3, p4]
  refine ov 106 (.bool true) ?_
  simp only [p3, p4]
  refine ow 107 (.agg #[p265, q265, r265, s265]) rfl (fun w' hS => (rl 31 0 [p265, q265, r265, s265] hS.2.2)) ?_
  simp only [p3, p4]
  refine ow 109 (.agg #[p251, q251, r251, s251]) rfl (fun w' hS => (rl 31 0 [p251, q251, r251, s251] hS.1)) ?_
  simp only [p3, p4]
  refine oe ?_
  replace h265 := h265.kp g305.kp
  refine ec 108 (den_i h265) ?_
  rintro e309 w309 ⟨⟨x309, y309, rfl, h309⟩, g309⟩
  refine ⟨_, rfl, ?_⟩
  replace hB := hB.trans g309
  replace L258 := L258.gr g309
  replace L259 := L259.gr g309
  replace L268 := L268.gr g309
  refine ⟨⟨L258, L259, L268⟩, ?_⟩
  simp only [p3, p4]
  refine oe ?_
  have kq312 := g300.kp.trans (g305.kp.trans g309.kp)
  replace h251 := h251.kp kq312
  refine ec 110 (den_i h251) ?_
  rintro e311 w311 ⟨⟨x311, y311, rfl, h311⟩, g311⟩
  refine ⟨_, rfl, ?_⟩
  replace hB := hB.trans g311
  replace L258 := L258.gr g311
  replace L259 := L259.gr g311
  replace L268 := L268.gr g311
  refine ⟨⟨L258, L259, L268⟩, ?_⟩
  simp only [p3, p4]
  refine oe ?_
  replace h309 := h309.kp g311.kp
  refine ec 111 (compare_i h309 h311 (by omega) (by omega)) ?_
  rintro e314 w314 ⟨rfl, g314⟩
  refine ⟨_, rfl, ?_⟩
  replace hB := hB.trans g314
  replace L258 := L258.gr g314
  replace L259 := L259.gr g314
  replace L268 := L268.gr g314
  refine ⟨⟨L258, L259, L268⟩, ?_⟩
  simp only [p3, p4]
  have hb315 : (decide (sgn ((sx.den : Int) - (lo.den : Int)) ≤ (0 : Int))) = true := (sgn_sub_le (hs.le hlh).2.2.1)
  refine ow 112 (.bool true) rfl (fun w' hS => (RunV.bool (x := decide (sgn ((sx.den : Int) - (lo.den : Int)) ≤ (0 : Int))) (rvk (by kernel_rfl)) hb315)) ?_
  simp only [p3, p4]
  refine ov 113 (.bool true) ?_
  simp only [p3, p4]
  refine ov 114 (.bool true) ?_
  simp only [p3, p4]
  refine ow 115 (.agg #[p265, q265, r265, s265]) rfl (fun w' hS => (rl 31 0 [p265, q265, r265, s265] hS.2.2)) ?_
  simp only [p3, p4]
  refine ow 117 (.agg #[p255, q255, r255, s255]) rfl (fun w' hS => (rl 31 0 [p255, q255, r255, s255] hS.2.1)) ?_
  simp only [p3, p4]
  refine oe ?_
  have kq318 := g309.kp.trans (g311.kp.trans g314.kp)
  replace h265 := h265.kp kq318
  refine ec 116 (den_i h265) ?_
  rintro e317 w317 ⟨⟨x317, y317, rfl, h317⟩, g317⟩
  refine ⟨_, rfl, ?_⟩
  replace hB := hB.trans g317
  replace L258 := L258.gr g317
  replace L259 := L259.gr g317
  replace L268 := L268.gr g317
  refine ⟨⟨L258, L259, L268⟩, ?_⟩
  simp only [p3, p4]
  refine oe ?_
  have kq321 := g305.kp.trans (g309.kp.trans (g311.kp.trans (g314.kp.trans g317.kp)))
  replace h255 := h255.kp kq321
  refine ec 118 (den_i h255) ?_
  rintro e320 w320 ⟨⟨x320, y320, rfl, h320⟩, g320⟩
  refine ⟨_, rfl, ?_⟩
  replace hB := hB.trans g320
  replace L258 := L258.gr g320
  replace L259 := L259.gr g320
  replace L268 := L268.gr g320
  refine ⟨⟨L258, L259, L268⟩, ?_⟩
  simp only [p3, p4]
  refine oe ?_
  replace h317 := h317.kp g320.kp
  refine ec 119 (compare_i h317 h320 (by omega) (by omega)) ?_
  rintro e323 w323 ⟨rfl, g323⟩
  refine ⟨_, rfl, ?_⟩
  replace hB := hB.trans g323
  replace L258 := L258.gr g323
  replace L259 := L259.gr g323
  replace L268 := L268.gr g323
  refine ⟨⟨L258, L259, L268⟩, ?_⟩
  simp only [p3, p4]
  have hb324 : (decide (sgn ((sx.den : Int) - (hi.den : Int)) ≤ (0 : Int))) = true := (sgn_sub_le (hs.le hlh).2.2.2)
  refine ow 120 (.bool true) rfl (fun w' hS => (RunV.bool (x := decide (sgn ((sx.den : Int) - (hi.den : Int)) ≤ (0 : Int))) (rvk (by kernel_rfl)) hb324)) ?_
  simp only [p3, p4]
  refine ov 121 (.bool true) ?_
  simp only [p3, p4]
  refine ov 6 (.bool true) ?_
  simp only [p3, p4]
  refine ord_nil ?_
  refine k270 _ _ ?_
  try clear k270 K270
  refine wp_ret ?_
  refine bodyPost_ret (v := (.bool true)) (ret_tmp rfl rfl) rfl ⟨?_, hB⟩
  exact rfl

set_option maxRecDepth 100000 in
set_option maxHeartbeats 8000000 in
theorem order_n (a : Rat) (ha : Sz 160 a.num ∧ Sz 160 (a.den : Int)) (la : okT (ratL (a)) = true) (b : Rat) (hb : Sz 160 b.num ∧ Sz 160 (b.den : Int)) (lb : okT (ratL (b)) = true) (c : Rat) (hc : Sz 160 c.num ∧ Sz 160 (c.den : Int)) (lc : okT (ratL (c)) = true) (hc0 : ¬ 0 < c) (w : World) (ht : Tab w) (hm : Mx w) :
    Calls Tryz.prog 14 #[(.string ⟨(ratL (a) : List UInt8).toArray⟩), (.string ⟨(ratL (b) : List UInt8).toArray⟩), (.string ⟨(ratL (c) : List UInt8).toArray⟩)] w fun e w' => e = .returned (.bool true) ∧ Gr w w' := by
 have lok : ((okT (ratL (a)) && okT (ratL (b))) && okT (ratL (c))) = true := okT_3 la lb lc
 obtain ⟨lo, elo, klo⟩ := rmin_eq a b
 obtain ⟨hi, ehi, khi⟩ := rmax_eq a b
 have hlh : lo ≤ hi := by grind
 have hz : decide ((0 : Int) < sgn (c).num) = false := by rw [decide_eq_false_iff_not, num_sgn, rcmp_gt]; exact hc0
 go_enter Tryz.func14, Tryz.ntmps14
 have hB := Gr.refl w
 refine wp_seq_k (fun K1 k1 => ?_)
 refine rg [0] ?_
 refine sv 6 (.bool false) ?_
 simp only [p3, p4]
 refine sq_nil ?_
 refine k1 _ _ ?_
 try clear k1 K1
 refine wp_seq_k (fun K2 k2 => ?_)
 refine wp_seq_k (fun K3 k3 => ?_)
 refine rg [0, 1, 2, 3, 4, 5, 6, 7, 8, 9] ?_
 refine se ?_
 refine ec 15 (known2 _ (ht.gr hB)) ?_
 rintro e4 w4 ⟨rfl, g4⟩
 refine ⟨_, rfl, ?_⟩
 replace hB := hB.trans g4
 simp only [p3, p4]
 refine sv 16 (.bool false) ?_
 simp only [p3, p4]
 refine sv 17 (.bool false) ?_
 simp only [p3, p4]
 refine sv 18 (.string ⟨(ratL (a) : List UInt8).toArray⟩) ?_
 simp only [p3, p4]
 refine sv 19 (.string ⟨(ratL (b) : List UInt8).toArray⟩) ?_
 simp only [p3, p4]
 refine sv 20 (.string ⟨(ratL (c) : List UInt8).toArray⟩) ?_
 simp only [p3, p4]
 refine se ?_
 refine eff_bs 9 3 #[(.string ⟨(ratL (a) : List UInt8).toArray⟩), (.string ⟨(ratL (b) : List UInt8).toArray⟩), (.string ⟨(ratL (c) : List UInt8).toArray⟩)] (some 21) rfl (fun _ => by kernel_rfl) (fun b5 w5 g5 L5 q5 => ?_)
 replace hB := hB.trans g5
 simp only [putl, p3, p4]
 refine se ?_
 refine ec 22 (right3 (ratL (a)) (ratL (b)) (ratL (c)) L5) ?_
 rintro e6 w6 ⟨rfl, g6⟩
 refine ⟨_, rfl, ?_⟩
 replace hB := hB.trans g6
 simp only [p3, p4]
 refine sw 23 (.bool false) rfl (RunV.bool (x := !(((okT (ratL (a)) && okT (ratL (b))) && okT (ratL (c))))) (rvk (by kernel_rfl)) (show (!(((okT (ratL (a)) && okT (ratL (b))) && okT (ratL (c))))) = false by rw [lok]; rfl)) ?_
 simp only [p3, p4]
 refine sv 24 (.bool false) ?_
 simp only [p3, p4]
 refine sq_nil ?_
 refine k3 _ _ ?_
 try clear k3 K3
 refine wp_cond_false rfl ?_
 refine wp_skip ?_
 refine k2 _ _ ?_
 try clear k2 K2
 refine wp_seq_k (fun K7 k7 => ?_)
 refine rg [0, 1, 2, 3, 4, 5, 6, 7, 8, 9, 10, 11] ?_
 refine sv 26 (.string ⟨(ratL (a) : List UInt8).toArray⟩) ?_
 simp only [p3, p4]
 refine se ?_
 refine ec 27 (lread_q a ha la _ (hm.gr hB)) ?_
 rintro e8 w8 ⟨⟨p8, q8, r8, s8, rfl, h8⟩, g8⟩
 refine ⟨_, rfl, ?_⟩
 replace hB := hB.trans g8
 simp only [p3, p4]
 refine sv 28 (.string ⟨(ratL (b) : List UInt8).toArray⟩) ?_
 simp only [p3, p4]
 refine se ?_
 refine ec 29 (lread_q b hb lb _ (hm.gr hB)) ?_
 rintro e9 w9 ⟨⟨p9, q9, r9, s9, rfl, h9⟩, g9⟩
 refine ⟨_, rfl, ?_⟩
 replace hB := hB.trans g9
 simp only [p3, p4]
 refine sv 30 (.string ⟨(ratL (c) : List UInt8).toArray⟩) ?_
 simp only [p3, p4]
 refine se ?_
 refine ec 31 (lread_q c hc lc _ (hm.gr hB)) ?_
 rintro e10 w10 ⟨⟨p10, q10, r10, s10, rfl, h10⟩, g10⟩
 refine ⟨_, rfl, ?_⟩
 replace hB := hB.trans g10
 simp only [p3, p4]
 refine se ?_
 refine ea 31 #[(.bool false), (.slice none 0 0), (.bool false), (.slice none 0 0)] 7 hB fun b11 w11 g11 L11 o11 q11 hB => ?_
 simp only [p3, p4]
 refine se ?_
 refine ea 31 #[(.bool false), (.slice none 0 0), (.bool false), (.slice none 0 0)] 8 hB fun b12 w12 g12 L12 o12 q12 hB => ?_
 have ne11_12 := L11.ne o12
 simp only [p3, p4]
 refine se ?_
 refine ea 31 #[(.bool false), (.slice none 0 0), (.bool false), (.slice none 0 0)] 9 hB fun b13 w13 g13 L13 o13 q13 hB => ?_
 replace L11 := L11.gr g12
 have ne11_13 := L11.ne o13
 have ne12_13 := L12.ne o13
 simp only [p3, p4]
 refine se ?_
 replace L11 := L11.gr g13
 refine es 31 0 (.agg #[p8, q8, r8, s8]) [p8, q8, r8, s8] #[p8, q8, r8, s8] L11 hB q11 ⟨h8.one0, h8.one1, h8.one2, h8.one3, trivial⟩ fun w14 st14 kp14 L11 hB => ?_
 refine se ?_
 replace L12 := st14.lc (L12.gr g13) (Ne.symm ne11_12)
 refine es 31 0 (.agg #[p9, q9, r9, s9]) [p9, q9, r9, s9] #[p9, q9, r9, s9] L12 hB q12 ⟨h9.one0, h9.one1, h9.one2, h9.one3, trivial⟩ fun w15 st15 kp15 L12 hB => ?_
 refine se ?_
 replace L13 := st15.lc (st14.lc L13 (Ne.symm ne11_13)) (Ne.symm ne12_13)
 refine es 31 0 (.agg #[p10, q10, r10, s10]) [p10, q10, r10, s10] #[p10, q10, r10, s10] L13 hB q13 ⟨h10.one0, h10.one1, h10.one2, h10.one3, trivial⟩ fun w16 st16 kp16 L13 hB => ?_
 refine sq_nil ?_
 refine k7 _ _ ?_
 try clear k7 K7
 refine wp_seq_k (fun K17 k17 => ?_)
 refine rg [0, 1, 2, 3] ?_
 replace L11 := st16.lc (st15.lc L11 ne11_12) ne11_13
 refine sw 32 (.agg #[p8, q8, r8, s8]) rfl (rl 31 0 [p8, q8, r8, s8] L11) ?_
 simp only [p3, p4]
 replace L12 := st16.lc L12 ne12_13
 refine sw 33 (.agg #[p9, q9, r9, s9]) rfl (rl 31 0 [p9, q9, r9, s9] L12) ?_
 simp only [p3, p4]
 refine se ?_
 have kq19 := g9.kp.trans (g10.kp.trans (g11.kp.trans (g12.kp.trans (g13.kp.trans (kp14.trans (kp15.trans kp16))))))
 replace h8 := h8.kp kq19
 have kq20 := g10.kp.trans (g11.kp.trans (g12.kp.trans (g13.kp.trans (kp14.trans (kp15.trans kp16)))))
 replace h9 := h9.kp kq20
 refine ec 34 (compare_r h8 h9 (by omega)) ?_
 rintro e18 w18 ⟨rfl, g18⟩
 refine ⟨_, rfl, ?_⟩
 replace hB := hB.trans g18
 simp only [p3, p4]
 refine sv 10 (.int .i64 (rcmp (a) (b))) ?_
 simp only [p3, p4]
 refine sq_nil ?_
 refine k17 _ _ ?_
 try clear k17 K17
 refine wp_seq_k (fun K21 k21 => ?_)
 refine wp_seq_k (fun K22 k22 => ?_)
 have gd40 := Gr.drew w18
 replace hB := hB.trans gd40
 replace L11 := L11.gr (g18.trans gd40)
 replace L12 := L12.gr (g18.trans gd40)
 replace L13 := L13.gr (g18.trans gd40)
 refine wp_region_ord (fun w' => Lc w' b11 #[p8, q8, r8, s8] 31 ∧ Lc w' b12 #[p9, q9, r9, s9] 31 ∧ Lc w' b13 #[p10, q10, r10, s10] 31) [(true, 0), (true, 1), (true, 4), (false, 2), (false, 3), (true, 5), (true, 6), (true, 7), (true, 8), (true, 10), (true, 11), (true, 14), (false, 9), (false, 12), (false, 13), (true, 15), (true, 16)] (by kernel_rfl) (by kernel_rfl) (by kernel_rfl) (by decide) (fun _ _ _ _ _ h => h) ⟨L11, L12, L13⟩ ?_
 refine ow 35 (.agg #[p8, q8, r8, s8]) rfl (fun w' hS => (rl 31 0 [p8, q8, r8, s8] hS.1)) ?_
 simp only [p3, p4]
 refine ow 36 (.agg #[p9, q9, r9, s9]) rfl (fun w' hS => (rl 31 0 [p9, q9, r9, s9] hS.2.1)) ?_
 simp only [p3, p4]
 refine ov 39 (.int .i64 (rcmp (a) (b))) ?_
 simp only [p3, p4]
 refine oe ?_
 have kq43 := g18.kp.trans gd40.kp
 replace h8 := h8.kp kq43
 replace h9 := h9.kp kq43
 refine ec 37 (sub_r h8 h9 (by omega)) ?_
 rintro e42 w42 ⟨⟨p42, q42, r42, s42, rfl, h42⟩, g42⟩
 refine ⟨_, rfl, ?_⟩
 replace hB := hB.trans g42
 replace L11 := L11.gr g42
 replace L12 := L12.gr g42
 replace L13 := L13.gr g42
 refine ⟨⟨L11, L12, L13⟩, ?_⟩
 simp only [p3, p4]
 refine oe ?_
 refine ec 38 (sign_r h42) ?_
 rintro e45 w45 ⟨rfl, g45⟩
 refine ⟨_, rfl, ?_⟩
 replace hB := hB.trans g45
 replace L11 := L11.gr g45
 replace L12 := L12.gr g45
 replace L13 := L13.gr g45
 refine ⟨⟨L11, L12, L13⟩, ?_⟩
 simp only [p3, p4]
 have hb46 : ((sgn ((a - b)).num != rcmp (a) (b))) = false := (by rw [ord_sub a b]; simp)
 refine ow 40 (.bool false) rfl (fun w' hS => (RunV.bool (x := (sgn ((a - b)).num != rcmp (a) (b))) (rvk (by kernel_rfl)) hb46)) ?_
 simp only [p3, p4]
 refine ov 41 (.bool false) ?_
 simp only [p3, p4]
 refine ow 42 (.agg #[p8, q8, r8, s8]) rfl (fun w' hS => (rl 31 0 [p8, q8, r8, s8] hS.1)) ?_
 simp only [p3, p4]
 refine ow 43 (.agg #[p10, q10, r10, s10]) rfl (fun w' hS => (rl 31 0 [p10, q10, r10, s10] hS.2.2)) ?_
 simp only [p3, p4]
 refine ow 45 (.agg #[p9, q9, r9, s9]) rfl (fun w' hS => (rl 31 0 [p9, q9, r9, s9] hS.2.1)) ?_
 simp only [p3, p4]
 refine ow 46 (.agg #[p10, q10, r10, s10]) rfl (fun w' hS => (rl 31 0 [p10, q10, r10, s10] hS.2.2)) ?_
 simp only [p3, p4]
 refine ov 49 (.int .i64 (rcmp (a) (b))) ?_
 simp only [p3, p4]
 refine oe ?_
 have kq49 := g42.kp.trans g45.kp
 replace h8 := h8.kp kq49
 have kq50 := g11.kp.trans (g12.kp.trans (g13.kp.trans (kp14.trans (kp15.trans (kp16.trans (g18.kp.trans (gd40.kp.trans (g42.kp.trans g45.kp))))))))
 replace h10 := h10.kp kq50
 refine ec 44 (add_r h8 h10 (by omega)) ?_
 rintro e48 w48 ⟨⟨p48, q48, r48, s48, rfl, h48⟩, g48⟩
 refine ⟨_, rfl, ?_⟩
 replace hB := hB.trans g48
 replace L11 := L11.gr g48
 replace L12 := L12.gr g48
 replace L13 := L13.gr g48
 refine ⟨⟨L11, L12, L13⟩, ?_⟩
 simp only [p3, p4]
 refine oe ?_
 have kq53 := g42.kp.trans (g45.kp.trans g48.kp)
 replace h9 := h9.kp kq53
 replace h10 := h10.kp g48.kp
 refine ec 47 (add_r h9 h10 (by omega)) ?_
 rintro e52 w52 ⟨⟨p52, q52, r52, s52, rfl, h52⟩, g52⟩
 refine ⟨_, rfl, ?_⟩
 replace hB := hB.trans g52
 replace L11 := L11.gr g52
 replace L12 := L12.gr g52
 replace L13 := L13.gr g52
 refine ⟨⟨L11, L12, L13⟩, ?_⟩
 simp only [p3, p4]
 refine oe ?_
 replace h48 := h48.kp g52.kp
 refine ec 48 (compare_r h48 h52 (by omega)) ?_
 rintro e55 w55 ⟨rfl, g55⟩
 refine ⟨_, rfl, ?_⟩
 replace hB := hB.trans g55
 replace L11 := L11.gr g55
 replace L12 := L12.gr g55
 replace L13 := L13.gr g55
 refine ⟨⟨L11, L12, L13⟩, ?_⟩
 simp only [p3, p4]
 have hb56 : ((rcmp ((a + c)) ((b + c)) != rcmp (a) (b))) = false := (by rw [ord_add a b c]; simp)
 refine ow 50 (.bool false) rfl (fun w' hS => (RunV.bool (x := (rcmp ((a + c)) ((b + c)) != rcmp (a) (b))) (rvk (by kernel_rfl)) hb56)) ?_
 simp only [p3, p4]
 refine ov 51 (.bool false) ?_
 simp only [p3, p4]
 refine ord_nil ?_
 refine k22 _ _ ?_
 try clear k22 K22
 refine wp_cond_false rfl ?_
 refine wp_skip ?_
 refine k21 _ _ ?_
 try clear k21 K21
 refine wp_seq_k (fun K57 k57 => ?_)
 refine wp_seq_k (fun K58 k58 => ?_)
 have gd63 := Gr.drew w55
 replace hB := hB.trans gd63
 replace L11 := L11.gr gd63
 replace L12 := L12.gr gd63
 replace L13 := L13.gr gd63
 refine wp_region_ord (fun w' => Lc w' b11 #[p8, q8, r8, s8] 31 ∧ Lc w' b12 #[p9, q9, r9, s9] 31 ∧ Lc w' b13 #[p10, q10, r10, s10] 31) [(true, 0), (false, 1), (true, 2), (true, 3), (true, 4), (true, 5), (true, 7), (true, 8), (true, 11), (false, 6), (false, 9), (false, 10), (true, 12), (true, 13)] (by kernel_rfl) (by kernel_rfl) (by kernel_rfl) (by decide) (fun _ _ _ _ _ h => h) ⟨L11, L12, L13⟩ ?_
 refine ow 52 (.agg #[p10, q10, r10, s10]) rfl (fun w' hS => (rl 31 0 [p10, q10, r10, s10] hS.2.2)) ?_
 simp only [p3, p4]
 refine oe ?_
 have kq66 := g52.kp.trans (g55.kp.trans gd63.kp)
 replace h10 := h10.kp kq66
 refine ec 53 (sign_r h10) ?_
 rintro e65 w65 ⟨rfl, g65⟩
 refine ⟨_, rfl, ?_⟩
 replace hB := hB.trans g65
 replace L11 := L11.gr g65
 replace L12 := L12.gr g65
 replace L13 := L13.gr g65
 refine ⟨⟨L11, L12, L13⟩, ?_⟩
 simp only [p3, p4]
 refine ow 54 (.bool false) rfl (fun w' hS => (RunV.bool (x := decide ((0 : Int) < sgn (c).num)) (rvk (by kernel_rfl)) hz)) ?_
 simp only [p3, p4]
 refine ov 55 (.bool false) ?_
 simp only [p3, p4]
 refine os 56 ?_
 simp only [p3, p4]
 refine os 57 ?_
 simp only [p3, p4]
 refine os 59 ?_
 simp only [p3, p4]
 refine os 60 ?_
 simp only [p3, p4]
 refine os 63 ?_
 simp only [p3, p4]
 refine oz 58 ⟨L11, L12, L13⟩ ?_
 simp only [p3, p4]
 refine oz 61 ⟨L11, L12, L13⟩ ?_
 simp only [p3, p4]
 refine oz 62 ⟨L11, L12, L13⟩ ?_
 simp only [p3, p4]
 refine os 64 ?_
 simp only [p3, p4]
 refine ov 65 (.bool false) ?_
 simp only [p3, p4]
 refine ord_nil ?_
 refine k58 _ _ ?_
 try clear k58 K58
 refine wp_cond_false rfl ?_
 refine wp_skip ?_
 refine k57 _ _ ?_
 try clear k57 K57
 refine wp_seq_k (fun K67 k67 => ?_)
 refine wp_seq_k (fun K68 k68 => ?_)
 refine rg [0, 1, 2, 3, 4, 5, 6, 7, 8, 9, 10, 11, 12, 13] ?_
 refine sv 66 (.int .i64 (rcmp (a) (b))) ?_
 simp only [p3, p4]
 refine sv 67 (.bool (decide (rcmp (a) (b) ≤ (0 : Int)))) ?_
 simp only [p3, p4]
 rcases Bool.eq_false_or_eq_true (decide (rcmp (a) (b) ≤ (0 : Int))) with hb69 | hb69
 ·refine sw 68 (.bool true) rfl (RunV.bool (x := decide (rcmp (a) (b) ≤ (0 : Int))) (rvk (by kernel_rfl)) hb69) ?_
  simp only [p3, p4]
  refine sw 69 (.agg #[p9, q9, r9, s9]) rfl (rl 31 0 [p9, q9, r9, s9] L12) ?_
  simp only [p3, p4]
  refine sw 70 (.agg #[p10, q10, r10, s10]) rfl (rl 31 0 [p10, q10, r10, s10] L13) ?_
  simp only [p3, p4]
  refine se ?_
  have kq71 := g52.kp.trans (g55.kp.trans (gd63.kp.trans g65.kp))
  replace h9 := h9.kp kq71
  replace h10 := h10.kp g65.kp
  refine ec 71 (compare_r h9 h10 (by omega)) ?_
  rintro e70 w70 ⟨rfl, g70⟩
  refine ⟨_, rfl, ?_⟩
  replace hB := hB.trans g70
  simp only [p3, p4]
  refine sv 72 (.bool (decide (rcmp (b) (c) ≤ (0 : Int)))) ?_
  simp only [p3, p4]
  refine sv 73 (.bool (decide (rcmp (b) (c) ≤ (0 : Int)))) ?_
  simp only [p3, p4]
  rcases Bool.eq_false_or_eq_true (decide (rcmp (b) (c) ≤ (0 : Int))) with hb72 | hb72
  ·refine sw 74 (.bool true) rfl (RunV.bool (x := decide (rcmp (b) (c) ≤ (0 : Int))) (rvk (by kernel_rfl)) hb72) ?_
   simp only [p3, p4]
   replace L11 := L11.gr g70
   refine sw 75 (.agg #[p8, q8, r8, s8]) rfl (rl 31 0 [p8, q8, r8, s8] L11) ?_
   simp only [p3, p4]
   replace L13 := L13.gr g70
   refine sw 76 (.agg #[p10, q10, r10, s10]) rfl (rl 31 0 [p10, q10, r10, s10] L13) ?_
   simp only [p3, p4]
   refine se ?_
   have kq74 := g48.kp.trans (g52.kp.trans (g55.kp.trans (gd63.kp.trans (g65.kp.trans g70.kp))))
   replace h8 := h8.kp kq74
   replace h10 := h10.kp g70.kp
   refine ec 77 (compare_r h8 h10 (by omega)) ?_
   rintro e73 w73 ⟨rfl, g73⟩
   refine ⟨_, rfl, ?_⟩
   replace hB := hB.trans g73
   simp only [p3, p4]
   have hb75 : (decide ((0 : Int) < rcmp (a) (c))) = false := (by rw [decide_eq_false_iff_not, rcmp_gt]; have := rcmp_le.1 (of_decide_eq_true hb69); have := rcmp_le.1 (of_decide_eq_true hb72); grind)
   refine sw 78 (.bool false) rfl (RunV.bool (x := decide ((0 : Int) < rcmp (a) (c))) (rvk (by kernel_rfl)) hb75) ?_
   simp only [p3, p4]
   refine sv 79 (.bool false) ?_
   simp only [p3, p4]
   refine sq_nil ?_
   refine k68 _ _ ?_
   try clear k68 K68
   refine wp_cond_false rfl ?_
   refine wp_skip ?_
   refine k67 _ _ ?_
   try clear k67 K67
   refine wp_seq_k (fun K76 k76 => ?_)
   have hz77 := Below.size hB
   replace L11 := L11.gr g73
   have lt11_77 := L11.lt
   replace L12 := L12.gr (g70.trans g73)
   have lt12_77 := L12.lt
   have gd77 := Gr.drew w73
   replace hB := hB.trans gd77
   replace L11 := L11.gr gd77
   replace L12 := L12.gr gd77
   refine wp_region_flo (fun w' => Lc w' b11 #[p8, q8, r8, s8] 31 ∧ Lc w' b12 #[p9, q9, r9, s9] 31) [(true, 0), (true, 1), (true, 3), (true, 4), (false, 2), (false, 5)] [⟨6, 11, 31, #[(.bool false), (.slice none 0 0), (.bool false), (.slice none 0 0)]⟩, ⟨7, 12, 31, #[(.bool false), (.slice none 0 0), (.bool false), (.slice none 0 0)]⟩] [(false, 8), (false, 9)] (by kernel_rfl) (by kernel_rfl) (by kernel_rfl) (by kernel_rfl) (by kernel_rfl) (by decide) (fun _ _ _ _ _ h => h) (fun _ _ _ _ _ h => h) (fun w' o h => ⟨Lc.gr h.1 (Gr.alloc w' o), Lc.gr h.2 (Gr.alloc w' o)⟩) ⟨L11, L12⟩ (by intro f hf; simp only [List.mem_cons, List.not_mem_nil, or_false] at hf; rcases hf with rfl | rfl <;> first | exact alloc_zero (z := (.agg #[(.bool false), (.slice none 0 0), (.bool false), (.slice none 0 0)])) (by kernel_rfl) rfl | exact alloc_zero (z := (.agg #[(.bool false), (.slice none 0 0), (.bool false), (.slice none 0 0)])) (by kernel_rfl) rfl) ?_
   refine fw 80 (.agg #[p8, q8, r8, s8]) rfl (fun w' hS => (rl 31 0 [p8, q8, r8, s8] hS.1)) ?_
   simp only [p3, p4]
   refine fw 81 (.agg #[p9, q9, r9, s9]) rfl (fun w' hS => (rl 31 0 [p9, q9, r9, s9] hS.2)) ?_
   simp only [p3, p4]
   refine fw 83 (.agg #[p8, q8, r8, s8]) rfl (fun w' hS => (rl 31 0 [p8, q8, r8, s8] hS.1)) ?_
   simp only [p3, p4]
   refine fw 84 (.agg #[p9, q9, r9, s9]) rfl (fun w' hS => (rl 31 0 [p9, q9, r9, s9] hS.2)) ?_
   simp only [p3, p4]
   refine flo_eff rfl rfl (fun w78 g78 _ K78 k78 => ?_)
   replace hB := hB.trans g78
   have kq80 := g73.kp.trans (gd77.kp.trans g78.kp)
   replace h8 := h8.kp kq80
   have kq81 := g70.kp.trans (g73.kp.trans (gd77.kp.trans g78.kp))
   replace h9 := h9.kp kq81
   refine ec 82 (min_r h8 h9 (by omega)) ?_
   rintro e79 w79 ⟨⟨p79, q79, r79, s79, rfl, h79⟩, g79⟩
   refine ⟨_, rfl, ?_⟩
   replace hB := hB.trans g79
   rw [← elo] at h79
   replace L11 := L11.gr (g78.trans g79)
   replace L12 := L12.gr (g78.trans g79)
   refine k78 _ _ g79 ⟨L11, L12⟩ ?_
   try clear k78 K78
   simp only [p3, p4]
   refine flo_eff rfl rfl (fun w82 g82 _ K82 k82 => ?_)
   replace hB := hB.trans g82
   have kq84 := g79.kp.trans g82.kp
   replace h8 := h8.kp kq84
   replace h9 := h9.kp kq84
   refine ec 85 (max_r h8 h9 (by omega)) ?_
   rintro e83 w83 ⟨⟨p83, q83, r83, s83, rfl, h83⟩, g83⟩
   refine ⟨_, rfl, ?_⟩
   replace hB := hB.trans g83
   rw [← ehi] at h83
   replace L11 := L11.gr (g82.trans g83)
   replace L12 := L12.gr (g82.trans g83)
   refine k82 _ _ g83 ⟨L11, L12⟩ ?_
   try clear k82 K82
   simp only [p3, p4]
   refine flo_nil (fun w85 g85 _ => ?_)
   replace hB := hB.trans g85
   refine floFin2 (fun b86 b87 (L86 : Lc w85 b86 #[(.bool false), (.slice none 0 0), (.bool false), (.slice none 0 0)] 31) q86 (L87 : Lc w85 b87 #[(.bool false), (.slice none 0 0), (.bool false), (.slice none 0 0)] 31) q87 ne86_87 => ?_)
   have ne11_86 : b11 ≠ b86 := Nat.ne_of_lt (Nat.lt_of_lt_of_le lt11_77 q86)
   have ne12_86 : b12 ≠ b86 := Nat.ne_of_lt (Nat.lt_of_lt_of_le lt12_77 q86)
   replace q86 := Nat.le_trans hz77 q86
   have ne11_87 : b11 ≠ b87 := Nat.ne_of_lt (Nat.lt_of_lt_of_le lt11_77 q87)
   have ne12_87 : b12 ≠ b87 := Nat.ne_of_lt (Nat.lt_of_lt_of_le lt12_77 q87)
   replace q87 := Nat.le_trans hz77 q87
   simp only [putl, p3, p4]
   refine oe ?_
   refine es 31 0 (.agg #[p79, q79, r79, s79]) [p79, q79, r79, s79] #[p79, q79, r79, s79] L86 hB q86 ⟨h79.one0, h79.one1, h79.one2, h79.one3, trivial⟩ fun w89 st89 kp89 L86 hB => ?_
   replace L11 := st89.lc (L11.gr g85) ne11_86
   replace L12 := st89.lc (L12.gr g85) ne12_86
   refine ⟨⟨L11, L12⟩, ?_⟩
   refine oe ?_
   replace L87 := st89.lc L87 (Ne.symm ne86_87)
   refine es 31 0 (.agg #[p83, q83, r83, s83]) [p83, q83, r83, s83] #[p83, q83, r83, s83] L87 hB q87 ⟨h83.one0, h83.one1, h83.one2, h83.one3, trivial⟩ fun w91 st91 kp91 L87 hB => ?_
   replace L11 := st91.lc L11 ne11_87
   replace L12 := st91.lc L12 ne12_87
   refine ⟨⟨L11, L12⟩, ?_⟩
   refine ord_nil ?_
   refine k76 _ _ ?_
   try clear k76 K76
   refine wp_seq_k (fun K92 k92 => ?_)
   refine rg [0, 1, 2, 3, 4, 5, 6, 7, 8] ?_
   replace L86 := st91.lc L86 ne86_87
   refine sw 87 (.agg #[p79, q79, r79, s79]) rfl (rl 31 0 [p79, q79, r79, s79] L86) ?_
   simp only [p3, p4]
   refine sw 88 (.agg #[p83, q83, r83, s83]) rfl (rl 31 0 [p83, q83, r83, s83] L87) ?_
   simp only [p3, p4]
   refine se ?_
   have kq94 := g82.kp.trans (g83.kp.trans (g85.kp.trans (kp89.trans kp91)))
   replace h79 := h79.kp kq94
   have kq95 := g85.kp.trans (kp89.trans kp91)
   replace h83 := h83.kp kq95
   refine ec 89 (simplest_r h79 h83 (by omega) hlh) ?_
   rintro e93 w93 ⟨⟨sx, p93, q93, r93, s93, rfl, h93, hs⟩, g93⟩
   refine ⟨_, rfl, ?_⟩
   replace hB := hB.trans g93
   simp only [p3, p4]
   refine sv 86 (.tuple #[(.agg #[p93, q93, r93, s93]), (.int .i64 0)]) ?_
   simp only [p3, p4]
   refine sv 90 (.agg #[p93, q93, r93, s93]) ?_
   simp only [p3, p4]
   refine sv 91 (.int .i64 0) ?_
   simp only [p3, p4]
   refine se ?_
   refine ea 31 #[(.bool false), (.slice none 0 0), (.bool false), (.slice none 0 0)] 13 hB fun b96 w96 g96 L96 o96 q96 hB => ?_
   replace L86 := L86.gr g93
   have ne86_96 := L86.ne o96
   replace L87 := L87.gr g93
   have ne87_96 := L87.ne o96
   simp only [p3, p4]
   refine se ?_
   refine es 31 0 (.agg #[p93, q93, r93, s93]) [p93, q93, r93, s93] #[p93, q93, r93, s93] L96 hB q96 ⟨h93.one0, h93.one1, h93.one2, h93.one3, trivial⟩ fun w97 st97 kp97 L96 hB => ?_
   refine sv 14 (.int .i64 0) ?_
   simp only [p3, p4]
   refine sq_nil ?_
   refine k92 _ _ ?_
   try clear k92 K92
   refine wp_seq_k (fun K98 k98 => ?_)
   have gd126 := Gr.drew w97
   replace hB := hB.trans gd126
   replace L86 := (st97.lc (L86.gr g96) ne86_96).gr gd126
   replace L87 := (st97.lc (L87.gr g96) ne87_96).gr gd126
   replace L96 := L96.gr gd126
   refine wp_region_ord (fun w' => Lc w' b86 #[p79, q79, r79, s79] 31 ∧ Lc w' b87 #[p83, q83, r83, s83] 31 ∧ Lc w' b96 #[p93, q93, r93, s93] 31) [(true, 0), (true, 1), (true, 2), (true, 3), (true, 4), (false, 5), (true, 6), (true, 7), (true, 8), (true, 9), (true, 10), (false, 11), (true, 12), (true, 13), (true, 14), (true, 15), (true, 17), (false, 16), (false, 18), (false, 19), (true, 20), (true, 21), (true, 22), (true, 23), (true, 25), (false, 24), (false, 26), (false, 27), (true, 28), (true, 29), (true, 30)] (by kernel_rfl) (by kernel_rfl) (by kernel_rfl) (by decide) (fun _ _ _ _ _ h => h) ⟨L86, L87, L96⟩ ?_
   refine ov 92 (.int .i64 0) ?_
   simp only [p3, p4]
   refine ov 93 (.bool true) ?_
   simp only [p3, p4]
   refine ov 94 (.bool true) ?_
   simp only [p3, p4]
   refine ow 95 (.agg #[p79, q79, r79, s79]) rfl (fun w' hS => (rl 31 0 [p79, q79, r79, s79] hS.1)) ?_
   simp only [p3, p4]
   refine ow 96 (.agg #[p93, q93, r93, s93]) rfl (fun w' hS => (rl 31 0 [p93, q93, r93, s93] hS.2.2)) ?_
   simp only [p3, p4]
   refine oe ?_
   have kq129 := g93.kp.trans (g96.kp.trans (kp97.trans gd126.kp))
   replace h79 := h79.kp kq129
   have kq130 := g96.kp.trans (kp97.trans gd126.kp)
   replace h93 := h93.kp kq130
   refine ec 97 (compare_r h79 h93 (by omega)) ?_
   rintro e128 w128 ⟨rfl, g128⟩
   refine ⟨_, rfl, ?_⟩
   replace hB := hB.trans g128
   replace L86 := L86.gr g128
   replace L87 := L87.gr g128
   replace L96 := L96.gr g128
   refine ⟨⟨L86, L87, L96⟩, ?_⟩
   simp only [p3, p4]
   have hb131 : (decide (rcmp (lo) (sx) ≤ (0 : Int))) = true := (by rw [decide_eq_true_eq, rcmp_le]; exact (hs.le hlh).1)
   refine ow 98 (.bool true) rfl (fun w' hS => (RunV.bool (x := decide (rcmp (lo) (sx) ≤ (0 : Int))) (rvk (by kernel_rfl)) hb131)) ?_
   simp only [p3, p4]
   refine ov 99 (.bool true) ?_
   simp only [p3, p4]
   refine ov 100 (.bool true) ?_
   simp only [p3, p4]
   refine ow 101 (.agg #[p93, q93, r93, s93]) rfl (fun w' hS => (rl 31 0 [p93, q93, r93, s93] hS.2.2)) ?_
   simp only [p3, p4]
   refine ow 102 (.agg #[p83, q83, r83, s83]) rfl (fun w' hS => (rl 31 0 [p83, q83, r83, s83] hS.2.1)) ?_
   simp only [p3, p4]
   refine oe ?_
   replace h93 := h93.kp g128.kp
   have kq134 := g93.kp.trans (g96.kp.trans (kp97.trans (gd126.kp.trans g128.kp)))
   replace h83 := h83.kp kq134
   refine ec 103 (compare_r h93 h83 (by omega)) ?_
   rintro e133 w133 ⟨rfl, g133⟩
   refine ⟨_, rfl, ?_⟩
   replace hB := hB.trans g133
   replace L86 := L86.gr g133
   replace L87 := L87.gr g133
   replace L96 := L96.gr g133
   refine ⟨⟨L86, L87, L96⟩, ?_⟩
   simp only [p3, p4]
   have hb135 : (decide (rcmp (sx) (hi) ≤ (0 : Int))) = true := (by rw [decide_eq_true_eq, rcmp_le]; exact (hs.le hlh).2.1)
   refine ow 104 (.bool true) rfl (fun w' hS => (RunV.bool (x := decide (rcmp (sx) (hi) ≤ (0 : Int))) (rvk (by kernel_rfl)) hb135)) ?_
   simp only [p3, p4]
   refine ov 105 (.bool true) ?_
   simp only [p3, p4]
   refine ov 106 (.bool true) ?_
   simp only [p3, p4]
   refine ow 107 (.agg #[p93, q93, r93, s93]) rfl (fun w' hS => (rl 31 0 [p93, q93, r93, s93] hS.2.2)) ?_
   simp only [p3, p4]
   refine ow 109 (.agg #[p79, q79, r79, s79]) rfl (fun w' hS => (rl 31 0 [p79, q79, r79, s79] hS.1)) ?_
   simp only [p3, p4]
   refine oe ?_
   replace h93 := h93.kp g133.kp
   refine ec 108 (den_i h93) ?_
   rintro e137 w137 ⟨⟨x137, y137, rfl, h137⟩, g137⟩
   refine ⟨_, rfl, ?_⟩
   replace hB := hB.trans g137
   replace L86 := L86.gr g137
   replace L87 := L87.gr g137
   replace L96 := L96.gr g137
   refine ⟨⟨L86, L87, L96⟩, ?_⟩
   simp only [p3, p4]
   refine oe ?_
   have kq140 := g128.kp.trans (g133.kp.trans g137.kp)
   replace h79 := h79.kp kq140
   refine ec 110 (den_i h79) ?_
   rintro e139 w139 ⟨⟨x139, y139, rfl, h139⟩, g139⟩
   refine ⟨_, rfl, ?_⟩
   replace hB := hB.trans g139
   replace L86 := L86.gr g139
   replace L87 := L87.gr g139
   replace L96 := L96.gr g139
   refine ⟨⟨L86, L87, L96⟩, ?_⟩
   simp only [p3, p4]
   refine oe ?_
   replace h137 := h137.kp g139.kp
   refine ec 111 (compare_i h137 h139 (by omega) (by omega)) ?_
   rintro e142 w142 ⟨rfl, g142⟩
   refine ⟨_, rfl, ?_⟩
   replace hB := hB.trans g142
   replace L86 := L86.gr g142
   replace L87 := L87.gr g142
   replace L96 := L96.gr g142
   refine ⟨⟨L86, L87, L96⟩, ?_⟩
   simp only [p3, p4]
   have hb143 : (decide (sgn ((sx.den : Int) - (lo.den : Int)) ≤ (0 : Int))) = true := (sgn_sub_le (hs.le hlh).2.2.1)
   refine ow 112 (.bool true) rfl (fun w' hS => (RunV.bool (x := decide (sgn ((sx.den : Int) - (lo.den : Int)) ≤ (0 : Int))) (rvk (by kernel_rfl)) hb143)) ?_
   simp only [p3, p4]
   refine ov 113 (.bool true) ?_
   simp only [p3, p4]
   refine ov 114 (.bool true) ?_
   simp only [p3, p4]
   refine ow 115 (.agg #[p93, q93, r93, s93]) rfl (fun w' hS => (rl 31 0 [p93, q93, r93, s93] hS.2.2)) ?_
   simp only [p3, p4]
   refine ow 117 (.agg #[p83, q83, r83, s83]) rfl (fun w' hS => (rl 31 0 [p83, q83, r83, s83] hS.2.1)) ?_
   simp only [p3, p4]
   refine oe ?_
   have kq146 := g137.kp.trans (g139.kp.trans g142.kp)
   replace h93 := h93.kp kq146
   refine ec 116 (den_i h93) ?_
   rintro e145 w145 ⟨⟨x145, y145, rfl, h145⟩, g145⟩
   refine ⟨_, rfl, ?_⟩
   replace hB := hB.trans g145
   replace L86 := L86.gr g145
   replace L87 := L87.gr g145
   replace L96 := L96.gr g145
   refine ⟨⟨L86, L87, L96⟩, ?_⟩
   simp only [p3, p4]
   refine oe ?_
   have kq149 := g133.kp.trans (g137.kp.trans (g139.kp.trans (g142.kp.trans g145.kp)))
   replace h83 := h83.kp kq149
   refine ec 118 (den_i h83) ?_
   rintro e148 w148 ⟨⟨x148, y148, rfl, h148⟩, g148⟩
   refine ⟨_, rfl, ?_⟩
   replace hB := hB.trans g148
   replace L86 := L86.gr g148
   replace L87 := L87.gr g148
   replace L96 := L96.gr g148
   refine ⟨⟨L86, L87, L96⟩, ?_⟩
   simp only [p3, p4]
   refine oe ?_
   replace h145 := h145.kp g148.kp
   refine ec 119 (compare_i h145 h148 (by omega) (by omega)) ?_
   rintro e151 w151 ⟨rfl, g151⟩
   refine ⟨_, rfl, ?_⟩
   replace hB := hB.trans g151
   replace L86 := L86.gr g151
   replace L87 := L87.gr g151
   replace L96 := L96.gr g151
   refine ⟨⟨L86, L87, L96⟩, ?_⟩
   simp only [p3, p4]
   have hb152 : (decide (sgn ((sx.den : Int) - (hi.den : Int)) ≤ (0 : Int))) = true := (sgn_sub_le (hs.le hlh).2.2.2)
   refine ow 120 (.bool true) rfl (fun w' hS => (RunV.bool (x := decide (sgn ((sx.den : Int) - (hi.den : Int)) ≤ (0 : Int))) (rvk (by kernel_rfl)) hb152)) ?_
   simp only [p3, p4]
   refine ov 121 (.bool true) ?_
   simp only [p3, p4]
   refine ov 6 (.bool true) ?_
   simp only [p3, p4]
   refine ord_nil ?_
   refine k98 _ _ ?_
   try clear k98 K98
   refine wp_ret ?_
   refine bodyPost_ret (v := (.bool true)) (ret_tmp rfl rfl) rfl ⟨?_, hB⟩
   exact rfl
  ·refine sw 74 (.bool false) rfl (RunV.bool (x := decide (rcmp (b) (c) ≤ (0 : Int))) (rvk (by kernel_rfl)) hb72) ?_
   simp only [p3, p4]
   refine ss 75 ?_
   simp only [p3, p4]
   refine ss 76 ?_
   simp only [p3, p4]
   refine ss 77 ?_
   simp only [p3, p4]
   refine ss 78 ?_
   simp only [p3, p4]
   refine sv 79 (.bool false) ?_
   simp only [p3, p4]
   refine sq_nil ?_
   refine k68 _ _ ?_
   try clear k68 K68
   refine wp_cond_false rfl ?_
   refine wp_skip ?_
   refine k67 _ _ ?_
   try clear k67 K67
   refine wp_seq_k (fun K153 k153 => ?_)
   have hz154 := Below.size hB
   replace L11 := L11.gr g70
   have lt11_154 := L11.lt
   replace L12 := L12.gr g70
   have lt12_154 := L12.lt
   have gd154 := Gr.drew w70
   replace hB := hB.trans gd154
   replace L11 := L11.gr gd154
   replace L12 := L12.gr gd154
   refine wp_region_flo (fun w' => Lc w' b11 #[p8, q8, r8, s8] 31 ∧ Lc w' b12 #[p9, q9, r9, s9] 31) [(true, 0), (true, 1), (true, 3), (true, 4), (false, 2), (false, 5)] [⟨6, 11, 31, #[(.bool false), (.slice none 0 0), (.bool false), (.slice none 0 0)]⟩, ⟨7, 12, 31, #[(.bool false), (.slice none 0 0), (.bool false), (.slice none 0 0)]⟩] [(false, 8), (false, 9)] (by kernel_rfl) (by kernel_rfl) (by kernel_rfl) (by kernel_rfl) (by kernel_rfl) (by decide) (fun _ _ _ _ _ h => h) (fun _ _ _ _ _ h => h) (fun w' o h => ⟨Lc.gr h.1 (Gr.alloc w' o), Lc.gr h.2 (Gr.alloc w' o)⟩) ⟨L11, L12⟩ (by intro f hf; simp only [List.mem_cons, List.not_mem_nil, or_false] at hf; rcases hf with rfl | rfl <;> first | exact alloc_zero (z := (.agg #[(.bool false), (.slice none 0 0), (.bool false), (.slice none 0 0)])) (by kernel_rfl) rfl | exact alloc_zero (z := (.agg #[(.bool false), (.slice none 0 0), (.bool false), (.slice none 0 0)])) (by kernel_rfl) rfl) ?_
   refine fw 80 (.agg #[p8, q8, r8, s8]) rfl (fun w' hS => (rl 31 0 [p8, q8, r8, s8] hS.1)) ?_
   simp only [p3, p4]
   refine fw 81 (.agg #[p9, q9, r9, s9]) rfl (fun w' hS => (rl 31 0 [p9, q9, r9, s9] hS.2)) ?_
   simp only [p3, p4]
   refine fw 83 (.agg #[p8, q8, r8, s8]) rfl (fun w' hS => (rl 31 0 [p8, q8, r8, s8] hS.1)) ?_
   simp only [p3, p4]
   refine fw 84 (.agg #[p9, q9, r9, s9]) rfl (fun w' hS => (rl 31 0 [p9, q9, r9, s9] hS.2)) ?_
   simp only [p3, p4]
   refine flo_eff rfl rfl (fun w155 g155 _ K155 k155 => ?_)
   replace hB := hB.trans g155
   have kq157 := g48.kp.trans (g52.kp.trans (g55.kp.trans (gd63.kp.trans (g65.kp.trans (g70.kp.trans (gd154.kp.trans g155.kp))))))
   replace h8 := h8.kp kq157
   have kq158 := g70.kp.trans (gd154.kp.trans g155.kp)
   replace h9 := h9.kp kq158
   refine ec 82 (min_r h8 h9 (by omega)) ?_
   rintro e156 w156 ⟨⟨p156, q156, r156, s156, rfl, h156⟩, g156⟩
   refine ⟨_, rfl, ?_⟩
   replace hB := hB.trans g156
   rw [← elo] at h156
   replace L11 := L11.gr (g155.trans g156)
   replace L12 := L12.gr (g155.trans g156)
   refine k155 _ _ g156 ⟨L11, L12⟩ ?_
   try clear k155 K155
   simp only [p3, p4]
   refine flo_eff rfl rfl (fun w159 g159 _ K159 k159 => ?_)
   replace hB := hB.trans g159
   have kq161 := g156.kp.trans g159.kp
   replace h8 := h8.kp kq161
   replace h9 := h9.kp kq161
   refine ec 85 (max_r h8 h9 (by omega)) ?_
   rintro e160 w160 ⟨⟨p160, q160, r160, s160, rfl, h160⟩, g160⟩
   refine ⟨_, rfl, ?_⟩
   replace hB := hB.trans g160
   rw [← ehi] at h160
   replace L11 := L11.gr (g159.trans g160)
   replace L12 := L12.gr (g159.trans g160)
   refine k159 _ _ g160 ⟨L11, L12⟩ ?_
   try clear k159 K159
   simp only [p3, p4]
   refine flo_nil (fun w162 g162 _ => ?_)
   replace hB := hB.trans g162
   refine floFin2 (fun b163 b164 (L163 : Lc w162 b163 #[(.bool false), (.slice none 0 0), (.bool false), (.slice none 0 0)] 31) q163 (L164 : Lc w162 b164 #[(.bool false), (.slice none 0 0), (.bool false), (.slice none 0 0)] 31) q164 ne163_164 => ?_)
   have ne11_163 : b11 ≠ b163 := Nat.ne_of_lt (Nat.lt_of_lt_of_le lt11_154 q163)
   have ne12_163 : b12 ≠ b163 := Nat.ne_of_lt (Nat.lt_of_lt_of_le lt12_154 q163)
   replace q163 := Nat.le_trans hz154 q163
   have ne11_164 : b11 ≠ b164 := Nat.ne_of_lt (Nat.lt_of_lt_of_le lt11_154 q164)
   have ne12_164 : b12 ≠ b164 := Nat.ne_of_lt (Nat.lt_of_lt_of_le lt12_154 q164)
   replace q164 := Nat.le_trans hz154 q164
   simp only [putl, p3, p4]
   refine oe ?_
   refine es 31 0 (.agg #[p156, q156, r156, s156]) [p156, q156, r156, s156] #[p156, q156, r156, s156] L163 hB q163 ⟨h156.one0, h156.one1, h156.one2, h156.one3, trivial⟩ fun w166 st166 kp166 L163 hB => ?_
   replace L11 := st166.lc (L11.gr g162) ne11_163
   replace L12 := st166.lc (L12.gr g162) ne12_163
   refine ⟨⟨L11, L12⟩, ?_⟩
   refine oe ?_
   replace L164 := st166.lc L164 (Ne.symm ne163_164)
   refine es 31 0 (.agg #[p160, q160, r160, s160]) [p160, q160, r160, s160] #[p160, q160, r160, s160] L164 hB q164 ⟨h160.one0, h160.one1, h160.one2, h160.one3, trivial⟩ fun w168 st168 kp168 L164 hB => ?_
   replace L11 := st168.lc L11 ne11_164
   replace L12 := st168.lc L12 ne12_164
   refine ⟨⟨L11, L12⟩, ?_⟩
   refine ord_nil ?_
   refine k153 _ _ ?_
   try clear k153 K153
   refine wp_seq_k (fun K169 k169 => ?_)
   refine rg [0, 1, 2, 3, 4, 5, 6, 7, 8] ?_
   replace L163 := st168.lc L163 ne163_164
   refine sw 87 (.agg #[p156, q156, r156, s156]) rfl (rl 31 0 [p156, q156, r156, s156] L163) ?_
   simp only [p3, p4]
   refine sw 88 (.agg #[p160, q160, r160, s160]) rfl (rl 31 0 [p160, q160, r160, s160] L164) ?_
   simp only [p3, p4]
   refine se ?_
   have kq171 := g159.kp.trans (g160.kp.trans (g162.kp.trans (kp166.trans kp168)))
   replace h156 := h156.kp kq171
   have kq172 := g162.kp.trans (kp166.trans kp168)
   replace h160 := h160.kp kq172
   refine ec 89 (simplest_r h156 h160 (by omega) hlh) ?_
   rintro e170 w170 ⟨⟨sx, p170, q170, r170, s170, rfl, h170, hs⟩, g170⟩
   refine ⟨_, rfl, ?_⟩
   replace hB := hB.trans g170
   simp only [p3, p4]
   refine sv 86 (.tuple #[(.agg #[p170, q170, r170, s170]), (.int .i64 0)]) ?_
   simp only [p3, p4]
   refine sv 90 (.agg #[p170, q170, r170, s170]) ?_
   simp only [p3, p4]
   refine sv 91 (.int .i64 0) ?_
   simp only [p3, p4]
   refine se ?_
   refine ea 31 #[(.bool false), (.slice none 0 0), (.bool false), (.slice none 0 0)] 13 hB fun b173 w173 g173 L173 o173 q173 hB => ?_
   replace L163 := L163.gr g170
   have ne163_173 := L163.ne o173
   replace L164 := L164.gr g170
   have ne164_173 := L164.ne o173
   simp only [p3, p4]
   refine se ?_
   refine es 31 0 (.agg #[p170, q170, r170, s170]) [p170, q170, r170, s170] #[p170, q170, r170, s170] L173 hB q173 ⟨h170.one0, h170.one1, h170.one2, h170.one3, trivial⟩ fun w174 st174 kp174 L173 hB => ?_
   refine sv 14 (.int .i64 0) ?_
   simp only [p3, p4]
   refine sq_nil ?_
   refine k169 _ _ ?_
   try clear k169 K169
   refine wp_seq_k (fun K175 k175 => ?_)
   have gd203 := Gr.drew w174
   replace hB := hB.trans gd203
   replace L163 := (st174.lc (L163.gr g173) ne163_173).gr gd203
   replace L164 := (st174.lc (L164.gr g173) ne164_173).gr gd203
   replace L173 := L173.gr gd203
   refine wp_region_ord (fun w' => Lc w' b163 #[p156, q156, r156, s156] 31 ∧ Lc w' b164 #[p160, q160, r160, s160] 31 ∧ Lc w' b173 #[p170, q170, r170, s170] 31) [(true, 0), (true, 1), (true, 2), (true, 3), (true, 4), (false, 5), (true, 6), (true, 7), (true, 8), (true, 9), (true, 10), (false, 11), (true, 12), (true, 13), (true, 14), (true, 15), (true, 17), (false, 16), (false, 18), (false, 19), (true, 20), (true, 21), (true, 22), (true, 23), (true, 25), (false, 24), (false, 26), (false, 27), (true, 28), (true, 29), (true, 30)] (by kernel_rfl) (by kernel_rfl) (by kernel_rfl) (by decide) (fun _ _ _ _ _ h => h) ⟨L163, L164, L173⟩ ?_
   refine ov 92 (.int .i64 0) ?_
   simp only [p3, p4]
   refine ov 93 (.bool true) ?_
   simp only [p3, p4]
   refine ov 94 (.bool true) ?_
   simp only [p3, p4]
   refine ow 95 (.agg #[p156, q156, r156, s156]) rfl (fun w' hS => (rl 31 0 [p156, q156, r156, s156] hS.1)) ?_
   simp only [p3, p4]
   refine ow 96 (.agg #[p170, q170, r170, s170]) rfl (fun w' hS => (rl 31 0 [p170, q170, r170, s170] hS.2.2)) ?_
   simp only [p3, p4]
   refine oe ?_
   have kq206 := g170.kp.trans (g173.kp.trans (kp174.trans gd203.kp))
   replace h156 := h156.kp kq206
   have kq207 := g173.kp.trans (kp174.trans gd203.kp)
   replace h170 := h170.kp kq207
   refine ec 97 (compare_r h156 h170 (by omega)) ?_
   rintro e205 w205 ⟨rfl, g205⟩
   refine ⟨_, rfl, ?_⟩
   replace hB := hB.trans g205
   replace L163 := L163.gr g205
   replace L164 := L164.gr g205
   replace L173 := L173.gr g205
   refine ⟨⟨L163, L164, L173⟩, ?_⟩
   simp only [p3, p4]
   have hb208 : (decide (rcmp (lo) (sx) ≤ (0 : Int))) = true := (by rw [decide_eq_true_eq, rcmp_le]; exact (hs.le hlh).1)
   refine ow 98 (.bool true) rfl (fun w' hS => (RunV.bool (x := decide (rcmp (lo) (sx) ≤ (0 : Int))) (rvk (by kernel_rfl)) hb208)) ?_
   simp only [p3, p4]
   refine ov 99 (.bool true) ?_
   simp only [p3, p4]
   refine ov 100 (.bool true) ?_
   simp only [p3, p4]
   refine ow 101 (.agg #[p170, q170, r170, s170]) rfl (fun w' hS => (rl 31 0 [p170, q170, r170, s170] hS.2.2)) ?_
   simp only [p3, p4]
   refine ow 102 (.agg #[p160, q160, r160, s160]) rfl (fun w' hS => (rl 31 0 [p160, q160, r160, s160] hS.2.1)) ?_
   simp only [p3, p4]
   refine oe ?_
   replace h170 := h170.kp g205.kp
   have kq211 := g170.kp.trans (g173.kp.trans (kp174.trans (gd203.kp.trans g205.kp)))
   replace h160 := h160.kp kq211
   refine ec 103 (compare_r h170 h160 (by omega)) ?_
   rintro e210 w210 ⟨rfl, g210⟩
   refine ⟨_, rfl, ?_⟩
   replace hB := hB.trans g210
   replace L163 := L163.gr g210
   replace L164 := L164.gr g210
   replace L173 := L173.gr g210
   refine ⟨⟨L163, L164, L173⟩, ?_⟩
   simp only [p3, p4]
   have hb212 : (decide (rcmp (sx) (hi) ≤ (0 : Int))) = true := (by rw [decide_eq_true_eq, rcmp_le]; exact (hs.le hlh).2.1)
   refine ow 104 (.bool true) rfl (fun w' hS => (RunV.bool (x := decide (rcmp (sx) (hi) ≤ (0 : Int))) (rvk (by kernel_rfl)) hb212)) ?_
   simp only [p3, p4]
   refine ov 105 (.bool true) ?_
   simp only [p3, p4]
   refine ov 106 (.bool true) ?_
   simp only [p3, p4]
   refine ow 107 (.agg #[p170, q170, r170, s170]) rfl (fun w' hS => (rl 31 0 [p170, q170, r170, s170] hS.2.2)) ?_
   simp only [p3, p4]
   refine ow 109 (.agg #[p156, q156, r156, s156]) rfl (fun w' hS => (rl 31 0 [p156, q156, r156, s156] hS.1)) ?_
   simp only [p3, p4]
   refine oe ?_
   replace h170 := h170.kp g210.kp
   refine ec 108 (den_i h170) ?_
   rintro e214 w214 ⟨⟨x214, y214, rfl, h214⟩, g214⟩
   refine ⟨_, rfl, ?_⟩
   replace hB := hB.trans g214
   replace L163 := L163.gr g214
   replace L164 := L164.gr g214
   replace L173 := L173.gr g214
   refine ⟨⟨L163, L164, L173⟩, ?_⟩
   simp only [p3, p4]
   refine oe ?_
   have kq217 := g205.kp.trans (g210.kp.trans g214.kp)
   replace h156 := h156.kp kq217
   refine ec 110 (den_i h156) ?_
   rintro e216 w216 ⟨⟨x216, y216, rfl, h216⟩, g216⟩
   refine ⟨_, rfl, ?_⟩
   replace hB := hB.trans g216
   replace L163 := L163.gr g216
   replace L164 := L164.gr g216
   replace L173 := L173.gr g216
   refine ⟨⟨L163, L164, L173⟩, ?_⟩
   simp only [p3, p4]
   refine oe ?_
   replace h214 := h214.kp g216.kp
   refine ec 111 (compare_i h214 h216 (by omega) (by omega)) ?_
   rintro e219 w219 ⟨rfl, g219⟩
   refine ⟨_, rfl, ?_⟩
   replace hB := hB.trans g219
   replace L163 := L163.gr g219
   replace L164 := L164.gr g219
   replace L173 := L173.gr g219
   refine ⟨⟨L163, L164, L173⟩, ?_⟩
   simp only [p3, p4]
   have hb220 : (decide (sgn ((sx.den : Int) - (lo.den : Int)) ≤ (0 : Int))) = true := (sgn_sub_le (hs.le hlh).2.2.1)
   refine ow 112 (.bool true) rfl (fun w' hS => (RunV.bool (x := decide (sgn ((sx.den : Int) - (lo.den : Int)) ≤ (0 : Int))) (rvk (by kernel_rfl)) hb220)) ?_
   simp only [p3, p4]
   refine ov 113 (.bool true) ?_
   simp only [p3, p4]
   refine ov 114 (.bool true) ?_
   simp only [p3, p4]
   refine ow 115 (.agg #[p170, q170, r170, s170]) rfl (fun w' hS => (rl 31 0 [p170, q170, r170, s170] hS.2.2)) ?_
   simp only [p3, p4]
   refine ow 117 (.agg #[p160, q160, r160, s160]) rfl (fun w' hS => (rl 31 0 [p160, q160, r160, s160] hS.2.1)) ?_
   simp only [p3, p4]
   refine oe ?_
   have kq223 := g214.kp.trans (g216.kp.trans g219.kp)
   replace h170 := h170.kp kq223
   refine ec 116 (den_i h170) ?_
   rintro e222 w222 ⟨⟨x222, y222, rfl, h222⟩, g222⟩
   refine ⟨_, rfl, ?_⟩
   replace hB := hB.trans g222
   replace L163 := L163.gr g222
   replace L164 := L164.gr g222
   replace L173 := L173.gr g222
   refine ⟨⟨L163, L164, L173⟩, ?_⟩
   simp only [p3, p4]
   refine oe ?_
   have kq226 := g210.kp.trans (g214.kp.trans (g216.kp.trans (g219.kp.trans g222.kp)))
   replace h160 := h160.kp kq226
   refine ec 118 (den_i h160) ?_
   rintro e225 w225 ⟨⟨x225, y225, rfl, h225⟩, g225⟩
   refine ⟨_, rfl, ?_⟩
   replace hB := hB.trans g225
   replace L163 := L163.gr g225
   replace L164 := L164.gr g225
   replace L173 := L173.gr g225
   refine ⟨⟨L163, L164, L173⟩, ?_⟩
   simp only [p3, p4]
   refine oe ?_
   replace h222 := h222.kp g225.kp
   refine ec 119 (compare_i h222 h225 (by omega) (by omega)) ?_
   rintro e228 w228 ⟨rfl, g228⟩
   refine ⟨_, rfl, ?_⟩
   replace hB := hB.trans g228
   replace L163 := L163.gr g228
   replace L164 := L164.gr g228
   replace L173 := L173.gr g228
   refine ⟨⟨L163, L164, L173⟩, ?_⟩
   simp only [p3, p4]
   have hb229 : (decide (sgn ((sx.den : Int) - (hi.den : Int)) ≤ (0 : Int))) = true := (sgn_sub_le (hs.le hlh).2.2.2)
   refine ow 120 (.bool true) rfl (fun w' hS => (RunV.bool (x := decide (sgn ((sx.den : Int) - (hi.den : Int)) ≤ (0 : Int))) (rvk (by kernel_rfl)) hb229)) ?_
   simp only [p3, p4]
   refine ov 121 (.bool true) ?_
   simp only [p3, p4]
   refine ov 6 (.bool true) ?_
   simp only [p3, p4]
   refine ord_nil ?_
   refine k175 _ _ ?_
   try clear k175 K175
   refine wp_ret ?_
   refine bodyPost_ret (v := (.bool true)) (ret_tmp rfl rfl) rfl ⟨?_, hB⟩
   exact rfl
 ·refine sw 68 (.bool false) rfl (RunV.bool (x := decide (rcmp (a) (b) ≤ (0 : Int))) (rvk (by kernel_rfl)) hb69) ?_
  simp only [p3, p4]
  refine ss 69 ?_
  simp only [p3, p4]
  refine ss 70 ?_
  simp only [p3, p4]
  refine ss 71 ?_
  simp only [p3, p4]
  refine ss 72 ?_
  simp only [p3, p4]
  refine sv 73 (.bool false) ?_
  simp only [p3, p4]
  refine sv 74 (.bool false) ?_
  simp only [p3, p4]
  refine ss 75 ?_
  simp only [p3, p4]
  refine ss 76 ?_
  simp only [p3, p4]
  refine ss 77 ?_
  simp only [p3, p4]
  refine ss 78 ?_
  simp only [p3, p4]
  refine sv 79 (.bool false) ?_
  simp only [p3, p4]
  refine sq_nil ?_
  refine k68 _ _ ?_
  try clear k68 K68
  refine wp_cond_false rfl ?_
  refine wp_skip ?_
  refine k67 _ _ ?_
  try clear k67 K67
  refine wp_seq_k (fun K230 k230 => ?_)
  have hz231 := Below.size hB
  have lt11_231 := L11.lt
  have lt12_231 := L12.lt
  have gd231 := Gr.drew w65
  replace hB := hB.trans gd231
  replace L11 := L11.gr gd231
  replace L12 := L12.gr gd231
  refine wp_region_flo (fun w' => Lc w' b11 #[p8, q8, r8, s8] 31 ∧ Lc w' b12 #[p9, q9, r9, s9] 31) [(true, 0), (true, 1), (true, 3), (true, 4), (false, 2), (false, 5)] [⟨6, 11, 31, #[(.bool false), (.slice none 0 0), (.bool false), (.slice none 0 0)]⟩, ⟨7, 12, 31, #[(.bool false), (.slice none 0 0), (.bool false), (.slice none 0 0)]⟩] [(false, 8), (false, 9)] (by kernel_rfl) (by kernel_rfl) (by kernel_rfl) (by kernel_rfl) (by kernel_rfl) (by decide) (fun _ _ _ _ _ h => h) (fun _ _ _ _ _ h => h) (fun w' o h => ⟨Lc.gr h.1 (Gr.alloc w' o), Lc.gr h.2 (Gr.alloc w' o)⟩) ⟨L11, L12⟩ (by intro f hf; simp only [List.mem_cons, List.not_mem_nil, or_false] at hf; rcases hf with rfl | rfl <;> first | exact alloc_zero (z := (.agg #[(.bool false), (.slice none 0 0), (.bool false), (.slice none 0 0)])) (by kernel_rfl) rfl | exact alloc_zero (z := (.agg #[(.bool false), (.slice none 0 0), (.bool false), (.slice none 0 0)])) (by kernel_rfl) rfl) ?_
  refine fw 80 (.agg #[p8, q8, r8, s8]) rfl (fun w' hS => (rl 31 0 [p8, q8, r8, s8] hS.1)) ?_
  simp only [p3, p4]
  refine fw 81 (.agg #[p9, q9, r9, s9]) rfl (fun w' hS => (rl 31 0 [p9, q9, r9, s9] hS.2)) ?_
  simp only [p3, p4]
  refine fw 83 (.agg #[p8, q8, r8, s8]) rfl (fun w' hS => (rl 31 0 [p8, q8, r8, s8] hS.1)) ?_
  simp only [p3, p4]
  refine fw 84 (.agg #[p9, q9, r9, s9]) rfl (fun w' hS => (rl 31 0 [p9, q9, r9, s9] hS.2)) ?_
  simp only [p3, p4]
  refine flo_eff rfl rfl (fun w232 g232 _ K232 k232 => ?_)
  replace hB := hB.trans g232
  have kq234 := g48.kp.trans (g52.kp.trans (g55.kp.trans (gd63.kp.trans (g65.kp.trans (gd231.kp.trans g232.kp)))))
  replace h8 := h8.kp kq234
  have kq235 := g52.kp.trans (g55.kp.trans (gd63.kp.trans (g65.kp.trans (gd231.kp.trans g232.kp))))
  replace h9 := h9.kp kq235
  refine ec 82 (min_r h8 h9 (by omega)) ?_
  rintro e233 w233 ⟨⟨p233, q233, r233, s233, rfl, h233⟩, g233⟩
  refine ⟨_, rfl, ?_⟩
  replace hB := hB.trans g233
  rw [← elo] at h233
  replace L11 := L11.gr (g232.trans g233)
  replace L12 := L12.gr (g232.trans g233)
  refine k232 _ _ g233 ⟨L11, L12⟩ ?_
  try clear k232 K232
  simp only [p3, p4]
  refine flo_eff rfl rfl (fun w236 g236 _ K236 k236 => ?_)
  replace hB := hB.trans g236
  have kq238 := g233.kp.trans g236.kp
  replace h8 := h8.kp kq238
  replace h9 := h9.kp kq238
  refine ec 85 (max_r h8 h9 (by omega)) ?_
  rintro e237 w237 ⟨⟨p237, q237, r237, s237, rfl, h237⟩, g237⟩
  refine ⟨_, rfl, ?_⟩
  replace hB := hB.trans g237
  rw [← ehi] at h237
  replace L11 := L11.gr (g236.trans g237)
  replace L12 := L12.gr (g236.trans g237)
  refine k236 _ _ g237 ⟨L11, L12⟩ ?_
  try clear k236 K236
  simp only [p3, p4]
  refine flo_nil (fun w239 g239 _ => ?_)
  replace hB := hB.trans g239
  refine floFin2 (fun b240 b241 (L240 : Lc w239 b240 #[(.bool false), (.slice none 0 0), (.bool false), (.slice none 0 0)] 31) q240 (L241 : Lc w239 b241 #[(.bool false), (.slice none 0 0), (.bool false), (.slice none 0 0)] 31) q241 ne240_241 => ?_)
  have ne11_240 : b11 ≠ b240 := Nat.ne_of_lt (Nat.lt_of_lt_of_le lt11_231 q240)
  have ne12_240 : b12 ≠ b240 := Nat.ne_of_lt (Nat.lt_of_lt_of_le lt12_231 q240)
  replace q240 := Nat.le_trans hz231 q240
  have ne11_241 : b11 ≠ b241 := Nat.ne_of_lt (Nat.lt_of_lt_of_le lt11_231 q241)
  have ne12_241 : b12 ≠ b241 := Nat.ne_of_lt (Nat.lt_of_lt_of_le lt12_231 q241)
  replace q241 := Nat.le_trans hz231 q241
  simp only [putl, p3, p4]
  refine oe ?_
  refine es 31 0 (.agg #[p233, q233, r233, s233]) [p233, q233, r233, s233] #[p233, q233, r233, s233] L240 hB q240 ⟨h233.one0, h233.one1, h233.one2, h233.one3, trivial⟩ fun w243 st243 kp243 L240 hB => ?_
  replace L11 := st243.lc (L11.gr g239) ne11_240
  replace L12 := st243.lc (L12.gr g239) ne12_240
  refine ⟨⟨L11, L12⟩, ?_⟩
  refine oe ?_
  replace L241 := st243.lc L241 (Ne.symm ne240_241)
  refine es 31 0 (.agg #[p237, q237, r237, s237]) [p237, q237, r237, s237] #[p237, q237, r237, s237] L241 hB q241 ⟨h237.one0, h237.one1, h237.one2, h237.one3, trivial⟩ fun w245 st245 kp245 L241 hB => ?_
  replace L11 := st245.lc L11 ne11_241
  replace L12 := st245.lc L12 ne12_241
  refine ⟨⟨L11, L12⟩, ?_⟩
  refine ord_nil ?_
  refine k230 _ _ ?_
  try clear k230 K230
  refine wp_seq_k (fun K246 k246 => ?_)
  refine rg [0, 1, 2, 3, 4, 5, 6, 7, 8] ?_
  replace L240 := st245.lc L240 ne240_241
  refine sw 87 (.agg #[p233, q233, r233, s233]) rfl (rl 31 0 [p233, q233, r233, s233] L240) ?_
  simp only [p3, p4]
  refine sw 88 (.agg #[p237, q237, r237, s237]) rfl (rl 31 0 [p237, q237, r237, s237] L241) ?_
  simp only [p3, p4]
  refine se ?_
  have kq248 := g236.kp.trans (g237.kp.trans (g239.kp.trans (kp243.trans kp245)))
  replace h233 := h233.kp kq248
  have kq249 := g239.kp.trans (kp243.trans kp245)
  replace h237 := h237.kp kq249
  refine ec 89 (simplest_r h233 h237 (by omega) hlh) ?_
  rintro e247 w247 ⟨⟨sx, p247, q247, r247, s247, rfl, h247, hs⟩, g247⟩
  refine ⟨_, rfl, ?_⟩
  replace hB := hB.trans g247
  simp only [p3, p4]
  refine sv 86 (.tuple #[(.agg #[p247, q247, r247, s247]), (.int .i64 0)]) ?_
  simp only [p3, p4]
  refine sv 90 (.agg #[p247, q247, r247, s247]) ?_
  simp only [p3, p4]
  refine sv 91 (.int .i64 0) ?_
  simp only [p3, p4]
  refine se ?_
  refine ea 31 #[(.bool false), (.slice none 0 0), (.bool false), (.slice none 0 0)] 13 hB fun b250 w250 g250 L250 o250 q250 hB => ?_
  replace L240 := L240.gr g247
  have ne240_250 := L240.ne o250
  replace L241 := L241.gr g247
  have ne241_250 := L241.ne o250
  simp only [p3, p4]
  refine se ?_
  refine es 31 0 (.agg #[p247, q247, r247, s247]) [p247, q247, r247, s247] #[p247, q247, r247, s247] L250 hB q250 ⟨h247.one0, h247.one1, h247.one2, h247.one3, trivial⟩ fun w251 st251 kp251 L250 hB => ?_
  refine sv 14 (.int .i64 0) ?_
  simp only [p3, p4]
  refine sq_nil ?_
  refine k246 _ _ ?_
  try clear k246 K246
  refine wp_seq_k (fun K252 k252 => ?_)
  have gd280 := Gr.drew w251
  replace hB := hB.trans gd280
  replace L240 := (st251.lc (L240.gr g250) ne240_250).gr gd280
  replace L241 := (st251.lc (L241.gr g250) ne241_250).gr gd280
  replace L250 := L250.gr gd280
  refine wp_region_ord (fun w' => Lc w' b240 #[p233, q233, r233, s233] 31 ∧ Lc w' b241 #[p237, q237, r237, s237] 31 ∧ Lc w' b250 #[p247, q247, r247, s247] 31) [(true, 0), (true, 1), (true, 2), (true, 3), (true, 4), (false, 5), (true, 6), (true, 7), (true, 8), (true, 9), (true, 10), (false, 11), (true, 12), (true, 13), (true, 14), (true, 15), (true, 17), (false, 16), (false, 18), (false, 19), (true, 20), (true, 21), (true, 22), (true, 23), (true, 25), (false, 24), (false, 26), (false, 27), (true, 28), (true, 29), (true, 30)] (by kernel_rfl) (by kernel_rfl) (by kernel_rfl) (by decide) (fun _ _ _ _ _ h => h) ⟨L240, L241, L250⟩ ?_
  refine ov 92 (.int .i64 0) ?_
  simp only [p3, p4]
  refine ov 93 (.bool true) ?_
  simp only [p3, p4]
  refine ov 94 (.bool true) ?_
  simp only [p3, p4]
  refine ow 95 (.agg #[p233, q233, r233, s233]) rfl (fun w' hS => (rl 31 0 [p233, q233, r233, s233] hS.1)) ?_
  simp only [p3, p4]
  refine ow 96 (.agg #[p247, q247, r247, s247]) rfl (fun w' hS => (rl 31 0 [p247, q247, r247, s247] hS.2.2)) ?_
  simp only [p3, p4]
  refine oe ?_
  have kq283 := g247.kp.trans (g250.kp.trans (kp251.trans gd280.kp))
  replace h233 := h233.kp kq283
  have kq284 := g250.kp.trans (kp251.trans gd280.kp)
  replace h247 := h247.kp kq284
  refine ec 97 (compare_r h233 h247 (by omega)) ?_
  rintro e282 w282 ⟨rfl, g282⟩
  refine ⟨_, rfl, ?_⟩
  replace hB := hB.trans g282
  replace L240 := L240.gr g282
  replace L241 := L241.gr g282
  replace L250 := L250.gr g282
  refine ⟨⟨L240, L241, L250⟩, ?_⟩
  simp only [p3, p4]
  have hb285 : (decide (rcmp (lo) (sx) ≤ (0 : Int))) = true := (by rw [decide_eq_true_eq, rcmp_le]; exact (hs.le hlh).1)
  refine ow 98 (.bool true) rfl (fun w' hS => (RunV.bool (x := decide (rcmp (lo) (sx) ≤ (0 : Int))) (rvk (by kernel_rfl)) hb285)) ?_
  simp only [p3, p4]
  refine ov 99 (.bool true) ?_
  simp only [p3, p4]
  refine ov 100 (.bool true) ?_
  simp only [p3, p4]
  refine ow 101 (.agg #[p247, q247, r247, s247]) rfl (fun w' hS => (rl 31 0 [p247, q247, r247, s247] hS.2.2)) ?_
  simp only [p3, p4]
  refine ow 102 (.agg #[p237, q237, r237, s237]) rfl (fun w' hS => (rl 31 0 [p237, q237, r237, s237] hS.2.1)) ?_
  simp only [p3, p4]
  refine oe ?_
  replace h247 := h247.kp g282.kp
  have kq288 := g247.kp.trans (g250.kp.trans (kp251.trans (gd280.kp.trans g282.kp)))
  replace h237 := h237.kp kq288
  refine ec 103 (compare_r h247 h237 (by omega)) ?_
  rintro e287 w287 ⟨rfl, g287⟩
  refine ⟨_, rfl, ?_⟩
  replace hB := hB.trans g287
  replace L240 := L240.gr g287
  replace L241 := L241.gr g287
  replace L250 := L250.gr g287
  refine ⟨⟨L240, L241, L250⟩, ?_⟩
  simp only [p3, p4]
  have hb289 : (decide (rcmp (sx) (hi) ≤ (0 : Int))) = true := (by rw [decide_eq_true_eq, rcmp_le]; exact (hs.le hlh).2.1)
  refine ow 104 (.bool true) rfl (fun w' hS => (RunV.bool (x := decide (rcmp (sx) (hi) ≤ (0 : Int))) (rvk (by kernel_rfl)) hb289)) ?_
  simp only [p3, p4]
  refine ov 105 (.bool true) ?_
  simp only [p3, p4]
  refine ov 106 (.bool true) ?_
  simp only [p3, p4]
  refine ow 107 (.agg #[p247, q247, r247, s247]) rfl (fun w' hS => (rl 31 0 [p247, q247, r247, s247] hS.2.2)) ?_
  simp only [p3, p4]
  refine ow 109 (.agg #[p233, q233, r233, s233]) rfl (fun w' hS => (rl 31 0 [p233, q233, r233, s233] hS.1)) ?_
  simp only [p3, p4]
  refine oe ?_
  replace h247 := h247.kp g287.kp
  refine ec 108 (den_i h247) ?_
  rintro e291 w291 ⟨⟨x291, y291, rfl, h291⟩, g291⟩
  refine ⟨_, rfl, ?_⟩
  replace hB := hB.trans g291
  replace L240 := L240.gr g291
  replace L241 := L241.gr g291
  replace L250 := L250.gr g291
  refine ⟨⟨L240, L241, L250⟩, ?_⟩
  simp only [p3, p4]
  refine oe ?_
  have kq294 := g282.kp.trans (g287.kp.trans g291.kp)
  replace h233 := h233.kp kq294
  refine ec 110 (den_i h233) ?_
  rintro e293 w293 ⟨⟨x293, y293, rfl, h293⟩, g293⟩
  refine ⟨_, rfl, ?_⟩
  replace hB := hB.trans g293
  replace L240 := L240.gr g293
  replace L241 := L241.gr g293
  replace L250 := L250.gr g293
  refine ⟨⟨L240, L241, L250⟩, ?_⟩
  simp only [p3, p4]
  refine oe ?_
  replace h291 := h291.kp g293.kp
  refine ec 111 (compare_i h291 h293 (by omega) (by omega)) ?_
  rintro e296 w296 ⟨rfl, g296⟩
  refine ⟨_, rfl, ?_⟩
  replace hB := hB.trans g296
  replace L240 := L240.gr g296
  replace L241 := L241.gr g296
  replace L250 := L250.gr g296
  refine ⟨⟨L240, L241, L250⟩, ?_⟩
  simp only [p3, p4]
  have hb297 : (decide (sgn ((sx.den : Int) - (lo.den : Int)) ≤ (0 : Int))) = true := (sgn_sub_le (hs.le hlh).2.2.1)
  refine ow 112 (.bool true) rfl (fun w' hS => (RunV.bool (x := decide (sgn ((sx.den : Int) - (lo.den : Int)) ≤ (0 : Int))) (rvk (by kernel_rfl)) hb297)) ?_
  simp only [p3, p4]
  refine ov 113 (.bool true) ?_
  simp only [p3, p4]
  refine ov 114 (.bool true) ?_
  simp only [p3, p4]
  refine ow 115 (.agg #[p247, q247, r247, s247]) rfl (fun w' hS => (rl 31 0 [p247, q247, r247, s247] hS.2.2)) ?_
  simp only [p3, p4]
  refine ow 117 (.agg #[p237, q237, r237, s237]) rfl (fun w' hS => (rl 31 0 [p237, q237, r237, s237] hS.2.1)) ?_
  simp only [p3, p4]
  refine oe ?_
  have kq300 := g291.kp.trans (g293.kp.trans g296.kp)
  replace h247 := h247.kp kq300
  refine ec 116 (den_i h247) ?_
  rintro e299 w299 ⟨⟨x299, y299, rfl, h299⟩, g299⟩
  refine ⟨_, rfl, ?_⟩
  replace hB := hB.trans g299
  replace L240 := L240.gr g299
  replace L241 := L241.gr g299
  replace L250 := L250.gr g299
  refine ⟨⟨L240, L241, L250⟩, ?_⟩
  simp only [p3, p4]
  refine oe ?_
  have kq303 := g287.kp.trans (g291.kp.trans (g293.kp.trans (g296.kp.trans g299.kp)))
  replace h237 := h237.kp kq303
  refine ec 118 (den_i h237) ?_
  rintro e302 w302 ⟨⟨x302, y302, rfl, h302⟩, g302⟩
  refine ⟨_, rfl, ?_⟩
  replace hB := hB.trans g302
  replace L240 := L240.gr g302
  replace L241 := L241.gr g302
  replace L250 := L250.gr g302
  refine ⟨⟨L240, L241, L250⟩, ?_⟩
  simp only [p3, p4]
  refine oe ?_
  replace h299 := h299.kp g302.kp
  refine ec 119 (compare_i h299 h302 (by omega) (by omega)) ?_
  rintro e305 w305 ⟨rfl, g305⟩
  refine ⟨_, rfl, ?_⟩
  replace hB := hB.trans g305
  replace L240 := L240.gr g305
  replace L241 := L241.gr g305
  replace L250 := L250.gr g305
  refine ⟨⟨L240, L241, L250⟩, ?_⟩
  simp only [p3, p4]
  have hb306 : (decide (sgn ((sx.den : Int) - (hi.den : Int)) ≤ (0 : Int))) = true := (sgn_sub_le (hs.le hlh).2.2.2)
  refine ow 120 (.bool true) rfl (fun w' hS => (RunV.bool (x := decide (sgn ((sx.den : Int) - (hi.den : Int)) ≤ (0 : Int))) (rvk (by kernel_rfl)) hb306)) ?_
  simp only [p3, p4]
  refine ov 121 (.bool true) ?_
  simp only [p3, p4]
  refine ov 6 (.bool true) ?_
  simp only [p3, p4]
  refine ord_nil ?_
  refine k252 _ _ ?_
  try clear k252 K252
  refine wp_ret ?_
  refine bodyPost_ret (v := (.bool true)) (ret_tmp rfl rfl) rfl ⟨?_, hB⟩
  exact rfl

set_option maxRecDepth 100000 in
set_option maxHeartbeats 1000000 in
theorem order_b (X Y Z : List UInt8) (hok : ((okT (X) && okT (Y)) && okT (Z)) = false) (w : World) (ht : Tab w) (_hm : Mx w) :
    Calls Tryz.prog 14 #[(.string ⟨(X : List UInt8).toArray⟩), (.string ⟨(Y : List UInt8).toArray⟩), (.string ⟨(Z : List UInt8).toArray⟩)] w fun e w' => e = .returned (.bool true) ∧ Gr w w' := by
 go_enter Tryz.func14, Tryz.ntmps14
 have hB := Gr.refl w
 refine wp_seq_k (fun K1 k1 => ?_)
 refine rg [0] ?_
 refine sv 6 (.bool false) ?_
 simp only [p3, p4]
 refine sq_nil ?_
 refine k1 _ _ ?_
 try clear k1 K1
 refine wp_seq_k (fun K2 k2 => ?_)
 refine wp_seq_k (fun K3 k3 => ?_)
 refine rg [0, 1, 2, 3, 4, 5, 6, 7, 8, 9] ?_
 refine se ?_
 refine ec 15 (known2 _ (ht.gr hB)) ?_
 rintro e4 w4 ⟨rfl, g4⟩
 refine ⟨_, rfl, ?_⟩
 replace hB := hB.trans g4
 simp only [p3, p4]
 refine sv 16 (.bool false) ?_
 simp only [p3, p4]
 refine sv 17 (.bool false) ?_
 simp only [p3, p4]
 refine sv 18 (.string ⟨(X : List UInt8).toArray⟩) ?_
 simp only [p3, p4]
 refine sv 19 (.string ⟨(Y : List UInt8).toArray⟩) ?_
 simp only [p3, p4]
 refine sv 20 (.string ⟨(Z : List UInt8).toArray⟩) ?_
 simp only [p3, p4]
 refine se ?_
 refine eff_bs 9 3 #[(.string ⟨(X : List UInt8).toArray⟩), (.string ⟨(Y : List UInt8).toArray⟩), (.string ⟨(Z : List UInt8).toArray⟩)] (some 21) rfl (fun _ => by kernel_rfl) (fun b5 w5 g5 L5 q5 => ?_)
 replace hB := hB.trans g5
 simp only [putl, p3, p4]
 refine se ?_
 refine ec 22 (right3 (X) (Y) (Z) L5) ?_
 rintro e6 w6 ⟨rfl, g6⟩
 refine ⟨_, rfl, ?_⟩
 replace hB := hB.trans g6
 simp only [p3, p4]
 refine sw 23 (.bool true) rfl (RunV.bool (x := !(((okT (X) && okT (Y)) && okT (Z)))) (rvk (by kernel_rfl)) (show (!(((okT (X) && okT (Y)) && okT (Z)))) = true by rw [hok]; rfl)) ?_
 simp only [p3, p4]
 refine sv 24 (.bool true) ?_
 simp only [p3, p4]
 refine sq_nil ?_
 refine k3 _ _ ?_
 try clear k3 K3
 refine wp_cond_true rfl ?_
 refine wp_seq_k (fun K7 k7 => ?_)
 refine rg [0, 1] ?_
 refine se ?_
 refine ec 25 (known2 _ (ht.gr hB)) ?_
 rintro e8 w8 ⟨rfl, g8⟩
 refine ⟨_, rfl, ?_⟩
 replace hB := hB.trans g8
 simp only [p3, p4]
 refine sv 6 (.bool true) ?_
 simp only [p3, p4]
 refine sq_nil ?_
 refine k7 _ _ ?_
 try clear k7 K7
 refine wp_ret ?_
 simp only [Exit.then]
 refine bodyPost_ret (v := (.bool true)) (ret_tmp rfl rfl) rfl ⟨?_, hB⟩
 exact rfl

theorem rational_order (X Y Z : List UInt8) (w : World) (ht : Tab w) (hm : Mx w) :
    Calls Tryz.prog 14 #[(.string ⟨(X : List UInt8).toArray⟩), (.string ⟨(Y : List UInt8).toArray⟩), (.string ⟨(Z : List UInt8).toArray⟩)] w fun e w' => e = .returned (.bool true) ∧ Gr w w' := by
  rcases Bool.eq_false_or_eq_true ((okT (X) && okT (Y)) && okT (Z)) with hok | hok
  · obtain ⟨a, rfl, ha, la⟩ := okT_rat (ok3_0 hok)
    obtain ⟨b, rfl, hb, lb⟩ := okT_rat (ok3_1 hok)
    obtain ⟨c, rfl, hc, lc⟩ := okT_rat (ok3_2 hok)
    by_cases hc0 : 0 < c
    · exact order_p a ha la b hb lb c hc lc hc0 w ht hm
    · exact order_n a ha la b hb lb c hc lc hc0 w ht hm
  · exact order_b X Y Z hok w ht hm

end Go.Proofs.YtloocadjbpgldaaGreatDoor
/- The law RationalOrder holds of every input: its row, and its card tied to the program's text. Printed by a program of the prover's. -/
namespace Go.Proofs.YtloocadjbpgldaaGreatDoor
open Go.ChangeShapes Go.WideShapes Go.ChangeAt Go.RowKit

theorem rationalOrder_table {W : World} (h : laidMetH Tryz.prog Rows.rationalOrderRow.laid W) : Tab W :=
  Lib.tabIs_of_head (rest := _) (g := 2) (t := 171) (e := 84) (n := 20) (by kernel_rfl) (by kernel_rfl) (by kernel_rfl) (by kernel_rfl) (by kernel_rfl) (by kernel_rfl) ((show laidMet Tryz.prog Rows.rationalOrderRow.laid W from (MakeChecks.laidMetH_plain _ _ _ (by kernel_rfl)) ▸ h).tail.tail)
theorem rationalOrder_maxlen {W : World} (h : W.ShapedOpen Tryz.prog) : Mx W :=
  Go.Proofs.cell_of_shapedOpen_int (zero := #[.int .i64 0]) (g := 3) (t := 3) h (of_decide_eq_true (by kernel_rfl)) (by kernel_rfl) rfl (by kernel_rfl) (by kernel_rfl) Tryz.underlying3
set_option maxRecDepth 100000 in
theorem rationalOrder_contract (H : Type) (enc : TypeId × Value → H) (W : World) (base : Nat) (args : Array Value) (ds gs : List (DataW H)) (before : List MemPlace)
    (hval : ∀ (j : Nat) t v, Tryz.f14.params[j]? = some t → args[j]? = some v → Value.okWide Tryz.prog W .any base t v)
    (hW : DataW.Whole enc Tryz.prog Tryz.f14.params.toList Rows.rationalOrderSpec.vars false W args.toList ds gs before) (hL : laidMetH Tryz.prog Rows.rationalOrderRow.laid W) (hsh : W.ShapedOpen Tryz.prog) :
    Calls Tryz.prog 14 args W fun e W' => ∃ v, e = .returned v ∧ Rows.rationalOrderSpec.post enc Tryz.prog Tryz.f14 false true false false W args v W' := by
  have hW' := hW
  obtain ⟨p, q, hA0, hV, rfl, hfz, hnd⟩ := hW
  have hA : DataW.TrodAll enc Tryz.prog W 0 (fun _ => true) true Tryz.f14.params.toList args.toList ds p := hA0
  rw [Tryz.params14] at hA hval
  obtain ⟨v0, vs0, d0, ds0, p0, q0, hargs, rfl, rfl, h0, r0⟩ := trodAll_cons hA
  obtain ⟨v1, vs1, d1, ds1, p1, q1, rfl, rfl, rfl, h1, r1⟩ := trodAll_cons r0
  obtain ⟨v2, vs2, d2, ds2, p2, q2, rfl, rfl, rfl, h2, r2⟩ := trodAll_cons r1
  obtain ⟨rfl, rfl, rfl⟩ := trodAll_nil r2
  obtain rfl : args = #[v0, v1, v2] := by cases args; simp_all
  obtain ⟨rfl, rfl⟩ := trodVars_none hV
  obtain ⟨n0_0, rfl⟩ := open_text (by kernel_rfl) (hval 0 9 v0 rfl rfl)
  obtain ⟨n1_0, rfl⟩ := open_text (by kernel_rfl) (hval 1 9 v1 rfl rfl)
  obtain ⟨n2_0, rfl⟩ := open_text (by kernel_rfl) (hval 2 9 v2 rfl rfl)
  refine (rational_order n0_0 n1_0 n2_0 W (rationalOrder_table hL) (rationalOrder_maxlen hsh)).mono fun e W' ⟨he, hg⟩ => ?_
  subst he
  exact ⟨_, rfl, law_post (tb := 4) laidOut (by kernel_rfl) (by kernel_rfl) (by kernel_rfl) rfl hW' rfl hg⟩
noncomputable def rationalOrder_world (os : Os) : World := World.laidAll Tryz.prog os Rows.rationalOrderRow.laid
theorem rationalOrder_met (os : Os) : laidMet Tryz.prog Rows.rationalOrderRow.laid ((rationalOrder_world os).forCall (fun _ _ => 0) ⟨#[], #[.string ⟨#[]⟩, .string ⟨#[]⟩, .string ⟨#[]⟩], []⟩).memory :=
  laidMet_laidAll _ (by kernel_rfl) (by kernel_rfl)
theorem rationalOrder_reads (os : Os) {H : Type} (enc : TypeId × Value → H) : ∃ places, DataW.whole enc Tryz.prog ((rationalOrder_world os).forCall (fun _ _ => 0) ⟨#[], #[.string ⟨#[]⟩, .string ⟨#[]⟩, .string ⟨#[]⟩], []⟩).memory Tryz.f14.params.toList Rows.rationalOrderSpec.vars false (#[.string ⟨#[]⟩, .string ⟨#[]⟩, .string ⟨#[]⟩] : Array Value).toList 8 = some ([.lit (.string []), .lit (.string []), .lit (.string [])], [], places) :=
  ⟨[], by kernel_rfl⟩
set_option maxRecDepth 100000 in
theorem rationalOrder_lifted (os : Os) (started : os.Started) (H : Type) (enc : TypeId × Value → H) (F : Stop.Interp) :
    ReturnsInHanded {} Tryz.checked os 14 .any ((OpenSpec.ofChange Rows.rationalOrderSpec).preRow enc Tryz.prog Tryz.f14 Rows.rationalOrderRow.domain false Rows.rationalOrderRow.laid) (((OpenSpec.ofChange Rows.rationalOrderSpec).at F).post enc Tryz.prog Tryz.f14 false true false false) := by
  obtain ⟨places, hx⟩ := rationalOrder_reads os enc
  refine returnsInHanded_of_row (C := Tryz.checked) (s := OpenSpec.ofChange Rows.rationalOrderSpec) own started (by kernel_rfl) Tryz.func14
    (witness_row_sh (enc := enc) (C := Tryz.checked) false (rationalOrder_world os) #[.string ⟨#[]⟩, .string ⟨#[]⟩, .string ⟨#[]⟩] (World.laidAll_os _ _ _) (World.shaped_of_ZipB (by kernel_rfl) (by kernel_rfl)) (by kernel_rfl)
      (OpenSpec.preRow_of_cond 8 hx (by kernel_rfl) (fun k hk => by cases hk) (by kernel_rfl) (by rw [MakeChecks.laidMetH_plain _ _ _ (by kernel_rfl)]; exact rationalOrder_met os))) ?_
  intro W base args ds gs before hval hW _ _ _ hL hsh _
  exact rationalOrder_contract H enc W base args ds gs before hval hW hL hsh
theorem rationalOrder_said : Rows.RationalOrderSaid :=
  OpenClaim.holds_of_cond 14 Tryz.f14 rfl rfl rfl rfl rfl rfl rfl ⟨rfl, rfl, rfl, rfl, rfl⟩ rfl rfl rfl rfl rfl (by kernel_rfl) Tryz.func14 (by kernel_rfl)
    (of_decide_eq_true (by kernel_rfl)) (by unfold Func.isWrapper; first | (rw [if_pos (by decide +kernel)]; kernel_rfl) | (rw [if_neg (by decide +kernel)]; exact ⟨rfl, rfl⟩))
    (fun os started H enc _ F => by rw [OpenClaim.pre_eq_preRow]; exact rationalOrder_lifted os started H enc F)
theorem rationalOrder_plain (f : FuncId) (fn : Func) (hf : Tryz.pinned.checked.prog.funcNamed "dowel/dowellaw02.RationalOrder" = some f) (hfn : Tryz.pinned.checked.prog.funcs[f]? = some fn) :
    true = Tryz.pinned.checked.prog.looks [] ∧ ∀ (j : Nat) t, fn.params[j]? = some t → Tryz.pinned.checked.prog.wantsStandIn t = false := by
  obtain rfl : f = 14 := Option.some.inj ((show Tryz.prog.funcNamed "dowel/dowellaw02.RationalOrder" = some 14 by kernel_rfl).symm.trans hf) |>.symm
  obtain rfl : fn = Tryz.f14 := (Option.some.inj (Tryz.func14.symm.trans hfn)).symm
  refine ⟨by kernel_rfl, fun j t ht => ?_⟩
  rw [Tryz.params14] at ht
  have hm := Array.mem_of_getElem? ht
  have hall : (#[9, 9, 9] : Array TypeId).toList.all (fun t => !Tryz.prog.wantsStandIn t) = true := by kernel_rfl
  have := List.all_eq_true.1 hall t (Array.mem_toList_iff.2 hm)
  have h3 : Tryz.prog.wantsStandIn t = false := by simpa using this
  exact h3
/-- the card -/
theorem rationalOrder_card : Rows.RationalOrderCardSaid :=
  Claim7.holds_tied_plain_at .later [] _ _ _ _ rationalOrder_said (fun _ h => by cases h) (by kernel_rfl) (fun _ h => by cases h) rationalOrder_row_tie rfl ⟨rfl, rfl⟩ (by kernel_rfl) rfl rationalOrder_plain (by kernel_rfl)
end Go.Proofs.YtloocadjbpgldaaGreatDoor
