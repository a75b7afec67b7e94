/- Decimal digits in groups of nine. -/
import Derived.Lib.ItoaNum
import Derived.Lib.ItoaMem
import Derived.Lib.Repeat
import Derived.Lib.Join
namespace Go.Proofs.YtgopfikljndklaaDoor
open Go

/-- r in k digits -/
def padk : Nat → Nat → List UInt8
  | 0, _ => []
  | k + 1, r => padk k (r / 10) ++ [UInt8.ofNat (48 + r % 10)]
theorem padk_length : ∀ k r, (padk k r).length = k
  | 0, _ => rfl
  | k + 1, r => by simp [padk, padk_length k]
theorem dec_step {u : Nat} (h : 10 ≤ u) : Lib.decDigits u = Lib.decDigits (u / 10) ++ [UInt8.ofNat (48 + u % 10)] := by
  rw [Lib.decDigits, dif_neg (by omega)]
theorem dec_small {u : Nat} (h : u < 10) : Lib.decDigits u = [UInt8.ofNat (48 + u)] := by rw [Lib.decDigits, dif_pos h]
theorem dec_split : ∀ (k q r : Nat), 0 < q → r < 10 ^ k → Lib.decDigits (q * 10 ^ k + r) = Lib.decDigits q ++ padk k r
  | 0, q, r, _, hr => by simp at hr; subst hr; simp [padk]
  | k + 1, q, r, hq, hr => by
    have e : q * 10 ^ (k + 1) + r = (q * 10 ^ k + r / 10) * 10 + r % 10 := by
      rw [Nat.pow_succ, Nat.add_mul, ← Nat.mul_assoc]; omega
    have hp : 0 < 10 ^ k := Nat.pow_pos (by omega)
    have hq1 : 1 ≤ q * 10 ^ k := Nat.mul_pos hq hp
    rw [e, dec_step (by omega)]
    have e1 : ((q * 10 ^ k + r / 10) * 10 + r % 10) / 10 = q * 10 ^ k + r / 10 := by omega
    have e2 : ((q * 10 ^ k + r / 10) * 10 + r % 10) % 10 = r % 10 := by omega
    rw [e1, e2, dec_split k q (r / 10) hq (by rw [Nat.pow_succ] at hr; omega), List.append_assoc]
    rfl
theorem padk_zeros : ∀ k, padk k 0 = Lib.repeatL [48] k
  | 0 => rfl
  | k + 1 => by
    have h : ∀ k, Lib.repeatL [48] k ++ [48] = [48] ++ Lib.repeatL [48] k := fun k => by
      induction k with
      | zero => rfl
      | succ k ih => simp only [Lib.repeatL, List.append_assoc, ih]
    rw [padk, Nat.zero_div, padk_zeros k]
    exact h k
theorem dec_len_le : ∀ (k u : Nat), u < 10 ^ (k + 1) → (Lib.decDigits u).length ≤ k + 1
  | 0, u, h => by rw [dec_small (by simpa using h)]; simp
  | k + 1, u, h => by
    by_cases h1 : u < 10
    · rw [dec_small h1]; simp
    · rw [dec_step (by omega)]
      have := dec_len_le k (u / 10) (by rw [Nat.pow_succ] at h; omega)
      simp; omega
theorem dec_pos (u : Nat) : 0 < (Lib.decDigits u).length := by
  by_cases h1 : u < 10
  · rw [dec_small h1]; simp
  · rw [dec_step (by omega)]; simp
theorem padk_dec : ∀ (k u : Nat), u < 10 ^ (k + 1) → padk (k + 1) u = Lib.repeatL [48] (k + 1 - (Lib.decDigits u).length) ++ Lib.decDigits u
  | 0, u, h => by
    rw [dec_small (by simpa using h)]
    have : u % 10 = u := by simp at h; omega
    simp [padk, this, Lib.repeatL]
  | k + 1, u, h => by
    rw [padk]
    by_cases h1 : u < 10
    · have e1 : u / 10 = 0 := by omega
      have e2 : u % 10 = u := by omega
      rw [e1, e2, padk_zeros, dec_small h1]; rfl
    · rw [padk_dec k (u / 10) (by rw [Nat.pow_succ] at h; omega), List.append_assoc, ← dec_step (by omega)]
      congr 2
      rw [dec_step (u := u) (by omega)]
      simp
/-- a group of nine digits, or the highest digits -/
def grp (u : Nat) : List UInt8 := if 0 < u / 1000000000 then Lib.repeatL [48] (9 - (Lib.decDigits (u % 1000000000)).length) ++ Lib.decDigits (u % 1000000000) else Lib.decDigits (u % 1000000000)
/-- the groups of a number, the lowest one first -/
def grps (u : Nat) : List (List UInt8) := if h : u = 0 then [] else grp u :: grps (u / 1000000000)
termination_by u
decreasing_by omega
theorem grps_zero : grps 0 = [] := by rw [grps]; simp
theorem grps_pos {u : Nat} (h : 0 < u) : grps u = grp u :: grps (u / 1000000000) := by rw [grps, dif_neg (by omega)]
theorem grps_text : ∀ (n u : Nat), u ≤ n → 0 < u → (grps u).reverse.flatten = Lib.decDigits u := by
  intro n
  induction n with
  | zero => intro u h h0; omega
  | succ n ih =>
    intro u h h0
    rw [grps_pos h0, List.reverse_cons, List.flatten_append]
    simp only [List.flatten_cons, List.flatten_nil, List.append_nil]
    unfold grp
    by_cases hq : 0 < u / 1000000000
    · rw [if_pos hq, ih _ (by omega) hq]
      have hr : u % 1000000000 < 10 ^ (8 + 1) := by omega
      rw [← padk_dec 8 _ hr]
      have := dec_split 9 (u / 1000000000) (u % 1000000000) hq (by omega)
      rw [← this]
      congr 1
      omega
    · have e : u / 1000000000 = 0 := by omega
      rw [if_neg hq, e, grps_zero]
      simp only [List.reverse_nil, List.flatten_nil, List.nil_append]
      congr 1
      omega
theorem join_nil_sep (l : List (List UInt8)) : Lib.join l [] = l.flatten := by
  unfold Lib.join List.intercalate
  induction l with
  | nil => rfl
  | cons a l ih =>
    cases l with
    | nil => simp
    | cons b l => simp only [List.intersperse_cons_cons, List.flatten_cons, List.nil_append] at ih ⊢; rw [ih]
theorem grps_len : ∀ (k u : Nat), u < 2 ^ k → (grps u).length ≤ k
  | 0, u, h => by
    have : u = 0 := by simpa using h
    subst this; rw [grps_zero]; simp
  | k + 1, u, h => by
    by_cases h0 : u = 0
    · subst h0; rw [grps_zero]; simp
    · rw [grps_pos (by omega), List.length_cons]
      have := grps_len k (u / 1000000000) (by rw [Nat.pow_succ] at h; omega)
      omega
theorem grps_len0 {u : Nat} (h : 0 < u) : 0 < (grps u).length := by rw [grps_pos h]; simp
theorem dec_len_bits (k u : Nat) (h : u < 2 ^ k) : (Lib.decDigits u).length ≤ k + 1 := by
  refine dec_len_le k u ?_
  have h1 : 2 ^ k ≤ 10 ^ k := Nat.pow_le_pow_left (by omega) k
  have h2 : 10 ^ k ≤ 10 ^ (k + 1) := Nat.pow_le_pow_right (by omega) (by omega)
  omega
theorem dec9 (u : Nat) : (Lib.decDigits (u % 1000000000)).length ≤ 9 := dec_len_le 8 _ (by omega)
theorem grps_step {L : List (List UInt8)} {u N : Nat} {X : List UInt8} (h : L ++ grps u = grps N) (h0 : 0 < u) (hX : X = grp u) : (L ++ [X]) ++ grps (u / 1000000000) = grps N := by
  rw [← h, grps_pos h0, hX, List.append_assoc]; rfl
theorem grp_hi {u : Nat} (h : 0 < u / 1000000000) : Lib.repeatL [48] (9 - (Lib.decDigits (u % 1000000000)).length) ++ Lib.decDigits (u % 1000000000) = grp u := by unfold grp; rw [if_pos h]
theorem grp_lo {u : Nat} (h : ¬ 0 < u / 1000000000) : Lib.decDigits (u % 1000000000) = grp u := by unfold grp; rw [if_neg h]
theorem grp_len (u : Nat) : (grp u).length ≤ 9 := by
  have := dec_len_le 8 (u % 1000000000) (by omega)
  unfold grp
  split
  · rw [List.length_append, Lib.repeatL_length]; simp; omega
  · exact this
end Go.Proofs.YtgopfikljndklaaDoor
