/- Texts of small integers. -/
import Derived.Test.YtgopfikljndklaaDoorGen13
namespace Go.Proofs.YtgopfikljndklaaDoor
open Go.RowKit

theorem ratL_int (z : Int) : ratL (z : Rat) = Lib.itoa z := by rw [ratL_w (Rat.den_intCast _), Rat.num_intCast]
theorem ratL_lit {q : Rat} {L : List UInt8} (z : Nat) (e : q = ((z : Int) : Rat)) (h1 : z < 10) (hL : [UInt8.ofNat (48 + z)] = L) : ratL q = L := by
  rw [e, ratL_int, ← hL]
  unfold Lib.itoa
  rw [if_neg (by omega), Int.toNat_natCast, dec_small h1]
theorem ratL_neg {q : Rat} {L : List UInt8} (z : Nat) (e : q = ((-(z : Int) : Int) : Rat)) (h0 : 0 < z) (h1 : z < 10) (hL : [45, UInt8.ofNat (48 + z)] = L) : ratL q = L := by
  rw [e, ratL_int, ← hL]
  unfold Lib.itoa
  rw [if_pos (by omega)]
  have : (-(z : Int)).natAbs = z := by omega
  rw [this, dec_small h1]
theorem veq_t {a1 a2 a3 c1 c2 c3 : Rat} (h1 : a1 = c1) (h2 : a2 = c2) (h3 : a3 = c3) : (vcmp a1 a2 a3 c1 c2 c3 == (0 : Int)) = true := by
  rw [beq_iff_eq, vcmp_zero]; exact ⟨h1, h2, h3⟩
theorem veq_f {a1 a2 a3 c1 c2 c3 : Rat} (h : ¬(a1 = c1 ∧ a2 = c2 ∧ a3 = c3)) : (vcmp a1 a2 a3 c1 c2 c3 == (0 : Int)) = false := by
  have : ¬ vcmp a1 a2 a3 c1 c2 c3 = 0 := fun e => h (vcmp_zero.1 e)
  simpa using this
theorem req_t {a c : Rat} (h : a = c) : (rcmp a c == (0 : Int)) = true := by rw [beq_iff_eq, rcmp_zero]; exact h
theorem req_f {a c : Rat} (h : ¬ a = c) : (rcmp a c == (0 : Int)) = false := by
  have : ¬ rcmp a c = 0 := fun e => h (rcmp_zero.1 e)
  simpa using this
end Go.Proofs.YtgopfikljndklaaDoor
