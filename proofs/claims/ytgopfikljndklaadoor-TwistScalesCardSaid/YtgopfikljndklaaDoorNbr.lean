/- The text of a rational. -/
import Derived.Test.YtgopfikljndklaaDoorGen11
import Derived.Test.YtgopfikljndklaaDoorGen12
namespace Go.Proofs.YtgopfikljndklaaDoor
open Go.RowKit

/-- the text of a rational -/
def ratL (q : Rat) : List UInt8 := if q.den = 1 then Lib.itoa q.num else Lib.itoa q.num ++ [47] ++ Lib.itoa (q.den : Int)
theorem ratL_w {q : Rat} (h : q.den = 1) : ratL q = Lib.itoa q.num := if_pos h
theorem ratL_f {q : Rat} (h : ¬ q.den = 1) : ratL q = Lib.itoa q.num ++ [47] ++ Lib.itoa (q.den : Int) := if_neg h
theorem itoa_len {k : Nat} {z : Int} (h : Sz k z) : (Lib.itoa z).length ≤ k + 2 := by
  unfold Lib.itoa
  have h1 := dec_len_bits k z.natAbs h
  split
  · simp; omega
  · have : z.toNat = z.natAbs := by omega
    rw [this]; omega
end Go.Proofs.YtgopfikljndklaaDoor
