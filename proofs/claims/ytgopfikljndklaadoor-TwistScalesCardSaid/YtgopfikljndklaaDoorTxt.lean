/- What the text of an integer asks. -/
import Derived.Test.YtgopfikljndklaaDoorStr
import Derived.Test.YtgopfikljndklaaDoorInt8
namespace Go.Proofs.YtgopfikljndklaaDoor
open Go.RowKit

theorem itoa_n (n : Nat) (h1 : n < 1000000000) {w : World} (ht : Tab w) :
    Calls Tryd.prog 71 #[.int .i64 (n : Int)] w fun e w' => e = .returned (.string ⟨(Lib.decDigits n).toArray⟩) ∧ Gr w w' := itoa_t n (by omega) (by omega) ht
theorem short9 {ao : Option Addr} {la ca u : Nat} {w : World} (h : Mag w ao la ca (u : Int)) (hl : la ≤ 1000000) :
    Calls Tryd.prog 70 #[.slice ao la ca, .int .u32 1000000000] w fun e w' =>
      (∃ go k cap, e = .returned (.tuple #[.slice go k cap, .int .u32 ((u % 1000000000 : Nat) : Int)]) ∧ Mag w' go k cap ((u / 1000000000 : Nat) : Int)) ∧ Gr w w' :=
  short_c ao la ca u 1000000000 w (by omega) h (by omega) (by omega)
theorem Mag.pos0 {w : World} {ao : Option Addr} {la ca u : Nat} (h : Mag w ao la ca (u : Int)) (hb : decide ((0 : Int) < (la : Int)) = true) : 0 < u := by
  have h0 : (0 : Int) < la := by simpa using hb
  rcases Nat.eq_zero_or_pos u with e | e
  · have := h.nl.len_zero.2 (by omega); omega
  · exact e
theorem Mag.zero0 {w : World} {ao : Option Addr} {la ca u : Nat} (h : Mag w ao la ca (u : Int)) (hb : decide ((0 : Int) < (la : Int)) = false) : u = 0 := by
  have h0 : ¬ (0 : Int) < la := by simpa using hb
  have := h.nl.len_zero.1 (by omega)
  omega
theorem Mag.len9 {w : World} {ao : Option Addr} {la ca u k : Nat} (h : Mag w ao la ca (u : Int)) (hu : u < 2 ^ k) (hk : k ≤ 1000000) : la ≤ 1000000 := by
  have := h.nl.len_sz (show Sz k (u : Int) by unfold Sz; simpa using hu)
  omega
end Go.Proofs.YtgopfikljndklaaDoor
