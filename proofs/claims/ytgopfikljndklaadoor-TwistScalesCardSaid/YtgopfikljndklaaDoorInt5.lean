/- The contracts on magnitudes in the form that the printed walks use. -/
import Derived.Test.YtgopfikljndklaaDoorShort
import Derived.Test.YtgopfikljndklaaDoorInt2
import Derived.Test.YtgopfikljndklaaDoorInt4
namespace Go.Proofs.YtgopfikljndklaaDoor
open Go.RowKit

theorem Mag.gr {w w' : World} {ao : Option Addr} {len cap : Nat} {n : Int} (h : Mag w ao len cap n) (hb : Gr w w') : Mag w' ao len cap n := h.kp hb.kp
theorem Mag.one0 {w : World} {ao : Option Addr} {len cap : Nat} {n : Int} (_h : Mag w ao len cap n) : (Value.slice ao len cap).oneCell' = true := rfl

/-- digits, perhaps with zeros at the end -/
structure Raw (w : World) (ao : Option Addr) (m cap : Nat) (n : Int) : Prop where
  cap : m ≤ cap
  len : m ≤ 2000000
  nonneg : 0 ≤ n
  top : hi n m = 0
  row : Row w ao m (dg n)
theorem Raw.kp {w w' : World} {ao : Option Addr} {len cap : Nat} {n : Int} (h : Raw w ao len cap n) (hb : Kp w w') : Raw w' ao len cap n := ⟨h.cap, h.len, h.nonneg, h.top, h.row.kp hb⟩
theorem Raw.gr {w w' : World} {ao : Option Addr} {len cap : Nat} {n : Int} (h : Raw w ao len cap n) (hb : Gr w w') : Raw w' ao len cap n := h.kp hb.kp

theorem plus_m {w : World} {ao bo : Option Addr} {la lb ca cb : Nat} {a b : Int} (ha : Mag w ao la ca a) (hb : Mag w bo lb cb b) (hla : la ≤ 1000000) (hlb : lb ≤ 1000000) :
    Calls Tryd.prog 81 #[.slice ao la ca, .slice bo lb cb] w fun e w' => (∃ go n, e = .returned (.slice go n n) ∧ Raw w' go n n (a + b)) ∧ Gr w w' := by
  refine (plus_c ao bo la lb ca cb a b w hla hlb ha hb).mono ?_
  rintro e w1 ⟨⟨g, n, he, hn, hO, ht⟩, hB⟩
  exact ⟨⟨_, n, he, Nat.le_refl _, by omega, by have := ha.nl.nonneg; have := hb.nl.nonneg; omega, ht, hO.row⟩, hB⟩
theorem minus_m {w : World} {ao bo : Option Addr} {la lb ca cb : Nat} {a b : Int} (ha : Mag w ao la ca a) (hb : Mag w bo lb cb b) (hla : la ≤ 1000000) (hlb : lb ≤ 1000000) (hle : b ≤ a) :
    Calls Tryd.prog 82 #[.slice ao la ca, .slice bo lb cb] w fun e w' => (∃ go n, e = .returned (.slice go n n) ∧ Raw w' go n n (a - b)) ∧ Gr w w' := by
  refine (minus_c ao bo la lb ca cb a b w hla hlb hle ha hb).mono ?_
  rintro e w1 ⟨⟨g, he, hO, ht⟩, hB⟩
  exact ⟨⟨_, la, he, Nat.le_refl _, by omega, by omega, ht, hO.row⟩, hB⟩
theorem order_m {w : World} {ao bo : Option Addr} {la lb ca cb : Nat} {a b : Int} (ha : Mag w ao la ca a) (hb : Mag w bo lb cb b) (hla : la ≤ 1000000) (hlb : lb ≤ 1000000) :
    Calls Tryd.prog 76 #[.slice ao la ca, .slice bo lb cb] w fun e w' => e = .returned (.int .i64 (sgn (a - b))) ∧ Gr w w' :=
  order_c ao bo la lb ca cb a b w (by omega) (by omega) ha hb
theorem signed_m {w : World} {ao : Option Addr} {len cap : Nat} {n : Int} {neg : Bool} (h : Raw w ao len cap n) :
    Calls Tryd.prog 62 #[.bool neg, .slice ao len cap] w fun e w' => (∃ k, e = .returned (.agg #[.bool (neg && decide (0 < k)), .slice ao k cap]) ∧ Mag w' ao k cap n) ∧ Gr w w' := by
  refine (signed_c neg ao len cap n w h.len h.cap h.nonneg h.top h.row).mono ?_
  rintro e w1 ⟨⟨k, he, hm, _⟩, hB⟩
  exact ⟨⟨k, he, hm.gr hB⟩, hB⟩
theorem sgn_nonneg {z : Int} (h : 0 ≤ z) : 0 ≤ sgn z := by unfold sgn; rw [if_neg (by omega)]; split <;> omega
theorem IsInt.mag {w : World} {k : Nat} {z : Int} {s : Bool} {ao : Option Addr} {len cap : Nat} (h : IsInt w k (.bool s) (.slice ao len cap) z) : s = decide (z < 0) ∧ Mag w ao len cap (z.natAbs : Int) ∧ Sz k z := by
  obtain ⟨ao', len', cap', h1, h2, h3, h4⟩ := h
  simp only [Value.bool.injEq, Value.slice.injEq] at h1 h2
  obtain ⟨rfl, rfl, rfl⟩ := h2
  exact ⟨h1, h3, h4⟩
end Go.Proofs.YtgopfikljndklaaDoor
