/- The walks through integers: trim, signed, order, plus, minus. -/
import Derived.Test.YtgopfikljndklaaDoorDef
import Derived.Deep.QuietTactic
import Derived.BigQuiet
namespace Go.Proofs.YtgopfikljndklaaDoor
open Go.RowKit

set_option maxHeartbeats 400000 in
theorem trim_c (ao : Option Addr) (len cap : Nat) (n : Int) (w : World) (hl : len ≤ 2000000) (hcap : len ≤ cap) (h0 : 0 ≤ n) (h1 : hi n len = 0)
   (hr : Row w ao len (dg n)) :
    Calls Tryd.prog 75 #[.slice ao len cap] w fun e w' => (∃ k, e = .returned (.slice ao k cap) ∧ Mag w ao k cap n ∧ k ≤ len) ∧ w = w' := by
  go_enter Tryd.func75, Tryd.ntmps75
  go_wp2
  go_loop [0] (fun v => ∃ k : Nat, k ≤ len ∧ v = .slice ao k cap ∧ Hid (hi n k = 0)) (fun v => match v with | .slice _ n _ => n | _ => 0)
  case atStart => exact ⟨len, Nat.le_refl _, rfl, h1⟩
  case round =>
    obtain ⟨k, hk, rfl, hz⟩ := hrel
    by_cases hp : 0 < k
    · obtain ⟨b, off, rfl, hcs⟩ := hr.at_ (by omega)
      have hcell := hcs (k-1) (by omega)
      have e1 : ((k:Int) - 1) = ((k-1 : Nat) : Int) := by omega
      clear hcs
      go_wp2
      · have h2 : (dg n (k - 1) == 0) = true := by assumption
        go_round
        case rel => exact ⟨k - 1, by omega, rfl, hi_trim hz.out (k - 1) (by omega) (fun j h3 h4 => by obtain rfl : j = k - 1 := by omega
                                                                                                      simpa using h2)⟩
        case measure => simp; omega
      · have h2 : (dg n (k - 1) == 0) = false := by assumption
        go_ret
        exact ⟨⟨k, rfl, ⟨by omega, NL.mk' h0 hz.out (fun _ => by simpa using h2), hr.shorter hk⟩, hk⟩, rfl⟩
    · go_wp2
      go_ret
      obtain rfl : k = 0 := by omega
      exact ⟨⟨0, rfl, ⟨by omega, NL.mk' h0 hz.out (by omega), Row.nil _ _ _⟩, by omega⟩, rfl⟩

theorem info29 : (Tryd.prog.info? 29).map (fun i => (i.zero, i.size, i.bytes)) = some (some (.agg #[.bool false, .slice none 0 0]), 2, 32) := by kernel_rfl

set_option maxHeartbeats 400000 in
theorem signed_c (neg : Bool) (ao : Option Addr) (len cap : Nat) (n : Int) (w : World) (hl : len ≤ 2000000) (hcap : len ≤ cap) (h0 : 0 ≤ n) (h1 : hi n len = 0)
   (hr : Row w ao len (dg n)) :
    Calls Tryd.prog 62 #[.bool neg, .slice ao len cap] w fun e w' => (∃ k, e = .returned (.agg #[.bool (neg && decide (0 < k)), .slice ao k cap]) ∧ Mag w ao k cap n ∧ k ≤ len) ∧ Below w.heap.size w w' := by
  go_enter Tryd.func62, Tryd.ntmps62
  go_wp2_with fail
  refine (trim_c _ _ _ n _ hl hcap h0 h1 (hr.below ((Below.refl _ _).alloc (Nat.le_refl _) _))).mono ?_
  rintro e w1 ⟨⟨k, rfl, hm, hk⟩, rfl⟩
  cases neg
  · go_wp2
    exact bodyPost_ret (v := .agg #[.bool false, .slice ao k cap]) (by simp [results, Tryd.results62, go_sem]) rfl ⟨⟨k, rfl, ⟨hm.cap, hm.nl, hr.shorter hk⟩, hk⟩, (Below.refl _ _).alloc (Nat.le_refl _) _⟩
  · go_wp2
    exact bodyPost_ret (v := .agg #[.bool (decide (0 < k)), .slice ao k cap]) (by simp [results, Tryd.results62, go_sem]) rfl ⟨⟨k, by simp, ⟨hm.cap, hm.nl, hr.shorter hk⟩, hk⟩, (Below.refl _ _).alloc (Nat.le_refl _) _⟩

theorem lt_of_dg {a b : Int} {k : Nat} (h : hi a (k + 1) = hi b (k + 1)) (hd : dg a k < dg b k) : a < b := by
  refine Int.lt_of_not_ge fun hge => ?_
  have h1 := hi_mono hge k
  have h2 := hi_split a k
  have h3 := hi_split b k
  omega
/-- Go's order of two magnitudes -/
def sgn (z : Int) : Int := if z < 0 then -1 else if z = 0 then 0 else 1
theorem sgn_neg {z : Int} (h : z < 0) : sgn z = -1 := by simp [sgn, h]
theorem sgn_pos {z : Int} (h : 0 < z) : sgn z = 1 := by unfold sgn; rw [if_neg (by omega), if_neg (by omega)]
theorem sgn_zero : sgn 0 = 0 := rfl
theorem ret_int {k : IntKind} {a b : Int} (h : a = b) : Ending.returned (.int k a) = .returned (.int k b) := by rw [h]

set_option maxHeartbeats 400000 in
theorem order_c (ao bo : Option Addr) (la lb ca cb : Nat) (a b : Int) (w : World) (hla : la ≤ 2000000) (hlb : lb ≤ 2000000)
   (ha : Mag w ao la ca a) (hb : Mag w bo lb cb b) :
    Calls Tryd.prog 76 #[.slice ao la ca, .slice bo lb cb] w fun e w' => e = .returned (.int .i64 (sgn (a - b))) ∧ Below w.heap.size w w' := by
  by_cases hl : la = lb
  · subst hl
    have hne : ((la : Int) != la) = false := by simp
    go_enter Tryd.func76, Tryd.ntmps76
    go_wp2
    go_loopw [5] (fun i wr => ∃ k : Nat, k ≤ la ∧ i = .int .i64 ((k : Int) - 1) ∧ Hid (hi a k = hi b k) ∧ Below w.heap.size w wr) (fun i _ => (intOf i + 1).toNat)
    case atStart => exact ⟨la, Nat.le_refl _, rfl, by rw [Hid, ha.nl.top, hb.nl.top], Below.refl _ _⟩
    case round =>
      obtain ⟨k, hk, rfl, hz, hB⟩ := hrel
      by_cases hp : 0 < k
      · obtain ⟨b1, off1, rfl, hc1⟩ := (ha.row.below hB).at_ (by omega)
        obtain ⟨b2, off2, rfl, hc2⟩ := (hb.row.below hB).at_ (by omega)
        have hcell1 := hc1 (k-1) (by omega)
        have hcell2 := hc2 (k-1) (by omega)
        obtain ⟨j, rfl⟩ : ∃ j, k = j + 1 := ⟨k - 1, by omega⟩
        have e1 : (((j + 1 : Nat) : Int) - 1) = (j : Int) := by omega
        have e2 : j + 1 - 1 = j := by omega
        rw [e2] at hcell1 hcell2
        simp only [e1]
        clear hc1 hc2 e1 e2
        have i0 : (0 : Int) ≤ (j : Int) := by omega
        have i1 : (j : Int) < (la : Int) := by omega
        go_wp2
        go_quiet (fail)
        go_wp2
        · have h : (dg a j != dg b j) = true := by assumption
          go_quiet (fail)
          go_wp2
          · have h2 : dg a j < dg b j := by assumption
            go_ret
            exact ⟨ret_int (sgn_neg (by have := lt_of_dg hz.out h2; omega)).symm, hB.drewN _ |>.drewN _⟩
          · have h2 : dg b j ≤ dg a j := by assumption
            go_ret
            have h3 : dg a j ≠ dg b j := by simpa using h
            exact ⟨ret_int (sgn_pos (by have := lt_of_dg hz.out.symm (show dg b j < dg a j by omega); omega)).symm, hB.drewN _ |>.drewN _⟩
        · have h : (dg a j != dg b j) = false := by assumption
          go_roundw
          case rel =>
            refine ⟨j, by omega, rfl, ?_, hB.drewN _⟩
            have h1 := hi_split a j
            have h2 := hi_split b j
            have h3 := hz.out
            have h4 : dg a j = dg b j := by simpa using h
            show hi a j = hi b j
            omega
          case measure => simp [intOf]
      · obtain rfl : k = 0 := by omega
        go_wp2
        go_ret
        have h3 : a = b := hz.out
        exact ⟨ret_int (by rw [h3, Int.sub_self]; rfl), hB⟩
  · have hne : ((la : Int) != lb) = true := by simp; omega
    by_cases hlt : la < lb
    · go_enter Tryd.func76, Tryd.ntmps76
      go_wp2
      go_ret
      exact ⟨ret_int (sgn_neg (by have := ha.nl.lt_of_len hb.nl hlt; omega)).symm, Below.refl _ _⟩
    · go_enter Tryd.func76, Tryd.ntmps76
      go_wp2
      go_ret
      exact ⟨ret_int (sgn_pos (by have := hb.nl.lt_of_len ha.nl (by omega); omega)).symm, Below.refl _ _⟩
end Go.Proofs.YtgopfikljndklaaDoor
