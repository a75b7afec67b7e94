/- The walks through division: short, raised, lowered. -/
import Derived.Test.YtgopfikljndklaaDoorInt5
import Derived.Laws.BitsAllLaws
namespace Go.Proofs.YtgopfikljndklaaDoor
open Go.RowKit

theorem or_add (i : Nat) (a b : Nat) (h : b < 2 ^ i) : (a * 2 ^ i) ||| b = a * 2 ^ i + b := by
  have := Nat.shiftLeft_add_eq_or_of_lt h a
  rw [Nat.shiftLeft_eq] at this
  exact this.symm
theorem or64 (r d : Int) (h0 : 0 ≤ r) (h1 : r < 4294967296) (h2 : 0 ≤ d) (h3 : d < 4294967296) : bits BinOp.or IntKind.u64 (r * 4294967296) d = r * 4294967296 + d := by
  obtain ⟨a, rfl⟩ := Int.eq_ofNat_of_zero_le h0
  obtain ⟨b, rfl⟩ := Int.eq_ofNat_of_zero_le h2
  have e : ((a : Int) * 4294967296) = ((a * 2 ^ 32 : Nat) : Int) := by simp
  rw [e, u64_or_nat _ _ (by omega) (by omega), or_add 32 a b (by omega)]
  simp

set_option maxRecDepth 100000 in
set_option maxHeartbeats 1000000 in
theorem short_c (ao : Option Addr) (la ca : Nat) (a x : Int) (w : World) (hla : la ≤ 1000000) (ha : Mag w ao la ca a) (hx0 : 0 < x) (hx1 : x < 4294967296) :
    Calls Tryd.prog 70 #[.slice ao la ca, .int .u32 x] w fun e w' => (∃ go k cap, e = .returned (.tuple #[.slice go k cap, .int .u32 (a % x)]) ∧ Mag w' go k cap (a / x)) ∧ Gr w w' := by
  go_enter Tryd.func70, Tryd.ntmps70
  go_wp2_with (at_make; refine wpList_make32 _ rfl _ _ rfl _ _ la rfl rfl (by omega) (by omega) (by omega) ?_)
  intro w1 hO hB hsz
  go_wp2
  go_loopw [7, 8] (fun c i wr => ∃ (k : Nat) (r : Int) (d : Nat → Int), k ≤ la ∧ i = .int .i64 ((k : Int) - 1) ∧ c = .int .u64 r ∧ 0 ≤ r ∧ r < 4294967296 ∧ Hid (r = hi a k % x) ∧ Own wr w.heap.size la d ∧ Below w.heap.size w wr ∧
      Hid (∀ j, k ≤ j → j < la → d j = dg (a / x) j)) (fun _ i _ => (intOf i + 1).toNat)
  case atStart => exact ⟨la, 0, _, Nat.le_refl _, rfl, rfl, by omega, by omega, by rw [Hid, ha.nl.top]; simp, hO, hB, fun j h1 h2 => by omega⟩
  case round =>
    obtain ⟨k, r, d, hk, rfl, rfl, hr0, hr1, hr, hO, hB, hd⟩ := hrel
    by_cases hp : 0 < k
    · obtain ⟨b1, off1, rfl, hcs⟩ := (ha.row.below hB).at_ (by omega)
      obtain ⟨j, rfl⟩ : ∃ j, k = j + 1 := ⟨k - 1, by omega⟩
      have hcell := hcs j (by omega)
      have hcell3 := hO.cell j (by omega)
      have hfree := hO.free j
      have d0 := dg_nonneg a j
      have d1 := dg_lt a j
      have e1 : (((j + 1 : Nat) : Int) - 1) = (j : Int) := by omega
      simp only [e1]
      have hor := or64 r (dg a j) hr0 hr1 d0 d1
      have hs := short_step a x j hx0 hx1
      rw [← hr.out] at hs
      have q1 := hs.2.2.1
      have q0 := hs.2.2.2
      have HS := Lib.hid hs
      clear hs
      clear hcs e1
      go_wp2
      have hs := HS.out
      have m0 := Int.emod_nonneg (r * 4294967296 + dg a j) (show x ≠ 0 by omega)
      have m1 := Int.emod_lt_of_pos (r * 4294967296 + dg a j) hx0
      go_roundw
      case rel =>
        refine ⟨j, _, _, by omega, rfl, rfl, m0, by omega, hs.2.1.symm, hO.set (by omega) _, hB.setCell (Nat.le_refl _) _, fun i h1 h2 => ?_⟩
        by_cases e : i = j
        · subst e; rw [upd_same, hs.1]
        · rw [upd_other _ _ e]; exact hd.out i (by omega) h2
      case measure => simp [intOf]
    · obtain rfl : k = 0 := by omega
      go_wp2_with fail
      have ht : hi (a / x) la = 0 := by rw [hi_div a x hx0, ha.nl.top, Int.zero_ediv]
      refine (trim_c _ _ _ (a / x) _ (by omega) (Nat.le_refl _) (Int.ediv_nonneg ha.nl.nonneg (by omega)) ht (hO.congr (fun j hj => hd.out j (by omega) hj)).row).mono ?_
      rintro e w3 ⟨⟨k, rfl, hm, hk2⟩, rfl⟩
      have hr' : r = a % x := hr.out
      go_wp2
      go_ret2
      exact ⟨⟨_, _, _, rfl, hm⟩, hB⟩

theorem or32_low {s : Nat} {c q : Int} (hs : s ≤ 32) (h0 : 0 ≤ c) (h1 : c < 2 ^ s) (hq0 : 0 ≤ q) (hq : q * 2 ^ s < 4294967296) : bits BinOp.or IntKind.u32 c (q * 2 ^ s) = c + q * 2 ^ s := by
  obtain ⟨a, rfl⟩ := Int.eq_ofNat_of_zero_le h0
  obtain ⟨b, rfl⟩ := Int.eq_ofNat_of_zero_le hq0
  have e : ((b : Int) * 2 ^ s) = ((b * 2 ^ s : Nat) : Int) := by simp
  have e2 : ((2 : Int) ^ s) = ((2 ^ s : Nat) : Int) := by simp
  rw [e2] at h1
  rw [e] at hq ⊢
  have hlt : a < 2 ^ s := by omega
  have hle : 2 ^ s ≤ 2 ^ 32 := Nat.pow_le_pow_right (by omega) (by omega)
  rw [u32_or_nat _ _ (by omega) (by omega), Nat.or_comm, or_add s b a hlt]
  omega
theorem wrap64_of {x : Int} (h0 : 0 ≤ x) (h1 : x < 18446744073709551616) : IntKind.u64.wrap x = x := by
  rw [IntKind.wrap_u64]; omega

set_option maxRecDepth 100000 in
set_option maxHeartbeats 1000000 in
theorem raised_c (ao : Option Addr) (la ca : Nat) (a : Int) (s : Nat) (w : World) (hla : la ≤ 1000000) (ha : Mag w ao la ca a) (hs : s < 32) :
    Calls Tryd.prog 78 #[.slice ao la ca, .int .i64 s] w fun e w' => (∃ g, e = .returned (.slice (some ⟨g, 0, none⟩) (la + 1) (la + 1)) ∧ w.heap.size ≤ g ∧ Own w' g (la + 1) (dg (a * 2 ^ s)) ∧ hi (a * 2 ^ s) (la + 1) = 0) ∧ Gr w w' := by
  go_enter Tryd.func78, Tryd.ntmps78
  go_wp2_with (at_make; refine wpList_make32 _ rfl _ _ rfl _ _ (la + 1) rfl rfl (by omega) (by omega) (by omega) ?_)
  intro w1 hO hB hsz
  go_wp2
  go_loopw [14] (fun i wr => ∃ (k : Nat) (c : Int) (d : Nat → Int), k ≤ la ∧ i = .int .i64 k ∧ 0 ≤ c ∧ Hid (c < 2 ^ s ∧ hi (a * 2 ^ s) k = hi a k * 2 ^ s + c ∧ d k = c ∧ ∀ j, j < k → d j = dg (a * 2 ^ s) j) ∧ Own wr w.heap.size (la + 1) d ∧ Below w.heap.size w wr) (fun i _ => la - (intOf i).toNat)
  case atStart => exact ⟨0, 0, fun _ => 0, Nat.zero_le _, rfl, by omega, ⟨Int.pow_pos (by omega), by rw [hi_zero, hi_zero]; omega, rfl, fun j hj => by omega⟩, hO, hB⟩
  case round =>
    obtain ⟨k, c, d, hk, rfl, hc0, hh, hO, hB⟩ := hrel
    by_cases hlt : k < la
    · obtain ⟨b1, off1, rfl, hcs⟩ := (ha.row.below hB).at_ (by omega)
      have hcell := hcs k (by omega)
      have hcell3 := hO.cell k (by omega)
      have hcell4 := hO.cell (k + 1) (by omega)
      have hfree := hO.free k
      have hfree' := hO.free (k + 1)
      have d0 := dg_nonneg a k
      have d1 := dg_lt a k
      have i0 : (0 : Int) ≤ (k : Int) := by omega
      have i1 : (k : Int) < ((la + 1 : Nat) : Int) := by omega
      have s0 : (0 : Int) ≤ (s : Int) := by omega
      have s1 : (s : Int) < 32 := by omega
      clear hcs
      go_wp2
      go_region
      go_wp2
      obtain ⟨h1, h2, h3, h4⟩ := hh.out
      obtain ⟨hp1, hp2, hp3⟩ := pow_split hs
      have hst := raise_step hp1 hp2 hp3 h2 hc0 h1
      have hle : (2 : Int) ^ s ≤ 4294967296 := by
        have := Int.mul_le_mul_of_nonneg_left (show (1 : Int) ≤ 2 ^ (32 - s) by omega) (Int.le_of_lt hp2)
        rw [hp1, Int.mul_one] at this
        exact this
      have hprod : dg a k * 2 ^ s ≤ 4294967295 * 4294967296 := Int.mul_le_mul (by omega) hle (by omega) (by omega)
      have hprod0 : 0 ≤ dg a k * 2 ^ s := Int.mul_nonneg d0 (by omega)
      have ew := wrap64_of hprod0 (by omega)
      have eo : bits BinOp.or IntKind.u32 (d k) (dg a k * 2 ^ s % 4294967296) = c + dg a k * 2 ^ s % 4294967296 := by
        rw [h3, hst.2.2.2.2]
        refine or32_low (Nat.le_of_lt hs) hc0 h1 (Int.emod_nonneg _ (by omega)) ?_
        rw [← hst.2.2.2.2]; omega
      rw [ew, eo]
      go_roundw
      case rel =>
        refine ⟨k + 1, dg a k * 2 ^ s / 4294967296, _, by omega, by go_num, hst.2.2.1, ⟨hst.2.2.2.1, hst.2.1, ?_, fun j hj => ?_⟩, ((hO.set (by omega) _).set (by omega) _).gr (Gr.drew _), ((hB.setCell (Nat.le_refl _) _).setCell (Nat.le_refl _) _).drew⟩
        · rw [upd_same]
          have := hst.2.2.2.1
          omega
        · rw [upd_other _ _ (by omega)]
          by_cases e : j = k
          · subst e; rw [upd_same, hst.1]
          · rw [upd_other _ _ e]; exact h4 j (by omega)
      case measure => simp [intOf]; omega
    · obtain rfl : k = la := by omega
      go_wp2
      go_ret
      obtain ⟨h1, h2, h3, h4⟩ := hh.out
      obtain ⟨hp1, hp2, hp3⟩ := pow_split hs
      have hle : (2 : Int) ^ s ≤ 4294967296 := by
        have := Int.mul_le_mul_of_nonneg_left (show (1 : Int) ≤ 2 ^ (32 - s) by omega) (Int.le_of_lt hp2)
        rw [hp1, Int.mul_one] at this
        exact this
      rw [ha.nl.top, Int.zero_mul, Int.zero_add] at h2
      refine ⟨⟨_, rfl, Nat.le_refl _, hO.congr (fun j hj => ?_), by rw [hi_succ, h2]; omega⟩, hB⟩
      by_cases e : j = k
      · subst e; rw [h3]; unfold dg; rw [h2]; omega
      · exact h4 j (by omega)
end Go.Proofs.YtgopfikljndklaaDoor
