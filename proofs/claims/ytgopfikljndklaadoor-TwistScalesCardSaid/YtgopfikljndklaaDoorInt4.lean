/- The walk through the product of integers. -/
import Derived.Test.YtgopfikljndklaaDoorInt1
import Derived.Test.YtgopfikljndklaaDoorOwn
import Derived.Test.YtgopfikljndklaaDoorSq
namespace Go.Proofs.YtgopfikljndklaaDoor
open Go.RowKit

theorem mul_next (a b : Int) (i : Nat) : low a i * b + dg a i * b * 4294967296 ^ i = low a (i + 1) * b := by rw [low_succ]; grind
theorem mul_top {a b c : Int} {i lb : Nat} (hr : hi (low a i * b) (i + lb) = 0) (hb : hi b lb = 0)
    (h : hi (low a i * b + dg a i * b * 4294967296 ^ i) (i + lb) = hi (low a i * b) (i + lb) + dg a i * hi b lb + c) (h0 : 0 ≤ c) (h1 : c < 4294967296) :
    dg (low a (i + 1) * b) (i + lb) = c ∧ hi (low a (i + 1) * b) (i + 1 + lb) = 0 := by
  rw [mul_next, hr, hb, Int.mul_zero] at h
  have e : i + 1 + lb = i + lb + 1 := by omega
  rw [e, hi_succ]
  unfold dg
  omega

set_option maxRecDepth 100000 in
set_option maxHeartbeats 2000000 in
theorem mul_raw (s t : Bool) (a b : Int) (ao bo : Option Addr) (la lb ca cb : Nat) (w : World) (hla : la ≤ 1000000) (hlb : lb ≤ 1000000) (ha : Mag w ao la ca a) (hb : Mag w bo lb cb b) :
    Calls Tryd.prog 48 #[.agg #[.bool s, .slice ao la ca], .agg #[.bool t, .slice bo lb cb]] w fun e w' =>
      (∃ go n cap, e = .returned (.agg #[.bool ((s != t) && decide (0 < n)), .slice go n cap]) ∧ Mag w' go n cap (a * b)) ∧ Below w.heap.size w w' := by
  go_enter Tryd.func48, Tryd.ntmps48
  go_wp2_with (at_make; refine wpList_make32 _ rfl _ _ rfl _ _ (la + lb) rfl rfl (by omega) (by omega) (by omega) ?_)
  intro w1 hO hB hsz
  obtain ⟨hG0, f0, f1, f2, hS3⟩ := alloc3_facts w (.cells #[.bool s, .slice ao la ca] 29) (.cells #[.bool t, .slice bo lb cb] 29) (.cells #[.bool false, .slice none 0 0] 29)
  have hB' := (hB.mono (Nat.le_of_eq hS3) : Gr _ w1)
  have hG : Gr w w1 := hG0.trans hB'
  have p0 := Gr.heap hB' f0
  have p1 := Gr.heap hB' f1
  have p2 := Gr.heap hB' f2
  have c0 := cells_of p0 0
  have c1 := cells_of p0 1
  have c2 := cells_of p1 0
  have c3 := cells_of p1 1
  clear hB' hG0 hS3 f0 f1 f2
  have hO1 := hO
  clear hO hB hsz
  go_wp2
  go_loopw [22] (fun i wr => ∃ (k : Nat) (d : Nat → Int), k ≤ la ∧ i = .int .i64 k ∧ Own wr (w.heap.size + 1 + 1 + 1) (la + lb) d ∧ Below (w.heap.size + 1 + 1 + 1) w1 wr ∧ Hid (∀ j, j < la + lb → d j = dg (low a k * b) j) ∧ Hid (hi (low a k * b) (k + lb) = 0)) (fun i _ => la - (intOf i).toNat)
  case atStart => exact ⟨0, _, Nat.zero_le _, rfl, hO1, Below.refl _ _, fun j _ => by rw [low_zero, Int.zero_mul]; unfold dg; rw [hi_zero_n]; rfl, by rw [Hid, low_zero, Int.zero_mul, hi_zero_n]⟩
  case round =>
    obtain ⟨k, d, hk, rfl, hO, hB, hd, htop⟩ := hrel
    by_cases hlt : k < la
    · have hc := bcell hB
      have hw : Below w.heap.size w wr := Below.trans hG (hB.mono (by omega))
      obtain ⟨b1, off1, rfl, hcs1⟩ := (ha.below hw).row.at_ (by omega)
      have hcell1 := hcs1 k hlt
      have x0 := dg_nonneg a k
      have x1 := dg_lt a k
      clear hcs1 hw
      go_wp2
      obtain ⟨wo, hwo⟩ : ∃ wo : World, wo = wr := ⟨_, rfl⟩
      subst hwo
      go_loopw [8, 30] (fun c i wr => ∃ (j : Nat) (cr : Int) (e : Nat → Int), j ≤ lb ∧ i = .int .i64 j ∧ c = .int .u64 cr ∧ 0 ≤ cr ∧ cr < 4294967296 ∧ Own wr (w.heap.size + 1 + 1 + 1) (la + lb) e ∧ Below (w.heap.size + 1 + 1 + 1) w1 wr ∧
        Hid (hi (low a k * b + dg a k * b * 4294967296 ^ k) (k + j) = hi (low a k * b) (k + j) + dg a k * hi b j + cr) ∧
        Hid (∀ i, i < la + lb → e i = if i < k + j then dg (low a k * b + dg a k * b * 4294967296 ^ k) i else dg (low a k * b) i)) (fun _ i _ => lb - (intOf i).toNat)
      case atStart =>
        refine ⟨0, 0, d, Nat.zero_le _, rfl, rfl, by omega, by omega, hO, hB, ?_, fun i hi => ?_⟩
        · rw [Hid, Nat.add_zero, hi_addmul, hi_zero]; omega
        · rw [hd.out i hi, Nat.add_zero]
          split
          · rw [dg_addmul _ _ (by assumption)]
          · rfl
      case round =>
        obtain ⟨j, cr, e, hj, rfl, rfl, hc0, hc1, hO2, hB2, hz, he⟩ := hrel
        have hcc := bcell hB2
        by_cases hlt2 : j < lb
        · have hw : Below w.heap.size w wr := Below.trans hG (hB2.mono (by omega))
          obtain ⟨b2, off2, rfl, hcs2⟩ := (hb.below hw).row.at_ (by omega)
          have hcell2 := hcs2 j hlt2
          have y0 := dg_nonneg b j
          have y1 := dg_lt b j
          have hs := mul_step hz.out hc0 hc1 x0 x1
          have z0 := hs.2.2.2.2.1
          have z1 := hs.2.2.2.2.2
          have HS := Lib.hid hs
          clear hcs2 hw hs
          have hcell3 := hO2.cell (k + j) (by omega)
          have hfree := hO2.free (k + j)
          have e1 := he.out (k + j) (by omega)
          rw [if_neg (by omega)] at e1
          rw [e1] at hcell3
          have r0 := dg_nonneg (low a k * b) (k + j)
          have r1 := dg_lt (low a k * b) (k + j)
          clear e1
          go_wp2
          have hs := HS.out
          go_roundw
          case rel =>
            refine ⟨j + 1, _, _, by omega, by go_num, rfl, hs.2.2.1, hs.2.2.2.1, hO2.set (by omega) _, hB2.setCell (Nat.le_refl _) _, hs.2.1, fun i hi => ?_⟩
            by_cases e1 : i = k + j
            · subst e1; rw [upd_same, if_pos (by omega), hs.1]
            · rw [upd_other _ _ e1, he.out i hi]
              by_cases e2 : i < k + j
              · rw [if_pos e2, if_pos (by omega)]
              · rw [if_neg e2, if_neg (by omega)]
          case measure => simp [intOf]; omega
        · obtain rfl : j = lb := by omega
          have hcell3 := hO2.cell (k + j) (by omega)
          have hfree := hO2.free (k + j)
          have ht := mul_top htop.out hb.nl.top hz.out hc0 hc1
          have HT := Lib.hid ht
          clear ht
          go_wp2
          have ht := HT.out
          go_roundw
          case rel =>
            refine ⟨k + 1, _, by omega, by go_num, hO2.set (by omega) cr, hB2.setCell (Nat.le_refl _) _, fun i hi => ?_, ht.2⟩
            by_cases e1 : i = k + j
            · subst e1; rw [upd_same]; exact ht.1.symm
            · rw [upd_other _ _ e1, he.out i hi]
              by_cases e2 : i < k + j
              · rw [if_pos e2, mul_next]
              · rw [if_neg e2, dg_zero_of htop.out (by omega), dg_zero_of ht.2 (by omega)]
          case measure => simp [intOf]; omega
    · obtain rfl : k = la := by omega
      have hc := bcell hB
      go_wp2_with fail
      have hlow := low_top ha.nl.top
      have hO' := hO.congr hd.out
      have htop' := htop.out
      rw [hlow] at hO' htop'
      refine (signed_c _ _ _ _ (a * b) _ (by omega) (Nat.le_refl _) (Int.mul_nonneg ha.nl.nonneg hb.nl.nonneg) htop' hO'.row).mono ?_
      rintro e w3 ⟨⟨n, rfl, hm, hn⟩, hB3⟩
      have p3 := Gr.heap hB3 ((Below.block hB (w.heap.size + 1 + 1) (by omega)).trans p2)
      have d0 := cells_of p3 0
      have d1 := cells_of p3 1
      have d2 := free_of p3
      have hw3 : Below w.heap.size w w3 := Below.trans (Below.trans hG (hB.mono (by omega))) (Below.mono hB3 (Nat.le_trans (Below.size hG) (Below.size hB)))
      clear hc c0 c1 c2 c3 p0 p1 p2 hd htop hO hO1 hlow htop' hO'
      go_wp2
      have e0 : (!s == t && decide (0 < n)) = ((s != t) && decide (0 < n)) := by cases s <;> cases t <;> rfl
      have p4 := heap_setCell_at (i := 1) (.slice (some ⟨w.heap.size + 1 + 1 + 1, 0, none⟩) n (k + lb)) (heap_setCell_at (i := 0) (.bool (!s == t && decide (0 < n))) p3)
      have hst := (St.setCell w3 (w.heap.size + 1 + 1) 0 (.bool (!s == t && decide (0 < n)))).trans (St.setCell _ (w.heap.size + 1 + 1) 1 (.slice (some ⟨w.heap.size + 1 + 1 + 1, 0, none⟩) n (k + lb)))
      refine bodyPost_ret (v := .agg #[.bool (!s == t && decide (0 < n)), .slice (some ⟨w.heap.size + 1 + 1 + 1, 0, none⟩) n (k + lb)]) (ret_cell _ _ _ rfl rfl p4 (by kernel_rfl)) rfl ⟨⟨_, _, _, by rw [e0], (hm.kp (Gr.kp hB3)).kp (hst.kp p3 (by decide))⟩, hst.below hw3 (by omega)⟩
end Go.Proofs.YtgopfikljndklaaDoor
