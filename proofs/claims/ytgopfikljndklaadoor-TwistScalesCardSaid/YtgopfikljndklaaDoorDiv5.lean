/- The walk through the long division. -/
import Derived.Test.YtgopfikljndklaaDoorDiv3
import Derived.Test.YtgopfikljndklaaDoorDiv4
import Derived.Test.YtgopfikljndklaaDoorShelf
namespace Go.Proofs.YtgopfikljndklaaDoor
open Go.RowKit

theorem Own.st {w w' : World} {b c n : Nat} {d : Nat → Int} (h : Own w c n d) (hs : St w w' b) (hc : c ≠ b) : Own w' c n d := by
  obtain ⟨cs, hb, hr⟩ := h.raw
  exact ⟨cs, by rw [hs.block c hc]; exact hb, hr⟩
theorem dg_top {n : Int} {k j : Nat} (h : hi n k = 0) (hj : k ≤ j) : dg n j = 0 := by
  have : dg n j = hi n j % 4294967296 := rfl
  rw [this, hi_ge h hj]; rfl

set_option maxRecDepth 100000 in
set_option maxHeartbeats 1000000 in
theorem divide_c (ao bo : Option Addr) (la lb ca cb : Nat) (a b : Int) (w : World) (hla : la ≤ 1000000) (hlb : lb ≤ 1000000) (ha : Mag w ao la ca a) (hb : Mag w bo lb cb b) (hb0 : 0 < b) :
    Calls Tryd.prog 63 #[.slice ao la ca, .slice bo lb cb] w fun e w' =>
      (∃ qo qk qc ro rk rc, e = .returned (.tuple #[.slice qo qk qc, .slice ro rk rc]) ∧ Mag w' qo qk qc (a / b) ∧ Mag w' ro rk rc (a % b)) ∧ Gr w w' := by
  have a0 := ha.nl.nonneg
  rcases Int.lt_or_le a b with hab | hab
  · go_enter Tryd.func63, Tryd.ntmps63
    go_wp2_with fail
    refine (order_c ao bo la lb ca cb a b _ (by omega) (by omega) ha hb).mono ?_
    rintro e w1 ⟨rfl, hG⟩
    rw [sgn_neg (show a - b < 0 by omega)]
    go_wp2
    go_ret2
    exact ⟨⟨_, _, _, _, _, _, rfl, by rw [Int.ediv_eq_zero_of_lt a0 hab]; exact ⟨Nat.le_refl _, NL.zero, Row.nil _ _ _⟩, by rw [Int.emod_eq_of_lt a0 hab]; exact ha.below hG⟩, hG⟩
  · have hd1 : decide (sgn (a - b) < 0) = false := by
      unfold sgn; rw [if_neg (by omega)]; split <;> rfl
    have hlb0 : 0 < lb := by
      rcases Nat.eq_zero_or_pos lb with h | h
      · have := hb.nl.len_zero.1 h; omega
      · exact h
    by_cases hl1 : lb = 1
    · subst hl1
      obtain ⟨b1, off1, rfl, hcs⟩ := hb.row.at_ (by omega)
      have e0 : dg b 0 = b := by
        have h1 := hb.nl.top
        have h2 := hi_split b 0
        rw [h1, hi_zero] at h2; omega
      have hc := hcs 0 (by omega)
      rw [e0, Nat.add_zero] at hc
      have hb1 : b < 4294967296 := by have := dg_lt b 0; omega
      go_enter Tryd.func63, Tryd.ntmps63
      go_wp2_with fail
      refine (order_c ao _ la 1 ca cb a b _ (by omega) (by omega) ha hb).mono ?_
      rintro e w1 ⟨rfl, hG⟩
      have hc1 := ((bcell hG).1 b1 off1 (World.block_lt_of_cell? w _ hc)).trans hc
      go_wp2_with fail
      refine (short_c ao la ca a b _ (by omega) (ha.below hG) hb0 hb1).mono ?_
      rintro e w2 ⟨⟨go, k, cap, rfl, hm⟩, hG2⟩
      have hG3 : Gr w w2 := Gr.trans hG hG2
      go_wp2_with fail
      have m0 := Int.emod_nonneg a (show b ≠ 0 by omega)
      have m1 := Int.emod_lt_of_pos a hb0
      have hd0 : dg (a % b) 0 = a % b := by
        have : dg (a % b) 0 = a % b % 4294967296 := rfl
        rw [this]; omega
      have hh1 : hi (a % b) 1 = 0 := by rw [hi_succ, hi_zero]; omega
      have hfr := alloc1_facts w2 (.cells #[.int .u32 (a % b)] 103)
      have hrow : Row (w2.alloc (.cells #[.int .u32 (a % b)] 103)) (some ⟨w2.heap.size, 0, none⟩) 1 (dg (a % b)) :=
        ⟨fun _ => ⟨_, 0, _, _, rfl, hfr.2.1, fun i hi0 => by obtain rfl : i = 0 := by omega
                                                             rw [hd0]; rfl⟩⟩
      refine (trim_c _ 1 1 (a % b) _ (by omega) (by omega) m0 hh1 hrow).mono ?_
      rintro e w3 ⟨⟨k2, rfl, hm2, hk2⟩, rfl⟩
      go_wp2
      go_ret2
      exact ⟨⟨_, _, _, _, _, _, rfl, hm.below hfr.1, hm2⟩, hG3.trans hfr.1⟩
    · obtain ⟨m, rfl⟩ : ∃ m, lb = m + 2 := ⟨lb - 2, by omega⟩
      have hge : m + 2 ≤ la := by
        rcases Nat.lt_or_ge la (m + 2) with h | h
        · exfalso
          have h1 := hi_mono hab (m + 1)
          have h2 := hi_ge ha.nl.top (show la ≤ m + 1 by omega)
          have h3 := hb.nl.full (by omega)
          simp only [show m + 2 - 1 = m + 1 from rfl] at h3
          have h4 := hi_nonneg hb.nl.nonneg (m + 1)
          omega
        · exact h
      obtain ⟨q, rfl⟩ : ∃ q, la = q + (m + 2) := ⟨la - (m + 2), by omega⟩
      obtain ⟨b1, off1, rfl, hcs⟩ := hb.row.at_ (by omega)
      have hc := hcs (m + 1) (by omega)
      have t0 : 0 < dg b (m + 1) := (hb.nl.topdig (by omega)).2
      have t1 := dg_lt b (m + 1)
      obtain ⟨s, hs0, hs1, hs2, hs3⟩ := leadz t0 t1
      have hp : (0 : Int) < 2 ^ s := Int.pow_pos (by omega)
      obtain ⟨hV, hnorm⟩ := norm_nl hb.nl hs2 hs3 hs0
      have hV0 : 0 < b * 2 ^ s := Int.mul_pos hb0 hp
      have hne : ((m + 2 : Nat) : Int) ≠ 1 := by omega
      have hd2 : (((m + 2 : Nat) : Int) == 1) = false := by simpa using hne
      clear hcs
      go_enter Tryd.func63, Tryd.ntmps63
      go_wp2_with fail
      refine (order_c ao _ _ _ ca cb a b _ (by omega) (by omega) ha hb).mono ?_
      rintro e w1 ⟨rfl, hG⟩
      have hc1 := ((bcell hG).1 b1 (off1 + (m + 1)) (World.block_lt_of_cell? w _ hc)).trans hc
      go_wp2_with fail
      refine (Tryd.bits_LeadingZeros32 (dg b (m + 1)) _ (by omega) (by omega)).mono ?_
      rintro e w1x ⟨rfl, rfl⟩
      rw [hs1]
      go_wp2_with fail
      refine (raised_c ao _ ca a s _ (by omega) (ha.below hG) hs0).mono ?_
      rintro e w2 ⟨⟨gu, rfl, hgu, hOu, htu⟩, hG2⟩
      have hG12 := Gr.trans hG hG2
      go_wp2_with fail
      refine (raised_c _ _ cb b s _ (by omega) (hb.below hG12) hs0).mono ?_
      rintro e w3 ⟨⟨gv, rfl, hgv, hOv, htv⟩, hG3⟩
      have hG13 := Gr.trans hG12 hG3
      have hltu := hOu.lt
      have hltv := hOv.lt
      have hOu3 := hOu.gr hG3
      go_wp2_with fail
      refine (trim_c _ (m + 2 + 1) (m + 2 + 1) (b * 2 ^ s) _ (by omega) (by omega) hV.nonneg htv hOv.row).mono ?_
      rintro e w4 ⟨⟨k, rfl, hMv, hk⟩, rfl⟩
      obtain rfl : k = m + 2 := hMv.nl.uniq hV
      go_wp2_with (at_make; refine wpList_make32 _ rfl _ _ rfl _ _ (q + 1) rfl rfl ?h1 ?h2 (by omega) ?_)
      case h1 => omega
      case h2 => omega
      intro w5 hOq hB5 hsz
      have hOu5 := hOu3.below hB5
      have hOv5 := hOv.below hB5
      have hG15 : Gr w w5 := Gr.trans hG13 hB5
      have hs1' := hG.size
      have hs2' := hG2.size
      go_wp2
      have hlq : hi (a * 2 ^ s) (q + 1) < b * 2 ^ s := first_lt (m := m + 1) ha.nl.top hb.nl hp
      have hlq0 : 0 ≤ hi (a * 2 ^ s) (q + 1) := hi_nonneg (Int.mul_nonneg a0 (by omega)) _
      have hbase : w.heap.size ≤ w3.heap.size := hG13.size
      have hugv : gu ≠ gv := by omega
      have huq : gu ≠ w3.heap.size := by have := hG3.size; omega
      have hvq : gv ≠ w3.heap.size := by omega
      have HP := Lib.hid (And.intro hp (And.intro hV0 (And.intro hlq hlq0)))
      clear hp hlq hlq0
      have hQd : (a * 2 ^ s) / (b * 2 ^ s) = a / b := Int.mul_ediv_mul_of_pos_left _ _ HP.out.1
      have hRd : (a * 2 ^ s) % (b * 2 ^ s) = a % b * 2 ^ s := by rw [Int.mul_comm a, Int.mul_comm b, Int.mul_emod_mul_of_pos _ _ HP.out.1, Int.mul_comm]
      have HQ := Lib.hid (And.intro hQd hRd)
      clear hQd hRd
      clear hV0 hs2 hs3 hsz
      have hU0 : 0 ≤ a * 2 ^ s := Int.mul_nonneg a0 (Int.le_of_lt HP.out.1)
      generalize hUU : a * 2 ^ s = U at *
      generalize hVV : b * 2 ^ s = V at *
      generalize hgq : w3.heap.size = gq at *
      go_loopw [11] (fun i wr => ∃ (k : Nat) (d E : Nat → Int), i = .int .i64 ((k : Int) - 1) ∧ k ≤ q + 1 ∧ Own wr gu (q + (m + 2) + 1) E ∧ Own wr gv (m + 2 + 1) (dg V) ∧ Own wr gq (q + 1) d ∧ Gr w wr ∧
        Hid ((∀ j, j < k → E j = dg U j) ∧ (∀ j, k + j < q + (m + 2) + 1 → E (k + j) = dg (hi U k % V) j) ∧ ∀ j, k ≤ j → j < q + 1 → d j = dg (U / V) j)) (fun i _ => (intOf i + 1).toNat)
      case atStart =>
        refine ⟨q + 1, _, _, by go_num, Nat.le_refl _, hOu5, hOv5, hOq, hG15, fun j _ => rfl, fun j hj => ?_, fun j h1 h2 => by omega⟩
        rw [Int.emod_eq_of_lt HP.out.2.2.2 HP.out.2.2.1]
        unfold dg
        rw [hi_add]
      case round =>
        obtain ⟨k, d, E, rfl, hk, hOu, hOv, hOq, hGr, hh⟩ := hrel
        by_cases hpos : 0 < k
        · obtain ⟨j, rfl⟩ : ∃ j, k = j + 1 := ⟨k - 1, by omega⟩
          have e1 : (((j + 1 : Nat) : Int) - 1) = (j : Int) := by omega
          simp only [e1]
          have hfree := hOq.free j
          have hcq := hOq.cell j (by omega)
          clear e1
          go_wp2_with fail
          rw [show j + (m + 2) + 1 - j = m + 3 by omega]
          refine (digit_c gu j _ gv 0 _ m (q + (m + 2) + 1) E (win U V j) V _ (by omega) (by omega) (by omega) hOu ?g1 ?g2 ?g3 hV ?g4 (Ne.symm hugv) hnorm ?g5).mono ?_
          case g1 =>
            intro i hi0
            cases i with
            | zero => rw [win_dg0]; exact hh.out.1 j (by omega)
            | succ i => rw [win_dgs, show j + (i + 1) = j + 1 + i by omega]; exact hh.out.2.1 i (by omega)
          case g2 => exact (win_lt U HP.out.2.1 j).2
          case g3 => exact win_top U HP.out.2.1 hV.top j
          case g4 => intro i hi0; rw [Nat.zero_add]; exact hOv.cell i (by omega)
          case g5 => exact (win_lt U HP.out.2.1 j).1
          rintro e w6 ⟨rfl, hst, D', hOu6, hw1, hw2⟩
          rw [(win_div U HP.out.2.1 j).1]
          have hOv6 := hOv.st hst (Ne.symm hugv)
          have hOq6 := hOq.st hst (Ne.symm huq)
          have hGr6 := hst.gr hGr (by omega)
          have hfree := hOq6.free j
          have hcq := hOq6.cell j (by omega)
          have hw3 := (win_div U HP.out.2.1 j).2
          rw [hw3] at hw1
          have HW := Lib.hid (And.intro hw1 hw2)
          clear hw1 hw2 hw3
          go_wp2
          go_roundw
          case rel =>
            refine ⟨j, _, D', rfl, by omega, hOu6.st (St.setCell _ _ _ _) huq, hOv6.st (St.setCell _ _ _ _) hvq, hOq6.set (by omega) _, (St.setCell _ _ _ _).gr hGr6 (by omega), fun i hi0 => ?_, fun i hi0 => ?_, fun i h1 h2 => ?_⟩
            · rw [HW.out.2 i (by omega)]; exact hh.out.1 i (by omega)
            · by_cases hi1 : i < m + 3
              · exact HW.out.1 i hi1
              · have z1 : dg (hi U j % V) i = 0 := dg_top (k := m + 2) (by
                  have h1 := Int.emod_nonneg (hi U j) (show V ≠ 0 by have := HP.out.2.1; omega)
                  have h2 := Int.emod_lt_of_pos (hi U j) HP.out.2.1
                  have h3 := hi_mono (Int.le_of_lt h2) (m + 2)
                  have h4 := hi_nonneg h1 (m + 2)
                  rw [hV.top] at h3
                  exact Int.le_antisymm h3 h4) (by omega)
                have z2 : dg (hi U (j + 1) % V) (i - 1) = 0 := dg_top (k := m + 2) (by
                  have h1 := Int.emod_nonneg (hi U (j + 1)) (show V ≠ 0 by have := HP.out.2.1; omega)
                  have h2 := Int.emod_lt_of_pos (hi U (j + 1)) HP.out.2.1
                  have h3 := hi_mono (Int.le_of_lt h2) (m + 2)
                  have h4 := hi_nonneg h1 (m + 2)
                  rw [hV.top] at h3
                  exact Int.le_antisymm h3 h4) (by omega)
                rw [z1, HW.out.2 (j + i) (by omega), ← z2, show j + i = j + 1 + (i - 1) by omega]
                exact hh.out.2.1 (i - 1) (by omega)
            · by_cases e : i = j
              · subst e; rw [upd_same]
              · rw [upd_other _ _ e]; exact hh.out.2.2 i (by omega) h2
          case measure => simp [intOf]; try omega
        · obtain rfl : k = 0 := by omega
          have hV1 := HP.out.2.1
          have m0 := Int.emod_nonneg U (show V ≠ 0 by omega)
          have m1 : U % V ≤ U := by
            have h1 := Int.emod_add_mul_ediv U V
            have h2 : 0 ≤ V * (U / V) := Int.mul_nonneg (by omega) (Int.ediv_nonneg hU0 (by omega))
            omega
          have q0 : 0 ≤ U / V := Int.ediv_nonneg hU0 (by omega)
          have q1 : hi (U / V) (q + 1) = 0 := by
            rw [hi_div U V hV1]
            exact Int.ediv_eq_zero_of_lt HP.out.2.2.2 HP.out.2.2.1
          have m2 : hi (U % V) (q + (m + 2) + 1) = 0 := by
            have h1 := hi_mono m1 (q + (m + 2) + 1)
            have h2 := hi_nonneg m0 (q + (m + 2) + 1)
            omega
          go_wp2_with fail
          refine (trim_c _ (q + 1) (q + 1) (U / V) _ (by omega) (by omega) q0 q1 (hOq.congr (fun i hi0 => hh.out.2.2 i (by omega) hi0)).row).mono ?_
          rintro e w6 ⟨⟨k1, rfl, hM1, hk1⟩, rfl⟩
          go_wp2_with fail
          refine (trim_c _ (q + (m + 2) + 1) (q + (m + 2) + 1) (U % V) _ (by omega) (by omega) m0 m2 (hOu.congr (fun i hi0 => by
            have := hh.out.2.1 i (by omega)
            rw [Nat.zero_add, hi_zero] at this; exact this)).row).mono ?_
          rintro e w6 ⟨⟨k2, rfl, hM2, hk2⟩, rfl⟩
          go_wp2_with fail
          refine (lowered_c _ k2 _ (U % V) s _ (by omega) hM2 hs0).mono ?_
          rintro e w7 ⟨⟨go, k3, cap, rfl, hM3⟩, hG7⟩
          go_wp2
          go_ret2
          rw [HQ.out.1] at hM1
          rw [HQ.out.2, Int.mul_ediv_cancel _ (show (2 : Int) ^ s ≠ 0 by have := HP.out.1; omega)] at hM3
          exact ⟨⟨_, _, _, _, _, _, rfl, hM1.below hG7, hM3⟩, Gr.trans hGr hG7⟩
end Go.Proofs.YtgopfikljndklaaDoor
