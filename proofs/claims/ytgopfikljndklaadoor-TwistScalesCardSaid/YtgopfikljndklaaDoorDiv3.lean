/- The walk through the digit of a quotient. -/
import Derived.Test.YtgopfikljndklaaDoorDiv2
namespace Go.Proofs.YtgopfikljndklaaDoor
open Go.RowKit

theorem St.drewN {w w' : World} {b : Nat} (h : St w w' b) (n : Nat) : St w (w'.drewN n) b := ⟨h.os, h.tape, h.output, h.size, h.block⟩
theorem St.drew {w w' : World} {b : Nat} (h : St w w' b) : St w w'.drew b := ⟨h.os, h.tape, h.output, h.size, h.block⟩
theorem St.cell {w w' : World} {b : Nat} (h : St w w' b) {c o : Nat} (hc : c ≠ b) : w'.cell? ⟨c, o, none⟩ = w.cell? ⟨c, o, none⟩ := World.cell?_of_block (w := w) (h.block c hc)
theorem Own.drewN {w : World} {b n : Nat} {d : Nat → Int} (h : Own w b n d) (k : Nat) : Own (w.drewN k) b n d := h.gr ((Below.refl _ _).drewN k)

set_option maxRecDepth 100000 in
set_option maxHeartbeats 4000000 in
theorem digit_c (bu off cu bv offv cv m N : Nat) (D : Nat → Int) (U V : Int) (w : World) (hm : m ≤ 1000000) (hN : off + (m + 3) ≤ N) (hN2 : N ≤ 2000000) (hO : Own w bu N D) (hD : Hid (∀ i, i < m + 3 → D (off + i) = dg U i))
    (hU0 : 0 ≤ U) (hUt : Hid (hi U (m + 3) = 0)) (hV : NL V (m + 2)) (hvc : Hid (∀ i, i < m + 2 → w.cell? ⟨bv, offv + i, none⟩ = some (.int .u32 (dg V i)))) (hne : bv ≠ bu) (hnorm : 2147483648 ≤ dg V (m + 1)) (hUV : U < V * 4294967296) :
    Calls Tryd.prog 79 #[.slice (some ⟨bu, off, none⟩) (m + 3) cu, .slice (some ⟨bv, offv, none⟩) (m + 2) cv] w fun e w' =>
      e = .returned (.int .u32 (U / V)) ∧ St w w' bu ∧ ∃ D', Own w' bu N D' ∧ (∀ i, i < m + 3 → D' (off + i) = dg (U % V) i) ∧ ∀ j, (j < off ∨ off + (m + 3) ≤ j) → D' j = D j := by
  have cu2 := hO.cell (off + (m + 2)) (by omega)
  have cu1 := hO.cell (off + (m + 1)) (by omega)
  have cu0 := hO.cell (off + m) (by omega)
  rw [hD.out _ (by omega)] at cu2 cu1 cu0
  have cv1 := hvc.out (m + 1) (by omega)
  have cv0 := hvc.out m (by omega)
  have u20 := dg_nonneg U (m + 2)
  have u21 := dg_lt U (m + 2)
  have u10 := dg_nonneg U (m + 1)
  have u11 := dg_lt U (m + 1)
  have u00 := dg_nonneg U m
  have u01 := dg_lt U m
  have v11 := dg_lt V (m + 1)
  have v00 := dg_nonneg V m
  have v01 := dg_lt V m
  have hor := or64 (dg U (m + 2)) (dg U (m + 1)) u20 u21 u10 u11
  go_enter Tryd.func79, Tryd.ntmps79
  go_wp2
  go_quiet (fail)
  go_wp2
  go_quiet (fail)
  go_wp2
  have hv1 : hi V (m + 1) = dg V (m + 1) := by have := hi_split V (m + 1); rw [hV.top] at this; omega
  have hvm : hi V m = dg V (m + 1) * 4294967296 + dg V m := by have := hi_split V m; rw [hv1] at this; omega
  have hu2 : hi U (m + 2) = dg U (m + 2) := by have := hi_split U (m + 2); rw [hUt.out] at this; omega
  have hu1 : hi U (m + 1) = dg U (m + 2) * 4294967296 + dg U (m + 1) := by have := hi_split U (m + 1); rw [hu2] at this; omega
  have hum : hi U m = (dg U (m + 2) * 4294967296 + dg U (m + 1)) * 4294967296 + dg U m := by have := hi_split U m; rw [hu1] at this; omega
  have hV0 : 0 < V := by
    have := hi_le_of hV.nonneg (show 0 ≤ m + 1 by omega)
    rw [hv1, hi_zero] at this; omega
  have hQ0 : 0 ≤ U / V := Int.ediv_nonneg hU0 (by omega)
  have hQB : U / V < 4294967296 := Int.ediv_lt_of_lt_mul hV0 (by first | exact hUV | (rw [Int.mul_comm]; exact hUV))
  have hQV : U / V * V ≤ U := Int.ediv_mul_le U (by omega)
  have hlo := knuth_lo m hQ0 hQV
  have hlo1 := knuth_lo (m + 1) hQ0 hQV
  rw [hv1, hu1] at hlo1
  have KN := Lib.hid (And.intro hvm (And.intro hum (And.intro hlo (And.intro hQB (And.intro hQ0 hV0)))))
  have q0 := Int.ediv_nonneg (show 0 ≤ dg U (m + 2) * 4294967296 + dg U (m + 1) by omega) (show 0 ≤ dg V (m + 1) by omega)
  have q1 : (dg U (m + 2) * 4294967296 + dg U (m + 1)) / dg V (m + 1) < 8589934592 := Int.ediv_lt_of_lt_mul (by omega) (by omega)
  have q2 : U / V ≤ (dg U (m + 2) * 4294967296 + dg U (m + 1)) / dg V (m + 1) := (Int.le_ediv_iff_mul_le (by omega)).2 hlo1
  have q3 := Int.emod_add_mul_ediv (dg U (m + 2) * 4294967296 + dg U (m + 1)) (dg V (m + 1))
  have q4 := Int.emod_nonneg (dg U (m + 2) * 4294967296 + dg U (m + 1)) (show dg V (m + 1) ≠ 0 by omega)
  have q5 := Int.emod_lt_of_pos (dg U (m + 2) * 4294967296 + dg U (m + 1)) (show 0 < dg V (m + 1) by omega)
  have Q2 := Lib.hid (And.intro q2 q3)
  have hu2v : dg U (m + 2) ≤ dg V (m + 1) := by
    have h1 := hi_mono (show U ≤ V * 4294967296 ^ 1 + 0 by omega) (m + 2)
    have h2 : hi (V * 4294967296 ^ 1 + 0) (m + 2) = hi V (m + 1) := by
      rw [Int.add_zero, Int.pow_one, show m + 2 = 1 + (m + 1) by omega, hi_add]
      congr 1
      rw [hi_succ, hi_zero]; omega
    rw [h2, hu2, hv1] at h1; exact h1
  clear hv1 hvm hu2 hu1 hum hQ0 hQB hQV hlo hlo1 q2 q3 hV0 hor hUV
  have st0 : St w (w.drewN 0) bu := (St.refl w bu).drewN 0
  clear cu2 cu1 cu0 st0
  simp only [show m + 2 - 1 = m + 1 from rfl]
  go_loopw [7, 8] (fun sq sr wr => ∃ (q r : Int), sq = .int .u64 q ∧ sr = .int .u64 r ∧ 0 ≤ q ∧ q < 8589934592 ∧ 0 ≤ r ∧ r < 8589934592 ∧ St w wr bu ∧ Own wr bu N D ∧
      Hid (q * dg V (m + 1) + r = dg U (m + 2) * 4294967296 + dg U (m + 1) ∧ U / V ≤ q)) (fun sq _ _ => (intOf sq).toNat)
  case atStart => exact ⟨_, _, rfl, rfl, q0, q1, q4, by omega, ((St.refl w bu).drewN _).drewN _, (hO.drewN _).drewN _, by have := Q2.out; refine ⟨?_, this.1⟩; rw [Int.mul_comm]; omega⟩
  case round =>
    obtain ⟨q, r, rfl, rfl, hq0, hq1, hr0, hr1, hst, hOr, hqr⟩ := hrel
    have cu0 := hOr.cell (off + m) (by omega)
    rw [hD.out _ (by omega)] at cu0
    have cw1 := (hst.cell (o := offv + (m + 1)) hne).trans cv1
    have cw0 := (hst.cell (o := offv + m) hne).trans cv0
    have p0 : 0 ≤ q * dg V m := Int.mul_nonneg hq0 v00
    by_cases hex : r < 4294967296 ∧ (4294967296 ≤ q ∨ r * 4294967296 + dg U m < q * dg V m)
    · obtain ⟨hr, hh⟩ := hex
      have d1 : decide (r < 4294967296) = true := by simpa using hr
      have hor := or64 r (dg U m) hr0 hr u00 u01
      have hlt : U / V < q := by
        obtain ⟨hvm, hum, hlo, hQB, hQ0, hV0⟩ := KN.out
        rcases hh with hh | hh
        · omega
        · exact knuth_dec hlo hvm hum hqr.out.1 hh (hi_nonneg hV.nonneg m)
      have HL := Lib.hid hlt
      have HK := Lib.hid KN.out
      have q6 : 1 ≤ q := by have := KN.out.2.2.2.2.1; omega
      clear hlt
      by_cases hqb : 4294967296 ≤ q
      · have d2 : decide (4294967296 ≤ q) = true := by simpa using hqb
        clear hh
        go_wp2
        go_quiet (fail)
        go_wp2
        go_roundw
        case rel =>
          refine ⟨q - 1, r + dg V (m + 1), rfl, rfl, by omega, by omega, by omega, by omega, hst.drewN _, hOr.drewN _, ?_, by have := HL.out; omega⟩
          have := hqr.out.1
          rw [Int.sub_mul]; omega
        case measure => simp [intOf]; omega
      · have d2 : decide (4294967296 ≤ q) = false := by simpa using hqb
        have hp : r * 4294967296 + dg U m < q * dg V m := by rcases hh with hh | hh; exact absurd hh hqb; exact hh
        have p1 : q * dg V m ≤ 4294967295 * 4294967295 := Int.mul_le_mul (by omega) (by omega) v00 (by omega)
        have d3 : decide (r * 4294967296 + dg U m < q * dg V m) = true := by simpa using hp
        clear hh
        go_wp2
        go_quiet (fail)
        go_wp2
        go_roundw
        case rel =>
          refine ⟨q - 1, r + dg V (m + 1), rfl, rfl, by omega, by omega, by omega, by omega, hst.drewN _, hOr.drewN _, ?_, by have := HL.out; omega⟩
          have := hqr.out.1
          rw [Int.sub_mul]; omega
        case measure => simp [intOf]; omega
    · -- the estimate is right, or one too great
      have hq2 : q ≤ 4294967295 := by
        rcases Int.lt_or_le r 4294967296 with h | h
        · rcases Int.lt_or_le q 4294967296 with h2 | h2
          · omega
          · exact absurd ⟨h, .inl h2⟩ hex
        · rcases Int.lt_or_le q 4294967296 with h2 | h2
          · omega
          · exfalso
            have h3 := hqr.out.1
            have h4 : 4294967296 * dg V (m + 1) ≤ q * dg V (m + 1) := Int.mul_le_mul_of_nonneg_right h2 (by omega)
            have h5 : dg U (m + 2) ≤ dg V (m + 1) := hu2v
            omega
      have p1 : q * dg V m ≤ 4294967295 * 4294967295 := Int.mul_le_mul hq2 (by omega) v00 (by omega)
      have hfin : q * V < U + V := by
        obtain ⟨hvm, hum, hlo, hQB, hQ0, hV0⟩ := KN.out
        refine knuth_hi m hq0 hq2 (by rw [hvm]; omega) (knuth_end hvm hum hqr.out.1 ?_)
        rcases Int.lt_or_le r 4294967296 with h | h
        · rcases Int.lt_or_le (r * 4294967296 + dg U m) (q * dg V m) with h2 | h2
          · exact absurd ⟨h, .inr h2⟩ hex
          · exact h2
        · omega
      have hge := hqr.out.2
      have FIN := Lib.hid (And.intro hfin hge)
      have d2 : decide (4294967296 ≤ q) = false := by simp; omega
      have hcase : (decide (r < 4294967296) = false ∧ True) ∨ (r < 4294967296 ∧ decide (r < 4294967296) = true ∧ decide (r * 4294967296 + dg U m < q * dg V m) = false ∧ bits BinOp.or IntKind.u64 (r * 4294967296) (dg U m) = r * 4294967296 + dg U m) := by
        rcases Int.lt_or_le r 4294967296 with h | h
        · rcases Int.lt_or_le (r * 4294967296 + dg U m) (q * dg V m) with h2 | h2
          · exact absurd ⟨h, .inr h2⟩ hex
          · exact .inr ⟨h, by simpa using h, by simpa using h2, or64 r (dg U m) hr0 h u00 u01⟩
        · exact .inl ⟨by simpa using h, trivial⟩
      clear hfin hge hex hqr hu2v
      rcases hcase with ⟨d1, _⟩ | ⟨dr, d1, d3, hor⟩
      all_goals
        go_wp2
        go_quiet (fail)
        go_wp2
        clear cu0 cw1 cw0 d1 d2 p0 p1 q0 q1 q4 q5 Q2 u20 u21 u10 u11 u00 u01 v11 v00 v01 cv1 cv0
        try clear d3 hor
        go_loopw [9, 10, 86] (fun sc sb si wr => ∃ (c br : Int) (i : Nat) (E : Nat → Int), sc = .int .u64 c ∧ sb = .int .i64 br ∧ si = .int .i64 i ∧ i ≤ m + 2 ∧ 0 ≤ c ∧ c < 4294967296 ∧ 0 ≤ br ∧ br ≤ 1 ∧ St w wr bu ∧ Own wr bu N E ∧
          Hid (hi (V * q + 0) i = hi V i * q + c ∧ hi (U - (V * q + 0)) i = hi U i - hi (V * q + 0) i - br ∧ (∀ j, j < i → E (off + j) = dg (U - (V * q + 0)) j) ∧ (∀ j, i ≤ j → j < m + 3 → E (off + j) = dg U j) ∧ ∀ j, (j < off ∨ off + (m + 3) ≤ j) → E j = D j)) (fun _ _ si _ => m + 2 - (intOf si).toNat)
        case atStart => exact ⟨0, 0, 0, D, rfl, rfl, rfl, by omega, by omega, by omega, by omega, by omega, hst.drewN _, hOr.drewN _, by simp [hi_zero], by simp [hi_zero], fun j hj => by omega, fun j _ hj => hD.out j hj, fun j _ => rfl⟩
        case round =>
          obtain ⟨c, br, i, E, rfl, rfl, rfl, hi0, hc0, hc1, hb0, hb1, hst2, hO2, hh⟩ := hrel
          by_cases hlt : i < m + 2
          · have cv2 := (hst2.cell (o := offv + i) hne).trans (hvc.out i hlt)
            have cu2 := hO2.cell (off + i) (by omega)
            have hfree := hO2.free (off + i)
            have e1 := hh.out.2.2.2.1 i (Nat.le_refl _) (by omega)
            rw [e1] at cu2
            have E1 := Lib.hid e1
            have hs := scale_step hh.out.1 hc0 hc1 hq0 (by omega)
            have s1 := hs.2.2.1
            have s2 := hs.2.2.2.1
            have s3 := hs.2.2.2.2.1
            have s4 := hs.2.2.2.2.2
            have HS := Lib.hid hs
            have x0 := dg_nonneg U i
            have x1 := dg_lt U i
            have x2 := dg_nonneg V i
            have x3 := dg_lt V i
            have ecomm : q * dg V i = dg V i * q := Int.mul_comm _ _
            clear e1 hs
            go_wp2
            all_goals
              have hs := HS.out
              have hms := minus_step (a := U) (b := V * q + 0) hh.out.2.1 hb0 hb1
              go_roundw
              case rel =>
                refine ⟨_, _, i + 1, _, rfl, rfl, by go_num, by omega, s1, s2, by omega, by omega, hst2.trans (St.setCell _ _ _ _), hO2.set (by omega) _, hs.2.1, ?_, fun j hj => ?_, fun j h1 h2 => ?_, fun j hj => ?_⟩
                · have h2 := hms.2
                  rw [hs.1] at h2
                  first | rw [if_pos (by assumption)] at h2 | rw [if_neg (by omega)] at h2
                  exact h2
                · by_cases e : j = i
                  · subst e; rw [upd_same, hms.1, hs.1]; omega
                  · rw [upd_other _ _ (by omega)]; exact hh.out.2.2.1 j (by omega)
                · rw [upd_other _ _ (by omega)]; exact hh.out.2.2.2.1 j (by omega) h2
                · rw [upd_other _ _ (by omega)]; exact hh.out.2.2.2.2 j hj
              case measure => simp [intOf]; omega
          · obtain rfl : i = m + 2 := by omega
            have cu2 := hO2.cell (off + (m + 2)) (by omega)
            have hfree := hO2.free (off + (m + 2))
            have e1 := hh.out.2.2.2.1 (m + 2) (Nat.le_refl _) (by omega)
            rw [e1] at cu2
            have ht := hh.out.2.1
            have hc := hh.out.1
            rw [hV.top, Int.zero_mul, Int.zero_add] at hc
            have hu2 : hi U (m + 2) = dg U (m + 2) := by have := hi_split U (m + 2); rw [hUt.out] at this; omega
            rw [hc, hu2] at ht
            have x0 := dg_nonneg U (m + 2)
            have x1 := dg_lt U (m + 2)
            have HT := Lib.hid ht
            have E1 := Lib.hid e1
            clear e1 hc hu2 ht
            by_cases hneg : 0 ≤ dg U (m + 2) - br - c
            · go_wp2
              go_ret
              have hV0 := KN.out.2.2.2.2.2
              have hD0 : 0 ≤ U - V * q := by
                rcases Int.lt_or_le (U - (V * q + 0)) 0 with h | h
                · have := hi_neg h (m + 2); rw [HT.out] at this; omega
                · omega
              have hmd := mod_of hV0 hD0 FIN.out.2
              refine ⟨?_, hst2.trans (St.setCell _ _ _ _), _, hO2.set (by omega) _, fun i hi0 => ?_, fun j hj => ?_⟩
              · rw [← hmd.1]; first | rfl | exact congrArg (fun z => Ending.returned (Value.int .u32 z)) (show q % 4294967296 = q by omega)
              · rw [← hmd.2]
                by_cases e : i = m + 2
                · subst e; rw [upd_same]
                  have : dg (U - V * q) (m + 2) = hi (U - V * q) (m + 2) % 4294967296 := rfl
                  have h2 := HT.out
                  rw [Int.add_zero] at h2
                  rw [this, h2]; omega
                · rw [upd_other _ _ (by omega)]
                  have := hh.out.2.2.1 i (by omega)
                  rw [Int.add_zero] at this; exact this
              · rw [upd_other _ _ (by omega)]; exact hh.out.2.2.2.2 j hj
            · go_wp2
              have HV0 := Lib.hid KN.out.2.2.2.2.2
              have hstA := hst2.trans (St.setCell wr bu (off + (m + 2)) (.int .u32 ((dg U (m + 2) - br - c) % 4294967296)))
              have hOA := hO2.set (w := wr) (show off + (m + 2) < N by omega) ((dg U (m + 2) - br - c) % 4294967296)
              have HE : Hid (∀ i, i < m + 3 → upd E (off + (m + 2)) ((dg U (m + 2) - br - c) % 4294967296) (off + i) = dg (U - V * q) i) := by
                intro i hi0
                by_cases e : i = m + 2
                · subst e; rw [upd_same]
                  have : dg (U - V * q) (m + 2) = hi (U - V * q) (m + 2) % 4294967296 := rfl
                  have h2 := HT.out
                  rw [Int.add_zero] at h2
                  rw [this, h2]; omega
                · rw [upd_other _ _ (by omega)]
                  have := hh.out.2.2.1 i (by omega)
                  rw [Int.add_zero] at this; exact this
              have HN : Hid (U - V * q < 0) := by
                rcases Int.lt_or_le (U - V * q) 0 with h | h
                · exact h
                · exfalso
                  have h2 := hi_nonneg h (m + 2)
                  have h3 := HT.out
                  rw [Int.add_zero] at h3
                  omega
              have HOUT : Hid (∀ j, (j < off ∨ off + (m + 3) ≤ j) → upd E (off + (m + 2)) ((dg U (m + 2) - br - c) % 4294967296) j = D j) := by
                intro j hj; rw [upd_other _ _ (by omega)]; exact hh.out.2.2.2.2 j hj
              have hq1 : 1 ≤ q := by
                have hmb := mod_of_back HV0.out HN.out FIN.out.1
                have := KN.out.2.2.2.2.1
                omega
              clear hst2 hO2 hh HT E1 hfree hneg hc0 hc1 hb0 hb1 x0 x1 cu2
              go_loopw [9, 139] (fun sc si wz => ∃ (c2 : Int) (k : Nat) (F : Nat → Int), sc = .int .u64 c2 ∧ si = .int .i64 k ∧ k ≤ m + 2 ∧ 0 ≤ c2 ∧ c2 ≤ 1 ∧ St w wz bu ∧ Own wz bu N F ∧
                Hid (hi (U - V * q + V) k = hi (U - V * q) k + hi V k + c2 ∧ (∀ j, j < k → F (off + j) = dg (U - V * q + V) j) ∧ (∀ j, k ≤ j → j < m + 3 → F (off + j) = dg (U - V * q) j) ∧ ∀ j, (j < off ∨ off + (m + 3) ≤ j) → F j = D j)) (fun _ si _ => m + 2 - (intOf si).toNat)
              case atStart => exact ⟨0, 0, _, rfl, rfl, by omega, by omega, by omega, hstA, hOA, by simp [hi_zero], fun j hj => by omega, fun j _ hj => HE.out j hj, HOUT.out⟩
              case round =>
                obtain ⟨c2, k, F, rfl, rfl, hk0, hc0, hc1, hst3, hO3, hh⟩ := hrel
                by_cases hlt : k < m + 2
                · have cv2 := (hst3.cell (o := offv + k) hne).trans (hvc.out k hlt)
                  have cu2 := hO3.cell (off + k) (by omega)
                  have hfree := hO3.free (off + k)
                  have e1 := hh.out.2.2.1 k (Nat.le_refl _) (by omega)
                  rw [e1] at cu2
                  have HS := Lib.hid (plus_step hh.out.1 hc0 hc1)
                  have x0 := dg_nonneg (U - V * q) k
                  have x1 := dg_lt (U - V * q) k
                  have x2 := dg_nonneg V k
                  have x3 := dg_lt V k
                  clear e1
                  go_wp2
                  go_roundw
                  case rel =>
                    have hs := HS.out
                    refine ⟨_, k + 1, _, rfl, by go_num, by omega, ?_, ?_, hst3.trans (St.setCell _ _ _ _), hO3.set (by omega) _, ?_, fun j hj => ?_, fun j h1 h2 => ?_, fun j hj => ?_⟩
                    · go_num
                    · go_num
                    · rw [hs.2.1]; go_num
                    · by_cases e : j = k
                      · subst e; rw [upd_same, hs.1]; go_num
                      · rw [upd_other _ _ (by omega)]; exact hh.out.2.1 j (by omega)
                    · rw [upd_other _ _ (by omega)]; exact hh.out.2.2.1 j (by omega) h2
                    · rw [upd_other _ _ (by omega)]; exact hh.out.2.2.2 j hj
                  case measure => simp [intOf]; omega
                · obtain rfl : k = m + 2 := by omega
                  have cu2 := hO3.cell (off + (m + 2)) (by omega)
                  have hfree := hO3.free (off + (m + 2))
                  have e1 := hh.out.2.2.1 (m + 2) (Nat.le_refl _) (by omega)
                  rw [e1] at cu2
                  have HS := Lib.hid (plus_step0 hh.out.1 hc0 hc1 hV.top)
                  have x0 := dg_nonneg (U - V * q) (m + 2)
                  have x1 := dg_lt (U - V * q) (m + 2)
                  clear e1
                  go_wp2
                  go_ret
                  have hmd := mod_of_back HV0.out HN.out FIN.out.1
                  refine ⟨?_, hst3.trans (St.setCell _ _ _ _), _, hO3.set (by omega) _, fun i hi0 => ?_, fun j hj => ?_⟩
                  · rw [← hmd.1]; first | rfl | exact congrArg (fun z => Ending.returned (Value.int .u32 z)) (show (q - 1) % 4294967296 = q - 1 by omega)
                  · rw [← hmd.2]
                    by_cases e : i = m + 2
                    · subst e; rw [upd_same, HS.out.1]; go_num
                    · rw [upd_other _ _ (by omega)]; exact hh.out.2.1 i (by omega)
                  · rw [upd_other _ _ (by omega)]; exact hh.out.2.2.2 j hj
end Go.Proofs.YtgopfikljndklaaDoor
