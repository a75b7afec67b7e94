/- Printed by a program of the prover's: TwistVelocities. -/
import Derived.Test.YtgopfikljndklaaDoorGen14
namespace Go.Proofs.YtgopfikljndklaaDoor
open Go.RowKit

theorem lawVe0 (A0 A1 A2 A3 A4 A5 P0 P1 P2 : Rat)  : (vcmp (A3 + (A1 * P2 - A2 * P1)) (A4 + (A2 * P0 - A0 * P2)) (A5 + (A0 * P1 - A1 * P0)) (A3 + (A1 * P2 - A2 * P1)) (A4 + (A2 * P0 - A0 * P2)) (A5 + (A0 * P1 - A1 * P0)) == (0 : Int)) = true := veq_t rfl rfl rfl
theorem lawVe1 (A0 A1 A2 A3 A4 A5 P0 P1 P2 : Rat)  : (vcmp (A3 + (0 * P2 - 0 * P1)) (A4 + (0 * P0 - 0 * P2)) (A5 + (0 * P1 - 0 * P0)) A3 A4 A5 == (0 : Int)) = true := veq_t (by grind) (by grind) (by grind)
theorem lawVe2 (A0 A1 A2 A3 A4 A5 P0 P1 P2 : Rat)  : (vcmp 0 0 0 0 0 0 == (0 : Int)) = true := veq_t rfl rfl rfl
set_option maxRecDepth 100000 in
set_option maxHeartbeats 8000000 in
theorem velocities_q (n0 n1 n2 n3 n4 n5 dd : Int) (_in0 : -128 ≤ n0 ∧ n0 ≤ 127) (_in1 : -128 ≤ n1 ∧ n1 ≤ 127) (_in2 : -128 ≤ n2 ∧ n2 ≤ 127) (_in3 : -128 ≤ n3 ∧ n3 ≤ 127) (_in4 : -128 ≤ n4 ∧ n4 ≤ 127) (_in5 : -128 ≤ n5 ∧ n5 ≤ 127) (_idd : 0 ≤ dd ∧ dd ≤ 255) (m0 m1 m2 : Int) (_im0 : -128 ≤ m0 ∧ m0 ≤ 127) (_im1 : -128 ≤ m1 ∧ m1 ≤ 127) (_im2 : -128 ≤ m2 ∧ m2 ≤ 127) (A0 A1 A2 A3 A4 A5 : Rat) (eA0 : A0 = (((n0 : Int) : Rat) / ((1 + dd % 3 : Int) : Rat))) (eA1 : A1 = (((n1 : Int) : Rat) / ((1 + dd % 3 : Int) : Rat))) (eA2 : A2 = (((n2 : Int) : Rat) / ((1 + dd % 3 : Int) : Rat))) (eA3 : A3 = (((n3 : Int) : Rat) / ((1 + dd % 3 : Int) : Rat))) (eA4 : A4 = (((n4 : Int) : Rat) / ((1 + dd % 3 : Int) : Rat))) (eA5 : A5 = (((n5 : Int) : Rat) / ((1 + dd % 3 : Int) : Rat))) (P0 P1 P2 : Rat) (eP0 : P0 = ((m0 : Int) : Rat)) (eP1 : P1 = ((m1 : Int) : Rat)) (eP2 : P2 = ((m2 : Int) : Rat)) (w : World) (ht : Tab w) :
    Calls Tryd.prog 4 #[(.agg #[(.int .i8 (n0)), (.int .i8 (n1)), (.int .i8 (n2)), (.int .i8 (n3)), (.int .i8 (n4)), (.int .i8 (n5)), (.int .u8 (dd))]), (.agg #[(.int .i8 (m0)), (.int .i8 (m1)), (.int .i8 (m2))])] w fun e w' => e = .returned (.bool true) ∧ Gr w w' := by
  go_enter Tryd.func4, Tryd.ntmps4
  have hB := Gr.refl w
  refine wp_seq_k (fun K1 k1 => ?_)
  refine wp_region ?_
  simp only [List.size_toArray, List.length_cons, List.length_nil, Nat.reduceAdd, List.range, List.range.loop]
  refine sq_eff rfl (by kernel_rfl) (fun K2 k2 => ?_)
  refine eff_box 25 _ (.agg #[(.int .i8 (n0)), (.int .i8 (n1)), (.int .i8 (n2)), (.int .i8 (n3)), (.int .i8 (n4)), (.int .i8 (n5)), (.int .u8 (dd))]) #[(.int .i8 (n0)), (.int .i8 (n1)), (.int .i8 (n2)), (.int .i8 (n3)), (.int .i8 (n4)), (.int .i8 (n5)), (.int .u8 (dd))] (some 2) rfl rfl rfl rfl (fun b3 w3 g3 L3 q3 => ?_)
  replace q3 := Nat.le_trans (Below.size hB) q3
  replace hB := Gr.trans hB g3
  refine k2 _ _ ?_
  try clear k2 K2
  simp only [p1, p2, p3, p4]
  refine sq_eff rfl (by kernel_rfl) (fun K4 k4 => ?_)
  refine eff_box 54 _ (.agg #[(.int .i8 (m0)), (.int .i8 (m1)), (.int .i8 (m2))]) #[(.int .i8 (m0)), (.int .i8 (m1)), (.int .i8 (m2))] (some 3) rfl rfl rfl rfl (fun b5 w5 g5 L5 q5 => ?_)
  have ne3_5 := L3.ne q5
  replace q5 := Nat.le_trans (Below.size hB) q5
  replace hB := Gr.trans hB g5
  refine k4 _ _ ?_
  try clear k4 K4
  simp only [p1, p2, p3, p4]
  refine sq_val (some 4) (.bool false) rfl rfl (by kernel_rfl) (rvk (by kernel_rfl)) ?_
  simp only [p1, p2, p3, p4]
  refine sq_nil ?_
  refine k1 _ _ ?_
  try clear k1 K1
  refine wp_seq_k (fun K6 k6 => ?_)
  refine wp_seq_k (fun K7 k7 => ?_)
  refine wp_region ?_
  simp only [List.size_toArray, List.length_cons, List.length_nil, Nat.reduceAdd, List.range, List.range.loop]
  refine sq_eff rfl (by kernel_rfl) (fun K8 k8 => ?_)
  refine eff_call (some 7) rfl (by kernel_rfl) (known_t _ (ht.gr hB)) ?_
  rintro e9 w9 ⟨rfl, g9⟩
  refine ⟨_, rfl, ?_⟩
  replace hB := Gr.trans hB g9
  refine k8 _ _ ?_
  try clear k8 K8
  simp only [p1, p2, p3, p4]
  refine sq_val (some 8) (.bool false) rfl rfl (by kernel_rfl) (rvk (by kernel_rfl)) ?_
  simp only [p1, p2, p3, p4]
  refine sq_nil ?_
  refine k7 _ _ ?_
  try clear k7 K7
  refine wp_cond_false rfl ?_
  refine wp_skip ?_
  refine k6 _ _ ?_
  try clear k6 K6
  refine wp_seq_k (fun K10 k10 => ?_)
  have hz11 := Below.size hB
  replace L3 := L3.gr (g5.trans g9)
  have lt3_11 := L3.lt
  replace L5 := L5.gr g9
  have lt5_11 := L5.lt
  have gd11 := Gr.drew w9
  replace hB := Gr.trans hB gd11
  replace L3 := L3.gr gd11
  replace L5 := L5.gr gd11
  refine wp_region_flo (fun w' => Lc w' b3 #[(.int .i8 (n0)), (.int .i8 (n1)), (.int .i8 (n2)), (.int .i8 (n3)), (.int .i8 (n4)), (.int .i8 (n5)), (.int .u8 (dd))] 25 ∧ Lc w' b5 #[(.int .i8 (m0)), (.int .i8 (m1)), (.int .i8 (m2))] 54) [(true, 0), (true, 2), (false, 1), (false, 3)] [⟨4, 5, 35, #[(.bool false), (.slice none 0 0), (.bool false), (.slice none 0 0), (.bool false), (.slice none 0 0), (.bool false), (.slice none 0 0), (.bool false), (.slice none 0 0), (.bool false), (.slice none 0 0), (.bool false), (.slice none 0 0), (.bool false), (.slice none 0 0), (.bool false), (.slice none 0 0), (.bool false), (.slice none 0 0), (.bool false), (.slice none 0 0), (.bool false), (.slice none 0 0)]⟩, ⟨5, 6, 33, #[(.bool false), (.slice none 0 0), (.bool false), (.slice none 0 0), (.bool false), (.slice none 0 0), (.bool false), (.slice none 0 0), (.bool false), (.slice none 0 0), (.bool false), (.slice none 0 0)]⟩] [(false, 6), (false, 7)] (by kernel_rfl) (by kernel_rfl) (by kernel_rfl) (by kernel_rfl) (by kernel_rfl) (by decide) (fun _ _ _ _ _ h => h) (fun _ _ _ _ _ h => h) (fun w' o h => ⟨Lc.gr h.1 (Gr.alloc w' o), Lc.gr h.2 (Gr.alloc w' o)⟩) ⟨L3, L5⟩ (by intro f hf; simp only [List.mem_cons, List.not_mem_nil, or_false] at hf; rcases hf with rfl | rfl <;> first | exact alloc_zero (z := (.agg #[(.bool false), (.slice none 0 0), (.bool false), (.slice none 0 0), (.bool false), (.slice none 0 0), (.bool false), (.slice none 0 0), (.bool false), (.slice none 0 0), (.bool false), (.slice none 0 0), (.bool false), (.slice none 0 0), (.bool false), (.slice none 0 0), (.bool false), (.slice none 0 0), (.bool false), (.slice none 0 0), (.bool false), (.slice none 0 0), (.bool false), (.slice none 0 0)])) (by kernel_rfl) rfl | exact alloc_zero (z := (.agg #[(.bool false), (.slice none 0 0), (.bool false), (.slice none 0 0), (.bool false), (.slice none 0 0), (.bool false), (.slice none 0 0), (.bool false), (.slice none 0 0), (.bool false), (.slice none 0 0)])) (by kernel_rfl) rfl) ?_
  refine flo_pure (some 9) (.agg #[(.int .i8 (n0)), (.int .i8 (n1)), (.int .i8 (n2)), (.int .i8 (n3)), (.int .i8 (n4)), (.int .i8 (n5)), (.int .u8 (dd))]) rfl rfl rfl (fun w' hS => (rv_load 25 _ b3 0 _ _ [(.int .i8 (n0)), (.int .i8 (n1)), (.int .i8 (n2)), (.int .i8 (n3)), (.int .i8 (n4)), (.int .i8 (n5)), (.int .u8 (dd))] rfl rfl hS.1 rfl (by kernel_rfl))) ?_
  simp only [p1, p2, p3, p4]
  refine flo_pure (some 11) (.agg #[(.int .i8 (m0)), (.int .i8 (m1)), (.int .i8 (m2))]) rfl rfl rfl (fun w' hS => (rv_load 54 _ b5 0 _ _ [(.int .i8 (m0)), (.int .i8 (m1)), (.int .i8 (m2))] rfl rfl hS.2 rfl (by kernel_rfl))) ?_
  simp only [p1, p2, p3, p4]
  refine flo_eff rfl rfl (fun w12 g12 _ K12 k12 => ?_)
  replace hB := Gr.trans hB g12
  refine eff_call (some 10) rfl (by kernel_rfl) (of_v (n0) (n1) (n2) (n3) (n4) (n5) (dd) (by omega) (by omega) (by omega) (by omega) (by omega) (by omega) (by omega) _) ?_
  rintro e13 w13 ⟨⟨t13_0, t13_1, t13_2, t13_3, t13_4, t13_5, t13_6, t13_7, t13_8, t13_9, t13_10, t13_11, t13_12, t13_13, t13_14, t13_15, t13_16, t13_17, t13_18, t13_19, t13_20, t13_21, t13_22, t13_23, rfl, h13a, h13b, h13c, h13d, h13e, h13f⟩, g13⟩
  refine ⟨_, rfl, ?_⟩
  replace hB := Gr.trans hB g13
  rw [← eA0] at h13a
  rw [← eA1] at h13b
  rw [← eA2] at h13c
  rw [← eA3] at h13d
  rw [← eA4] at h13e
  rw [← eA5] at h13f
  replace L3 := L3.gr (g12.trans g13)
  replace L5 := L5.gr (g12.trans g13)
  refine k12 _ _ g13 ⟨L3, L5⟩ ?_
  try clear k12 K12
  simp only [p1, p2, p3, p4]
  refine flo_eff rfl rfl (fun w14 g14 _ K14 k14 => ?_)
  replace hB := Gr.trans hB g14
  refine eff_call (some 12) rfl (by kernel_rfl) (point_v (m0) (m1) (m2) (by omega) (by omega) (by omega) _) ?_
  rintro e15 w15 ⟨⟨t15_0, t15_1, t15_2, t15_3, t15_4, t15_5, t15_6, t15_7, t15_8, t15_9, t15_10, t15_11, rfl, h15a, h15b, h15c⟩, g15⟩
  refine ⟨_, rfl, ?_⟩
  replace hB := Gr.trans hB g15
  rw [← eP0] at h15a
  rw [← eP1] at h15b
  rw [← eP2] at h15c
  replace L3 := L3.gr (g14.trans g15)
  replace L5 := L5.gr (g14.trans g15)
  refine k14 _ _ g15 ⟨L3, L5⟩ ?_
  try clear k14 K14
  simp only [p1, p2, p3, p4]
  refine flo_nil (fun w16 g16 _ => ?_)
  replace hB := Gr.trans hB g16
  refine floFin2 (fun b17 b18 (L17 : Lc w16 b17 #[(.bool false), (.slice none 0 0), (.bool false), (.slice none 0 0), (.bool false), (.slice none 0 0), (.bool false), (.slice none 0 0), (.bool false), (.slice none 0 0), (.bool false), (.slice none 0 0), (.bool false), (.slice none 0 0), (.bool false), (.slice none 0 0), (.bool false), (.slice none 0 0), (.bool false), (.slice none 0 0), (.bool false), (.slice none 0 0), (.bool false), (.slice none 0 0)] 35) q17 (L18 : Lc w16 b18 #[(.bool false), (.slice none 0 0), (.bool false), (.slice none 0 0), (.bool false), (.slice none 0 0), (.bool false), (.slice none 0 0), (.bool false), (.slice none 0 0), (.bool false), (.slice none 0 0)] 33) q18 ne17_18 => ?_)
  have ne3_17 : b3 ≠ b17 := Nat.ne_of_lt (Nat.lt_of_lt_of_le lt3_11 q17)
  have ne5_17 : b5 ≠ b17 := Nat.ne_of_lt (Nat.lt_of_lt_of_le lt5_11 q17)
  replace q17 := Nat.le_trans hz11 q17
  have ne3_18 : b3 ≠ b18 := Nat.ne_of_lt (Nat.lt_of_lt_of_le lt3_11 q18)
  have ne5_18 : b5 ≠ b18 := Nat.ne_of_lt (Nat.lt_of_lt_of_le lt5_11 q18)
  replace q18 := Nat.le_trans hz11 q18
  simp only [p1, p2, p3, p4]
  refine ord_eff rfl rfl (fun K19 k19 => ?_)
  refine eff_store 35 _ _ b17 0 (.agg #[t13_0, t13_1, t13_2, t13_3, t13_4, t13_5, t13_6, t13_7, t13_8, t13_9, t13_10, t13_11, t13_12, t13_13, t13_14, t13_15, t13_16, t13_17, t13_18, t13_19, t13_20, t13_21, t13_22, t13_23]) [t13_0, t13_1, t13_2, t13_3, t13_4, t13_5, t13_6, t13_7, t13_8, t13_9, t13_10, t13_11, t13_12, t13_13, t13_14, t13_15, t13_16, t13_17, t13_18, t13_19, t13_20, t13_21, t13_22, t13_23] _ #[t13_0, t13_1, t13_2, t13_3, t13_4, t13_5, t13_6, t13_7, t13_8, t13_9, t13_10, t13_11, t13_12, t13_13, t13_14, t13_15, t13_16, t13_17, t13_18, t13_19, t13_20, t13_21, t13_22, t13_23] _ rfl rfl rfl rfl rfl L17 (by kernel_rfl) (Nat.le_of_ble_eq_true rfl) ⟨h13a.one0, h13a.one1, h13a.one2, h13a.one3, h13b.one0, h13b.one1, h13b.one2, h13b.one3, h13c.one0, h13c.one1, h13c.one2, h13c.one3, h13d.one0, h13d.one1, h13d.one2, h13d.one3, h13e.one0, h13e.one1, h13e.one2, h13e.one3, h13f.one0, h13f.one1, h13f.one2, h13f.one3, trivial⟩ (by kernel_rfl) (fun w20 st20 N20 => ?_)
  have kp20 := st20.kp L17 (by decide)
  replace hB := st20.gr hB q17
  replace L17 := N20
  replace L3 := st20.lc (L3.gr g16) ne3_17
  replace L5 := st20.lc (L5.gr g16) ne5_17
  refine k19 _ _ ⟨L3, L5⟩ ?_
  try clear k19 K19
  refine ord_eff rfl rfl (fun K21 k21 => ?_)
  replace L18 := st20.lc L18 (Ne.symm ne17_18)
  refine eff_store 33 _ _ b18 0 (.agg #[t15_0, t15_1, t15_2, t15_3, t15_4, t15_5, t15_6, t15_7, t15_8, t15_9, t15_10, t15_11]) [t15_0, t15_1, t15_2, t15_3, t15_4, t15_5, t15_6, t15_7, t15_8, t15_9, t15_10, t15_11] _ #[t15_0, t15_1, t15_2, t15_3, t15_4, t15_5, t15_6, t15_7, t15_8, t15_9, t15_10, t15_11] _ rfl rfl rfl rfl rfl L18 (by kernel_rfl) (Nat.le_of_ble_eq_true rfl) ⟨h15a.one0, h15a.one1, h15a.one2, h15a.one3, h15b.one0, h15b.one1, h15b.one2, h15b.one3, h15c.one0, h15c.one1, h15c.one2, h15c.one3, trivial⟩ (by kernel_rfl) (fun w22 st22 N22 => ?_)
  have kp22 := st22.kp L18 (by decide)
  replace hB := st22.gr hB q18
  replace L18 := N22
  replace L3 := st22.lc L3 ne3_18
  replace L5 := st22.lc L5 ne5_18
  refine k21 _ _ ⟨L3, L5⟩ ?_
  try clear k21 K21
  refine ord_nil ?_
  refine k10 _ _ ?_
  try clear k10 K10
  refine wp_seq_k (fun K23 k23 => ?_)
  have gd51 := Gr.drew w22
  replace hB := Gr.trans hB gd51
  replace L3 := L3.gr gd51
  replace L17 := (st22.lc L17 ne17_18).gr gd51
  replace L18 := L18.gr gd51
  refine wp_region_ord (fun w' => Lc w' b3 #[(.int .i8 (n0)), (.int .i8 (n1)), (.int .i8 (n2)), (.int .i8 (n3)), (.int .i8 (n4)), (.int .i8 (n5)), (.int .u8 (dd))] 25 ∧ Lc w' b17 #[t13_0, t13_1, t13_2, t13_3, t13_4, t13_5, t13_6, t13_7, t13_8, t13_9, t13_10, t13_11, t13_12, t13_13, t13_14, t13_15, t13_16, t13_17, t13_18, t13_19, t13_20, t13_21, t13_22, t13_23] 35 ∧ Lc w' b18 #[t15_0, t15_1, t15_2, t15_3, t15_4, t15_5, t15_6, t15_7, t15_8, t15_9, t15_10, t15_11] 33) [(true, 0), (true, 1), (true, 3), (true, 4), (false, 2), (false, 5), (false, 6), (true, 7), (true, 8), (true, 11), (true, 13), (false, 9), (false, 10), (false, 12), (false, 14), (false, 15), (true, 16), (true, 17), (true, 18), (false, 19), (false, 20), (true, 21), (true, 22)] (by kernel_rfl) (by kernel_rfl) (by kernel_rfl) (by decide) (fun _ _ _ _ _ h => h) ⟨L3, L17, L18⟩ ?_
  refine ord_pure (some 13) (.agg #[t13_0, t13_1, t13_2, t13_3, t13_4, t13_5, t13_6, t13_7, t13_8, t13_9, t13_10, t13_11, t13_12, t13_13, t13_14, t13_15, t13_16, t13_17, t13_18, t13_19, t13_20, t13_21, t13_22, t13_23]) rfl rfl rfl (fun w' hS => (rv_load 35 _ b17 0 _ _ [t13_0, t13_1, t13_2, t13_3, t13_4, t13_5, t13_6, t13_7, t13_8, t13_9, t13_10, t13_11, t13_12, t13_13, t13_14, t13_15, t13_16, t13_17, t13_18, t13_19, t13_20, t13_21, t13_22, t13_23] rfl rfl hS.2.1 rfl (by kernel_rfl))) ?_
  simp only [p1, p2, p3, p4]
  refine ord_pure (some 14) (.agg #[t15_0, t15_1, t15_2, t15_3, t15_4, t15_5, t15_6, t15_7, t15_8, t15_9, t15_10, t15_11]) rfl rfl rfl (fun w' hS => (rv_load 33 _ b18 0 _ _ [t15_0, t15_1, t15_2, t15_3, t15_4, t15_5, t15_6, t15_7, t15_8, t15_9, t15_10, t15_11] rfl rfl hS.2.2 rfl (by kernel_rfl))) ?_
  simp only [p1, p2, p3, p4]
  refine ord_pure (some 16) (.agg #[t13_0, t13_1, t13_2, t13_3, t13_4, t13_5, t13_6, t13_7, t13_8, t13_9, t13_10, t13_11, t13_12, t13_13, t13_14, t13_15, t13_16, t13_17, t13_18, t13_19, t13_20, t13_21, t13_22, t13_23]) rfl rfl rfl (fun w' hS => (rv_load 35 _ b17 0 _ _ [t13_0, t13_1, t13_2, t13_3, t13_4, t13_5, t13_6, t13_7, t13_8, t13_9, t13_10, t13_11, t13_12, t13_13, t13_14, t13_15, t13_16, t13_17, t13_18, t13_19, t13_20, t13_21, t13_22, t13_23] rfl rfl hS.2.1 rfl (by kernel_rfl))) ?_
  simp only [p1, p2, p3, p4]
  refine ord_pure (some 17) (.agg #[t15_0, t15_1, t15_2, t15_3, t15_4, t15_5, t15_6, t15_7, t15_8, t15_9, t15_10, t15_11]) rfl rfl rfl (fun w' hS => (rv_load 33 _ b18 0 _ _ [t15_0, t15_1, t15_2, t15_3, t15_4, t15_5, t15_6, t15_7, t15_8, t15_9, t15_10, t15_11] rfl rfl hS.2.2 rfl (by kernel_rfl))) ?_
  simp only [p1, p2, p3, p4]
  refine ord_eff rfl rfl (fun K52 k52 => ?_)
  have kq54 := g14.kp.trans (g15.kp.trans (g16.kp.trans (kp20.trans (kp22.trans gd51.kp))))
  replace h13a := h13a.kp kq54
  replace h13b := h13b.kp kq54
  replace h13c := h13c.kp kq54
  replace h13d := h13d.kp kq54
  replace h13e := h13e.kp kq54
  replace h13f := h13f.kp kq54
  have kq55 := g16.kp.trans (kp20.trans (kp22.trans gd51.kp))
  replace h15a := h15a.kp kq55
  replace h15b := h15b.kp kq55
  replace h15c := h15c.kp kq55
  refine eff_call (some 15) rfl (by kernel_rfl) (tvel_v h13a h13b h13c h13d h13e h13f h15a h15b h15c (by omega)) ?_
  rintro e53 w53 ⟨⟨t53_0, t53_1, t53_2, t53_3, t53_4, t53_5, t53_6, t53_7, t53_8, t53_9, t53_10, t53_11, rfl, h53a, h53b, h53c⟩, g53⟩
  refine ⟨_, rfl, ?_⟩
  replace hB := Gr.trans hB g53
  replace L3 := L3.gr g53
  replace L17 := L17.gr g53
  replace L18 := L18.gr g53
  refine k52 _ _ ⟨L3, L17, L18⟩ ?_
  try clear k52 K52
  simp only [p1, p2, p3, p4]
  refine ord_eff rfl rfl (fun K56 k56 => ?_)
  replace h13a := h13a.kp g53.kp
  replace h13b := h13b.kp g53.kp
  replace h13c := h13c.kp g53.kp
  replace h13d := h13d.kp g53.kp
  replace h13e := h13e.kp g53.kp
  replace h13f := h13f.kp g53.kp
  replace h15a := h15a.kp g53.kp
  replace h15b := h15b.kp g53.kp
  replace h15c := h15c.kp g53.kp
  refine eff_call (some 18) rfl (by kernel_rfl) (lvel_v h13a h13b h13c h13d h13e h13f h15a h15b h15c (by omega)) ?_
  rintro e57 w57 ⟨⟨t57_0, t57_1, t57_2, t57_3, t57_4, t57_5, t57_6, t57_7, t57_8, t57_9, t57_10, t57_11, rfl, h57a, h57b, h57c⟩, g57⟩
  refine ⟨_, rfl, ?_⟩
  replace hB := Gr.trans hB g57
  replace L3 := L3.gr g57
  replace L17 := L17.gr g57
  replace L18 := L18.gr g57
  refine k56 _ _ ⟨L3, L17, L18⟩ ?_
  try clear k56 K56
  simp only [p1, p2, p3, p4]
  refine ord_eff rfl rfl (fun K58 k58 => ?_)
  replace h53a := h53a.kp g57.kp
  replace h53b := h53b.kp g57.kp
  replace h53c := h53c.kp g57.kp
  refine eff_call (some 19) rfl (by kernel_rfl) (vequal_v h53a h53b h53c h57a h57b h57c (by omega)) ?_
  rintro e59 w59 ⟨rfl, g59⟩
  refine ⟨_, rfl, ?_⟩
  replace hB := Gr.trans hB g59
  replace L3 := L3.gr g59
  replace L17 := L17.gr g59
  replace L18 := L18.gr g59
  refine k58 _ _ ⟨L3, L17, L18⟩ ?_
  try clear k58 K58
  simp only [p1, p2, p3, p4]
  have hb60 : (vcmp (A3 + (A1 * P2 - A2 * P1)) (A4 + (A2 * P0 - A0 * P2)) (A5 + (A0 * P1 - A1 * P0)) (A3 + (A1 * P2 - A2 * P1)) (A4 + (A2 * P0 - A0 * P2)) (A5 + (A0 * P1 - A1 * P0)) == (0 : Int)) = true := (lawVe0 A0 A1 A2 A3 A4 A5 P0 P1 P2 )
  refine ord_pure (some 20) (.bool true) rfl rfl rfl (fun w' hS => (RunV.bool (x := vcmp (A3 + (A1 * P2 - A2 * P1)) (A4 + (A2 * P0 - A0 * P2)) (A5 + (A0 * P1 - A1 * P0)) (A3 + (A1 * P2 - A2 * P1)) (A4 + (A2 * P0 - A0 * P2)) (A5 + (A0 * P1 - A1 * P0)) == (0 : Int)) (rvk (by kernel_rfl)) hb60)) ?_
  simp only [p1, p2, p3, p4]
  refine ord_pureg (some 21) (.agg #[(.int .i8 (n0)), (.int .i8 (n1)), (.int .i8 (n2)), (.int .i8 (n3)), (.int .i8 (n4)), (.int .i8 (n5)), (.int .u8 (dd))]) rfl rfl (by kernel_rfl) (fun w' hS => (rv_load 25 _ b3 0 _ _ [(.int .i8 (n0)), (.int .i8 (n1)), (.int .i8 (n2)), (.int .i8 (n3)), (.int .i8 (n4)), (.int .i8 (n5)), (.int .u8 (dd))] rfl rfl hS.1 rfl (by kernel_rfl))) ?_
  simp only [p1, p2, p3, p4]
  refine ord_pureg (some 24) (.agg #[t15_0, t15_1, t15_2, t15_3, t15_4, t15_5, t15_6, t15_7, t15_8, t15_9, t15_10, t15_11]) rfl rfl (by kernel_rfl) (fun w' hS => (rv_load 33 _ b18 0 _ _ [t15_0, t15_1, t15_2, t15_3, t15_4, t15_5, t15_6, t15_7, t15_8, t15_9, t15_10, t15_11] rfl rfl hS.2.2 rfl (by kernel_rfl))) ?_
  simp only [p1, p2, p3, p4]
  refine ord_pureg (some 26) (.agg #[(.int .i8 (n0)), (.int .i8 (n1)), (.int .i8 (n2)), (.int .i8 (n3)), (.int .i8 (n4)), (.int .i8 (n5)), (.int .u8 (dd))]) rfl rfl (by kernel_rfl) (fun w' hS => (rv_load 25 _ b3 0 _ _ [(.int .i8 (n0)), (.int .i8 (n1)), (.int .i8 (n2)), (.int .i8 (n3)), (.int .i8 (n4)), (.int .i8 (n5)), (.int .u8 (dd))] rfl rfl hS.1 rfl (by kernel_rfl))) ?_
  simp only [p1, p2, p3, p4]
  refine ord_effg rfl (by kernel_rfl) (fun K61 k61 => ?_)
  refine eff_call (some 22) rfl (by kernel_rfl) (vec_3 (n0) (n1) (n2) (n3) (n4) (n5) (dd) (by omega) (by omega) (by omega) (by omega) (by omega) (by omega) (by omega) _) ?_
  rintro e62 w62 ⟨⟨t62_0, t62_1, t62_2, t62_3, t62_4, t62_5, t62_6, t62_7, t62_8, t62_9, t62_10, t62_11, rfl, h62a, h62b, h62c⟩, g62⟩
  refine ⟨_, rfl, ?_⟩
  replace hB := Gr.trans hB g62
  rw [← eA3] at h62a
  rw [← eA4] at h62b
  rw [← eA5] at h62c
  replace L3 := L3.gr g62
  replace L17 := L17.gr g62
  replace L18 := L18.gr g62
  refine k61 _ _ ⟨L3, L17, L18⟩ ?_
  try clear k61 K61
  simp only [p1, p2, p3, p4]
  refine ord_effg rfl (by kernel_rfl) (fun K63 k63 => ?_)
  refine eff_call (some 23) rfl (by kernel_rfl) (ttrans_v h62a h62b h62c (by omega)) ?_
  rintro e64 w64 ⟨⟨t64_0, t64_1, t64_2, t64_3, t64_4, t64_5, t64_6, t64_7, t64_8, t64_9, t64_10, t64_11, t64_12, t64_13, t64_14, t64_15, t64_16, t64_17, t64_18, t64_19, t64_20, t64_21, t64_22, t64_23, rfl, h64a, h64b, h64c, h64d, h64e, h64f⟩, g64⟩
  refine ⟨_, rfl, ?_⟩
  replace hB := Gr.trans hB g64
  replace L3 := L3.gr g64
  replace L17 := L17.gr g64
  replace L18 := L18.gr g64
  refine k63 _ _ ⟨L3, L17, L18⟩ ?_
  try clear k63 K63
  simp only [p1, p2, p3, p4]
  refine ord_effg rfl (by kernel_rfl) (fun K65 k65 => ?_)
  have kq67 := g57.kp.trans (g59.kp.trans (g62.kp.trans g64.kp))
  replace h15a := h15a.kp kq67
  replace h15b := h15b.kp kq67
  replace h15c := h15c.kp kq67
  refine eff_call (some 25) rfl (by kernel_rfl) (tvel_v (h64a.mono (show _ ≤ 128 by omega)) (h64b.mono (show _ ≤ 128 by omega)) (h64c.mono (show _ ≤ 128 by omega)) h64d h64e h64f h15a h15b h15c (by omega)) ?_
  rintro e66 w66 ⟨⟨t66_0, t66_1, t66_2, t66_3, t66_4, t66_5, t66_6, t66_7, t66_8, t66_9, t66_10, t66_11, rfl, h66a, h66b, h66c⟩, g66⟩
  refine ⟨_, rfl, ?_⟩
  replace hB := Gr.trans hB g66
  replace L3 := L3.gr g66
  replace L17 := L17.gr g66
  replace L18 := L18.gr g66
  refine k65 _ _ ⟨L3, L17, L18⟩ ?_
  try clear k65 K65
  simp only [p1, p2, p3, p4]
  refine ord_effg rfl (by kernel_rfl) (fun K68 k68 => ?_)
  refine eff_call (some 27) rfl (by kernel_rfl) (vec_3 (n0) (n1) (n2) (n3) (n4) (n5) (dd) (by omega) (by omega) (by omega) (by omega) (by omega) (by omega) (by omega) _) ?_
  rintro e69 w69 ⟨⟨t69_0, t69_1, t69_2, t69_3, t69_4, t69_5, t69_6, t69_7, t69_8, t69_9, t69_10, t69_11, rfl, h69a, h69b, h69c⟩, g69⟩
  refine ⟨_, rfl, ?_⟩
  replace hB := Gr.trans hB g69
  rw [← eA3] at h69a
  rw [← eA4] at h69b
  rw [← eA5] at h69c
  replace L3 := L3.gr g69
  replace L17 := L17.gr g69
  replace L18 := L18.gr g69
  refine k68 _ _ ⟨L3, L17, L18⟩ ?_
  try clear k68 K68
  simp only [p1, p2, p3, p4]
  refine ord_effg rfl (by kernel_rfl) (fun K70 k70 => ?_)
  replace h66a := h66a.kp g69.kp
  replace h66b := h66b.kp g69.kp
  replace h66c := h66c.kp g69.kp
  refine eff_call (some 28) rfl (by kernel_rfl) (vequal_v h66a h66b h66c h69a h69b h69c (by omega)) ?_
  rintro e71 w71 ⟨rfl, g71⟩
  refine ⟨_, rfl, ?_⟩
  replace hB := Gr.trans hB g71
  replace L3 := L3.gr g71
  replace L17 := L17.gr g71
  replace L18 := L18.gr g71
  refine k70 _ _ ⟨L3, L17, L18⟩ ?_
  try clear k70 K70
  simp only [p1, p2, p3, p4]
  have hb72 : (vcmp (A3 + (0 * P2 - 0 * P1)) (A4 + (0 * P0 - 0 * P2)) (A5 + (0 * P1 - 0 * P0)) A3 A4 A5 == (0 : Int)) = true := (lawVe1 A0 A1 A2 A3 A4 A5 P0 P1 P2 )
  refine ord_pure (some 29) (.bool true) rfl rfl rfl (fun w' hS => (RunV.bool (x := vcmp (A3 + (0 * P2 - 0 * P1)) (A4 + (0 * P0 - 0 * P2)) (A5 + (0 * P1 - 0 * P0)) A3 A4 A5 == (0 : Int)) (rvk (by kernel_rfl)) hb72)) ?_
  simp only [p1, p2, p3, p4]
  refine ord_pure (some 30) (.bool true) rfl rfl rfl (fun w' hS => (rvk (by kernel_rfl))) ?_
  simp only [p1, p2, p3, p4]
  refine ord_pureg (some 31) (.agg #[(.bool false), (.slice none 0 0), (.bool false), (.slice none 0 0), (.bool false), (.slice none 0 0), (.bool false), (.slice none 0 0), (.bool false), (.slice none 0 0), (.bool false), (.slice none 0 0)]) rfl rfl (by kernel_rfl) (fun w' hS => (rvk (by kernel_rfl))) ?_
  simp only [p1, p2, p3, p4]
  refine ord_effg rfl (by kernel_rfl) (fun K73 k73 => ?_)
  refine eff_call (some 32) rfl (by kernel_rfl) (ttrans_v (IsRat.zero _ (k := 64) (Nat.le_refl _)) (IsRat.zero _ (k := 64) (Nat.le_refl _)) (IsRat.zero _ (k := 64) (Nat.le_refl _)) (by omega)) ?_
  rintro e74 w74 ⟨⟨t74_0, t74_1, t74_2, t74_3, t74_4, t74_5, t74_6, t74_7, t74_8, t74_9, t74_10, t74_11, t74_12, t74_13, t74_14, t74_15, t74_16, t74_17, t74_18, t74_19, t74_20, t74_21, t74_22, t74_23, rfl, h74a, h74b, h74c, h74d, h74e, h74f⟩, g74⟩
  refine ⟨_, rfl, ?_⟩
  replace hB := Gr.trans hB g74
  replace L3 := L3.gr g74
  replace L17 := L17.gr g74
  replace L18 := L18.gr g74
  refine k73 _ _ ⟨L3, L17, L18⟩ ?_
  try clear k73 K73
  simp only [p1, p2, p3, p4]
  refine ord_effg rfl (by kernel_rfl) (fun K75 k75 => ?_)
  have hb77 : (vcmp 0 0 0 0 0 0 == (0 : Int)) = true := (lawVe2 A0 A1 A2 A3 A4 A5 P0 P1 P2 )
  refine eff_call (some 33) rfl (by kernel_rfl) (tzero_t h74a h74b h74c h74d h74e h74f (by omega) hb77) ?_
  rintro e76 w76 ⟨rfl, g76⟩
  refine ⟨_, rfl, ?_⟩
  replace hB := Gr.trans hB g76
  replace L3 := L3.gr g76
  replace L17 := L17.gr g76
  replace L18 := L18.gr g76
  refine k75 _ _ ⟨L3, L17, L18⟩ ?_
  try clear k75 K75
  simp only [p1, p2, p3, p4]
  refine ord_pure (some 34) (.bool true) rfl rfl rfl (fun w' hS => (RunV.bool (x := vcmp 0 0 0 0 0 0 == (0 : Int)) (rvk (by kernel_rfl)) hb77)) ?_
  simp only [p1, p2, p3, p4]
  refine ord_pure (some 4) (.bool true) rfl rfl rfl (fun w' hS => (rvk (by kernel_rfl))) ?_
  simp only [p1, p2, p3, p4]
  refine ord_nil ?_
  refine k23 _ _ ?_
  try clear k23 K23
  refine wp_ret ?_
  refine bodyPost_ret (v := (.bool true)) (ret_tmp rfl rfl) rfl ⟨?_, hB⟩
  exact rfl

theorem twist_velocities (n0 n1 n2 n3 n4 n5 dd : Int) (in0 : -128 ≤ n0 ∧ n0 ≤ 127) (in1 : -128 ≤ n1 ∧ n1 ≤ 127) (in2 : -128 ≤ n2 ∧ n2 ≤ 127) (in3 : -128 ≤ n3 ∧ n3 ≤ 127) (in4 : -128 ≤ n4 ∧ n4 ≤ 127) (in5 : -128 ≤ n5 ∧ n5 ≤ 127) (idd : 0 ≤ dd ∧ dd ≤ 255) (m0 m1 m2 : Int) (im0 : -128 ≤ m0 ∧ m0 ≤ 127) (im1 : -128 ≤ m1 ∧ m1 ≤ 127) (im2 : -128 ≤ m2 ∧ m2 ≤ 127) (w : World) (ht : Tab w) :
    Calls Tryd.prog 4 #[(.agg #[(.int .i8 (n0)), (.int .i8 (n1)), (.int .i8 (n2)), (.int .i8 (n3)), (.int .i8 (n4)), (.int .i8 (n5)), (.int .u8 (dd))]), (.agg #[(.int .i8 (m0)), (.int .i8 (m1)), (.int .i8 (m2))])] w fun e w' => e = .returned (.bool true) ∧ Gr w w' :=
  velocities_q n0 n1 n2 n3 n4 n5 dd in0 in1 in2 in3 in4 in5 idd m0 m1 m2 im0 im1 im2 _ _ _ _ _ _ rfl rfl rfl rfl rfl rfl _ _ _ rfl rfl rfl w ht

end Go.Proofs.YtgopfikljndklaaDoor
