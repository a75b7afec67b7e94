/- Printed by a program of the prover's: TwistRigid. -/
import Derived.Test.YtgopfikljndklaaDoorGen14
namespace Go.Proofs.YtgopfikljndklaaDoor
open Go.RowKit

theorem lawRi0 (A0 A1 A2 A3 A4 A5 B0 B1 B2 B3 B4 B5 P0 P1 P2 Q0 Q1 Q2 : Rat)  : (sgn ((0 + ((A3 + (A1 * P2 - A2 * P1)) - (A3 + (A1 * Q2 - A2 * Q1))) * (P0 - Q0) + ((A4 + (A2 * P0 - A0 * P2)) - (A4 + (A2 * Q0 - A0 * Q2))) * (P1 - Q1) + ((A5 + (A0 * P1 - A1 * P0)) - (A5 + (A0 * Q1 - A1 * Q0))) * (P2 - Q2))).num == (0 : Int)) = true := sgne_t (by grind)
theorem lawRi1 (A0 A1 A2 A3 A4 A5 B0 B1 B2 B3 B4 B5 P0 P1 P2 Q0 Q1 Q2 : Rat)  : (vcmp ((A3 + B3) + ((A1 + B1) * P2 - (A2 + B2) * P1)) ((A4 + B4) + ((A2 + B2) * P0 - (A0 + B0) * P2)) ((A5 + B5) + ((A0 + B0) * P1 - (A1 + B1) * P0)) ((A3 + (A1 * P2 - A2 * P1)) + (B3 + (B1 * P2 - B2 * P1))) ((A4 + (A2 * P0 - A0 * P2)) + (B4 + (B2 * P0 - B0 * P2))) ((A5 + (A0 * P1 - A1 * P0)) + (B5 + (B0 * P1 - B1 * P0))) == (0 : Int)) = true := veq_t (by grind) (by grind) (by grind)
set_option maxRecDepth 100000 in
set_option maxHeartbeats 8000000 in
theorem rigid_q (n0 n1 n2 n3 n4 n5 dd : Int) (_in0 : -128 ≤ n0 ∧ n0 ≤ 127) (_in1 : -128 ≤ n1 ∧ n1 ≤ 127) (_in2 : -128 ≤ n2 ∧ n2 ≤ 127) (_in3 : -128 ≤ n3 ∧ n3 ≤ 127) (_in4 : -128 ≤ n4 ∧ n4 ≤ 127) (_in5 : -128 ≤ n5 ∧ n5 ≤ 127) (_idd : 0 ≤ dd ∧ dd ≤ 255) (j0 j1 j2 j3 j4 j5 ee : Int) (_ij0 : -128 ≤ j0 ∧ j0 ≤ 127) (_ij1 : -128 ≤ j1 ∧ j1 ≤ 127) (_ij2 : -128 ≤ j2 ∧ j2 ≤ 127) (_ij3 : -128 ≤ j3 ∧ j3 ≤ 127) (_ij4 : -128 ≤ j4 ∧ j4 ≤ 127) (_ij5 : -128 ≤ j5 ∧ j5 ≤ 127) (_iee : 0 ≤ ee ∧ ee ≤ 255) (m0 m1 m2 : Int) (_im0 : -128 ≤ m0 ∧ m0 ≤ 127) (_im1 : -128 ≤ m1 ∧ m1 ≤ 127) (_im2 : -128 ≤ m2 ∧ m2 ≤ 127) (l0 l1 l2 : Int) (_il0 : -128 ≤ l0 ∧ l0 ≤ 127) (_il1 : -128 ≤ l1 ∧ l1 ≤ 127) (_il2 : -128 ≤ l2 ∧ l2 ≤ 127) (A0 A1 A2 A3 A4 A5 : Rat) (eA0 : A0 = (((n0 : Int) : Rat) / ((1 + dd % 3 : Int) : Rat))) (eA1 : A1 = (((n1 : Int) : Rat) / ((1 + dd % 3 : Int) : Rat))) (eA2 : A2 = (((n2 : Int) : Rat) / ((1 + dd % 3 : Int) : Rat))) (eA3 : A3 = (((n3 : Int) : Rat) / ((1 + dd % 3 : Int) : Rat))) (eA4 : A4 = (((n4 : Int) : Rat) / ((1 + dd % 3 : Int) : Rat))) (eA5 : A5 = (((n5 : Int) : Rat) / ((1 + dd % 3 : Int) : Rat))) (B0 B1 B2 B3 B4 B5 : Rat) (eB0 : B0 = (((j0 : Int) : Rat) / ((1 + ee % 3 : Int) : Rat))) (eB1 : B1 = (((j1 : Int) : Rat) / ((1 + ee % 3 : Int) : Rat))) (eB2 : B2 = (((j2 : Int) : Rat) / ((1 + ee % 3 : Int) : Rat))) (eB3 : B3 = (((j3 : Int) : Rat) / ((1 + ee % 3 : Int) : Rat))) (eB4 : B4 = (((j4 : Int) : Rat) / ((1 + ee % 3 : Int) : Rat))) (eB5 : B5 = (((j5 : Int) : Rat) / ((1 + ee % 3 : Int) : Rat))) (P0 P1 P2 : Rat) (eP0 : P0 = ((m0 : Int) : Rat)) (eP1 : P1 = ((m1 : Int) : Rat)) (eP2 : P2 = ((m2 : Int) : Rat)) (Q0 Q1 Q2 : Rat) (eQ0 : Q0 = ((l0 : Int) : Rat)) (eQ1 : Q1 = ((l1 : Int) : Rat)) (eQ2 : Q2 = ((l2 : Int) : Rat)) (w : World) (ht : Tab w) :
    Calls Tryd.prog 7 #[(.agg #[(.int .i8 (n0)), (.int .i8 (n1)), (.int .i8 (n2)), (.int .i8 (n3)), (.int .i8 (n4)), (.int .i8 (n5)), (.int .u8 (dd))]), (.agg #[(.int .i8 (j0)), (.int .i8 (j1)), (.int .i8 (j2)), (.int .i8 (j3)), (.int .i8 (j4)), (.int .i8 (j5)), (.int .u8 (ee))]), (.agg #[(.int .i8 (m0)), (.int .i8 (m1)), (.int .i8 (m2)), (.int .i8 (l0)), (.int .i8 (l1)), (.int .i8 (l2))])] w fun e w' => e = .returned (.bool true) ∧ Gr w w' := by
  go_enter Tryd.func7, Tryd.ntmps7
  have hB := Gr.refl w
  refine wp_seq_k (fun K1 k1 => ?_)
  refine wp_region ?_
  simp only [List.size_toArray, List.length_cons, List.length_nil, Nat.reduceAdd, List.range, List.range.loop]
  refine sq_eff rfl (by kernel_rfl) (fun K2 k2 => ?_)
  refine eff_box 25 _ (.agg #[(.int .i8 (n0)), (.int .i8 (n1)), (.int .i8 (n2)), (.int .i8 (n3)), (.int .i8 (n4)), (.int .i8 (n5)), (.int .u8 (dd))]) #[(.int .i8 (n0)), (.int .i8 (n1)), (.int .i8 (n2)), (.int .i8 (n3)), (.int .i8 (n4)), (.int .i8 (n5)), (.int .u8 (dd))] (some 3) rfl rfl rfl rfl (fun b3 w3 g3 L3 q3 => ?_)
  replace q3 := Nat.le_trans (Below.size hB) q3
  replace hB := Gr.trans hB g3
  refine k2 _ _ ?_
  try clear k2 K2
  simp only [p1, p2, p3, p4]
  refine sq_eff rfl (by kernel_rfl) (fun K4 k4 => ?_)
  refine eff_box 25 _ (.agg #[(.int .i8 (j0)), (.int .i8 (j1)), (.int .i8 (j2)), (.int .i8 (j3)), (.int .i8 (j4)), (.int .i8 (j5)), (.int .u8 (ee))]) #[(.int .i8 (j0)), (.int .i8 (j1)), (.int .i8 (j2)), (.int .i8 (j3)), (.int .i8 (j4)), (.int .i8 (j5)), (.int .u8 (ee))] (some 4) rfl rfl rfl rfl (fun b5 w5 g5 L5 q5 => ?_)
  have ne3_5 := L3.ne q5
  replace q5 := Nat.le_trans (Below.size hB) q5
  replace hB := Gr.trans hB g5
  refine k4 _ _ ?_
  try clear k4 K4
  simp only [p1, p2, p3, p4]
  refine sq_eff rfl (by kernel_rfl) (fun K6 k6 => ?_)
  refine eff_box 61 _ (.agg #[(.int .i8 (m0)), (.int .i8 (m1)), (.int .i8 (m2)), (.int .i8 (l0)), (.int .i8 (l1)), (.int .i8 (l2))]) #[(.int .i8 (m0)), (.int .i8 (m1)), (.int .i8 (m2)), (.int .i8 (l0)), (.int .i8 (l1)), (.int .i8 (l2))] (some 5) rfl rfl rfl rfl (fun b7 w7 g7 L7 q7 => ?_)
  replace L3 := L3.gr g5
  have ne3_7 := L3.ne q7
  have ne5_7 := L5.ne q7
  replace q7 := Nat.le_trans (Below.size hB) q7
  replace hB := Gr.trans hB g7
  refine k6 _ _ ?_
  try clear k6 K6
  simp only [p1, p2, p3, p4]
  refine sq_val (some 6) (.bool false) rfl rfl (by kernel_rfl) (rvk (by kernel_rfl)) ?_
  simp only [p1, p2, p3, p4]
  refine sq_nil ?_
  refine k1 _ _ ?_
  try clear k1 K1
  refine wp_seq_k (fun K8 k8 => ?_)
  refine wp_seq_k (fun K9 k9 => ?_)
  refine wp_region ?_
  simp only [List.size_toArray, List.length_cons, List.length_nil, Nat.reduceAdd, List.range, List.range.loop]
  refine sq_eff rfl (by kernel_rfl) (fun K10 k10 => ?_)
  refine eff_call (some 13) rfl (by kernel_rfl) (known_t _ (ht.gr hB)) ?_
  rintro e11 w11 ⟨rfl, g11⟩
  refine ⟨_, rfl, ?_⟩
  replace hB := Gr.trans hB g11
  refine k10 _ _ ?_
  try clear k10 K10
  simp only [p1, p2, p3, p4]
  refine sq_val (some 14) (.bool false) rfl rfl (by kernel_rfl) (rvk (by kernel_rfl)) ?_
  simp only [p1, p2, p3, p4]
  refine sq_nil ?_
  refine k9 _ _ ?_
  try clear k9 K9
  refine wp_cond_false rfl ?_
  refine wp_skip ?_
  refine k8 _ _ ?_
  try clear k8 K8
  refine wp_seq_k (fun K12 k12 => ?_)
  have hz13 := Below.size hB
  replace L3 := L3.gr (g7.trans g11)
  have lt3_13 := L3.lt
  replace L5 := L5.gr (g7.trans g11)
  have lt5_13 := L5.lt
  replace L7 := L7.gr g11
  have lt7_13 := L7.lt
  have gd13 := Gr.drew w11
  replace hB := Gr.trans hB gd13
  replace L3 := L3.gr gd13
  replace L5 := L5.gr gd13
  replace L7 := L7.gr gd13
  refine wp_region_flo (fun w' => Lc w' b3 #[(.int .i8 (n0)), (.int .i8 (n1)), (.int .i8 (n2)), (.int .i8 (n3)), (.int .i8 (n4)), (.int .i8 (n5)), (.int .u8 (dd))] 25 ∧ Lc w' b5 #[(.int .i8 (j0)), (.int .i8 (j1)), (.int .i8 (j2)), (.int .i8 (j3)), (.int .i8 (j4)), (.int .i8 (j5)), (.int .u8 (ee))] 25 ∧ Lc w' b7 #[(.int .i8 (m0)), (.int .i8 (m1)), (.int .i8 (m2)), (.int .i8 (l0)), (.int .i8 (l1)), (.int .i8 (l2))] 61) [(true, 0), (true, 2), (true, 4), (true, 5), (true, 7), (true, 8), (false, 1), (false, 3), (false, 6), (false, 9)] [⟨10, 7, 35, #[(.bool false), (.slice none 0 0), (.bool false), (.slice none 0 0), (.bool false), (.slice none 0 0), (.bool false), (.slice none 0 0), (.bool false), (.slice none 0 0), (.bool false), (.slice none 0 0), (.bool false), (.slice none 0 0), (.bool false), (.slice none 0 0), (.bool false), (.slice none 0 0), (.bool false), (.slice none 0 0), (.bool false), (.slice none 0 0), (.bool false), (.slice none 0 0)]⟩, ⟨11, 8, 35, #[(.bool false), (.slice none 0 0), (.bool false), (.slice none 0 0), (.bool false), (.slice none 0 0), (.bool false), (.slice none 0 0), (.bool false), (.slice none 0 0), (.bool false), (.slice none 0 0), (.bool false), (.slice none 0 0), (.bool false), (.slice none 0 0), (.bool false), (.slice none 0 0), (.bool false), (.slice none 0 0), (.bool false), (.slice none 0 0), (.bool false), (.slice none 0 0)]⟩, ⟨12, 9, 33, #[(.bool false), (.slice none 0 0), (.bool false), (.slice none 0 0), (.bool false), (.slice none 0 0), (.bool false), (.slice none 0 0), (.bool false), (.slice none 0 0), (.bool false), (.slice none 0 0)]⟩, ⟨13, 10, 33, #[(.bool false), (.slice none 0 0), (.bool false), (.slice none 0 0), (.bool false), (.slice none 0 0), (.bool false), (.slice none 0 0), (.bool false), (.slice none 0 0), (.bool false), (.slice none 0 0)]⟩] [(false, 14), (false, 15), (false, 16), (false, 17)] (by kernel_rfl) (by kernel_rfl) (by kernel_rfl) (by kernel_rfl) (by kernel_rfl) (by decide) (fun _ _ _ _ _ h => h) (fun _ _ _ _ _ h => h) (fun w' o h => ⟨Lc.gr h.1 (Gr.alloc w' o), Lc.gr h.2.1 (Gr.alloc w' o), Lc.gr h.2.2 (Gr.alloc w' o)⟩) ⟨L3, L5, L7⟩ (by intro f hf; simp only [List.mem_cons, List.not_mem_nil, or_false] at hf; rcases hf with rfl | rfl | rfl | rfl <;> first | exact alloc_zero (z := (.agg #[(.bool false), (.slice none 0 0), (.bool false), (.slice none 0 0), (.bool false), (.slice none 0 0), (.bool false), (.slice none 0 0), (.bool false), (.slice none 0 0), (.bool false), (.slice none 0 0), (.bool false), (.slice none 0 0), (.bool false), (.slice none 0 0), (.bool false), (.slice none 0 0), (.bool false), (.slice none 0 0), (.bool false), (.slice none 0 0), (.bool false), (.slice none 0 0)])) (by kernel_rfl) rfl | exact alloc_zero (z := (.agg #[(.bool false), (.slice none 0 0), (.bool false), (.slice none 0 0), (.bool false), (.slice none 0 0), (.bool false), (.slice none 0 0), (.bool false), (.slice none 0 0), (.bool false), (.slice none 0 0), (.bool false), (.slice none 0 0), (.bool false), (.slice none 0 0), (.bool false), (.slice none 0 0), (.bool false), (.slice none 0 0), (.bool false), (.slice none 0 0), (.bool false), (.slice none 0 0)])) (by kernel_rfl) rfl | exact alloc_zero (z := (.agg #[(.bool false), (.slice none 0 0), (.bool false), (.slice none 0 0), (.bool false), (.slice none 0 0), (.bool false), (.slice none 0 0), (.bool false), (.slice none 0 0), (.bool false), (.slice none 0 0)])) (by kernel_rfl) rfl | exact alloc_zero (z := (.agg #[(.bool false), (.slice none 0 0), (.bool false), (.slice none 0 0), (.bool false), (.slice none 0 0), (.bool false), (.slice none 0 0), (.bool false), (.slice none 0 0), (.bool false), (.slice none 0 0)])) (by kernel_rfl) rfl) ?_
  refine flo_pure (some 15) (.agg #[(.int .i8 (n0)), (.int .i8 (n1)), (.int .i8 (n2)), (.int .i8 (n3)), (.int .i8 (n4)), (.int .i8 (n5)), (.int .u8 (dd))]) rfl rfl rfl (fun w' hS => (rv_load 25 _ b3 0 _ _ [(.int .i8 (n0)), (.int .i8 (n1)), (.int .i8 (n2)), (.int .i8 (n3)), (.int .i8 (n4)), (.int .i8 (n5)), (.int .u8 (dd))] rfl rfl hS.1 rfl (by kernel_rfl))) ?_
  simp only [p1, p2, p3, p4]
  refine flo_pure (some 17) (.agg #[(.int .i8 (j0)), (.int .i8 (j1)), (.int .i8 (j2)), (.int .i8 (j3)), (.int .i8 (j4)), (.int .i8 (j5)), (.int .u8 (ee))]) rfl rfl rfl (fun w' hS => (rv_load 25 _ b5 0 _ _ [(.int .i8 (j0)), (.int .i8 (j1)), (.int .i8 (j2)), (.int .i8 (j3)), (.int .i8 (j4)), (.int .i8 (j5)), (.int .u8 (ee))] rfl rfl hS.2.1 rfl (by kernel_rfl))) ?_
  simp only [p1, p2, p3, p4]
  refine flo_pure (some 19) (.pointer (some ⟨b7, 0, none⟩)) rfl rfl rfl (fun w' hS => (rvk (by kernel_rfl))) ?_
  simp only [p1, p2, p3, p4]
  refine flo_pure (some 20) (.agg #[(.int .i8 (m0)), (.int .i8 (m1)), (.int .i8 (m2))]) rfl rfl rfl (fun w' hS => (rv_load 54 _ b7 0 _ _ [(.int .i8 (m0)), (.int .i8 (m1)), (.int .i8 (m2))] rfl rfl hS.2.2 rfl (by kernel_rfl))) ?_
  simp only [p1, p2, p3, p4]
  refine flo_pure (some 22) (.pointer (some ⟨b7, 3, none⟩)) rfl rfl rfl (fun w' hS => (rvk (by kernel_rfl))) ?_
  simp only [p1, p2, p3, p4]
  refine flo_pure (some 23) (.agg #[(.int .i8 (l0)), (.int .i8 (l1)), (.int .i8 (l2))]) rfl rfl rfl (fun w' hS => (rv_load 54 _ b7 3 _ _ [(.int .i8 (l0)), (.int .i8 (l1)), (.int .i8 (l2))] rfl rfl hS.2.2 rfl (by kernel_rfl))) ?_
  simp only [p1, p2, p3, p4]
  refine flo_eff rfl rfl (fun w14 g14 _ K14 k14 => ?_)
  replace hB := Gr.trans hB g14
  refine eff_call (some 16) rfl (by kernel_rfl) (of_v (n0) (n1) (n2) (n3) (n4) (n5) (dd) (by omega) (by omega) (by omega) (by omega) (by omega) (by omega) (by omega) _) ?_
  rintro e15 w15 ⟨⟨t15_0, t15_1, t15_2, t15_3, t15_4, t15_5, t15_6, t15_7, t15_8, t15_9, t15_10, t15_11, t15_12, t15_13, t15_14, t15_15, t15_16, t15_17, t15_18, t15_19, t15_20, t15_21, t15_22, t15_23, rfl, h15a, h15b, h15c, h15d, h15e, h15f⟩, g15⟩
  refine ⟨_, rfl, ?_⟩
  replace hB := Gr.trans hB g15
  rw [← eA0] at h15a
  rw [← eA1] at h15b
  rw [← eA2] at h15c
  rw [← eA3] at h15d
  rw [← eA4] at h15e
  rw [← eA5] at h15f
  replace L3 := L3.gr (g14.trans g15)
  replace L5 := L5.gr (g14.trans g15)
  replace L7 := L7.gr (g14.trans g15)
  refine k14 _ _ g15 ⟨L3, L5, L7⟩ ?_
  try clear k14 K14
  simp only [p1, p2, p3, p4]
  refine flo_eff rfl rfl (fun w16 g16 _ K16 k16 => ?_)
  replace hB := Gr.trans hB g16
  refine eff_call (some 18) rfl (by kernel_rfl) (of_v (j0) (j1) (j2) (j3) (j4) (j5) (ee) (by omega) (by omega) (by omega) (by omega) (by omega) (by omega) (by omega) _) ?_
  rintro e17 w17 ⟨⟨t17_0, t17_1, t17_2, t17_3, t17_4, t17_5, t17_6, t17_7, t17_8, t17_9, t17_10, t17_11, t17_12, t17_13, t17_14, t17_15, t17_16, t17_17, t17_18, t17_19, t17_20, t17_21, t17_22, t17_23, rfl, h17a, h17b, h17c, h17d, h17e, h17f⟩, g17⟩
  refine ⟨_, rfl, ?_⟩
  replace hB := Gr.trans hB g17
  rw [← eB0] at h17a
  rw [← eB1] at h17b
  rw [← eB2] at h17c
  rw [← eB3] at h17d
  rw [← eB4] at h17e
  rw [← eB5] at h17f
  replace L3 := L3.gr (g16.trans g17)
  replace L5 := L5.gr (g16.trans g17)
  replace L7 := L7.gr (g16.trans g17)
  refine k16 _ _ g17 ⟨L3, L5, L7⟩ ?_
  try clear k16 K16
  simp only [p1, p2, p3, p4]
  refine flo_eff rfl rfl (fun w18 g18 _ K18 k18 => ?_)
  replace hB := Gr.trans hB g18
  refine eff_call (some 21) rfl (by kernel_rfl) (point_v (m0) (m1) (m2) (by omega) (by omega) (by omega) _) ?_
  rintro e19 w19 ⟨⟨t19_0, t19_1, t19_2, t19_3, t19_4, t19_5, t19_6, t19_7, t19_8, t19_9, t19_10, t19_11, rfl, h19a, h19b, h19c⟩, g19⟩
  refine ⟨_, rfl, ?_⟩
  replace hB := Gr.trans hB g19
  rw [← eP0] at h19a
  rw [← eP1] at h19b
  rw [← eP2] at h19c
  replace L3 := L3.gr (g18.trans g19)
  replace L5 := L5.gr (g18.trans g19)
  replace L7 := L7.gr (g18.trans g19)
  refine k18 _ _ g19 ⟨L3, L5, L7⟩ ?_
  try clear k18 K18
  simp only [p1, p2, p3, p4]
  refine flo_eff rfl rfl (fun w20 g20 _ K20 k20 => ?_)
  replace hB := Gr.trans hB g20
  refine eff_call (some 24) rfl (by kernel_rfl) (point_v (l0) (l1) (l2) (by omega) (by omega) (by omega) _) ?_
  rintro e21 w21 ⟨⟨t21_0, t21_1, t21_2, t21_3, t21_4, t21_5, t21_6, t21_7, t21_8, t21_9, t21_10, t21_11, rfl, h21a, h21b, h21c⟩, g21⟩
  refine ⟨_, rfl, ?_⟩
  replace hB := Gr.trans hB g21
  rw [← eQ0] at h21a
  rw [← eQ1] at h21b
  rw [← eQ2] at h21c
  replace L3 := L3.gr (g20.trans g21)
  replace L5 := L5.gr (g20.trans g21)
  replace L7 := L7.gr (g20.trans g21)
  refine k20 _ _ g21 ⟨L3, L5, L7⟩ ?_
  try clear k20 K20
  simp only [p1, p2, p3, p4]
  refine flo_nil (fun w22 g22 _ => ?_)
  replace hB := Gr.trans hB g22
  refine floFin4 (fun b23 b24 b25 b26 (L23 : Lc w22 b23 #[(.bool false), (.slice none 0 0), (.bool false), (.slice none 0 0), (.bool false), (.slice none 0 0), (.bool false), (.slice none 0 0), (.bool false), (.slice none 0 0), (.bool false), (.slice none 0 0), (.bool false), (.slice none 0 0), (.bool false), (.slice none 0 0), (.bool false), (.slice none 0 0), (.bool false), (.slice none 0 0), (.bool false), (.slice none 0 0), (.bool false), (.slice none 0 0)] 35) q23 (L24 : Lc w22 b24 #[(.bool false), (.slice none 0 0), (.bool false), (.slice none 0 0), (.bool false), (.slice none 0 0), (.bool false), (.slice none 0 0), (.bool false), (.slice none 0 0), (.bool false), (.slice none 0 0), (.bool false), (.slice none 0 0), (.bool false), (.slice none 0 0), (.bool false), (.slice none 0 0), (.bool false), (.slice none 0 0), (.bool false), (.slice none 0 0), (.bool false), (.slice none 0 0)] 35) q24 (L25 : Lc w22 b25 #[(.bool false), (.slice none 0 0), (.bool false), (.slice none 0 0), (.bool false), (.slice none 0 0), (.bool false), (.slice none 0 0), (.bool false), (.slice none 0 0), (.bool false), (.slice none 0 0)] 33) q25 (L26 : Lc w22 b26 #[(.bool false), (.slice none 0 0), (.bool false), (.slice none 0 0), (.bool false), (.slice none 0 0), (.bool false), (.slice none 0 0), (.bool false), (.slice none 0 0), (.bool false), (.slice none 0 0)] 33) q26 ne23_24 ne23_25 ne24_25 ne23_26 ne24_26 ne25_26 => ?_)
  have ne3_23 : b3 ≠ b23 := Nat.ne_of_lt (Nat.lt_of_lt_of_le lt3_13 q23)
  have ne5_23 : b5 ≠ b23 := Nat.ne_of_lt (Nat.lt_of_lt_of_le lt5_13 q23)
  have ne7_23 : b7 ≠ b23 := Nat.ne_of_lt (Nat.lt_of_lt_of_le lt7_13 q23)
  replace q23 := Nat.le_trans hz13 q23
  have ne3_24 : b3 ≠ b24 := Nat.ne_of_lt (Nat.lt_of_lt_of_le lt3_13 q24)
  have ne5_24 : b5 ≠ b24 := Nat.ne_of_lt (Nat.lt_of_lt_of_le lt5_13 q24)
  have ne7_24 : b7 ≠ b24 := Nat.ne_of_lt (Nat.lt_of_lt_of_le lt7_13 q24)
  replace q24 := Nat.le_trans hz13 q24
  have ne3_25 : b3 ≠ b25 := Nat.ne_of_lt (Nat.lt_of_lt_of_le lt3_13 q25)
  have ne5_25 : b5 ≠ b25 := Nat.ne_of_lt (Nat.lt_of_lt_of_le lt5_13 q25)
  have ne7_25 : b7 ≠ b25 := Nat.ne_of_lt (Nat.lt_of_lt_of_le lt7_13 q25)
  replace q25 := Nat.le_trans hz13 q25
  have ne3_26 : b3 ≠ b26 := Nat.ne_of_lt (Nat.lt_of_lt_of_le lt3_13 q26)
  have ne5_26 : b5 ≠ b26 := Nat.ne_of_lt (Nat.lt_of_lt_of_le lt5_13 q26)
  have ne7_26 : b7 ≠ b26 := Nat.ne_of_lt (Nat.lt_of_lt_of_le lt7_13 q26)
  replace q26 := Nat.le_trans hz13 q26
  simp only [p1, p2, p3, p4]
  refine ord_eff rfl rfl (fun K27 k27 => ?_)
  refine eff_store 35 _ _ b23 0 (.agg #[t15_0, t15_1, t15_2, t15_3, t15_4, t15_5, t15_6, t15_7, t15_8, t15_9, t15_10, t15_11, t15_12, t15_13, t15_14, t15_15, t15_16, t15_17, t15_18, t15_19, t15_20, t15_21, t15_22, t15_23]) [t15_0, t15_1, t15_2, t15_3, t15_4, t15_5, t15_6, t15_7, t15_8, t15_9, t15_10, t15_11, t15_12, t15_13, t15_14, t15_15, t15_16, t15_17, t15_18, t15_19, t15_20, t15_21, t15_22, t15_23] _ #[t15_0, t15_1, t15_2, t15_3, t15_4, t15_5, t15_6, t15_7, t15_8, t15_9, t15_10, t15_11, t15_12, t15_13, t15_14, t15_15, t15_16, t15_17, t15_18, t15_19, t15_20, t15_21, t15_22, t15_23] _ rfl rfl rfl rfl rfl L23 (by kernel_rfl) (Nat.le_of_ble_eq_true rfl) ⟨h15a.one0, h15a.one1, h15a.one2, h15a.one3, h15b.one0, h15b.one1, h15b.one2, h15b.one3, h15c.one0, h15c.one1, h15c.one2, h15c.one3, h15d.one0, h15d.one1, h15d.one2, h15d.one3, h15e.one0, h15e.one1, h15e.one2, h15e.one3, h15f.one0, h15f.one1, h15f.one2, h15f.one3, trivial⟩ (by kernel_rfl) (fun w28 st28 N28 => ?_)
  have kp28 := st28.kp L23 (by decide)
  replace hB := st28.gr hB q23
  replace L23 := N28
  replace L3 := st28.lc (L3.gr g22) ne3_23
  replace L5 := st28.lc (L5.gr g22) ne5_23
  replace L7 := st28.lc (L7.gr g22) ne7_23
  refine k27 _ _ ⟨L3, L5, L7⟩ ?_
  try clear k27 K27
  refine ord_eff rfl rfl (fun K29 k29 => ?_)
  replace L24 := st28.lc L24 (Ne.symm ne23_24)
  refine eff_store 35 _ _ b24 0 (.agg #[t17_0, t17_1, t17_2, t17_3, t17_4, t17_5, t17_6, t17_7, t17_8, t17_9, t17_10, t17_11, t17_12, t17_13, t17_14, t17_15, t17_16, t17_17, t17_18, t17_19, t17_20, t17_21, t17_22, t17_23]) [t17_0, t17_1, t17_2, t17_3, t17_4, t17_5, t17_6, t17_7, t17_8, t17_9, t17_10, t17_11, t17_12, t17_13, t17_14, t17_15, t17_16, t17_17, t17_18, t17_19, t17_20, t17_21, t17_22, t17_23] _ #[t17_0, t17_1, t17_2, t17_3, t17_4, t17_5, t17_6, t17_7, t17_8, t17_9, t17_10, t17_11, t17_12, t17_13, t17_14, t17_15, t17_16, t17_17, t17_18, t17_19, t17_20, t17_21, t17_22, t17_23] _ rfl rfl rfl rfl rfl L24 (by kernel_rfl) (Nat.le_of_ble_eq_true rfl) ⟨h17a.one0, h17a.one1, h17a.one2, h17a.one3, h17b.one0, h17b.one1, h17b.one2, h17b.one3, h17c.one0, h17c.one1, h17c.one2, h17c.one3, h17d.one0, h17d.one1, h17d.one2, h17d.one3, h17e.one0, h17e.one1, h17e.one2, h17e.one3, h17f.one0, h17f.one1, h17f.one2, h17f.one3, trivial⟩ (by kernel_rfl) (fun w30 st30 N30 => ?_)
  have kp30 := st30.kp L24 (by decide)
  replace hB := st30.gr hB q24
  replace L24 := N30
  replace L3 := st30.lc L3 ne3_24
  replace L5 := st30.lc L5 ne5_24
  replace L7 := st30.lc L7 ne7_24
  refine k29 _ _ ⟨L3, L5, L7⟩ ?_
  try clear k29 K29
  refine ord_eff rfl rfl (fun K31 k31 => ?_)
  replace L25 := st30.lc (st28.lc L25 (Ne.symm ne23_25)) (Ne.symm ne24_25)
  refine eff_store 33 _ _ b25 0 (.agg #[t19_0, t19_1, t19_2, t19_3, t19_4, t19_5, t19_6, t19_7, t19_8, t19_9, t19_10, t19_11]) [t19_0, t19_1, t19_2, t19_3, t19_4, t19_5, t19_6, t19_7, t19_8, t19_9, t19_10, t19_11] _ #[t19_0, t19_1, t19_2, t19_3, t19_4, t19_5, t19_6, t19_7, t19_8, t19_9, t19_10, t19_11] _ rfl rfl rfl rfl rfl L25 (by kernel_rfl) (Nat.le_of_ble_eq_true rfl) ⟨h19a.one0, h19a.one1, h19a.one2, h19a.one3, h19b.one0, h19b.one1, h19b.one2, h19b.one3, h19c.one0, h19c.one1, h19c.one2, h19c.one3, trivial⟩ (by kernel_rfl) (fun w32 st32 N32 => ?_)
  have kp32 := st32.kp L25 (by decide)
  replace hB := st32.gr hB q25
  replace L25 := N32
  replace L3 := st32.lc L3 ne3_25
  replace L5 := st32.lc L5 ne5_25
  replace L7 := st32.lc L7 ne7_25
  refine k31 _ _ ⟨L3, L5, L7⟩ ?_
  try clear k31 K31
  refine ord_eff rfl rfl (fun K33 k33 => ?_)
  replace L26 := st32.lc (st30.lc (st28.lc L26 (Ne.symm ne23_26)) (Ne.symm ne24_26)) (Ne.symm ne25_26)
  refine eff_store 33 _ _ b26 0 (.agg #[t21_0, t21_1, t21_2, t21_3, t21_4, t21_5, t21_6, t21_7, t21_8, t21_9, t21_10, t21_11]) [t21_0, t21_1, t21_2, t21_3, t21_4, t21_5, t21_6, t21_7, t21_8, t21_9, t21_10, t21_11] _ #[t21_0, t21_1, t21_2, t21_3, t21_4, t21_5, t21_6, t21_7, t21_8, t21_9, t21_10, t21_11] _ rfl rfl rfl rfl rfl L26 (by kernel_rfl) (Nat.le_of_ble_eq_true rfl) ⟨h21a.one0, h21a.one1, h21a.one2, h21a.one3, h21b.one0, h21b.one1, h21b.one2, h21b.one3, h21c.one0, h21c.one1, h21c.one2, h21c.one3, trivial⟩ (by kernel_rfl) (fun w34 st34 N34 => ?_)
  have kp34 := st34.kp L26 (by decide)
  replace hB := st34.gr hB q26
  replace L26 := N34
  replace L3 := st34.lc L3 ne3_26
  replace L5 := st34.lc L5 ne5_26
  replace L7 := st34.lc L7 ne7_26
  refine k33 _ _ ⟨L3, L5, L7⟩ ?_
  try clear k33 K33
  refine ord_nil ?_
  refine k12 _ _ ?_
  try clear k12 K12
  refine wp_seq_k (fun K35 k35 => ?_)
  have hz36 := Below.size hB
  have lt3_36 := L3.lt
  have lt5_36 := L5.lt
  have lt7_36 := L7.lt
  replace L23 := st34.lc (st32.lc (st30.lc L23 ne23_24) ne23_25) ne23_26
  have lt23_36 := L23.lt
  replace L24 := st34.lc (st32.lc L24 ne24_25) ne24_26
  have lt24_36 := L24.lt
  replace L25 := st34.lc L25 ne25_26
  have lt25_36 := L25.lt
  have lt26_36 := L26.lt
  have gd36 := Gr.drew w34
  replace hB := Gr.trans hB gd36
  replace L23 := L23.gr gd36
  replace L25 := L25.gr gd36
  replace L26 := L26.gr gd36
  refine wp_region_flo (fun w' => Lc w' b23 #[t15_0, t15_1, t15_2, t15_3, t15_4, t15_5, t15_6, t15_7, t15_8, t15_9, t15_10, t15_11, t15_12, t15_13, t15_14, t15_15, t15_16, t15_17, t15_18, t15_19, t15_20, t15_21, t15_22, t15_23] 35 ∧ Lc w' b25 #[t19_0, t19_1, t19_2, t19_3, t19_4, t19_5, t19_6, t19_7, t19_8, t19_9, t19_10, t19_11] 33 ∧ Lc w' b26 #[t21_0, t21_1, t21_2, t21_3, t21_4, t21_5, t21_6, t21_7, t21_8, t21_9, t21_10, t21_11] 33) [(true, 0), (true, 1), (true, 3), (true, 4), (false, 2), (false, 5), (false, 6)] [⟨7, 11, 33, #[(.bool false), (.slice none 0 0), (.bool false), (.slice none 0 0), (.bool false), (.slice none 0 0), (.bool false), (.slice none 0 0), (.bool false), (.slice none 0 0), (.bool false), (.slice none 0 0)]⟩] [(false, 8)] (by kernel_rfl) (by kernel_rfl) (by kernel_rfl) (by kernel_rfl) (by kernel_rfl) (by decide) (fun _ _ _ _ _ h => h) (fun _ _ _ _ _ h => h) (fun w' o h => ⟨Lc.gr h.1 (Gr.alloc w' o), Lc.gr h.2.1 (Gr.alloc w' o), Lc.gr h.2.2 (Gr.alloc w' o)⟩) ⟨L23, L25, L26⟩ (by intro f hf; simp only [List.mem_cons, List.not_mem_nil, or_false] at hf; rcases hf with rfl <;> first | exact alloc_zero (z := (.agg #[(.bool false), (.slice none 0 0), (.bool false), (.slice none 0 0), (.bool false), (.slice none 0 0), (.bool false), (.slice none 0 0), (.bool false), (.slice none 0 0), (.bool false), (.slice none 0 0)])) (by kernel_rfl) rfl) ?_
  refine flo_pure (some 25) (.agg #[t15_0, t15_1, t15_2, t15_3, t15_4, t15_5, t15_6, t15_7, t15_8, t15_9, t15_10, t15_11, t15_12, t15_13, t15_14, t15_15, t15_16, t15_17, t15_18, t15_19, t15_20, t15_21, t15_22, t15_23]) rfl rfl rfl (fun w' hS => (rv_load 35 _ b23 0 _ _ [t15_0, t15_1, t15_2, t15_3, t15_4, t15_5, t15_6, t15_7, t15_8, t15_9, t15_10, t15_11, t15_12, t15_13, t15_14, t15_15, t15_16, t15_17, t15_18, t15_19, t15_20, t15_21, t15_22, t15_23] rfl rfl hS.1 rfl (by kernel_rfl))) ?_
  simp only [p1, p2, p3, p4]
  refine flo_pure (some 26) (.agg #[t19_0, t19_1, t19_2, t19_3, t19_4, t19_5, t19_6, t19_7, t19_8, t19_9, t19_10, t19_11]) rfl rfl rfl (fun w' hS => (rv_load 33 _ b25 0 _ _ [t19_0, t19_1, t19_2, t19_3, t19_4, t19_5, t19_6, t19_7, t19_8, t19_9, t19_10, t19_11] rfl rfl hS.2.1 rfl (by kernel_rfl))) ?_
  simp only [p1, p2, p3, p4]
  refine flo_pure (some 28) (.agg #[t15_0, t15_1, t15_2, t15_3, t15_4, t15_5, t15_6, t15_7, t15_8, t15_9, t15_10, t15_11, t15_12, t15_13, t15_14, t15_15, t15_16, t15_17, t15_18, t15_19, t15_20, t15_21, t15_22, t15_23]) rfl rfl rfl (fun w' hS => (rv_load 35 _ b23 0 _ _ [t15_0, t15_1, t15_2, t15_3, t15_4, t15_5, t15_6, t15_7, t15_8, t15_9, t15_10, t15_11, t15_12, t15_13, t15_14, t15_15, t15_16, t15_17, t15_18, t15_19, t15_20, t15_21, t15_22, t15_23] rfl rfl hS.1 rfl (by kernel_rfl))) ?_
  simp only [p1, p2, p3, p4]
  refine flo_pure (some 29) (.agg #[t21_0, t21_1, t21_2, t21_3, t21_4, t21_5, t21_6, t21_7, t21_8, t21_9, t21_10, t21_11]) rfl rfl rfl (fun w' hS => (rv_load 33 _ b26 0 _ _ [t21_0, t21_1, t21_2, t21_3, t21_4, t21_5, t21_6, t21_7, t21_8, t21_9, t21_10, t21_11] rfl rfl hS.2.2 rfl (by kernel_rfl))) ?_
  simp only [p1, p2, p3, p4]
  refine flo_eff rfl rfl (fun w37 g37 _ K37 k37 => ?_)
  replace hB := Gr.trans hB g37
  have kq39 := g16.kp.trans (g17.kp.trans (g18.kp.trans (g19.kp.trans (g20.kp.trans (g21.kp.trans (g22.kp.trans (kp28.trans (kp30.trans (kp32.trans (kp34.trans (gd36.kp.trans g37.kp)))))))))))
  replace h15a := h15a.kp kq39
  replace h15b := h15b.kp kq39
  replace h15c := h15c.kp kq39
  replace h15d := h15d.kp kq39
  replace h15e := h15e.kp kq39
  replace h15f := h15f.kp kq39
  have kq40 := g20.kp.trans (g21.kp.trans (g22.kp.trans (kp28.trans (kp30.trans (kp32.trans (kp34.trans (gd36.kp.trans g37.kp)))))))
  replace h19a := h19a.kp kq40
  replace h19b := h19b.kp kq40
  replace h19c := h19c.kp kq40
  refine eff_call (some 27) rfl (by kernel_rfl) (tvel_v h15a h15b h15c h15d h15e h15f h19a h19b h19c (by omega)) ?_
  rintro e38 w38 ⟨⟨t38_0, t38_1, t38_2, t38_3, t38_4, t38_5, t38_6, t38_7, t38_8, t38_9, t38_10, t38_11, rfl, h38a, h38b, h38c⟩, g38⟩
  refine ⟨_, rfl, ?_⟩
  replace hB := Gr.trans hB g38
  replace L23 := L23.gr (g37.trans g38)
  replace L25 := L25.gr (g37.trans g38)
  replace L26 := L26.gr (g37.trans g38)
  refine k37 _ _ g38 ⟨L23, L25, L26⟩ ?_
  try clear k37 K37
  simp only [p1, p2, p3, p4]
  refine flo_eff rfl rfl (fun w41 g41 _ K41 k41 => ?_)
  replace hB := Gr.trans hB g41
  have kq43 := g38.kp.trans g41.kp
  replace h15a := h15a.kp kq43
  replace h15b := h15b.kp kq43
  replace h15c := h15c.kp kq43
  replace h15d := h15d.kp kq43
  replace h15e := h15e.kp kq43
  replace h15f := h15f.kp kq43
  have kq44 := g22.kp.trans (kp28.trans (kp30.trans (kp32.trans (kp34.trans (gd36.kp.trans (g37.kp.trans (g38.kp.trans g41.kp)))))))
  replace h21a := h21a.kp kq44
  replace h21b := h21b.kp kq44
  replace h21c := h21c.kp kq44
  refine eff_call (some 30) rfl (by kernel_rfl) (tvel_v h15a h15b h15c h15d h15e h15f h21a h21b h21c (by omega)) ?_
  rintro e42 w42 ⟨⟨t42_0, t42_1, t42_2, t42_3, t42_4, t42_5, t42_6, t42_7, t42_8, t42_9, t42_10, t42_11, rfl, h42a, h42b, h42c⟩, g42⟩
  refine ⟨_, rfl, ?_⟩
  replace hB := Gr.trans hB g42
  replace L23 := L23.gr (g41.trans g42)
  replace L25 := L25.gr (g41.trans g42)
  replace L26 := L26.gr (g41.trans g42)
  refine k41 _ _ g42 ⟨L23, L25, L26⟩ ?_
  try clear k41 K41
  simp only [p1, p2, p3, p4]
  refine flo_eff rfl rfl (fun w45 g45 _ K45 k45 => ?_)
  replace hB := Gr.trans hB g45
  have kq47 := g41.kp.trans (g42.kp.trans g45.kp)
  replace h38a := h38a.kp kq47
  replace h38b := h38b.kp kq47
  replace h38c := h38c.kp kq47
  replace h42a := h42a.kp g45.kp
  replace h42b := h42b.kp g45.kp
  replace h42c := h42c.kp g45.kp
  refine eff_call (some 31) rfl (by kernel_rfl) (vsub_v h38a h38b h38c h42a h42b h42c (by omega)) ?_
  rintro e46 w46 ⟨⟨t46_0, t46_1, t46_2, t46_3, t46_4, t46_5, t46_6, t46_7, t46_8, t46_9, t46_10, t46_11, rfl, h46a, h46b, h46c⟩, g46⟩
  refine ⟨_, rfl, ?_⟩
  replace hB := Gr.trans hB g46
  replace L23 := L23.gr (g45.trans g46)
  replace L25 := L25.gr (g45.trans g46)
  replace L26 := L26.gr (g45.trans g46)
  refine k45 _ _ g46 ⟨L23, L25, L26⟩ ?_
  try clear k45 K45
  simp only [p1, p2, p3, p4]
  refine flo_nil (fun w48 g48 _ => ?_)
  replace hB := Gr.trans hB g48
  refine floFin1 (fun b49 (L49 : Lc w48 b49 #[(.bool false), (.slice none 0 0), (.bool false), (.slice none 0 0), (.bool false), (.slice none 0 0), (.bool false), (.slice none 0 0), (.bool false), (.slice none 0 0), (.bool false), (.slice none 0 0)] 33) q49  => ?_)
  have ne3_49 : b3 ≠ b49 := Nat.ne_of_lt (Nat.lt_of_lt_of_le lt3_36 q49)
  have ne5_49 : b5 ≠ b49 := Nat.ne_of_lt (Nat.lt_of_lt_of_le lt5_36 q49)
  have ne7_49 : b7 ≠ b49 := Nat.ne_of_lt (Nat.lt_of_lt_of_le lt7_36 q49)
  have ne23_49 : b23 ≠ b49 := Nat.ne_of_lt (Nat.lt_of_lt_of_le lt23_36 q49)
  have ne24_49 : b24 ≠ b49 := Nat.ne_of_lt (Nat.lt_of_lt_of_le lt24_36 q49)
  have ne25_49 : b25 ≠ b49 := Nat.ne_of_lt (Nat.lt_of_lt_of_le lt25_36 q49)
  have ne26_49 : b26 ≠ b49 := Nat.ne_of_lt (Nat.lt_of_lt_of_le lt26_36 q49)
  replace q49 := Nat.le_trans hz36 q49
  simp only [p1, p2, p3, p4]
  refine ord_eff rfl rfl (fun K50 k50 => ?_)
  refine eff_store 33 _ _ b49 0 (.agg #[t46_0, t46_1, t46_2, t46_3, t46_4, t46_5, t46_6, t46_7, t46_8, t46_9, t46_10, t46_11]) [t46_0, t46_1, t46_2, t46_3, t46_4, t46_5, t46_6, t46_7, t46_8, t46_9, t46_10, t46_11] _ #[t46_0, t46_1, t46_2, t46_3, t46_4, t46_5, t46_6, t46_7, t46_8, t46_9, t46_10, t46_11] _ rfl rfl rfl rfl rfl L49 (by kernel_rfl) (Nat.le_of_ble_eq_true rfl) ⟨h46a.one0, h46a.one1, h46a.one2, h46a.one3, h46b.one0, h46b.one1, h46b.one2, h46b.one3, h46c.one0, h46c.one1, h46c.one2, h46c.one3, trivial⟩ (by kernel_rfl) (fun w51 st51 N51 => ?_)
  have kp51 := st51.kp L49 (by decide)
  replace hB := st51.gr hB q49
  replace L49 := N51
  replace L23 := st51.lc (L23.gr g48) ne23_49
  replace L25 := st51.lc (L25.gr g48) ne25_49
  replace L26 := st51.lc (L26.gr g48) ne26_49
  refine k50 _ _ ⟨L23, L25, L26⟩ ?_
  try clear k50 K50
  refine ord_nil ?_
  refine k35 _ _ ?_
  try clear k35 K35
  refine wp_seq_k (fun K52 k52 => ?_)
  have hz53 := Below.size hB
  replace L3 := st51.lc (L3.gr (gd36.trans (g37.trans (g38.trans (g41.trans (g42.trans (g45.trans (g46.trans g48)))))))) ne3_49
  have lt3_53 := L3.lt
  replace L5 := st51.lc (L5.gr (gd36.trans (g37.trans (g38.trans (g41.trans (g42.trans (g45.trans (g46.trans g48)))))))) ne5_49
  have lt5_53 := L5.lt
  replace L7 := st51.lc (L7.gr (gd36.trans (g37.trans (g38.trans (g41.trans (g42.trans (g45.trans (g46.trans g48)))))))) ne7_49
  have lt7_53 := L7.lt
  have lt23_53 := L23.lt
  replace L24 := st51.lc (L24.gr (gd36.trans (g37.trans (g38.trans (g41.trans (g42.trans (g45.trans (g46.trans g48)))))))) ne24_49
  have lt24_53 := L24.lt
  have lt25_53 := L25.lt
  have lt26_53 := L26.lt
  have lt49_53 := L49.lt
  have gd53 := Gr.drew w51
  replace hB := Gr.trans hB gd53
  replace L23 := L23.gr gd53
  replace L24 := L24.gr gd53
  replace L25 := L25.gr gd53
  refine wp_region_flo (fun w' => Lc w' b23 #[t15_0, t15_1, t15_2, t15_3, t15_4, t15_5, t15_6, t15_7, t15_8, t15_9, t15_10, t15_11, t15_12, t15_13, t15_14, t15_15, t15_16, t15_17, t15_18, t15_19, t15_20, t15_21, t15_22, t15_23] 35 ∧ Lc w' b24 #[t17_0, t17_1, t17_2, t17_3, t17_4, t17_5, t17_6, t17_7, t17_8, t17_9, t17_10, t17_11, t17_12, t17_13, t17_14, t17_15, t17_16, t17_17, t17_18, t17_19, t17_20, t17_21, t17_22, t17_23] 35 ∧ Lc w' b25 #[t19_0, t19_1, t19_2, t19_3, t19_4, t19_5, t19_6, t19_7, t19_8, t19_9, t19_10, t19_11] 33) [(true, 0), (true, 1), (true, 3), (false, 2), (false, 4)] [⟨5, 12, 33, #[(.bool false), (.slice none 0 0), (.bool false), (.slice none 0 0), (.bool false), (.slice none 0 0), (.bool false), (.slice none 0 0), (.bool false), (.slice none 0 0), (.bool false), (.slice none 0 0)]⟩] [(false, 6)] (by kernel_rfl) (by kernel_rfl) (by kernel_rfl) (by kernel_rfl) (by kernel_rfl) (by decide) (fun _ _ _ _ _ h => h) (fun _ _ _ _ _ h => h) (fun w' o h => ⟨Lc.gr h.1 (Gr.alloc w' o), Lc.gr h.2.1 (Gr.alloc w' o), Lc.gr h.2.2 (Gr.alloc w' o)⟩) ⟨L23, L24, L25⟩ (by intro f hf; simp only [List.mem_cons, List.not_mem_nil, or_false] at hf; rcases hf with rfl <;> first | exact alloc_zero (z := (.agg #[(.bool false), (.slice none 0 0), (.bool false), (.slice none 0 0), (.bool false), (.slice none 0 0), (.bool false), (.slice none 0 0), (.bool false), (.slice none 0 0), (.bool false), (.slice none 0 0)])) (by kernel_rfl) rfl) ?_
  refine flo_pure (some 32) (.agg #[t15_0, t15_1, t15_2, t15_3, t15_4, t15_5, t15_6, t15_7, t15_8, t15_9, t15_10, t15_11, t15_12, t15_13, t15_14, t15_15, t15_16, t15_17, t15_18, t15_19, t15_20, t15_21, t15_22, t15_23]) rfl rfl rfl (fun w' hS => (rv_load 35 _ b23 0 _ _ [t15_0, t15_1, t15_2, t15_3, t15_4, t15_5, t15_6, t15_7, t15_8, t15_9, t15_10, t15_11, t15_12, t15_13, t15_14, t15_15, t15_16, t15_17, t15_18, t15_19, t15_20, t15_21, t15_22, t15_23] rfl rfl hS.1 rfl (by kernel_rfl))) ?_
  simp only [p1, p2, p3, p4]
  refine flo_pure (some 33) (.agg #[t17_0, t17_1, t17_2, t17_3, t17_4, t17_5, t17_6, t17_7, t17_8, t17_9, t17_10, t17_11, t17_12, t17_13, t17_14, t17_15, t17_16, t17_17, t17_18, t17_19, t17_20, t17_21, t17_22, t17_23]) rfl rfl rfl (fun w' hS => (rv_load 35 _ b24 0 _ _ [t17_0, t17_1, t17_2, t17_3, t17_4, t17_5, t17_6, t17_7, t17_8, t17_9, t17_10, t17_11, t17_12, t17_13, t17_14, t17_15, t17_16, t17_17, t17_18, t17_19, t17_20, t17_21, t17_22, t17_23] rfl rfl hS.2.1 rfl (by kernel_rfl))) ?_
  simp only [p1, p2, p3, p4]
  refine flo_pure (some 35) (.agg #[t19_0, t19_1, t19_2, t19_3, t19_4, t19_5, t19_6, t19_7, t19_8, t19_9, t19_10, t19_11]) rfl rfl rfl (fun w' hS => (rv_load 33 _ b25 0 _ _ [t19_0, t19_1, t19_2, t19_3, t19_4, t19_5, t19_6, t19_7, t19_8, t19_9, t19_10, t19_11] rfl rfl hS.2.2 rfl (by kernel_rfl))) ?_
  simp only [p1, p2, p3, p4]
  refine flo_eff rfl rfl (fun w54 g54 _ K54 k54 => ?_)
  replace hB := Gr.trans hB g54
  have kq56 := g42.kp.trans (g45.kp.trans (g46.kp.trans (g48.kp.trans (kp51.trans (gd53.kp.trans g54.kp)))))
  replace h15a := h15a.kp kq56
  replace h15b := h15b.kp kq56
  replace h15c := h15c.kp kq56
  replace h15d := h15d.kp kq56
  replace h15e := h15e.kp kq56
  replace h15f := h15f.kp kq56
  have kq57 := g18.kp.trans (g19.kp.trans (g20.kp.trans (g21.kp.trans (g22.kp.trans (kp28.trans (kp30.trans (kp32.trans (kp34.trans (gd36.kp.trans (g37.kp.trans (g38.kp.trans (g41.kp.trans (g42.kp.trans (g45.kp.trans (g46.kp.trans (g48.kp.trans (kp51.trans (gd53.kp.trans g54.kp))))))))))))))))))
  replace h17a := h17a.kp kq57
  replace h17b := h17b.kp kq57
  replace h17c := h17c.kp kq57
  replace h17d := h17d.kp kq57
  replace h17e := h17e.kp kq57
  replace h17f := h17f.kp kq57
  refine eff_call (some 34) rfl (by kernel_rfl) (tadd_v h15a h15b h15c h15d h15e h15f h17a h17b h17c h17d h17e h17f (by omega)) ?_
  rintro e55 w55 ⟨⟨t55_0, t55_1, t55_2, t55_3, t55_4, t55_5, t55_6, t55_7, t55_8, t55_9, t55_10, t55_11, t55_12, t55_13, t55_14, t55_15, t55_16, t55_17, t55_18, t55_19, t55_20, t55_21, t55_22, t55_23, rfl, h55a, h55b, h55c, h55d, h55e, h55f⟩, g55⟩
  refine ⟨_, rfl, ?_⟩
  replace hB := Gr.trans hB g55
  replace L23 := L23.gr (g54.trans g55)
  replace L24 := L24.gr (g54.trans g55)
  replace L25 := L25.gr (g54.trans g55)
  refine k54 _ _ g55 ⟨L23, L24, L25⟩ ?_
  try clear k54 K54
  simp only [p1, p2, p3, p4]
  refine flo_eff rfl rfl (fun w58 g58 _ K58 k58 => ?_)
  replace hB := Gr.trans hB g58
  replace h55a := h55a.kp g58.kp
  replace h55b := h55b.kp g58.kp
  replace h55c := h55c.kp g58.kp
  replace h55d := h55d.kp g58.kp
  replace h55e := h55e.kp g58.kp
  replace h55f := h55f.kp g58.kp
  have kq60 := g38.kp.trans (g41.kp.trans (g42.kp.trans (g45.kp.trans (g46.kp.trans (g48.kp.trans (kp51.trans (gd53.kp.trans (g54.kp.trans (g55.kp.trans g58.kp)))))))))
  replace h19a := h19a.kp kq60
  replace h19b := h19b.kp kq60
  replace h19c := h19c.kp kq60
  refine eff_call (some 36) rfl (by kernel_rfl) (tvel_v h55a h55b h55c h55d h55e h55f h19a h19b h19c (by omega)) ?_
  rintro e59 w59 ⟨⟨t59_0, t59_1, t59_2, t59_3, t59_4, t59_5, t59_6, t59_7, t59_8, t59_9, t59_10, t59_11, rfl, h59a, h59b, h59c⟩, g59⟩
  refine ⟨_, rfl, ?_⟩
  replace hB := Gr.trans hB g59
  replace L23 := L23.gr (g58.trans g59)
  replace L24 := L24.gr (g58.trans g59)
  replace L25 := L25.gr (g58.trans g59)
  refine k58 _ _ g59 ⟨L23, L24, L25⟩ ?_
  try clear k58 K58
  simp only [p1, p2, p3, p4]
  refine flo_nil (fun w61 g61 _ => ?_)
  replace hB := Gr.trans hB g61
  refine floFin1 (fun b62 (L62 : Lc w61 b62 #[(.bool false), (.slice none 0 0), (.bool false), (.slice none 0 0), (.bool false), (.slice none 0 0), (.bool false), (.slice none 0 0), (.bool false), (.slice none 0 0), (.bool false), (.slice none 0 0)] 33) q62  => ?_)
  have ne3_62 : b3 ≠ b62 := Nat.ne_of_lt (Nat.lt_of_lt_of_le lt3_53 q62)
  have ne5_62 : b5 ≠ b62 := Nat.ne_of_lt (Nat.lt_of_lt_of_le lt5_53 q62)
  have ne7_62 : b7 ≠ b62 := Nat.ne_of_lt (Nat.lt_of_lt_of_le lt7_53 q62)
  have ne23_62 : b23 ≠ b62 := Nat.ne_of_lt (Nat.lt_of_lt_of_le lt23_53 q62)
  have ne24_62 : b24 ≠ b62 := Nat.ne_of_lt (Nat.lt_of_lt_of_le lt24_53 q62)
  have ne25_62 : b25 ≠ b62 := Nat.ne_of_lt (Nat.lt_of_lt_of_le lt25_53 q62)
  have ne26_62 : b26 ≠ b62 := Nat.ne_of_lt (Nat.lt_of_lt_of_le lt26_53 q62)
  have ne49_62 : b49 ≠ b62 := Nat.ne_of_lt (Nat.lt_of_lt_of_le lt49_53 q62)
  replace q62 := Nat.le_trans hz53 q62
  simp only [p1, p2, p3, p4]
  refine ord_eff rfl rfl (fun K63 k63 => ?_)
  refine eff_store 33 _ _ b62 0 (.agg #[t59_0, t59_1, t59_2, t59_3, t59_4, t59_5, t59_6, t59_7, t59_8, t59_9, t59_10, t59_11]) [t59_0, t59_1, t59_2, t59_3, t59_4, t59_5, t59_6, t59_7, t59_8, t59_9, t59_10, t59_11] _ #[t59_0, t59_1, t59_2, t59_3, t59_4, t59_5, t59_6, t59_7, t59_8, t59_9, t59_10, t59_11] _ rfl rfl rfl rfl rfl L62 (by kernel_rfl) (Nat.le_of_ble_eq_true rfl) ⟨h59a.one0, h59a.one1, h59a.one2, h59a.one3, h59b.one0, h59b.one1, h59b.one2, h59b.one3, h59c.one0, h59c.one1, h59c.one2, h59c.one3, trivial⟩ (by kernel_rfl) (fun w64 st64 N64 => ?_)
  have kp64 := st64.kp L62 (by decide)
  replace hB := st64.gr hB q62
  replace L62 := N64
  replace L23 := st64.lc (L23.gr g61) ne23_62
  replace L24 := st64.lc (L24.gr g61) ne24_62
  replace L25 := st64.lc (L25.gr g61) ne25_62
  refine k63 _ _ ⟨L23, L24, L25⟩ ?_
  try clear k63 K63
  refine ord_nil ?_
  refine k52 _ _ ?_
  try clear k52 K52
  refine wp_seq_k (fun K65 k65 => ?_)
  have gd90 := Gr.drew w64
  replace hB := Gr.trans hB gd90
  replace L23 := L23.gr gd90
  replace L24 := L24.gr gd90
  replace L25 := L25.gr gd90
  replace L26 := (st64.lc (L26.gr (gd53.trans (g54.trans (g55.trans (g58.trans (g59.trans g61)))))) ne26_62).gr gd90
  replace L49 := (st64.lc (L49.gr (gd53.trans (g54.trans (g55.trans (g58.trans (g59.trans g61)))))) ne49_62).gr gd90
  replace L62 := L62.gr gd90
  refine wp_region_ord (fun w' => Lc w' b23 #[t15_0, t15_1, t15_2, t15_3, t15_4, t15_5, t15_6, t15_7, t15_8, t15_9, t15_10, t15_11, t15_12, t15_13, t15_14, t15_15, t15_16, t15_17, t15_18, t15_19, t15_20, t15_21, t15_22, t15_23] 35 ∧ Lc w' b24 #[t17_0, t17_1, t17_2, t17_3, t17_4, t17_5, t17_6, t17_7, t17_8, t17_9, t17_10, t17_11, t17_12, t17_13, t17_14, t17_15, t17_16, t17_17, t17_18, t17_19, t17_20, t17_21, t17_22, t17_23] 35 ∧ Lc w' b25 #[t19_0, t19_1, t19_2, t19_3, t19_4, t19_5, t19_6, t19_7, t19_8, t19_9, t19_10, t19_11] 33 ∧ Lc w' b26 #[t21_0, t21_1, t21_2, t21_3, t21_4, t21_5, t21_6, t21_7, t21_8, t21_9, t21_10, t21_11] 33 ∧ Lc w' b49 #[t46_0, t46_1, t46_2, t46_3, t46_4, t46_5, t46_6, t46_7, t46_8, t46_9, t46_10, t46_11] 33 ∧ Lc w' b62 #[t59_0, t59_1, t59_2, t59_3, t59_4, t59_5, t59_6, t59_7, t59_8, t59_9, t59_10, t59_11] 33) [(true, 0), (true, 1), (true, 2), (false, 3), (false, 4), (false, 5), (true, 6), (true, 7), (true, 8), (true, 9), (true, 10), (true, 12), (true, 13), (false, 11), (false, 14), (false, 15), (false, 16), (true, 17), (true, 18)] (by kernel_rfl) (by kernel_rfl) (by kernel_rfl) (by decide) (fun _ _ _ _ _ h => h) ⟨L23, L24, L25, L26, L49, L62⟩ ?_
  refine ord_pure (some 37) (.agg #[t46_0, t46_1, t46_2, t46_3, t46_4, t46_5, t46_6, t46_7, t46_8, t46_9, t46_10, t46_11]) rfl rfl rfl (fun w' hS => (rv_load 33 _ b49 0 _ _ [t46_0, t46_1, t46_2, t46_3, t46_4, t46_5, t46_6, t46_7, t46_8, t46_9, t46_10, t46_11] rfl rfl hS.2.2.2.2.1 rfl (by kernel_rfl))) ?_
  simp only [p1, p2, p3, p4]
  refine ord_pure (some 38) (.agg #[t19_0, t19_1, t19_2, t19_3, t19_4, t19_5, t19_6, t19_7, t19_8, t19_9, t19_10, t19_11]) rfl rfl rfl (fun w' hS => (rv_load 33 _ b25 0 _ _ [t19_0, t19_1, t19_2, t19_3, t19_4, t19_5, t19_6, t19_7, t19_8, t19_9, t19_10, t19_11] rfl rfl hS.2.2.1 rfl (by kernel_rfl))) ?_
  simp only [p1, p2, p3, p4]
  refine ord_pure (some 39) (.agg #[t21_0, t21_1, t21_2, t21_3, t21_4, t21_5, t21_6, t21_7, t21_8, t21_9, t21_10, t21_11]) rfl rfl rfl (fun w' hS => (rv_load 33 _ b26 0 _ _ [t21_0, t21_1, t21_2, t21_3, t21_4, t21_5, t21_6, t21_7, t21_8, t21_9, t21_10, t21_11] rfl rfl hS.2.2.2.1 rfl (by kernel_rfl))) ?_
  simp only [p1, p2, p3, p4]
  refine ord_eff rfl rfl (fun K91 k91 => ?_)
  have kq93 := g59.kp.trans (g61.kp.trans (kp64.trans gd90.kp))
  replace h19a := h19a.kp kq93
  replace h19b := h19b.kp kq93
  replace h19c := h19c.kp kq93
  have kq94 := g42.kp.trans (g45.kp.trans (g46.kp.trans (g48.kp.trans (kp51.trans (gd53.kp.trans (g54.kp.trans (g55.kp.trans (g58.kp.trans (g59.kp.trans (g61.kp.trans (kp64.trans gd90.kp)))))))))))
  replace h21a := h21a.kp kq94
  replace h21b := h21b.kp kq94
  replace h21c := h21c.kp kq94
  refine eff_call (some 40) rfl (by kernel_rfl) (vsub_v h19a h19b h19c h21a h21b h21c (by omega)) ?_
  rintro e92 w92 ⟨⟨t92_0, t92_1, t92_2, t92_3, t92_4, t92_5, t92_6, t92_7, t92_8, t92_9, t92_10, t92_11, rfl, h92a, h92b, h92c⟩, g92⟩
  refine ⟨_, rfl, ?_⟩
  replace hB := Gr.trans hB g92
  replace L23 := L23.gr g92
  replace L24 := L24.gr g92
  replace L25 := L25.gr g92
  replace L26 := L26.gr g92
  replace L49 := L49.gr g92
  replace L62 := L62.gr g92
  refine k91 _ _ ⟨L23, L24, L25, L26, L49, L62⟩ ?_
  try clear k91 K91
  simp only [p1, p2, p3, p4]
  refine ord_eff rfl rfl (fun K95 k95 => ?_)
  have kq97 := g48.kp.trans (kp51.trans (gd53.kp.trans (g54.kp.trans (g55.kp.trans (g58.kp.trans (g59.kp.trans (g61.kp.trans (kp64.trans (gd90.kp.trans g92.kp)))))))))
  replace h46a := h46a.kp kq97
  replace h46b := h46b.kp kq97
  replace h46c := h46c.kp kq97
  refine eff_call (some 41) rfl (by kernel_rfl) (dot_v h46a h46b h46c h92a h92b h92c (by omega)) ?_
  rintro e96 w96 ⟨⟨p96, q96, r96, s96, rfl, h96⟩, g96⟩
  refine ⟨_, rfl, ?_⟩
  replace hB := Gr.trans hB g96
  replace L23 := L23.gr g96
  replace L24 := L24.gr g96
  replace L25 := L25.gr g96
  replace L26 := L26.gr g96
  replace L49 := L49.gr g96
  replace L62 := L62.gr g96
  refine k95 _ _ ⟨L23, L24, L25, L26, L49, L62⟩ ?_
  try clear k95 K95
  simp only [p1, p2, p3, p4]
  refine ord_eff rfl rfl (fun K98 k98 => ?_)
  refine eff_call (some 42) rfl (by kernel_rfl) (sign_r h96) ?_
  rintro e99 w99 ⟨rfl, g99⟩
  refine ⟨_, rfl, ?_⟩
  replace hB := Gr.trans hB g99
  replace L23 := L23.gr g99
  replace L24 := L24.gr g99
  replace L25 := L25.gr g99
  replace L26 := L26.gr g99
  replace L49 := L49.gr g99
  replace L62 := L62.gr g99
  refine k98 _ _ ⟨L23, L24, L25, L26, L49, L62⟩ ?_
  try clear k98 K98
  simp only [p1, p2, p3, p4]
  have hb100 : ((sgn ((0 + ((A3 + (A1 * P2 - A2 * P1)) - (A3 + (A1 * Q2 - A2 * Q1))) * (P0 - Q0) + ((A4 + (A2 * P0 - A0 * P2)) - (A4 + (A2 * Q0 - A0 * Q2))) * (P1 - Q1) + ((A5 + (A0 * P1 - A1 * P0)) - (A5 + (A0 * Q1 - A1 * Q0))) * (P2 - Q2))).num == (0 : Int))) = true := (lawRi0 A0 A1 A2 A3 A4 A5 B0 B1 B2 B3 B4 B5 P0 P1 P2 Q0 Q1 Q2 )
  refine ord_pure (some 43) (.bool true) rfl rfl rfl (fun w' hS => (RunV.bool (x := (sgn ((0 + ((A3 + (A1 * P2 - A2 * P1)) - (A3 + (A1 * Q2 - A2 * Q1))) * (P0 - Q0) + ((A4 + (A2 * P0 - A0 * P2)) - (A4 + (A2 * Q0 - A0 * Q2))) * (P1 - Q1) + ((A5 + (A0 * P1 - A1 * P0)) - (A5 + (A0 * Q1 - A1 * Q0))) * (P2 - Q2))).num == (0 : Int))) (rvk (by kernel_rfl)) hb100)) ?_
  simp only [p1, p2, p3, p4]
  refine ord_pure (some 44) (.bool true) rfl rfl rfl (fun w' hS => (rvk (by kernel_rfl))) ?_
  simp only [p1, p2, p3, p4]
  refine ord_pureg (some 45) (.agg #[t59_0, t59_1, t59_2, t59_3, t59_4, t59_5, t59_6, t59_7, t59_8, t59_9, t59_10, t59_11]) rfl rfl (by kernel_rfl) (fun w' hS => (rv_load 33 _ b62 0 _ _ [t59_0, t59_1, t59_2, t59_3, t59_4, t59_5, t59_6, t59_7, t59_8, t59_9, t59_10, t59_11] rfl rfl hS.2.2.2.2.2 rfl (by kernel_rfl))) ?_
  simp only [p1, p2, p3, p4]
  refine ord_pureg (some 46) (.agg #[t15_0, t15_1, t15_2, t15_3, t15_4, t15_5, t15_6, t15_7, t15_8, t15_9, t15_10, t15_11, t15_12, t15_13, t15_14, t15_15, t15_16, t15_17, t15_18, t15_19, t15_20, t15_21, t15_22, t15_23]) rfl rfl (by kernel_rfl) (fun w' hS => (rv_load 35 _ b23 0 _ _ [t15_0, t15_1, t15_2, t15_3, t15_4, t15_5, t15_6, t15_7, t15_8, t15_9, t15_10, t15_11, t15_12, t15_13, t15_14, t15_15, t15_16, t15_17, t15_18, t15_19, t15_20, t15_21, t15_22, t15_23] rfl rfl hS.1 rfl (by kernel_rfl))) ?_
  simp only [p1, p2, p3, p4]
  refine ord_pureg (some 47) (.agg #[t19_0, t19_1, t19_2, t19_3, t19_4, t19_5, t19_6, t19_7, t19_8, t19_9, t19_10, t19_11]) rfl rfl (by kernel_rfl) (fun w' hS => (rv_load 33 _ b25 0 _ _ [t19_0, t19_1, t19_2, t19_3, t19_4, t19_5, t19_6, t19_7, t19_8, t19_9, t19_10, t19_11] rfl rfl hS.2.2.1 rfl (by kernel_rfl))) ?_
  simp only [p1, p2, p3, p4]
  refine ord_pureg (some 49) (.agg #[t17_0, t17_1, t17_2, t17_3, t17_4, t17_5, t17_6, t17_7, t17_8, t17_9, t17_10, t17_11, t17_12, t17_13, t17_14, t17_15, t17_16, t17_17, t17_18, t17_19, t17_20, t17_21, t17_22, t17_23]) rfl rfl (by kernel_rfl) (fun w' hS => (rv_load 35 _ b24 0 _ _ [t17_0, t17_1, t17_2, t17_3, t17_4, t17_5, t17_6, t17_7, t17_8, t17_9, t17_10, t17_11, t17_12, t17_13, t17_14, t17_15, t17_16, t17_17, t17_18, t17_19, t17_20, t17_21, t17_22, t17_23] rfl rfl hS.2.1 rfl (by kernel_rfl))) ?_
  simp only [p1, p2, p3, p4]
  refine ord_pureg (some 50) (.agg #[t19_0, t19_1, t19_2, t19_3, t19_4, t19_5, t19_6, t19_7, t19_8, t19_9, t19_10, t19_11]) rfl rfl (by kernel_rfl) (fun w' hS => (rv_load 33 _ b25 0 _ _ [t19_0, t19_1, t19_2, t19_3, t19_4, t19_5, t19_6, t19_7, t19_8, t19_9, t19_10, t19_11] rfl rfl hS.2.2.1 rfl (by kernel_rfl))) ?_
  simp only [p1, p2, p3, p4]
  refine ord_effg rfl (by kernel_rfl) (fun K101 k101 => ?_)
  have kq103 := g55.kp.trans (g58.kp.trans (g59.kp.trans (g61.kp.trans (kp64.trans (gd90.kp.trans (g92.kp.trans (g96.kp.trans g99.kp)))))))
  replace h15a := h15a.kp kq103
  replace h15b := h15b.kp kq103
  replace h15c := h15c.kp kq103
  replace h15d := h15d.kp kq103
  replace h15e := h15e.kp kq103
  replace h15f := h15f.kp kq103
  have kq104 := g92.kp.trans (g96.kp.trans g99.kp)
  replace h19a := h19a.kp kq104
  replace h19b := h19b.kp kq104
  replace h19c := h19c.kp kq104
  refine eff_call (some 48) rfl (by kernel_rfl) (tvel_v h15a h15b h15c h15d h15e h15f h19a h19b h19c (by omega)) ?_
  rintro e102 w102 ⟨⟨t102_0, t102_1, t102_2, t102_3, t102_4, t102_5, t102_6, t102_7, t102_8, t102_9, t102_10, t102_11, rfl, h102a, h102b, h102c⟩, g102⟩
  refine ⟨_, rfl, ?_⟩
  replace hB := Gr.trans hB g102
  replace L23 := L23.gr g102
  replace L24 := L24.gr g102
  replace L25 := L25.gr g102
  replace L26 := L26.gr g102
  replace L49 := L49.gr g102
  replace L62 := L62.gr g102
  refine k101 _ _ ⟨L23, L24, L25, L26, L49, L62⟩ ?_
  try clear k101 K101
  simp only [p1, p2, p3, p4]
  refine ord_effg rfl (by kernel_rfl) (fun K105 k105 => ?_)
  have kq107 := g55.kp.trans (g58.kp.trans (g59.kp.trans (g61.kp.trans (kp64.trans (gd90.kp.trans (g92.kp.trans (g96.kp.trans (g99.kp.trans g102.kp))))))))
  replace h17a := h17a.kp kq107
  replace h17b := h17b.kp kq107
  replace h17c := h17c.kp kq107
  replace h17d := h17d.kp kq107
  replace h17e := h17e.kp kq107
  replace h17f := h17f.kp kq107
  replace h19a := h19a.kp g102.kp
  replace h19b := h19b.kp g102.kp
  replace h19c := h19c.kp g102.kp
  refine eff_call (some 51) rfl (by kernel_rfl) (tvel_v h17a h17b h17c h17d h17e h17f h19a h19b h19c (by omega)) ?_
  rintro e106 w106 ⟨⟨t106_0, t106_1, t106_2, t106_3, t106_4, t106_5, t106_6, t106_7, t106_8, t106_9, t106_10, t106_11, rfl, h106a, h106b, h106c⟩, g106⟩
  refine ⟨_, rfl, ?_⟩
  replace hB := Gr.trans hB g106
  replace L23 := L23.gr g106
  replace L24 := L24.gr g106
  replace L25 := L25.gr g106
  replace L26 := L26.gr g106
  replace L49 := L49.gr g106
  replace L62 := L62.gr g106
  refine k105 _ _ ⟨L23, L24, L25, L26, L49, L62⟩ ?_
  try clear k105 K105
  simp only [p1, p2, p3, p4]
  refine ord_effg rfl (by kernel_rfl) (fun K108 k108 => ?_)
  replace h102a := h102a.kp g106.kp
  replace h102b := h102b.kp g106.kp
  replace h102c := h102c.kp g106.kp
  refine eff_call (some 52) rfl (by kernel_rfl) (vadd_v h102a h102b h102c h106a h106b h106c (by omega)) ?_
  rintro e109 w109 ⟨⟨t109_0, t109_1, t109_2, t109_3, t109_4, t109_5, t109_6, t109_7, t109_8, t109_9, t109_10, t109_11, rfl, h109a, h109b, h109c⟩, g109⟩
  refine ⟨_, rfl, ?_⟩
  replace hB := Gr.trans hB g109
  replace L23 := L23.gr g109
  replace L24 := L24.gr g109
  replace L25 := L25.gr g109
  replace L26 := L26.gr g109
  replace L49 := L49.gr g109
  replace L62 := L62.gr g109
  refine k108 _ _ ⟨L23, L24, L25, L26, L49, L62⟩ ?_
  try clear k108 K108
  simp only [p1, p2, p3, p4]
  refine ord_effg rfl (by kernel_rfl) (fun K110 k110 => ?_)
  have kq112 := g61.kp.trans (kp64.trans (gd90.kp.trans (g92.kp.trans (g96.kp.trans (g99.kp.trans (g102.kp.trans (g106.kp.trans g109.kp)))))))
  replace h59a := h59a.kp kq112
  replace h59b := h59b.kp kq112
  replace h59c := h59c.kp kq112
  refine eff_call (some 53) rfl (by kernel_rfl) (vequal_v h59a h59b h59c h109a h109b h109c (by omega)) ?_
  rintro e111 w111 ⟨rfl, g111⟩
  refine ⟨_, rfl, ?_⟩
  replace hB := Gr.trans hB g111
  replace L23 := L23.gr g111
  replace L24 := L24.gr g111
  replace L25 := L25.gr g111
  replace L26 := L26.gr g111
  replace L49 := L49.gr g111
  replace L62 := L62.gr g111
  refine k110 _ _ ⟨L23, L24, L25, L26, L49, L62⟩ ?_
  try clear k110 K110
  simp only [p1, p2, p3, p4]
  have hb113 : (vcmp ((A3 + B3) + ((A1 + B1) * P2 - (A2 + B2) * P1)) ((A4 + B4) + ((A2 + B2) * P0 - (A0 + B0) * P2)) ((A5 + B5) + ((A0 + B0) * P1 - (A1 + B1) * P0)) ((A3 + (A1 * P2 - A2 * P1)) + (B3 + (B1 * P2 - B2 * P1))) ((A4 + (A2 * P0 - A0 * P2)) + (B4 + (B2 * P0 - B0 * P2))) ((A5 + (A0 * P1 - A1 * P0)) + (B5 + (B0 * P1 - B1 * P0))) == (0 : Int)) = true := (lawRi1 A0 A1 A2 A3 A4 A5 B0 B1 B2 B3 B4 B5 P0 P1 P2 Q0 Q1 Q2 )
  refine ord_pure (some 54) (.bool true) rfl rfl rfl (fun w' hS => (RunV.bool (x := vcmp ((A3 + B3) + ((A1 + B1) * P2 - (A2 + B2) * P1)) ((A4 + B4) + ((A2 + B2) * P0 - (A0 + B0) * P2)) ((A5 + B5) + ((A0 + B0) * P1 - (A1 + B1) * P0)) ((A3 + (A1 * P2 - A2 * P1)) + (B3 + (B1 * P2 - B2 * P1))) ((A4 + (A2 * P0 - A0 * P2)) + (B4 + (B2 * P0 - B0 * P2))) ((A5 + (A0 * P1 - A1 * P0)) + (B5 + (B0 * P1 - B1 * P0))) == (0 : Int)) (rvk (by kernel_rfl)) hb113)) ?_
  simp only [p1, p2, p3, p4]
  refine ord_pure (some 6) (.bool true) rfl rfl rfl (fun w' hS => (rvk (by kernel_rfl))) ?_
  simp only [p1, p2, p3, p4]
  refine ord_nil ?_
  refine k65 _ _ ?_
  try clear k65 K65
  refine wp_ret ?_
  refine bodyPost_ret (v := (.bool true)) (ret_tmp rfl rfl) rfl ⟨?_, hB⟩
  exact rfl

theorem twist_rigid (n0 n1 n2 n3 n4 n5 dd : Int) (in0 : -128 ≤ n0 ∧ n0 ≤ 127) (in1 : -128 ≤ n1 ∧ n1 ≤ 127) (in2 : -128 ≤ n2 ∧ n2 ≤ 127) (in3 : -128 ≤ n3 ∧ n3 ≤ 127) (in4 : -128 ≤ n4 ∧ n4 ≤ 127) (in5 : -128 ≤ n5 ∧ n5 ≤ 127) (idd : 0 ≤ dd ∧ dd ≤ 255) (j0 j1 j2 j3 j4 j5 ee : Int) (ij0 : -128 ≤ j0 ∧ j0 ≤ 127) (ij1 : -128 ≤ j1 ∧ j1 ≤ 127) (ij2 : -128 ≤ j2 ∧ j2 ≤ 127) (ij3 : -128 ≤ j3 ∧ j3 ≤ 127) (ij4 : -128 ≤ j4 ∧ j4 ≤ 127) (ij5 : -128 ≤ j5 ∧ j5 ≤ 127) (iee : 0 ≤ ee ∧ ee ≤ 255) (m0 m1 m2 : Int) (im0 : -128 ≤ m0 ∧ m0 ≤ 127) (im1 : -128 ≤ m1 ∧ m1 ≤ 127) (im2 : -128 ≤ m2 ∧ m2 ≤ 127) (l0 l1 l2 : Int) (il0 : -128 ≤ l0 ∧ l0 ≤ 127) (il1 : -128 ≤ l1 ∧ l1 ≤ 127) (il2 : -128 ≤ l2 ∧ l2 ≤ 127) (w : World) (ht : Tab w) :
    Calls Tryd.prog 7 #[(.agg #[(.int .i8 (n0)), (.int .i8 (n1)), (.int .i8 (n2)), (.int .i8 (n3)), (.int .i8 (n4)), (.int .i8 (n5)), (.int .u8 (dd))]), (.agg #[(.int .i8 (j0)), (.int .i8 (j1)), (.int .i8 (j2)), (.int .i8 (j3)), (.int .i8 (j4)), (.int .i8 (j5)), (.int .u8 (ee))]), (.agg #[(.int .i8 (m0)), (.int .i8 (m1)), (.int .i8 (m2)), (.int .i8 (l0)), (.int .i8 (l1)), (.int .i8 (l2))])] w fun e w' => e = .returned (.bool true) ∧ Gr w w' :=
  rigid_q n0 n1 n2 n3 n4 n5 dd in0 in1 in2 in3 in4 in5 idd j0 j1 j2 j3 j4 j5 ee ij0 ij1 ij2 ij3 ij4 ij5 iee m0 m1 m2 im0 im1 im2 l0 l1 l2 il0 il1 il2 _ _ _ _ _ _ rfl rfl rfl rfl rfl rfl _ _ _ _ _ _ rfl rfl rfl rfl rfl rfl _ _ _ rfl rfl rfl _ _ _ rfl rfl rfl w ht

end Go.Proofs.YtgopfikljndklaaDoor
