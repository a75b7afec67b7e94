/- Printed by a program of the prover's: TwistScales. -/
import Derived.Test.YtgopfikljndklaaDoorGen23
import Derived.Test.YtgopfikljndklaaDoorStq
namespace Go.Proofs.YtgopfikljndklaaDoor
open Go.RowKit

theorem lawSk0 (A0 A1 A2 B0 B1 B2 : Rat)  : (vcmp (A0 + B0) (A1 + B1) (A2 + B2) (A0 + B0) (A1 + B1) (A2 + B2) == (0 : Int)) = true := veq_t rfl rfl rfl
theorem lawSk1 (A3 A4 A5 B3 B4 B5 : Rat)  : (vcmp (A3 + B3) (A4 + B4) (A5 + B5) (A3 + B3) (A4 + B4) (A5 + B5) == (0 : Int)) = true := veq_t rfl rfl rfl
theorem lawSk2 (A0 A1 A2 FF : Rat)  : (vcmp (FF * A0) (FF * A1) (FF * A2) (FF * A0) (FF * A1) (FF * A2) == (0 : Int)) = true := veq_t rfl rfl rfl
theorem lawSk3 (A3 A4 A5 FF : Rat)  : (vcmp (FF * A3) (FF * A4) (FF * A5) (FF * A3) (FF * A4) (FF * A5) == (0 : Int)) = true := veq_t rfl rfl rfl
set_option maxRecDepth 100000 in
set_option maxHeartbeats 16000000 in
theorem scales_z (n0 n1 n2 n3 n4 n5 dd : Int) (_in0 : -128 ≤ n0 ∧ n0 ≤ 127) (_in1 : -128 ≤ n1 ∧ n1 ≤ 127) (_in2 : -128 ≤ n2 ∧ n2 ≤ 127) (_in3 : -128 ≤ n3 ∧ n3 ≤ 127) (_in4 : -128 ≤ n4 ∧ n4 ≤ 127) (_in5 : -128 ≤ n5 ∧ n5 ≤ 127) (_idd : 0 ≤ dd ∧ dd ≤ 255) (j0 j1 j2 j3 j4 j5 ee : Int) (_ij0 : -128 ≤ j0 ∧ j0 ≤ 127) (_ij1 : -128 ≤ j1 ∧ j1 ≤ 127) (_ij2 : -128 ≤ j2 ∧ j2 ≤ 127) (_ij3 : -128 ≤ j3 ∧ j3 ≤ 127) (_ij4 : -128 ≤ j4 ∧ j4 ≤ 127) (_ij5 : -128 ≤ j5 ∧ j5 ≤ 127) (_iee : 0 ≤ ee ∧ ee ≤ 255) (ff : Int) (_iff : -128 ≤ ff ∧ ff ≤ 127) (A0 A1 A2 A3 A4 A5 : Rat) (eA0 : A0 = (((n0 : Int) : Rat) / ((1 + dd % 3 : Int) : Rat))) (eA1 : A1 = (((n1 : Int) : Rat) / ((1 + dd % 3 : Int) : Rat))) (eA2 : A2 = (((n2 : Int) : Rat) / ((1 + dd % 3 : Int) : Rat))) (eA3 : A3 = (((n3 : Int) : Rat) / ((1 + dd % 3 : Int) : Rat))) (eA4 : A4 = (((n4 : Int) : Rat) / ((1 + dd % 3 : Int) : Rat))) (eA5 : A5 = (((n5 : Int) : Rat) / ((1 + dd % 3 : Int) : Rat))) (B0 B1 B2 B3 B4 B5 : Rat) (eB0 : B0 = (((j0 : Int) : Rat) / ((1 + ee % 3 : Int) : Rat))) (eB1 : B1 = (((j1 : Int) : Rat) / ((1 + ee % 3 : Int) : Rat))) (eB2 : B2 = (((j2 : Int) : Rat) / ((1 + ee % 3 : Int) : Rat))) (eB3 : B3 = (((j3 : Int) : Rat) / ((1 + ee % 3 : Int) : Rat))) (eB4 : B4 = (((j4 : Int) : Rat) / ((1 + ee % 3 : Int) : Rat))) (eB5 : B5 = (((j5 : Int) : Rat) / ((1 + ee % 3 : Int) : Rat))) (FF : Rat) (eFF : FF = ((ff : Int) : Rat)) (w : World) (ht : Tab w) (hz : all6 A0 A1 A2 A3 A4 A5) (hzt : (n0 == 0 && n1 == 0 && n2 == 0 && n3 == 0 && n4 == 0 && n5 == 0) = true) :
    Calls Tryd.prog 8 #[(.agg #[(.int .i8 (n0)), (.int .i8 (n1)), (.int .i8 (n2)), (.int .i8 (n3)), (.int .i8 (n4)), (.int .i8 (n5)), (.int .u8 (dd))]), (.agg #[(.int .i8 (j0)), (.int .i8 (j1)), (.int .i8 (j2)), (.int .i8 (j3)), (.int .i8 (j4)), (.int .i8 (j5)), (.int .u8 (ee))]), (.int .i8 (ff))] w fun e w' => e = .returned (.bool true) ∧ Gr w w' := by
 go_enter Tryd.func8, Tryd.ntmps8
 have hB := Gr.refl w
 refine wp_seq_k (fun K1 k1 => ?_)
 refine rg [0, 1, 2] ?_
 refine se ?_
 refine eb 25 #[(.int .i8 (n0)), (.int .i8 (n1)), (.int .i8 (n2)), (.int .i8 (n3)), (.int .i8 (n4)), (.int .i8 (n5)), (.int .u8 (dd))] 3 hB fun b2 w2 g2 L2 o2 q2 hB => ?_
 simp only [p3, p4]
 refine se ?_
 refine eb 25 #[(.int .i8 (j0)), (.int .i8 (j1)), (.int .i8 (j2)), (.int .i8 (j3)), (.int .i8 (j4)), (.int .i8 (j5)), (.int .u8 (ee))] 4 hB fun b3 w3 g3 L3 o3 q3 hB => ?_
 simp only [p3, p4]
 refine sv 6 (.bool false) ?_
 simp only [p3, p4]
 refine sq_nil ?_
 refine k1 _ _ ?_
 try clear k1 K1
 refine wp_seq_k (fun K4 k4 => ?_)
 refine wp_seq_k (fun K5 k5 => ?_)
 refine rg [0, 1] ?_
 refine se ?_
 refine ec 20 (known_t _ (ht.gr hB)) ?_
 rintro e6 w6 ⟨rfl, g6⟩
 refine ⟨_, rfl, ?_⟩
 replace hB := hB.trans g6
 simp only [p3, p4]
 refine sv 21 (.bool false) ?_
 simp only [p3, p4]
 refine sq_nil ?_
 refine k5 _ _ ?_
 try clear k5 K5
 refine wp_cond_false rfl ?_
 refine wp_skip ?_
 refine k4 _ _ ?_
 try clear k4 K4
 refine wp_seq_k (fun K7 k7 => ?_)
 have hz8 := Below.size hB
 replace L2 := L2.gr (g3.trans g6)
 have lt2_8 := L2.lt
 replace L3 := L3.gr g6
 have lt3_8 := L3.lt
 have gd8 := Gr.drew w6
 replace hB := hB.trans gd8
 replace L2 := L2.gr gd8
 replace L3 := L3.gr gd8
 refine wp_region_flo (fun w' => Lc w' b2 #[(.int .i8 (n0)), (.int .i8 (n1)), (.int .i8 (n2)), (.int .i8 (n3)), (.int .i8 (n4)), (.int .i8 (n5)), (.int .u8 (dd))] 25 ∧ Lc w' b3 #[(.int .i8 (j0)), (.int .i8 (j1)), (.int .i8 (j2)), (.int .i8 (j3)), (.int .i8 (j4)), (.int .i8 (j5)), (.int .u8 (ee))] 25) [(true, 0), (true, 2), (false, 1), (false, 3)] [⟨4, 7, 35, #[(.bool false), (.slice none 0 0), (.bool false), (.slice none 0 0), (.bool false), (.slice none 0 0), (.bool false), (.slice none 0 0), (.bool false), (.slice none 0 0), (.bool false), (.slice none 0 0), (.bool false), (.slice none 0 0), (.bool false), (.slice none 0 0), (.bool false), (.slice none 0 0), (.bool false), (.slice none 0 0), (.bool false), (.slice none 0 0), (.bool false), (.slice none 0 0)]⟩, ⟨5, 8, 35, #[(.bool false), (.slice none 0 0), (.bool false), (.slice none 0 0), (.bool false), (.slice none 0 0), (.bool false), (.slice none 0 0), (.bool false), (.slice none 0 0), (.bool false), (.slice none 0 0), (.bool false), (.slice none 0 0), (.bool false), (.slice none 0 0), (.bool false), (.slice none 0 0), (.bool false), (.slice none 0 0), (.bool false), (.slice none 0 0), (.bool false), (.slice none 0 0)]⟩] [(false, 6), (false, 7)] (by kernel_rfl) (by kernel_rfl) (by kernel_rfl) (by kernel_rfl) (by kernel_rfl) (by decide) (fun _ _ _ _ _ h => h) (fun _ _ _ _ _ h => h) (fun w' o h => ⟨Lc.gr h.1 (Gr.alloc w' o), Lc.gr h.2 (Gr.alloc w' o)⟩) ⟨L2, L3⟩ (by intro f hf; simp only [List.mem_cons, List.not_mem_nil, or_false] at hf; rcases hf with rfl | rfl <;> first | exact alloc_zero (z := (.agg #[(.bool false), (.slice none 0 0), (.bool false), (.slice none 0 0), (.bool false), (.slice none 0 0), (.bool false), (.slice none 0 0), (.bool false), (.slice none 0 0), (.bool false), (.slice none 0 0), (.bool false), (.slice none 0 0), (.bool false), (.slice none 0 0), (.bool false), (.slice none 0 0), (.bool false), (.slice none 0 0), (.bool false), (.slice none 0 0), (.bool false), (.slice none 0 0)])) (by kernel_rfl) rfl | exact alloc_zero (z := (.agg #[(.bool false), (.slice none 0 0), (.bool false), (.slice none 0 0), (.bool false), (.slice none 0 0), (.bool false), (.slice none 0 0), (.bool false), (.slice none 0 0), (.bool false), (.slice none 0 0), (.bool false), (.slice none 0 0), (.bool false), (.slice none 0 0), (.bool false), (.slice none 0 0), (.bool false), (.slice none 0 0), (.bool false), (.slice none 0 0), (.bool false), (.slice none 0 0)])) (by kernel_rfl) rfl) ?_
 refine fw 22 (.agg #[(.int .i8 (n0)), (.int .i8 (n1)), (.int .i8 (n2)), (.int .i8 (n3)), (.int .i8 (n4)), (.int .i8 (n5)), (.int .u8 (dd))]) rfl (fun w' hS => (rl 25 0 [(.int .i8 (n0)), (.int .i8 (n1)), (.int .i8 (n2)), (.int .i8 (n3)), (.int .i8 (n4)), (.int .i8 (n5)), (.int .u8 (dd))] hS.1)) ?_
 simp only [p3, p4]
 refine fw 24 (.agg #[(.int .i8 (j0)), (.int .i8 (j1)), (.int .i8 (j2)), (.int .i8 (j3)), (.int .i8 (j4)), (.int .i8 (j5)), (.int .u8 (ee))]) rfl (fun w' hS => (rl 25 0 [(.int .i8 (j0)), (.int .i8 (j1)), (.int .i8 (j2)), (.int .i8 (j3)), (.int .i8 (j4)), (.int .i8 (j5)), (.int .u8 (ee))] hS.2)) ?_
 simp only [p3, p4]
 refine flo_eff rfl rfl (fun w9 g9 _ K9 k9 => ?_)
 replace hB := hB.trans g9
 refine ec 23 (of_v (n0) (n1) (n2) (n3) (n4) (n5) (dd) (by omega) (by omega) (by omega) (by omega) (by omega) (by omega) (by omega) _) ?_
 rintro e10 w10 ⟨⟨t10_0, t10_1, t10_2, t10_3, t10_4, t10_5, t10_6, t10_7, t10_8, t10_9, t10_10, t10_11, t10_12, t10_13, t10_14, t10_15, t10_16, t10_17, t10_18, t10_19, t10_20, t10_21, t10_22, t10_23, rfl, h10a, h10b, h10c, h10d, h10e, h10f⟩, g10⟩
 refine ⟨_, rfl, ?_⟩
 replace hB := hB.trans g10
 rw [← eA0] at h10a
 rw [← eA1] at h10b
 rw [← eA2] at h10c
 rw [← eA3] at h10d
 rw [← eA4] at h10e
 rw [← eA5] at h10f
 replace L2 := L2.gr (g9.trans g10)
 replace L3 := L3.gr (g9.trans g10)
 refine k9 _ _ g10 ⟨L2, L3⟩ ?_
 try clear k9 K9
 simp only [p3, p4]
 refine flo_eff rfl rfl (fun w11 g11 _ K11 k11 => ?_)
 replace hB := hB.trans g11
 refine ec 25 (of_v (j0) (j1) (j2) (j3) (j4) (j5) (ee) (by omega) (by omega) (by omega) (by omega) (by omega) (by omega) (by omega) _) ?_
 rintro e12 w12 ⟨⟨t12_0, t12_1, t12_2, t12_3, t12_4, t12_5, t12_6, t12_7, t12_8, t12_9, t12_10, t12_11, t12_12, t12_13, t12_14, t12_15, t12_16, t12_17, t12_18, t12_19, t12_20, t12_21, t12_22, t12_23, rfl, h12a, h12b, h12c, h12d, h12e, h12f⟩, g12⟩
 refine ⟨_, rfl, ?_⟩
 replace hB := hB.trans g12
 rw [← eB0] at h12a
 rw [← eB1] at h12b
 rw [← eB2] at h12c
 rw [← eB3] at h12d
 rw [← eB4] at h12e
 rw [← eB5] at h12f
 replace L2 := L2.gr (g11.trans g12)
 replace L3 := L3.gr (g11.trans g12)
 refine k11 _ _ g12 ⟨L2, L3⟩ ?_
 try clear k11 K11
 simp only [p3, p4]
 refine flo_nil (fun w13 g13 _ => ?_)
 replace hB := hB.trans g13
 refine floFin2 (fun b14 b15 (L14 : Lc w13 b14 #[(.bool false), (.slice none 0 0), (.bool false), (.slice none 0 0), (.bool false), (.slice none 0 0), (.bool false), (.slice none 0 0), (.bool false), (.slice none 0 0), (.bool false), (.slice none 0 0), (.bool false), (.slice none 0 0), (.bool false), (.slice none 0 0), (.bool false), (.slice none 0 0), (.bool false), (.slice none 0 0), (.bool false), (.slice none 0 0), (.bool false), (.slice none 0 0)] 35) q14 (L15 : Lc w13 b15 #[(.bool false), (.slice none 0 0), (.bool false), (.slice none 0 0), (.bool false), (.slice none 0 0), (.bool false), (.slice none 0 0), (.bool false), (.slice none 0 0), (.bool false), (.slice none 0 0), (.bool false), (.slice none 0 0), (.bool false), (.slice none 0 0), (.bool false), (.slice none 0 0), (.bool false), (.slice none 0 0), (.bool false), (.slice none 0 0), (.bool false), (.slice none 0 0)] 35) q15 ne14_15 => ?_)
 have ne2_14 : b2 ≠ b14 := Nat.ne_of_lt (Nat.lt_of_lt_of_le lt2_8 q14)
 have ne3_14 : b3 ≠ b14 := Nat.ne_of_lt (Nat.lt_of_lt_of_le lt3_8 q14)
 replace q14 := Nat.le_trans hz8 q14
 have ne2_15 : b2 ≠ b15 := Nat.ne_of_lt (Nat.lt_of_lt_of_le lt2_8 q15)
 have ne3_15 : b3 ≠ b15 := Nat.ne_of_lt (Nat.lt_of_lt_of_le lt3_8 q15)
 replace q15 := Nat.le_trans hz8 q15
 simp only [putl, p3, p4]
 refine oe ?_
 refine es 35 0 (.agg #[t10_0, t10_1, t10_2, t10_3, t10_4, t10_5, t10_6, t10_7, t10_8, t10_9, t10_10, t10_11, t10_12, t10_13, t10_14, t10_15, t10_16, t10_17, t10_18, t10_19, t10_20, t10_21, t10_22, t10_23]) [t10_0, t10_1, t10_2, t10_3, t10_4, t10_5, t10_6, t10_7, t10_8, t10_9, t10_10, t10_11, t10_12, t10_13, t10_14, t10_15, t10_16, t10_17, t10_18, t10_19, t10_20, t10_21, t10_22, t10_23] #[t10_0, t10_1, t10_2, t10_3, t10_4, t10_5, t10_6, t10_7, t10_8, t10_9, t10_10, t10_11, t10_12, t10_13, t10_14, t10_15, t10_16, t10_17, t10_18, t10_19, t10_20, t10_21, t10_22, t10_23] L14 hB q14 ⟨h10a.one0, h10a.one1, h10a.one2, h10a.one3, h10b.one0, h10b.one1, h10b.one2, h10b.one3, h10c.one0, h10c.one1, h10c.one2, h10c.one3, h10d.one0, h10d.one1, h10d.one2, h10d.one3, h10e.one0, h10e.one1, h10e.one2, h10e.one3, h10f.one0, h10f.one1, h10f.one2, h10f.one3, trivial⟩ fun w17 st17 kp17 L14 hB => ?_
 replace L2 := st17.lc (L2.gr g13) ne2_14
 replace L3 := st17.lc (L3.gr g13) ne3_14
 refine ⟨⟨L2, L3⟩, ?_⟩
 refine oe ?_
 replace L15 := st17.lc L15 (Ne.symm ne14_15)
 refine es 35 0 (.agg #[t12_0, t12_1, t12_2, t12_3, t12_4, t12_5, t12_6, t12_7, t12_8, t12_9, t12_10, t12_11, t12_12, t12_13, t12_14, t12_15, t12_16, t12_17, t12_18, t12_19, t12_20, t12_21, t12_22, t12_23]) [t12_0, t12_1, t12_2, t12_3, t12_4, t12_5, t12_6, t12_7, t12_8, t12_9, t12_10, t12_11, t12_12, t12_13, t12_14, t12_15, t12_16, t12_17, t12_18, t12_19, t12_20, t12_21, t12_22, t12_23] #[t12_0, t12_1, t12_2, t12_3, t12_4, t12_5, t12_6, t12_7, t12_8, t12_9, t12_10, t12_11, t12_12, t12_13, t12_14, t12_15, t12_16, t12_17, t12_18, t12_19, t12_20, t12_21, t12_22, t12_23] L15 hB q15 ⟨h12a.one0, h12a.one1, h12a.one2, h12a.one3, h12b.one0, h12b.one1, h12b.one2, h12b.one3, h12c.one0, h12c.one1, h12c.one2, h12c.one3, h12d.one0, h12d.one1, h12d.one2, h12d.one3, h12e.one0, h12e.one1, h12e.one2, h12e.one3, h12f.one0, h12f.one1, h12f.one2, h12f.one3, trivial⟩ fun w19 st19 kp19 L15 hB => ?_
 replace L2 := st19.lc L2 ne2_15
 replace L3 := st19.lc L3 ne3_15
 refine ⟨⟨L2, L3⟩, ?_⟩
 refine ord_nil ?_
 refine k7 _ _ ?_
 try clear k7 K7
 refine wp_seq_k (fun K20 k20 => ?_)
 have hz21 := Below.size hB
 have lt2_21 := L2.lt
 replace L14 := st19.lc L14 ne14_15
 have lt14_21 := L14.lt
 have lt15_21 := L15.lt
 have gd21 := Gr.drew w19
 replace hB := hB.trans gd21
 replace L14 := L14.gr gd21
 replace L15 := L15.gr gd21
 refine wp_region_flo (fun w' => Lc w' b14 #[t10_0, t10_1, t10_2, t10_3, t10_4, t10_5, t10_6, t10_7, t10_8, t10_9, t10_10, t10_11, t10_12, t10_13, t10_14, t10_15, t10_16, t10_17, t10_18, t10_19, t10_20, t10_21, t10_22, t10_23] 35 ∧ Lc w' b15 #[t12_0, t12_1, t12_2, t12_3, t12_4, t12_5, t12_6, t12_7, t12_8, t12_9, t12_10, t12_11, t12_12, t12_13, t12_14, t12_15, t12_16, t12_17, t12_18, t12_19, t12_20, t12_21, t12_22, t12_23] 35) [(true, 0), (true, 1), (true, 3), (true, 4), (true, 5), (false, 2), (false, 6), (false, 7)] [⟨8, 9, 35, #[(.bool false), (.slice none 0 0), (.bool false), (.slice none 0 0), (.bool false), (.slice none 0 0), (.bool false), (.slice none 0 0), (.bool false), (.slice none 0 0), (.bool false), (.slice none 0 0), (.bool false), (.slice none 0 0), (.bool false), (.slice none 0 0), (.bool false), (.slice none 0 0), (.bool false), (.slice none 0 0), (.bool false), (.slice none 0 0), (.bool false), (.slice none 0 0)]⟩, ⟨9, 10, 35, #[(.bool false), (.slice none 0 0), (.bool false), (.slice none 0 0), (.bool false), (.slice none 0 0), (.bool false), (.slice none 0 0), (.bool false), (.slice none 0 0), (.bool false), (.slice none 0 0), (.bool false), (.slice none 0 0), (.bool false), (.slice none 0 0), (.bool false), (.slice none 0 0), (.bool false), (.slice none 0 0), (.bool false), (.slice none 0 0), (.bool false), (.slice none 0 0)]⟩] [(false, 10), (false, 11)] (by kernel_rfl) (by kernel_rfl) (by kernel_rfl) (by kernel_rfl) (by kernel_rfl) (by decide) (fun _ _ _ _ _ h => h) (fun _ _ _ _ _ h => h) (fun w' o h => ⟨Lc.gr h.1 (Gr.alloc w' o), Lc.gr h.2 (Gr.alloc w' o)⟩) ⟨L14, L15⟩ (by intro f hf; simp only [List.mem_cons, List.not_mem_nil, or_false] at hf; rcases hf with rfl | rfl <;> first | exact alloc_zero (z := (.agg #[(.bool false), (.slice none 0 0), (.bool false), (.slice none 0 0), (.bool false), (.slice none 0 0), (.bool false), (.slice none 0 0), (.bool false), (.slice none 0 0), (.bool false), (.slice none 0 0), (.bool false), (.slice none 0 0), (.bool false), (.slice none 0 0), (.bool false), (.slice none 0 0), (.bool false), (.slice none 0 0), (.bool false), (.slice none 0 0), (.bool false), (.slice none 0 0)])) (by kernel_rfl) rfl | exact alloc_zero (z := (.agg #[(.bool false), (.slice none 0 0), (.bool false), (.slice none 0 0), (.bool false), (.slice none 0 0), (.bool false), (.slice none 0 0), (.bool false), (.slice none 0 0), (.bool false), (.slice none 0 0), (.bool false), (.slice none 0 0), (.bool false), (.slice none 0 0), (.bool false), (.slice none 0 0), (.bool false), (.slice none 0 0), (.bool false), (.slice none 0 0), (.bool false), (.slice none 0 0)])) (by kernel_rfl) rfl) ?_
 refine fw 26 (.agg #[t10_0, t10_1, t10_2, t10_3, t10_4, t10_5, t10_6, t10_7, t10_8, t10_9, t10_10, t10_11, t10_12, t10_13, t10_14, t10_15, t10_16, t10_17, t10_18, t10_19, t10_20, t10_21, t10_22, t10_23]) rfl (fun w' hS => (rl 35 0 [t10_0, t10_1, t10_2, t10_3, t10_4, t10_5, t10_6, t10_7, t10_8, t10_9, t10_10, t10_11, t10_12, t10_13, t10_14, t10_15, t10_16, t10_17, t10_18, t10_19, t10_20, t10_21, t10_22, t10_23] hS.1)) ?_
 simp only [p3, p4]
 refine fw 27 (.agg #[t12_0, t12_1, t12_2, t12_3, t12_4, t12_5, t12_6, t12_7, t12_8, t12_9, t12_10, t12_11, t12_12, t12_13, t12_14, t12_15, t12_16, t12_17, t12_18, t12_19, t12_20, t12_21, t12_22, t12_23]) rfl (fun w' hS => (rl 35 0 [t12_0, t12_1, t12_2, t12_3, t12_4, t12_5, t12_6, t12_7, t12_8, t12_9, t12_10, t12_11, t12_12, t12_13, t12_14, t12_15, t12_16, t12_17, t12_18, t12_19, t12_20, t12_21, t12_22, t12_23] hS.2)) ?_
 simp only [p3, p4]
 refine fw 29 (.agg #[t10_0, t10_1, t10_2, t10_3, t10_4, t10_5, t10_6, t10_7, t10_8, t10_9, t10_10, t10_11, t10_12, t10_13, t10_14, t10_15, t10_16, t10_17, t10_18, t10_19, t10_20, t10_21, t10_22, t10_23]) rfl (fun w' hS => (rl 35 0 [t10_0, t10_1, t10_2, t10_3, t10_4, t10_5, t10_6, t10_7, t10_8, t10_9, t10_10, t10_11, t10_12, t10_13, t10_14, t10_15, t10_16, t10_17, t10_18, t10_19, t10_20, t10_21, t10_22, t10_23] hS.1)) ?_
 simp only [p3, p4]
 refine fv 30 (.int .i8 (ff)) ?_
 simp only [p3, p4]
 refine fw 31 (.int .i64 (ff)) rfl (fun w' hS => (RunV.int (x := IntKind.i64.wrap (ff)) (y := ff) (rvk (by kernel_rfl)) (by first | rfl | (rw [IntKind.wrap_i64]; omega)))) ?_
 simp only [p3, p4]
 refine flo_eff rfl rfl (fun w22 g22 _ K22 k22 => ?_)
 replace hB := hB.trans g22
 have kq24 := g11.kp.trans (g12.kp.trans (g13.kp.trans (kp17.trans (kp19.trans (gd21.kp.trans g22.kp)))))
 replace h10a := h10a.kp kq24
 replace h10b := h10b.kp kq24
 replace h10c := h10c.kp kq24
 replace h10d := h10d.kp kq24
 replace h10e := h10e.kp kq24
 replace h10f := h10f.kp kq24
 have kq25 := g13.kp.trans (kp17.trans (kp19.trans (gd21.kp.trans g22.kp)))
 replace h12a := h12a.kp kq25
 replace h12b := h12b.kp kq25
 replace h12c := h12c.kp kq25
 replace h12d := h12d.kp kq25
 replace h12e := h12e.kp kq25
 replace h12f := h12f.kp kq25
 refine ec 28 (tadd_v h10a h10b h10c h10d h10e h10f h12a h12b h12c h12d h12e h12f (by omega)) ?_
 rintro e23 w23 ⟨⟨t23_0, t23_1, t23_2, t23_3, t23_4, t23_5, t23_6, t23_7, t23_8, t23_9, t23_10, t23_11, t23_12, t23_13, t23_14, t23_15, t23_16, t23_17, t23_18, t23_19, t23_20, t23_21, t23_22, t23_23, rfl, h23a, h23b, h23c, h23d, h23e, h23f⟩, g23⟩
 refine ⟨_, rfl, ?_⟩
 replace hB := hB.trans g23
 replace L14 := L14.gr (g22.trans g23)
 replace L15 := L15.gr (g22.trans g23)
 refine k22 _ _ g23 ⟨L14, L15⟩ ?_
 try clear k22 K22
 simp only [p3, p4]
 refine flo_eff rfl rfl (fun w26 g26 _ K26 k26 => ?_)
 replace hB := hB.trans g26
 refine ec 32 (from_r (ff) (by omega) (by omega) _) ?_
 rintro e27 w27 ⟨⟨p27, q27, r27, s27, rfl, h27⟩, g27⟩
 refine ⟨_, rfl, ?_⟩
 replace hB := hB.trans g27
 rw [← eFF] at h27
 replace L14 := L14.gr (g26.trans g27)
 replace L15 := L15.gr (g26.trans g27)
 refine k26 _ _ g27 ⟨L14, L15⟩ ?_
 try clear k26 K26
 simp only [p3, p4]
 refine flo_eff rfl rfl (fun w28 g28 _ K28 k28 => ?_)
 replace hB := hB.trans g28
 have kq30 := g23.kp.trans (g26.kp.trans (g27.kp.trans g28.kp))
 replace h10a := h10a.kp kq30
 replace h10b := h10b.kp kq30
 replace h10c := h10c.kp kq30
 replace h10d := h10d.kp kq30
 replace h10e := h10e.kp kq30
 replace h10f := h10f.kp kq30
 replace h27 := h27.kp g28.kp
 refine ec 33 (tscale_v h10a h10b h10c h10d h10e h10f h27 (by omega)) ?_
 rintro e29 w29 ⟨⟨t29_0, t29_1, t29_2, t29_3, t29_4, t29_5, t29_6, t29_7, t29_8, t29_9, t29_10, t29_11, t29_12, t29_13, t29_14, t29_15, t29_16, t29_17, t29_18, t29_19, t29_20, t29_21, t29_22, t29_23, rfl, h29a, h29b, h29c, h29d, h29e, h29f⟩, g29⟩
 refine ⟨_, rfl, ?_⟩
 replace hB := hB.trans g29
 replace L14 := L14.gr (g28.trans g29)
 replace L15 := L15.gr (g28.trans g29)
 refine k28 _ _ g29 ⟨L14, L15⟩ ?_
 try clear k28 K28
 simp only [p3, p4]
 refine flo_nil (fun w31 g31 _ => ?_)
 replace hB := hB.trans g31
 refine floFin2 (fun b32 b33 (L32 : Lc w31 b32 #[(.bool false), (.slice none 0 0), (.bool false), (.slice none 0 0), (.bool false), (.slice none 0 0), (.bool false), (.slice none 0 0), (.bool false), (.slice none 0 0), (.bool false), (.slice none 0 0), (.bool false), (.slice none 0 0), (.bool false), (.slice none 0 0), (.bool false), (.slice none 0 0), (.bool false), (.slice none 0 0), (.bool false), (.slice none 0 0), (.bool false), (.slice none 0 0)] 35) q32 (L33 : Lc w31 b33 #[(.bool false), (.slice none 0 0), (.bool false), (.slice none 0 0), (.bool false), (.slice none 0 0), (.bool false), (.slice none 0 0), (.bool false), (.slice none 0 0), (.bool false), (.slice none 0 0), (.bool false), (.slice none 0 0), (.bool false), (.slice none 0 0), (.bool false), (.slice none 0 0), (.bool false), (.slice none 0 0), (.bool false), (.slice none 0 0), (.bool false), (.slice none 0 0)] 35) q33 ne32_33 => ?_)
 have ne2_32 : b2 ≠ b32 := Nat.ne_of_lt (Nat.lt_of_lt_of_le lt2_21 q32)
 have ne14_32 : b14 ≠ b32 := Nat.ne_of_lt (Nat.lt_of_lt_of_le lt14_21 q32)
 have ne15_32 : b15 ≠ b32 := Nat.ne_of_lt (Nat.lt_of_lt_of_le lt15_21 q32)
 replace q32 := Nat.le_trans hz21 q32
 have ne2_33 : b2 ≠ b33 := Nat.ne_of_lt (Nat.lt_of_lt_of_le lt2_21 q33)
 have ne14_33 : b14 ≠ b33 := Nat.ne_of_lt (Nat.lt_of_lt_of_le lt14_21 q33)
 have ne15_33 : b15 ≠ b33 := Nat.ne_of_lt (Nat.lt_of_lt_of_le lt15_21 q33)
 replace q33 := Nat.le_trans hz21 q33
 simp only [putl, p3, p4]
 refine oe ?_
 refine es 35 0 (.agg #[t23_0, t23_1, t23_2, t23_3, t23_4, t23_5, t23_6, t23_7, t23_8, t23_9, t23_10, t23_11, t23_12, t23_13, t23_14, t23_15, t23_16, t23_17, t23_18, t23_19, t23_20, t23_21, t23_22, t23_23]) [t23_0, t23_1, t23_2, t23_3, t23_4, t23_5, t23_6, t23_7, t23_8, t23_9, t23_10, t23_11, t23_12, t23_13, t23_14, t23_15, t23_16, t23_17, t23_18, t23_19, t23_20, t23_21, t23_22, t23_23] #[t23_0, t23_1, t23_2, t23_3, t23_4, t23_5, t23_6, t23_7, t23_8, t23_9, t23_10, t23_11, t23_12, t23_13, t23_14, t23_15, t23_16, t23_17, t23_18, t23_19, t23_20, t23_21, t23_22, t23_23] L32 hB q32 ⟨h23a.one0, h23a.one1, h23a.one2, h23a.one3, h23b.one0, h23b.one1, h23b.one2, h23b.one3, h23c.one0, h23c.one1, h23c.one2, h23c.one3, h23d.one0, h23d.one1, h23d.one2, h23d.one3, h23e.one0, h23e.one1, h23e.one2, h23e.one3, h23f.one0, h23f.one1, h23f.one2, h23f.one3, trivial⟩ fun w35 st35 kp35 L32 hB => ?_
 replace L14 := st35.lc (L14.gr g31) ne14_32
 replace L15 := st35.lc (L15.gr g31) ne15_32
 refine ⟨⟨L14, L15⟩, ?_⟩
 refine oe ?_
 replace L33 := st35.lc L33 (Ne.symm ne32_33)
 refine es 35 0 (.agg #[t29_0, t29_1, t29_2, t29_3, t29_4, t29_5, t29_6, t29_7, t29_8, t29_9, t29_10, t29_11, t29_12, t29_13, t29_14, t29_15, t29_16, t29_17, t29_18, t29_19, t29_20, t29_21, t29_22, t29_23]) [t29_0, t29_1, t29_2, t29_3, t29_4, t29_5, t29_6, t29_7, t29_8, t29_9, t29_10, t29_11, t29_12, t29_13, t29_14, t29_15, t29_16, t29_17, t29_18, t29_19, t29_20, t29_21, t29_22, t29_23] #[t29_0, t29_1, t29_2, t29_3, t29_4, t29_5, t29_6, t29_7, t29_8, t29_9, t29_10, t29_11, t29_12, t29_13, t29_14, t29_15, t29_16, t29_17, t29_18, t29_19, t29_20, t29_21, t29_22, t29_23] L33 hB q33 ⟨h29a.one0, h29a.one1, h29a.one2, h29a.one3, h29b.one0, h29b.one1, h29b.one2, h29b.one3, h29c.one0, h29c.one1, h29c.one2, h29c.one3, h29d.one0, h29d.one1, h29d.one2, h29d.one3, h29e.one0, h29e.one1, h29e.one2, h29e.one3, h29f.one0, h29f.one1, h29f.one2, h29f.one3, trivial⟩ fun w37 st37 kp37 L33 hB => ?_
 replace L14 := st37.lc L14 ne14_33
 replace L15 := st37.lc L15 ne15_33
 refine ⟨⟨L14, L15⟩, ?_⟩
 refine ord_nil ?_
 refine k20 _ _ ?_
 try clear k20 K20
 refine wp_seq_k (fun K38 k38 => ?_)
 refine wp_seq_k (fun K39 k39 => ?_)
 have gd75 := Gr.drew w37
 replace hB := hB.trans gd75
 replace L14 := L14.gr gd75
 replace L15 := L15.gr gd75
 replace L32 := (st37.lc L32 ne32_33).gr gd75
 replace L33 := L33.gr gd75
 refine wp_region_ord (fun w' => Lc w' b14 #[t10_0, t10_1, t10_2, t10_3, t10_4, t10_5, t10_6, t10_7, t10_8, t10_9, t10_10, t10_11, t10_12, t10_13, t10_14, t10_15, t10_16, t10_17, t10_18, t10_19, t10_20, t10_21, t10_22, t10_23] 35 ∧ Lc w' b15 #[t12_0, t12_1, t12_2, t12_3, t12_4, t12_5, t12_6, t12_7, t12_8, t12_9, t12_10, t12_11, t12_12, t12_13, t12_14, t12_15, t12_16, t12_17, t12_18, t12_19, t12_20, t12_21, t12_22, t12_23] 35 ∧ Lc w' b32 #[t23_0, t23_1, t23_2, t23_3, t23_4, t23_5, t23_6, t23_7, t23_8, t23_9, t23_10, t23_11, t23_12, t23_13, t23_14, t23_15, t23_16, t23_17, t23_18, t23_19, t23_20, t23_21, t23_22, t23_23] 35 ∧ Lc w' b33 #[t29_0, t29_1, t29_2, t29_3, t29_4, t29_5, t29_6, t29_7, t29_8, t29_9, t29_10, t29_11, t29_12, t29_13, t29_14, t29_15, t29_16, t29_17, t29_18, t29_19, t29_20, t29_21, t29_22, t29_23] 35) [(true, 0), (true, 1), (true, 2), (true, 3), (true, 4), (true, 5), (false, 6), (false, 7), (true, 8), (true, 9), (true, 10), (true, 11), (true, 12), (true, 13), (true, 14), (true, 15), (false, 16), (false, 17), (true, 18), (true, 19), (true, 20), (true, 21), (true, 22), (true, 23), (true, 24), (true, 25), (true, 26), (false, 27), (false, 28), (false, 29), (true, 30), (true, 31), (true, 32), (true, 33), (true, 34), (true, 35), (true, 36), (true, 37), (true, 38), (false, 39), (false, 40), (false, 41), (true, 42), (true, 43)] (by kernel_rfl) (by kernel_rfl) (by kernel_rfl) (by decide) (fun _ _ _ _ _ h => h) ⟨L14, L15, L32, L33⟩ ?_
 refine ov 34 (.pointer (some ⟨b32, 0, none⟩)) ?_
 simp only [p3, p4]
 refine ow 35 (.agg #[t23_0, t23_1, t23_2, t23_3, t23_4, t23_5, t23_6, t23_7, t23_8, t23_9, t23_10, t23_11]) rfl (fun w' hS => (rl 33 0 [t23_0, t23_1, t23_2, t23_3, t23_4, t23_5, t23_6, t23_7, t23_8, t23_9, t23_10, t23_11] hS.2.2.1)) ?_
 simp only [p3, p4]
 refine ov 36 (.pointer (some ⟨b14, 0, none⟩)) ?_
 simp only [p3, p4]
 refine ow 37 (.agg #[t10_0, t10_1, t10_2, t10_3, t10_4, t10_5, t10_6, t10_7, t10_8, t10_9, t10_10, t10_11]) rfl (fun w' hS => (rl 33 0 [t10_0, t10_1, t10_2, t10_3, t10_4, t10_5, t10_6, t10_7, t10_8, t10_9, t10_10, t10_11] hS.1)) ?_
 simp only [p3, p4]
 refine ov 38 (.pointer (some ⟨b15, 0, none⟩)) ?_
 simp only [p3, p4]
 refine ow 39 (.agg #[t12_0, t12_1, t12_2, t12_3, t12_4, t12_5, t12_6, t12_7, t12_8, t12_9, t12_10, t12_11]) rfl (fun w' hS => (rl 33 0 [t12_0, t12_1, t12_2, t12_3, t12_4, t12_5, t12_6, t12_7, t12_8, t12_9, t12_10, t12_11] hS.2.1)) ?_
 simp only [p3, p4]
 refine oe ?_
 have kq78 := g29.kp.trans (g31.kp.trans (kp35.trans (kp37.trans gd75.kp)))
 replace h10a := h10a.kp kq78
 replace h10b := h10b.kp kq78
 replace h10c := h10c.kp kq78
 have kq79 := g23.kp.trans (g26.kp.trans (g27.kp.trans (g28.kp.trans (g29.kp.trans (g31.kp.trans (kp35.trans (kp37.trans gd75.kp)))))))
 replace h12a := h12a.kp kq79
 replace h12b := h12b.kp kq79
 replace h12c := h12c.kp kq79
 refine ec 40 (vadd_v h10a h10b h10c h12a h12b h12c (by omega)) ?_
 rintro e77 w77 ⟨⟨t77_0, t77_1, t77_2, t77_3, t77_4, t77_5, t77_6, t77_7, t77_8, t77_9, t77_10, t77_11, rfl, h77a, h77b, h77c⟩, g77⟩
 refine ⟨_, rfl, ?_⟩
 replace hB := hB.trans g77
 replace L14 := L14.gr g77
 replace L15 := L15.gr g77
 replace L32 := L32.gr g77
 replace L33 := L33.gr g77
 refine ⟨⟨L14, L15, L32, L33⟩, ?_⟩
 simp only [p3, p4]
 refine oe ?_
 have kq82 := g26.kp.trans (g27.kp.trans (g28.kp.trans (g29.kp.trans (g31.kp.trans (kp35.trans (kp37.trans (gd75.kp.trans g77.kp)))))))
 replace h23a := h23a.kp kq82
 replace h23b := h23b.kp kq82
 replace h23c := h23c.kp kq82
 refine ec 41 (vequal_v h23a h23b h23c h77a h77b h77c (by omega)) ?_
 rintro e81 w81 ⟨rfl, g81⟩
 refine ⟨_, rfl, ?_⟩
 replace hB := hB.trans g81
 replace L14 := L14.gr g81
 replace L15 := L15.gr g81
 replace L32 := L32.gr g81
 replace L33 := L33.gr g81
 refine ⟨⟨L14, L15, L32, L33⟩, ?_⟩
 simp only [p3, p4]
 have hb83 : (vcmp (A0 + B0) (A1 + B1) (A2 + B2) (A0 + B0) (A1 + B1) (A2 + B2) == (0 : Int)) = true := (lawSk0 A0 A1 A2 B0 B1 B2 )
 refine ow 42 (.bool false) rfl (fun w' hS => (RunV.bool (x := !(vcmp (A0 + B0) (A1 + B1) (A2 + B2) (A0 + B0) (A1 + B1) (A2 + B2) == (0 : Int))) (rvk (by kernel_rfl)) (show (!(vcmp (A0 + B0) (A1 + B1) (A2 + B2) (A0 + B0) (A1 + B1) (A2 + B2) == (0 : Int))) = false by rw [hb83]; rfl))) ?_
 simp only [p3, p4]
 refine ov 43 (.bool false) ?_
 simp only [p3, p4]
 refine ov 44 (.pointer (some ⟨b32, 12, none⟩)) ?_
 simp only [p3, p4]
 refine ow 45 (.agg #[t23_12, t23_13, t23_14, t23_15, t23_16, t23_17, t23_18, t23_19, t23_20, t23_21, t23_22, t23_23]) rfl (fun w' hS => (rl 33 12 [t23_12, t23_13, t23_14, t23_15, t23_16, t23_17, t23_18, t23_19, t23_20, t23_21, t23_22, t23_23] hS.2.2.1)) ?_
 simp only [p3, p4]
 refine ov 46 (.pointer (some ⟨b14, 12, none⟩)) ?_
 simp only [p3, p4]
 refine ow 47 (.agg #[t10_12, t10_13, t10_14, t10_15, t10_16, t10_17, t10_18, t10_19, t10_20, t10_21, t10_22, t10_23]) rfl (fun w' hS => (rl 33 12 [t10_12, t10_13, t10_14, t10_15, t10_16, t10_17, t10_18, t10_19, t10_20, t10_21, t10_22, t10_23] hS.1)) ?_
 simp only [p3, p4]
 refine ov 48 (.pointer (some ⟨b15, 12, none⟩)) ?_
 simp only [p3, p4]
 refine ow 49 (.agg #[t12_12, t12_13, t12_14, t12_15, t12_16, t12_17, t12_18, t12_19, t12_20, t12_21, t12_22, t12_23]) rfl (fun w' hS => (rl 33 12 [t12_12, t12_13, t12_14, t12_15, t12_16, t12_17, t12_18, t12_19, t12_20, t12_21, t12_22, t12_23] hS.2.1)) ?_
 simp only [p3, p4]
 refine oe ?_
 have kq86 := g29.kp.trans (g31.kp.trans (kp35.trans (kp37.trans (gd75.kp.trans (g77.kp.trans g81.kp)))))
 replace h10d := h10d.kp kq86
 replace h10e := h10e.kp kq86
 replace h10f := h10f.kp kq86
 have kq87 := g23.kp.trans (g26.kp.trans (g27.kp.trans (g28.kp.trans (g29.kp.trans (g31.kp.trans (kp35.trans (kp37.trans (gd75.kp.trans (g77.kp.trans g81.kp)))))))))
 replace h12d := h12d.kp kq87
 replace h12e := h12e.kp kq87
 replace h12f := h12f.kp kq87
 refine ec 50 (vadd_v h10d h10e h10f h12d h12e h12f (by omega)) ?_
 rintro e85 w85 ⟨⟨t85_0, t85_1, t85_2, t85_3, t85_4, t85_5, t85_6, t85_7, t85_8, t85_9, t85_10, t85_11, rfl, h85a, h85b, h85c⟩, g85⟩
 refine ⟨_, rfl, ?_⟩
 replace hB := hB.trans g85
 replace L14 := L14.gr g85
 replace L15 := L15.gr g85
 replace L32 := L32.gr g85
 replace L33 := L33.gr g85
 refine ⟨⟨L14, L15, L32, L33⟩, ?_⟩
 simp only [p3, p4]
 refine oe ?_
 have kq90 := g26.kp.trans (g27.kp.trans (g28.kp.trans (g29.kp.trans (g31.kp.trans (kp35.trans (kp37.trans (gd75.kp.trans (g77.kp.trans (g81.kp.trans g85.kp)))))))))
 replace h23d := h23d.kp kq90
 replace h23e := h23e.kp kq90
 replace h23f := h23f.kp kq90
 refine ec 51 (vequal_v h23d h23e h23f h85a h85b h85c (by omega)) ?_
 rintro e89 w89 ⟨rfl, g89⟩
 refine ⟨_, rfl, ?_⟩
 replace hB := hB.trans g89
 replace L14 := L14.gr g89
 replace L15 := L15.gr g89
 replace L32 := L32.gr g89
 replace L33 := L33.gr g89
 refine ⟨⟨L14, L15, L32, L33⟩, ?_⟩
 simp only [p3, p4]
 have hb91 : (vcmp (A3 + B3) (A4 + B4) (A5 + B5) (A3 + B3) (A4 + B4) (A5 + B5) == (0 : Int)) = true := (lawSk1 A3 A4 A5 B3 B4 B5 )
 refine ow 52 (.bool false) rfl (fun w' hS => (RunV.bool (x := !(vcmp (A3 + B3) (A4 + B4) (A5 + B5) (A3 + B3) (A4 + B4) (A5 + B5) == (0 : Int))) (rvk (by kernel_rfl)) (show (!(vcmp (A3 + B3) (A4 + B4) (A5 + B5) (A3 + B3) (A4 + B4) (A5 + B5) == (0 : Int))) = false by rw [hb91]; rfl))) ?_
 simp only [p3, p4]
 refine ov 53 (.bool false) ?_
 simp only [p3, p4]
 refine ov 54 (.bool false) ?_
 simp only [p3, p4]
 refine ov 55 (.pointer (some ⟨b33, 0, none⟩)) ?_
 simp only [p3, p4]
 refine ow 56 (.agg #[t29_0, t29_1, t29_2, t29_3, t29_4, t29_5, t29_6, t29_7, t29_8, t29_9, t29_10, t29_11]) rfl (fun w' hS => (rl 33 0 [t29_0, t29_1, t29_2, t29_3, t29_4, t29_5, t29_6, t29_7, t29_8, t29_9, t29_10, t29_11] hS.2.2.2)) ?_
 simp only [p3, p4]
 refine ov 57 (.pointer (some ⟨b14, 0, none⟩)) ?_
 simp only [p3, p4]
 refine ow 58 (.agg #[t10_0, t10_1, t10_2, t10_3, t10_4, t10_5, t10_6, t10_7, t10_8, t10_9, t10_10, t10_11]) rfl (fun w' hS => (rl 33 0 [t10_0, t10_1, t10_2, t10_3, t10_4, t10_5, t10_6, t10_7, t10_8, t10_9, t10_10, t10_11] hS.1)) ?_
 simp only [p3, p4]
 refine ov 59 (.int .i8 (ff)) ?_
 simp only [p3, p4]
 refine ow 60 (.int .i64 (ff)) rfl (fun w' hS => (RunV.int (x := IntKind.i64.wrap (ff)) (y := ff) (rvk (by kernel_rfl)) (by first | rfl | (rw [IntKind.wrap_i64]; omega)))) ?_
 simp only [p3, p4]
 refine oe ?_
 refine ec 61 (from_r (ff) (by omega) (by omega) _) ?_
 rintro e93 w93 ⟨⟨p93, q93, r93, s93, rfl, h93⟩, g93⟩
 refine ⟨_, rfl, ?_⟩
 replace hB := hB.trans g93
 rw [← eFF] at h93
 replace L14 := L14.gr g93
 replace L15 := L15.gr g93
 replace L32 := L32.gr g93
 replace L33 := L33.gr g93
 refine ⟨⟨L14, L15, L32, L33⟩, ?_⟩
 simp only [p3, p4]
 refine oe ?_
 have kq96 := g77.kp.trans (g81.kp.trans (g85.kp.trans (g89.kp.trans g93.kp)))
 replace h10a := h10a.kp kq96
 replace h10b := h10b.kp kq96
 replace h10c := h10c.kp kq96
 refine ec 62 (vscale_v h10a h10b h10c h93 (by omega)) ?_
 rintro e95 w95 ⟨⟨t95_0, t95_1, t95_2, t95_3, t95_4, t95_5, t95_6, t95_7, t95_8, t95_9, t95_10, t95_11, rfl, h95a, h95b, h95c⟩, g95⟩
 refine ⟨_, rfl, ?_⟩
 replace hB := hB.trans g95
 replace L14 := L14.gr g95
 replace L15 := L15.gr g95
 replace L32 := L32.gr g95
 replace L33 := L33.gr g95
 refine ⟨⟨L14, L15, L32, L33⟩, ?_⟩
 simp only [p3, p4]
 refine oe ?_
 have kq99 := g31.kp.trans (kp35.trans (kp37.trans (gd75.kp.trans (g77.kp.trans (g81.kp.trans (g85.kp.trans (g89.kp.trans (g93.kp.trans g95.kp))))))))
 replace h29a := h29a.kp kq99
 replace h29b := h29b.kp kq99
 replace h29c := h29c.kp kq99
 refine ec 63 (vequal_v h29a h29b h29c h95a h95b h95c (by omega)) ?_
 rintro e98 w98 ⟨rfl, g98⟩
 refine ⟨_, rfl, ?_⟩
 replace hB := hB.trans g98
 replace L14 := L14.gr g98
 replace L15 := L15.gr g98
 replace L32 := L32.gr g98
 replace L33 := L33.gr g98
 refine ⟨⟨L14, L15, L32, L33⟩, ?_⟩
 simp only [p3, p4]
 have hb100 : (vcmp (FF * A0) (FF * A1) (FF * A2) (FF * A0) (FF * A1) (FF * A2) == (0 : Int)) = true := (lawSk2 A0 A1 A2 FF )
 refine ow 64 (.bool false) rfl (fun w' hS => (RunV.bool (x := !(vcmp (FF * A0) (FF * A1) (FF * A2) (FF * A0) (FF * A1) (FF * A2) == (0 : Int))) (rvk (by kernel_rfl)) (show (!(vcmp (FF * A0) (FF * A1) (FF * A2) (FF * A0) (FF * A1) (FF * A2) == (0 : Int))) = false by rw [hb100]; rfl))) ?_
 simp only [p3, p4]
 refine ov 65 (.bool false) ?_
 simp only [p3, p4]
 refine ov 66 (.bool false) ?_
 simp only [p3, p4]
 refine ov 67 (.pointer (some ⟨b33, 12, none⟩)) ?_
 simp only [p3, p4]
 refine ow 68 (.agg #[t29_12, t29_13, t29_14, t29_15, t29_16, t29_17, t29_18, t29_19, t29_20, t29_21, t29_22, t29_23]) rfl (fun w' hS => (rl 33 12 [t29_12, t29_13, t29_14, t29_15, t29_16, t29_17, t29_18, t29_19, t29_20, t29_21, t29_22, t29_23] hS.2.2.2)) ?_
 simp only [p3, p4]
 refine ov 69 (.pointer (some ⟨b14, 12, none⟩)) ?_
 simp only [p3, p4]
 refine ow 70 (.agg #[t10_12, t10_13, t10_14, t10_15, t10_16, t10_17, t10_18, t10_19, t10_20, t10_21, t10_22, t10_23]) rfl (fun w' hS => (rl 33 12 [t10_12, t10_13, t10_14, t10_15, t10_16, t10_17, t10_18, t10_19, t10_20, t10_21, t10_22, t10_23] hS.1)) ?_
 simp only [p3, p4]
 refine ov 71 (.int .i8 (ff)) ?_
 simp only [p3, p4]
 refine ow 72 (.int .i64 (ff)) rfl (fun w' hS => (RunV.int (x := IntKind.i64.wrap (ff)) (y := ff) (rvk (by kernel_rfl)) (by first | rfl | (rw [IntKind.wrap_i64]; omega)))) ?_
 simp only [p3, p4]
 refine oe ?_
 refine ec 73 (from_r (ff) (by omega) (by omega) _) ?_
 rintro e102 w102 ⟨⟨p102, q102, r102, s102, rfl, h102⟩, g102⟩
 refine ⟨_, rfl, ?_⟩
 replace hB := hB.trans g102
 rw [← eFF] at h102
 replace L14 := L14.gr g102
 replace L15 := L15.gr g102
 replace L32 := L32.gr g102
 replace L33 := L33.gr g102
 refine ⟨⟨L14, L15, L32, L33⟩, ?_⟩
 simp only [p3, p4]
 refine oe ?_
 have kq105 := g85.kp.trans (g89.kp.trans (g93.kp.trans (g95.kp.trans (g98.kp.trans g102.kp))))
 replace h10d := h10d.kp kq105
 replace h10e := h10e.kp kq105
 replace h10f := h10f.kp kq105
 refine ec 74 (vscale_v h10d h10e h10f h102 (by omega)) ?_
 rintro e104 w104 ⟨⟨t104_0, t104_1, t104_2, t104_3, t104_4, t104_5, t104_6, t104_7, t104_8, t104_9, t104_10, t104_11, rfl, h104a, h104b, h104c⟩, g104⟩
 refine ⟨_, rfl, ?_⟩
 replace hB := hB.trans g104
 replace L14 := L14.gr g104
 replace L15 := L15.gr g104
 replace L32 := L32.gr g104
 replace L33 := L33.gr g104
 refine ⟨⟨L14, L15, L32, L33⟩, ?_⟩
 simp only [p3, p4]
 refine oe ?_
 have kq108 := g31.kp.trans (kp35.trans (kp37.trans (gd75.kp.trans (g77.kp.trans (g81.kp.trans (g85.kp.trans (g89.kp.trans (g93.kp.trans (g95.kp.trans (g98.kp.trans (g102.kp.trans g104.kp)))))))))))
 replace h29d := h29d.kp kq108
 replace h29e := h29e.kp kq108
 replace h29f := h29f.kp kq108
 refine ec 75 (vequal_v h29d h29e h29f h104a h104b h104c (by omega)) ?_
 rintro e107 w107 ⟨rfl, g107⟩
 refine ⟨_, rfl, ?_⟩
 replace hB := hB.trans g107
 replace L14 := L14.gr g107
 replace L15 := L15.gr g107
 replace L32 := L32.gr g107
 replace L33 := L33.gr g107
 refine ⟨⟨L14, L15, L32, L33⟩, ?_⟩
 simp only [p3, p4]
 have hb109 : (vcmp (FF * A3) (FF * A4) (FF * A5) (FF * A3) (FF * A4) (FF * A5) == (0 : Int)) = true := (lawSk3 A3 A4 A5 FF )
 refine ow 76 (.bool false) rfl (fun w' hS => (RunV.bool (x := !(vcmp (FF * A3) (FF * A4) (FF * A5) (FF * A3) (FF * A4) (FF * A5) == (0 : Int))) (rvk (by kernel_rfl)) (show (!(vcmp (FF * A3) (FF * A4) (FF * A5) (FF * A3) (FF * A4) (FF * A5) == (0 : Int))) = false by rw [hb109]; rfl))) ?_
 simp only [p3, p4]
 refine ov 77 (.bool false) ?_
 simp only [p3, p4]
 refine ord_nil ?_
 refine k39 _ _ ?_
 try clear k39 K39
 refine wp_cond_false rfl ?_
 refine wp_skip ?_
 refine k38 _ _ ?_
 try clear k38 K38
 refine wp_cut3 (fun a w' => ∃  (u110 : Nat → Value), a = ⟨[(u110 0), (u110 1), (.int .i8 (ff)), (.pointer (some ⟨b2, 0, none⟩)), (.pointer (some ⟨b3, 0, none⟩)), undef, (u110 6), (.pointer (some ⟨b14, 0, none⟩)), (.pointer (some ⟨b15, 0, none⟩)), (.pointer (some ⟨b32, 0, none⟩)), (.pointer (some ⟨b33, 0, none⟩)), (u110 11), (.bool true), undef, undef, undef, undef, undef, undef, undef, (u110 20), (.bool false), (u110 22), (u110 23), (u110 24), (u110 25), (u110 26), (u110 27), (u110 28), (u110 29), (u110 30), (u110 31), (u110 32), (u110 33), (u110 34), (u110 35), (u110 36), (u110 37), (u110 38), (u110 39), (u110 40), (u110 41), (u110 42), (u110 43), (u110 44), (u110 45), (u110 46), (u110 47), (u110 48), (u110 49), (u110 50), (u110 51), (u110 52), (u110 53), (u110 54), (u110 55), (u110 56), (u110 57), (u110 58), (u110 59), (u110 60), (u110 61), (u110 62), (u110 63), (u110 64), (u110 65), (u110 66), (u110 67), (u110 68), (u110 69), (u110 70), (u110 71), (u110 72), (u110 73), (u110 74), (u110 75), (u110 76), (.bool false), (u110 78), (u110 79), (u110 80), (u110 81), (u110 82), (u110 83), (u110 84), (u110 85), (u110 86), (u110 87), (u110 88), (u110 89), (u110 90), (u110 91), (u110 92), (u110 93), (u110 94), (u110 95), (u110 96), (u110 97), (u110 98), (u110 99), (u110 100), (u110 101), (u110 102), (u110 103), (u110 104), undef, undef, undef, undef, undef, undef, undef, undef, undef, undef, undef, undef, undef, undef, undef, undef, undef, undef, undef, undef, undef, undef, undef, undef, undef, undef, undef, undef, undef, undef, undef, undef, undef, undef, undef, undef, undef, undef, undef, undef, undef, undef, undef, undef, undef, undef, undef, undef, undef, undef, undef, undef, undef, undef, undef].toArray, []⟩ ∧ IsRat w' 128 t10_0 t10_1 t10_2 t10_3 (A0) ∧ IsRat w' 128 t10_4 t10_5 t10_6 t10_7 (A1) ∧ IsRat w' 128 t10_8 t10_9 t10_10 t10_11 (A2) ∧ IsRat w' 128 t10_12 t10_13 t10_14 t10_15 (A3) ∧ IsRat w' 128 t10_16 t10_17 t10_18 t10_19 (A4) ∧ IsRat w' 128 t10_20 t10_21 t10_22 t10_23 (A5) ∧ Lc w' b2 #[(.int .i8 (n0)), (.int .i8 (n1)), (.int .i8 (n2)), (.int .i8 (n3)), (.int .i8 (n4)), (.int .i8 (n5)), (.int .u8 (dd))] 25 ∧ Lc w' b14 #[t10_0, t10_1, t10_2, t10_3, t10_4, t10_5, t10_6, t10_7, t10_8, t10_9, t10_10, t10_11, t10_12, t10_13, t10_14, t10_15, t10_16, t10_17, t10_18, t10_19, t10_20, t10_21, t10_22, t10_23] 35 ∧ Gr w w') (fun K110 k110 => ?_) ?_
 ·refine chain_k (fun K111 k111 => ?_)
  refine rg [0, 1, 2, 3, 4, 5, 6, 7, 8, 9, 10, 11, 12] ?_
  refine sv 78 (.pointer (some ⟨b14, 0, none⟩)) ?_
  simp only [p3, p4]
  refine sw 79 (.agg #[t10_0, t10_1, t10_2, t10_3, t10_4, t10_5, t10_6, t10_7, t10_8, t10_9, t10_10, t10_11]) rfl (rl 33 0 [t10_0, t10_1, t10_2, t10_3, t10_4, t10_5, t10_6, t10_7, t10_8, t10_9, t10_10, t10_11] L14) ?_
  simp only [p3, p4]
  refine sv 80 (.pointer (some ⟨b15, 0, none⟩)) ?_
  simp only [p3, p4]
  refine sw 81 (.agg #[t12_0, t12_1, t12_2, t12_3, t12_4, t12_5, t12_6, t12_7, t12_8, t12_9, t12_10, t12_11]) rfl (rl 33 0 [t12_0, t12_1, t12_2, t12_3, t12_4, t12_5, t12_6, t12_7, t12_8, t12_9, t12_10, t12_11] L15) ?_
  simp only [p3, p4]
  refine se ?_
  have kq113 := g95.kp.trans (g98.kp.trans (g102.kp.trans (g104.kp.trans g107.kp)))
  replace h10a := h10a.kp kq113
  replace h10b := h10b.kp kq113
  replace h10c := h10c.kp kq113
  have kq114 := g77.kp.trans (g81.kp.trans (g85.kp.trans (g89.kp.trans (g93.kp.trans (g95.kp.trans (g98.kp.trans (g102.kp.trans (g104.kp.trans g107.kp))))))))
  replace h12a := h12a.kp kq114
  replace h12b := h12b.kp kq114
  replace h12c := h12c.kp kq114
  refine ec 82 (vequal_v h10a h10b h10c h12a h12b h12c (by omega)) ?_
  rintro e112 w112 ⟨rfl, g112⟩
  refine ⟨_, rfl, ?_⟩
  replace hB := hB.trans g112
  simp only [p3, p4]
  rcases Bool.eq_false_or_eq_true (vcmp A0 A1 A2 B0 B1 B2 == (0 : Int)) with hb115 | hb115
  ·refine sw 83 (.bool true) rfl (RunV.bool (x := vcmp A0 A1 A2 B0 B1 B2 == (0 : Int)) (rvk (by kernel_rfl)) hb115) ?_
   simp only [p3, p4]
   refine sv 84 (.pointer (some ⟨b14, 12, none⟩)) ?_
   simp only [p3, p4]
   replace L14 := L14.gr g112
   refine sw 85 (.agg #[t10_12, t10_13, t10_14, t10_15, t10_16, t10_17, t10_18, t10_19, t10_20, t10_21, t10_22, t10_23]) rfl (rl 33 12 [t10_12, t10_13, t10_14, t10_15, t10_16, t10_17, t10_18, t10_19, t10_20, t10_21, t10_22, t10_23] L14) ?_
   simp only [p3, p4]
   refine sv 86 (.pointer (some ⟨b15, 12, none⟩)) ?_
   simp only [p3, p4]
   replace L15 := L15.gr g112
   refine sw 87 (.agg #[t12_12, t12_13, t12_14, t12_15, t12_16, t12_17, t12_18, t12_19, t12_20, t12_21, t12_22, t12_23]) rfl (rl 33 12 [t12_12, t12_13, t12_14, t12_15, t12_16, t12_17, t12_18, t12_19, t12_20, t12_21, t12_22, t12_23] L15) ?_
   simp only [p3, p4]
   refine se ?_
   have kq117 := g104.kp.trans (g107.kp.trans g112.kp)
   replace h10d := h10d.kp kq117
   replace h10e := h10e.kp kq117
   replace h10f := h10f.kp kq117
   have kq118 := g85.kp.trans (g89.kp.trans (g93.kp.trans (g95.kp.trans (g98.kp.trans (g102.kp.trans (g104.kp.trans (g107.kp.trans g112.kp)))))))
   replace h12d := h12d.kp kq118
   replace h12e := h12e.kp kq118
   replace h12f := h12f.kp kq118
   refine ec 88 (vequal_v h10d h10e h10f h12d h12e h12f (by omega)) ?_
   rintro e116 w116 ⟨rfl, g116⟩
   refine ⟨_, rfl, ?_⟩
   replace hB := hB.trans g116
   simp only [p3, p4]
   refine sv 89 (.bool (vcmp A3 A4 A5 B3 B4 B5 == (0 : Int))) ?_
   simp only [p3, p4]
   refine sv 11 (.bool (vcmp A3 A4 A5 B3 B4 B5 == (0 : Int))) ?_
   simp only [p3, p4]
   refine sq_nil ?_
   refine k111 _ _ ?_
   try clear k111 K111
   refine chain_k (fun K119 k119 => ?_)
   refine rg [0, 1, 2, 3, 4] ?_
   refine sv 90 (.pointer (some ⟨b2, 0, none⟩)) ?_
   simp only [p3, p4]
   replace L2 := (st37.lc (st35.lc (L2.gr (gd21.trans (g22.trans (g23.trans (g26.trans (g27.trans (g28.trans (g29.trans g31)))))))) ne2_32) ne2_33).gr (gd75.trans (g77.trans (g81.trans (g85.trans (g89.trans (g93.trans (g95.trans (g98.trans (g102.trans (g104.trans (g107.trans (g112.trans g116))))))))))))
   refine sw 91 (.agg #[(.int .i8 (n0)), (.int .i8 (n1)), (.int .i8 (n2)), (.int .i8 (n3)), (.int .i8 (n4)), (.int .i8 (n5))]) rfl (rl 23 0 [(.int .i8 (n0)), (.int .i8 (n1)), (.int .i8 (n2)), (.int .i8 (n3)), (.int .i8 (n4)), (.int .i8 (n5))] L2) ?_
   simp only [p3, p4]
   refine sv 92 (.agg #[(.int .i8 0), (.int .i8 0), (.int .i8 0), (.int .i8 0), (.int .i8 0), (.int .i8 0)]) ?_
   simp only [p3, p4]
   refine sw 93 (.bool true) rfl (RunV.bool (x := (n0 == 0 && n1 == 0 && n2 == 0 && n3 == 0 && n4 == 0 && n5 == 0)) (rv_arreq 23 23 22 (k := .i8) _ _ [n0, n1, n2, n3, n4, n5] [0, 0, 0, 0, 0, 0] rfl rfl rfl (by kernel_rfl) (by kernel_rfl) (by kernel_rfl)) hzt) ?_
   simp only [p3, p4]
   refine sv 12 (.bool true) ?_
   simp only [p3, p4]
   refine sq_nil ?_
   refine k119 _ _ ?_
   try clear k119 K119
   refine chain_k (fun K120 k120 => ?_)
   refine wp_seq_k (fun K121 k121 => ?_)
   refine rg [0, 1, 2, 3, 4, 5, 6, 7, 8, 9, 10] ?_
   replace L14 := L14.gr g116
   refine sw 94 (.agg #[t10_0, t10_1, t10_2, t10_3, t10_4, t10_5, t10_6, t10_7, t10_8, t10_9, t10_10, t10_11, t10_12, t10_13, t10_14, t10_15, t10_16, t10_17, t10_18, t10_19, t10_20, t10_21, t10_22, t10_23]) rfl (rl 35 0 [t10_0, t10_1, t10_2, t10_3, t10_4, t10_5, t10_6, t10_7, t10_8, t10_9, t10_10, t10_11, t10_12, t10_13, t10_14, t10_15, t10_16, t10_17, t10_18, t10_19, t10_20, t10_21, t10_22, t10_23] L14) ?_
   simp only [p3, p4]
   replace L15 := L15.gr g116
   refine sw 95 (.agg #[t12_0, t12_1, t12_2, t12_3, t12_4, t12_5, t12_6, t12_7, t12_8, t12_9, t12_10, t12_11, t12_12, t12_13, t12_14, t12_15, t12_16, t12_17, t12_18, t12_19, t12_20, t12_21, t12_22, t12_23]) rfl (rl 35 0 [t12_0, t12_1, t12_2, t12_3, t12_4, t12_5, t12_6, t12_7, t12_8, t12_9, t12_10, t12_11, t12_12, t12_13, t12_14, t12_15, t12_16, t12_17, t12_18, t12_19, t12_20, t12_21, t12_22, t12_23] L15) ?_
   simp only [p3, p4]
   refine se ?_
   have kq123 := g112.kp.trans g116.kp
   replace h10a := h10a.kp kq123
   replace h10b := h10b.kp kq123
   replace h10c := h10c.kp kq123
   replace h10d := h10d.kp g116.kp
   replace h10e := h10e.kp g116.kp
   replace h10f := h10f.kp g116.kp
   replace h12a := h12a.kp kq123
   replace h12b := h12b.kp kq123
   replace h12c := h12c.kp kq123
   replace h12d := h12d.kp g116.kp
   replace h12e := h12e.kp g116.kp
   replace h12f := h12f.kp g116.kp
   refine ec 96 (tequal_t h10a h10b h10c h10d h10e h10f h12a h12b h12c h12d h12e h12f (by omega) hb115) ?_
   rintro e122 w122 ⟨rfl, g122⟩
   refine ⟨_, rfl, ?_⟩
   replace hB := hB.trans g122
   simp only [p3, p4]
   refine sv 97 (.bool (vcmp A3 A4 A5 B3 B4 B5 == (0 : Int))) ?_
   simp only [p3, p4]
   have hb124 : (((vcmp A3 A4 A5 B3 B4 B5 == (0 : Int)) != (vcmp A3 A4 A5 B3 B4 B5 == (0 : Int)))) = false := (by simp)
   refine sw 98 (.bool false) rfl (RunV.bool (x := ((vcmp A3 A4 A5 B3 B4 B5 == (0 : Int)) != (vcmp A3 A4 A5 B3 B4 B5 == (0 : Int)))) (rvk (by kernel_rfl)) hb124) ?_
   simp only [p3, p4]
   refine sv 99 (.bool false) ?_
   simp only [p3, p4]
   replace L14 := L14.gr g122
   refine sw 100 (.agg #[t10_0, t10_1, t10_2, t10_3, t10_4, t10_5, t10_6, t10_7, t10_8, t10_9, t10_10, t10_11, t10_12, t10_13, t10_14, t10_15, t10_16, t10_17, t10_18, t10_19, t10_20, t10_21, t10_22, t10_23]) rfl (rl 35 0 [t10_0, t10_1, t10_2, t10_3, t10_4, t10_5, t10_6, t10_7, t10_8, t10_9, t10_10, t10_11, t10_12, t10_13, t10_14, t10_15, t10_16, t10_17, t10_18, t10_19, t10_20, t10_21, t10_22, t10_23] L14) ?_
   simp only [p3, p4]
   refine se ?_
   replace h10a := h10a.kp g122.kp
   replace h10b := h10b.kp g122.kp
   replace h10c := h10c.kp g122.kp
   replace h10d := h10d.kp g122.kp
   replace h10e := h10e.kp g122.kp
   replace h10f := h10f.kp g122.kp
   refine ec 101 (tzero_a h10a h10b h10c h10d h10e h10f (by omega) hz) ?_
   rintro e125 w125 ⟨rfl, g125⟩
   refine ⟨_, rfl, ?_⟩
   replace hB := hB.trans g125
   simp only [p3, p4]
   refine sv 102 (.bool true) ?_
   simp only [p3, p4]
   refine sv 103 (.bool false) ?_
   simp only [p3, p4]
   refine sv 104 (.bool false) ?_
   simp only [p3, p4]
   refine sq_nil ?_
   refine k121 _ _ ?_
   try clear k121 K121
   refine wp_cond_false rfl ?_
   refine wp_skip ?_
   refine k120 _ _ ?_
   try clear k120 K120
   refine chain_nil ?_
   replace h10a := h10a.kp g125.kp
   replace h10b := h10b.kp g125.kp
   replace h10c := h10c.kp g125.kp
   replace h10d := h10d.kp g125.kp
   replace h10e := h10e.kp g125.kp
   replace h10f := h10f.kp g125.kp
   replace L2 := L2.gr (g122.trans g125)
   replace L14 := L14.gr g125
   refine k110 ⟨List.toArray ?l126, []⟩ _ ?_
   exact ⟨(fun i => List.getD ?l126 i undef), rfl, h10a, h10b, h10c, h10d, h10e, h10f, L2, L14, hB⟩
  ·refine sw 83 (.bool false) rfl (RunV.bool (x := vcmp A0 A1 A2 B0 B1 B2 == (0 : Int)) (rvk (by kernel_rfl)) hb115) ?_
   simp only [p3, p4]
   refine ss 84 ?_
   simp only [p3, p4]
   refine ss 85 ?_
   simp only [p3, p4]
   refine ss 86 ?_
   simp only [p3, p4]
   refine ss 87 ?_
   simp only [p3, p4]
   refine ss 88 ?_
   simp only [p3, p4]
   refine sv 89 (.bool false) ?_
   simp only [p3, p4]
   refine sv 11 (.bool false) ?_
   simp only [p3, p4]
   refine sq_nil ?_
   refine k111 _ _ ?_
   try clear k111 K111
   refine chain_k (fun K127 k127 => ?_)
   refine rg [0, 1, 2, 3, 4] ?_
   refine sv 90 (.pointer (some ⟨b2, 0, none⟩)) ?_
   simp only [p3, p4]
   replace L2 := (st37.lc (st35.lc (L2.gr (gd21.trans (g22.trans (g23.trans (g26.trans (g27.trans (g28.trans (g29.trans g31)))))))) ne2_32) ne2_33).gr (gd75.trans (g77.trans (g81.trans (g85.trans (g89.trans (g93.trans (g95.trans (g98.trans (g102.trans (g104.trans (g107.trans g112)))))))))))
   refine sw 91 (.agg #[(.int .i8 (n0)), (.int .i8 (n1)), (.int .i8 (n2)), (.int .i8 (n3)), (.int .i8 (n4)), (.int .i8 (n5))]) rfl (rl 23 0 [(.int .i8 (n0)), (.int .i8 (n1)), (.int .i8 (n2)), (.int .i8 (n3)), (.int .i8 (n4)), (.int .i8 (n5))] L2) ?_
   simp only [p3, p4]
   refine sv 92 (.agg #[(.int .i8 0), (.int .i8 0), (.int .i8 0), (.int .i8 0), (.int .i8 0), (.int .i8 0)]) ?_
   simp only [p3, p4]
   refine sw 93 (.bool true) rfl (RunV.bool (x := (n0 == 0 && n1 == 0 && n2 == 0 && n3 == 0 && n4 == 0 && n5 == 0)) (rv_arreq 23 23 22 (k := .i8) _ _ [n0, n1, n2, n3, n4, n5] [0, 0, 0, 0, 0, 0] rfl rfl rfl (by kernel_rfl) (by kernel_rfl) (by kernel_rfl)) hzt) ?_
   simp only [p3, p4]
   refine sv 12 (.bool true) ?_
   simp only [p3, p4]
   refine sq_nil ?_
   refine k127 _ _ ?_
   try clear k127 K127
   refine chain_k (fun K128 k128 => ?_)
   refine wp_seq_k (fun K129 k129 => ?_)
   refine rg [0, 1, 2, 3, 4, 5, 6, 7, 8, 9, 10] ?_
   replace L14 := L14.gr g112
   refine sw 94 (.agg #[t10_0, t10_1, t10_2, t10_3, t10_4, t10_5, t10_6, t10_7, t10_8, t10_9, t10_10, t10_11, t10_12, t10_13, t10_14, t10_15, t10_16, t10_17, t10_18, t10_19, t10_20, t10_21, t10_22, t10_23]) rfl (rl 35 0 [t10_0, t10_1, t10_2, t10_3, t10_4, t10_5, t10_6, t10_7, t10_8, t10_9, t10_10, t10_11, t10_12, t10_13, t10_14, t10_15, t10_16, t10_17, t10_18, t10_19, t10_20, t10_21, t10_22, t10_23] L14) ?_
   simp only [p3, p4]
   replace L15 := L15.gr g112
   refine sw 95 (.agg #[t12_0, t12_1, t12_2, t12_3, t12_4, t12_5, t12_6, t12_7, t12_8, t12_9, t12_10, t12_11, t12_12, t12_13, t12_14, t12_15, t12_16, t12_17, t12_18, t12_19, t12_20, t12_21, t12_22, t12_23]) rfl (rl 35 0 [t12_0, t12_1, t12_2, t12_3, t12_4, t12_5, t12_6, t12_7, t12_8, t12_9, t12_10, t12_11, t12_12, t12_13, t12_14, t12_15, t12_16, t12_17, t12_18, t12_19, t12_20, t12_21, t12_22, t12_23] L15) ?_
   simp only [p3, p4]
   refine se ?_
   replace h10a := h10a.kp g112.kp
   replace h10b := h10b.kp g112.kp
   replace h10c := h10c.kp g112.kp
   have kq131 := g104.kp.trans (g107.kp.trans g112.kp)
   replace h10d := h10d.kp kq131
   replace h10e := h10e.kp kq131
   replace h10f := h10f.kp kq131
   replace h12a := h12a.kp g112.kp
   replace h12b := h12b.kp g112.kp
   replace h12c := h12c.kp g112.kp
   have kq132 := g85.kp.trans (g89.kp.trans (g93.kp.trans (g95.kp.trans (g98.kp.trans (g102.kp.trans (g104.kp.trans (g107.kp.trans g112.kp)))))))
   replace h12d := h12d.kp kq132
   replace h12e := h12e.kp kq132
   replace h12f := h12f.kp kq132
   refine ec 96 (tequal_f h10a h10b h10c h10d h10e h10f h12a h12b h12c h12d h12e h12f (by omega) hb115) ?_
   rintro e130 w130 ⟨rfl, g130⟩
   refine ⟨_, rfl, ?_⟩
   replace hB := hB.trans g130
   simp only [p3, p4]
   refine sv 97 (.bool false) ?_
   simp only [p3, p4]
   refine sv 98 (.bool false) ?_
   simp only [p3, p4]
   refine sv 99 (.bool false) ?_
   simp only [p3, p4]
   replace L14 := L14.gr g130
   refine sw 100 (.agg #[t10_0, t10_1, t10_2, t10_3, t10_4, t10_5, t10_6, t10_7, t10_8, t10_9, t10_10, t10_11, t10_12, t10_13, t10_14, t10_15, t10_16, t10_17, t10_18, t10_19, t10_20, t10_21, t10_22, t10_23]) rfl (rl 35 0 [t10_0, t10_1, t10_2, t10_3, t10_4, t10_5, t10_6, t10_7, t10_8, t10_9, t10_10, t10_11, t10_12, t10_13, t10_14, t10_15, t10_16, t10_17, t10_18, t10_19, t10_20, t10_21, t10_22, t10_23] L14) ?_
   simp only [p3, p4]
   refine se ?_
   replace h10a := h10a.kp g130.kp
   replace h10b := h10b.kp g130.kp
   replace h10c := h10c.kp g130.kp
   replace h10d := h10d.kp g130.kp
   replace h10e := h10e.kp g130.kp
   replace h10f := h10f.kp g130.kp
   refine ec 101 (tzero_a h10a h10b h10c h10d h10e h10f (by omega) hz) ?_
   rintro e133 w133 ⟨rfl, g133⟩
   refine ⟨_, rfl, ?_⟩
   replace hB := hB.trans g133
   simp only [p3, p4]
   refine sv 102 (.bool true) ?_
   simp only [p3, p4]
   refine sv 103 (.bool false) ?_
   simp only [p3, p4]
   refine sv 104 (.bool false) ?_
   simp only [p3, p4]
   refine sq_nil ?_
   refine k129 _ _ ?_
   try clear k129 K129
   refine wp_cond_false rfl ?_
   refine wp_skip ?_
   refine k128 _ _ ?_
   try clear k128 K128
   refine chain_nil ?_
   replace h10a := h10a.kp g133.kp
   replace h10b := h10b.kp g133.kp
   replace h10c := h10c.kp g133.kp
   replace h10d := h10d.kp g133.kp
   replace h10e := h10e.kp g133.kp
   replace h10f := h10f.kp g133.kp
   replace L2 := L2.gr (g130.trans g133)
   replace L14 := L14.gr g133
   refine k110 ⟨List.toArray ?l134, []⟩ _ ?_
   exact ⟨(fun i => List.getD ?l134 i undef), rfl, h10a, h10b, h10c, h10d, h10e, h10f, L2, L14, hB⟩
 rintro a110 w110 ⟨u110, rfl, h10a, h10b, h10c, h10d, h10e, h10f, L2, L14, hB⟩
 refine wp_seq_k (fun K135 k135 => ?_)
 refine rg [0, 1, 2, 3, 4, 5, 6, 7] ?_
 refine sw 106 (.agg #[t10_0, t10_1, t10_2, t10_3, t10_4, t10_5, t10_6, t10_7, t10_8, t10_9, t10_10, t10_11, t10_12, t10_13, t10_14, t10_15, t10_16, t10_17, t10_18, t10_19, t10_20, t10_21, t10_22, t10_23]) rfl (rl 35 0 [t10_0, t10_1, t10_2, t10_3, t10_4, t10_5, t10_6, t10_7, t10_8, t10_9, t10_10, t10_11, t10_12, t10_13, t10_14, t10_15, t10_16, t10_17, t10_18, t10_19, t10_20, t10_21, t10_22, t10_23] L14) ?_
 simp only [p3, p4]
 refine se ?_
 refine ec 107 (tprim_zero h10a h10b h10c h10d h10e h10f (by omega) hz) ?_
 rintro e136 w136 ⟨⟨t136_0, t136_1, t136_2, t136_3, t136_4, t136_5, t136_6, t136_7, t136_8, t136_9, t136_10, t136_11, t136_12, t136_13, t136_14, t136_15, t136_16, t136_17, t136_18, t136_19, t136_20, t136_21, t136_22, t136_23, rfl, h136a, h136b, h136c, h136d, h136e, h136f⟩, g136⟩
 refine ⟨_, rfl, ?_⟩
 replace hB := hB.trans g136
 simp only [p3, p4]
 refine sv 105 (.tuple #[(.agg #[t136_0, t136_1, t136_2, t136_3, t136_4, t136_5, t136_6, t136_7, t136_8, t136_9, t136_10, t136_11, t136_12, t136_13, t136_14, t136_15, t136_16, t136_17, t136_18, t136_19, t136_20, t136_21, t136_22, t136_23]), (.int .i64 19)]) ?_
 simp only [p3, p4]
 refine sv 108 (.agg #[t136_0, t136_1, t136_2, t136_3, t136_4, t136_5, t136_6, t136_7, t136_8, t136_9, t136_10, t136_11, t136_12, t136_13, t136_14, t136_15, t136_16, t136_17, t136_18, t136_19, t136_20, t136_21, t136_22, t136_23]) ?_
 simp only [p3, p4]
 refine sv 109 (.int .i64 19) ?_
 simp only [p3, p4]
 refine se ?_
 refine ea 35 #[(.bool false), (.slice none 0 0), (.bool false), (.slice none 0 0), (.bool false), (.slice none 0 0), (.bool false), (.slice none 0 0), (.bool false), (.slice none 0 0), (.bool false), (.slice none 0 0), (.bool false), (.slice none 0 0), (.bool false), (.slice none 0 0), (.bool false), (.slice none 0 0), (.bool false), (.slice none 0 0), (.bool false), (.slice none 0 0), (.bool false), (.slice none 0 0)] 13 hB fun b137 w137 g137 L137 o137 q137 hB => ?_
 simp only [p3, p4]
 refine se ?_
 refine es 35 0 (.agg #[t136_0, t136_1, t136_2, t136_3, t136_4, t136_5, t136_6, t136_7, t136_8, t136_9, t136_10, t136_11, t136_12, t136_13, t136_14, t136_15, t136_16, t136_17, t136_18, t136_19, t136_20, t136_21, t136_22, t136_23]) [t136_0, t136_1, t136_2, t136_3, t136_4, t136_5, t136_6, t136_7, t136_8, t136_9, t136_10, t136_11, t136_12, t136_13, t136_14, t136_15, t136_16, t136_17, t136_18, t136_19, t136_20, t136_21, t136_22, t136_23] #[t136_0, t136_1, t136_2, t136_3, t136_4, t136_5, t136_6, t136_7, t136_8, t136_9, t136_10, t136_11, t136_12, t136_13, t136_14, t136_15, t136_16, t136_17, t136_18, t136_19, t136_20, t136_21, t136_22, t136_23] L137 hB q137 ⟨h136a.one0, h136a.one1, h136a.one2, h136a.one3, h136b.one0, h136b.one1, h136b.one2, h136b.one3, h136c.one0, h136c.one1, h136c.one2, h136c.one3, h136d.one0, h136d.one1, h136d.one2, h136d.one3, h136e.one0, h136e.one1, h136e.one2, h136e.one3, h136f.one0, h136f.one1, h136f.one2, h136f.one3, trivial⟩ fun w138 st138 kp138 L137 hB => ?_
 refine sv 14 (.int .i64 19) ?_
 simp only [p3, p4]
 refine sq_nil ?_
 refine k135 _ _ ?_
 try clear k135 K135
 refine wp_seq_k (fun K139 k139 => ?_)
 refine wp_seq_k (fun K140 k140 => ?_)
 refine rg [0] ?_
 refine sv 110 (.bool true) ?_
 simp only [p3, p4]
 refine sq_nil ?_
 refine k140 _ _ ?_
 try clear k140 K140
 refine wp_cond_true rfl ?_
 refine wp_seq_k (fun K141 k141 => ?_)
 refine rg [0, 1, 2, 3, 4, 5, 6] ?_
 refine sv 111 (.int .i64 19) ?_
 simp only [p3, p4]
 refine sv 112 (.bool true) ?_
 simp only [p3, p4]
 refine sv 113 (.bool true) ?_
 simp only [p3, p4]
 refine sw 114 (.agg #[t136_0, t136_1, t136_2, t136_3, t136_4, t136_5, t136_6, t136_7, t136_8, t136_9, t136_10, t136_11, t136_12, t136_13, t136_14, t136_15, t136_16, t136_17, t136_18, t136_19, t136_20, t136_21, t136_22, t136_23]) rfl (rl 35 0 [t136_0, t136_1, t136_2, t136_3, t136_4, t136_5, t136_6, t136_7, t136_8, t136_9, t136_10, t136_11, t136_12, t136_13, t136_14, t136_15, t136_16, t136_17, t136_18, t136_19, t136_20, t136_21, t136_22, t136_23] L137) ?_
 simp only [p3, p4]
 refine se ?_
 have kq143 := g137.kp.trans kp138
 replace h136a := h136a.kp kq143
 replace h136b := h136b.kp kq143
 replace h136c := h136c.kp kq143
 replace h136d := h136d.kp kq143
 replace h136e := h136e.kp kq143
 replace h136f := h136f.kp kq143
 refine ec 115 (tzero_a h136a h136b h136c h136d h136e h136f (by omega) ⟨⟨rfl, rfl, rfl⟩, ⟨rfl, rfl, rfl⟩⟩) ?_
 rintro e142 w142 ⟨rfl, g142⟩
 refine ⟨_, rfl, ?_⟩
 replace hB := hB.trans g142
 simp only [p3, p4]
 refine sv 116 (.bool true) ?_
 simp only [p3, p4]
 refine sv 6 (.bool true) ?_
 simp only [p3, p4]
 refine sq_nil ?_
 refine k141 _ _ ?_
 try clear k141 K141
 refine wp_ret ?_
 simp only [Exit.then]
 refine bodyPost_ret (v := (.bool true)) (ret_tmp rfl rfl) rfl ⟨?_, hB⟩
 exact rfl

set_option maxRecDepth 100000 in
set_option maxHeartbeats 32000000 in
theorem scales_n (n0 n1 n2 n3 n4 n5 dd : Int) (in0 : -128 ≤ n0 ∧ n0 ≤ 127) (in1 : -128 ≤ n1 ∧ n1 ≤ 127) (in2 : -128 ≤ n2 ∧ n2 ≤ 127) (in3 : -128 ≤ n3 ∧ n3 ≤ 127) (in4 : -128 ≤ n4 ∧ n4 ≤ 127) (in5 : -128 ≤ n5 ∧ n5 ≤ 127) (_idd : 0 ≤ dd ∧ dd ≤ 255) (j0 j1 j2 j3 j4 j5 ee : Int) (_ij0 : -128 ≤ j0 ∧ j0 ≤ 127) (_ij1 : -128 ≤ j1 ∧ j1 ≤ 127) (_ij2 : -128 ≤ j2 ∧ j2 ≤ 127) (_ij3 : -128 ≤ j3 ∧ j3 ≤ 127) (_ij4 : -128 ≤ j4 ∧ j4 ≤ 127) (_ij5 : -128 ≤ j5 ∧ j5 ≤ 127) (_iee : 0 ≤ ee ∧ ee ≤ 255) (ff : Int) (_iff : -128 ≤ ff ∧ ff ≤ 127) (A0 A1 A2 A3 A4 A5 : Rat) (eA0 : A0 = (((n0 : Int) : Rat) / ((1 + dd % 3 : Int) : Rat))) (eA1 : A1 = (((n1 : Int) : Rat) / ((1 + dd % 3 : Int) : Rat))) (eA2 : A2 = (((n2 : Int) : Rat) / ((1 + dd % 3 : Int) : Rat))) (eA3 : A3 = (((n3 : Int) : Rat) / ((1 + dd % 3 : Int) : Rat))) (eA4 : A4 = (((n4 : Int) : Rat) / ((1 + dd % 3 : Int) : Rat))) (eA5 : A5 = (((n5 : Int) : Rat) / ((1 + dd % 3 : Int) : Rat))) (B0 B1 B2 B3 B4 B5 : Rat) (eB0 : B0 = (((j0 : Int) : Rat) / ((1 + ee % 3 : Int) : Rat))) (eB1 : B1 = (((j1 : Int) : Rat) / ((1 + ee % 3 : Int) : Rat))) (eB2 : B2 = (((j2 : Int) : Rat) / ((1 + ee % 3 : Int) : Rat))) (eB3 : B3 = (((j3 : Int) : Rat) / ((1 + ee % 3 : Int) : Rat))) (eB4 : B4 = (((j4 : Int) : Rat) / ((1 + ee % 3 : Int) : Rat))) (eB5 : B5 = (((j5 : Int) : Rat) / ((1 + ee % 3 : Int) : Rat))) (FF : Rat) (eFF : FF = ((ff : Int) : Rat)) (w : World) (ht : Tab w) (hz : ¬ all6 A0 A1 A2 A3 A4 A5) (hzt : (n0 == 0 && n1 == 0 && n2 == 0 && n3 == 0 && n4 == 0 && n5 == 0) = false) (GG : Int) (hGG : GG = gcdL 0 [n0, n1, n2, n3, n4, n5]) (hGp : 0 < GG) :
    Calls Tryd.prog 8 #[(.agg #[(.int .i8 (n0)), (.int .i8 (n1)), (.int .i8 (n2)), (.int .i8 (n3)), (.int .i8 (n4)), (.int .i8 (n5)), (.int .u8 (dd))]), (.agg #[(.int .i8 (j0)), (.int .i8 (j1)), (.int .i8 (j2)), (.int .i8 (j3)), (.int .i8 (j4)), (.int .i8 (j5)), (.int .u8 (ee))]), (.int .i8 (ff))] w fun e w' => e = .returned (.bool true) ∧ Gr w w' := by
 have hDD : 0 < 1 + dd % 3 := by omega
 have hsc := scal6 hDD eA0 eA1 eA2 eA3 eA4 eA5 (by rw [← hGG]; exact hGp)
 have hps := hsc.1
 have sc0 : Rat.divInt (tden A0 A1 A2 A3 A4 A5) (tgcd A0 A1 A2 A3 A4 A5) * A0 = ((n0 / GG : Int) : Rat) := by rw [hGG]; exact hsc.2 0 (by omega)
 have dv0 : GG ∣ n0 := by rw [hGG]; exact (gcdL_dvd [n0, n1, n2, n3, n4, n5] 0).2 n0 (by simp)
 have db0 := quo_small hGp in0.1 in0.2
 have sc1 : Rat.divInt (tden A0 A1 A2 A3 A4 A5) (tgcd A0 A1 A2 A3 A4 A5) * A1 = ((n1 / GG : Int) : Rat) := by rw [hGG]; exact hsc.2 1 (by omega)
 have dv1 : GG ∣ n1 := by rw [hGG]; exact (gcdL_dvd [n0, n1, n2, n3, n4, n5] 0).2 n1 (by simp)
 have db1 := quo_small hGp in1.1 in1.2
 have sc2 : Rat.divInt (tden A0 A1 A2 A3 A4 A5) (tgcd A0 A1 A2 A3 A4 A5) * A2 = ((n2 / GG : Int) : Rat) := by rw [hGG]; exact hsc.2 2 (by omega)
 have dv2 : GG ∣ n2 := by rw [hGG]; exact (gcdL_dvd [n0, n1, n2, n3, n4, n5] 0).2 n2 (by simp)
 have db2 := quo_small hGp in2.1 in2.2
 have sc3 : Rat.divInt (tden A0 A1 A2 A3 A4 A5) (tgcd A0 A1 A2 A3 A4 A5) * A3 = ((n3 / GG : Int) : Rat) := by rw [hGG]; exact hsc.2 3 (by omega)
 have dv3 : GG ∣ n3 := by rw [hGG]; exact (gcdL_dvd [n0, n1, n2, n3, n4, n5] 0).2 n3 (by simp)
 have db3 := quo_small hGp in3.1 in3.2
 have sc4 : Rat.divInt (tden A0 A1 A2 A3 A4 A5) (tgcd A0 A1 A2 A3 A4 A5) * A4 = ((n4 / GG : Int) : Rat) := by rw [hGG]; exact hsc.2 4 (by omega)
 have dv4 : GG ∣ n4 := by rw [hGG]; exact (gcdL_dvd [n0, n1, n2, n3, n4, n5] 0).2 n4 (by simp)
 have db4 := quo_small hGp in4.1 in4.2
 have sc5 : Rat.divInt (tden A0 A1 A2 A3 A4 A5) (tgcd A0 A1 A2 A3 A4 A5) * A5 = ((n5 / GG : Int) : Rat) := by rw [hGG]; exact hsc.2 5 (by omega)
 have dv5 : GG ∣ n5 := by rw [hGG]; exact (gcdL_dvd [n0, n1, n2, n3, n4, n5] 0).2 n5 (by simp)
 have db5 := quo_small hGp in5.1 in5.2
 clear hsc
 go_enter Tryd.func8, Tryd.ntmps8
 have hB := Gr.refl w
 refine wp_seq_k (fun K1 k1 => ?_)
 refine rg [0, 1, 2] ?_
 refine se ?_
 refine eb 25 #[(.int .i8 (n0)), (.int .i8 (n1)), (.int .i8 (n2)), (.int .i8 (n3)), (.int .i8 (n4)), (.int .i8 (n5)), (.int .u8 (dd))] 3 hB fun b2 w2 g2 L2 o2 q2 hB => ?_
 simp only [p3, p4]
 refine se ?_
 refine eb 25 #[(.int .i8 (j0)), (.int .i8 (j1)), (.int .i8 (j2)), (.int .i8 (j3)), (.int .i8 (j4)), (.int .i8 (j5)), (.int .u8 (ee))] 4 hB fun b3 w3 g3 L3 o3 q3 hB => ?_
 simp only [p3, p4]
 refine sv 6 (.bool false) ?_
 simp only [p3, p4]
 refine sq_nil ?_
 refine k1 _ _ ?_
 try clear k1 K1
 refine wp_seq_k (fun K4 k4 => ?_)
 refine wp_seq_k (fun K5 k5 => ?_)
 refine rg [0, 1] ?_
 refine se ?_
 refine ec 20 (known_t _ (ht.gr hB)) ?_
 rintro e6 w6 ⟨rfl, g6⟩
 refine ⟨_, rfl, ?_⟩
 replace hB := hB.trans g6
 simp only [p3, p4]
 refine sv 21 (.bool false) ?_
 simp only [p3, p4]
 refine sq_nil ?_
 refine k5 _ _ ?_
 try clear k5 K5
 refine wp_cond_false rfl ?_
 refine wp_skip ?_
 refine k4 _ _ ?_
 try clear k4 K4
 refine wp_seq_k (fun K7 k7 => ?_)
 have hz8 := Below.size hB
 replace L2 := L2.gr (g3.trans g6)
 have lt2_8 := L2.lt
 replace L3 := L3.gr g6
 have lt3_8 := L3.lt
 have gd8 := Gr.drew w6
 replace hB := hB.trans gd8
 replace L2 := L2.gr gd8
 replace L3 := L3.gr gd8
 refine wp_region_flo (fun w' => Lc w' b2 #[(.int .i8 (n0)), (.int .i8 (n1)), (.int .i8 (n2)), (.int .i8 (n3)), (.int .i8 (n4)), (.int .i8 (n5)), (.int .u8 (dd))] 25 ∧ Lc w' b3 #[(.int .i8 (j0)), (.int .i8 (j1)), (.int .i8 (j2)), (.int .i8 (j3)), (.int .i8 (j4)), (.int .i8 (j5)), (.int .u8 (ee))] 25) [(true, 0), (true, 2), (false, 1), (false, 3)] [⟨4, 7, 35, #[(.bool false), (.slice none 0 0), (.bool false), (.slice none 0 0), (.bool false), (.slice none 0 0), (.bool false), (.slice none 0 0), (.bool false), (.slice none 0 0), (.bool false), (.slice none 0 0), (.bool false), (.slice none 0 0), (.bool false), (.slice none 0 0), (.bool false), (.slice none 0 0), (.bool false), (.slice none 0 0), (.bool false), (.slice none 0 0), (.bool false), (.slice none 0 0)]⟩, ⟨5, 8, 35, #[(.bool false), (.slice none 0 0), (.bool false), (.slice none 0 0), (.bool false), (.slice none 0 0), (.bool false), (.slice none 0 0), (.bool false), (.slice none 0 0), (.bool false), (.slice none 0 0), (.bool false), (.slice none 0 0), (.bool false), (.slice none 0 0), (.bool false), (.slice none 0 0), (.bool false), (.slice none 0 0), (.bool false), (.slice none 0 0), (.bool false), (.slice none 0 0)]⟩] [(false, 6), (false, 7)] (by kernel_rfl) (by kernel_rfl) (by kernel_rfl) (by kernel_rfl) (by kernel_rfl) (by decide) (fun _ _ _ _ _ h => h) (fun _ _ _ _ _ h => h) (fun w' o h => ⟨Lc.gr h.1 (Gr.alloc w' o), Lc.gr h.2 (Gr.alloc w' o)⟩) ⟨L2, L3⟩ (by intro f hf; simp only [List.mem_cons, List.not_mem_nil, or_false] at hf; rcases hf with rfl | rfl <;> first | exact alloc_zero (z := (.agg #[(.bool false), (.slice none 0 0), (.bool false), (.slice none 0 0), (.bool false), (.slice none 0 0), (.bool false), (.slice none 0 0), (.bool false), (.slice none 0 0), (.bool false), (.slice none 0 0), (.bool false), (.slice none 0 0), (.bool false), (.slice none 0 0), (.bool false), (.slice none 0 0), (.bool false), (.slice none 0 0), (.bool false), (.slice none 0 0), (.bool false), (.slice none 0 0)])) (by kernel_rfl) rfl | exact alloc_zero (z := (.agg #[(.bool false), (.slice none 0 0), (.bool false), (.slice none 0 0), (.bool false), (.slice none 0 0), (.bool false), (.slice none 0 0), (.bool false), (.slice none 0 0), (.bool false), (.slice none 0 0), (.bool false), (.slice none 0 0), (.bool false), (.slice none 0 0), (.bool false), (.slice none 0 0), (.bool false), (.slice none 0 0), (.bool false), (.slice none 0 0), (.bool false), (.slice none 0 0)])) (by kernel_rfl) rfl) ?_
 refine fw 22 (.agg #[(.int .i8 (n0)), (.int .i8 (n1)), (.int .i8 (n2)), (.int .i8 (n3)), (.int .i8 (n4)), (.int .i8 (n5)), (.int .u8 (dd))]) rfl (fun w' hS => (rl 25 0 [(.int .i8 (n0)), (.int .i8 (n1)), (.int .i8 (n2)), (.int .i8 (n3)), (.int .i8 (n4)), (.int .i8 (n5)), (.int .u8 (dd))] hS.1)) ?_
 simp only [p3, p4]
 refine fw 24 (.agg #[(.int .i8 (j0)), (.int .i8 (j1)), (.int .i8 (j2)), (.int .i8 (j3)), (.int .i8 (j4)), (.int .i8 (j5)), (.int .u8 (ee))]) rfl (fun w' hS => (rl 25 0 [(.int .i8 (j0)), (.int .i8 (j1)), (.int .i8 (j2)), (.int .i8 (j3)), (.int .i8 (j4)), (.int .i8 (j5)), (.int .u8 (ee))] hS.2)) ?_
 simp only [p3, p4]
 refine flo_eff rfl rfl (fun w9 g9 _ K9 k9 => ?_)
 replace hB := hB.trans g9
 refine ec 23 (of_v (n0) (n1) (n2) (n3) (n4) (n5) (dd) (by omega) (by omega) (by omega) (by omega) (by omega) (by omega) (by omega) _) ?_
 rintro e10 w10 ⟨⟨t10_0, t10_1, t10_2, t10_3, t10_4, t10_5, t10_6, t10_7, t10_8, t10_9, t10_10, t10_11, t10_12, t10_13, t10_14, t10_15, t10_16, t10_17, t10_18, t10_19, t10_20, t10_21, t10_22, t10_23, rfl, h10a, h10b, h10c, h10d, h10e, h10f⟩, g10⟩
 refine ⟨_, rfl, ?_⟩
 replace hB := hB.trans g10
 rw [← eA0] at h10a
 rw [← eA1] at h10b
 rw [← eA2] at h10c
 rw [← eA3] at h10d
 rw [← eA4] at h10e
 rw [← eA5] at h10f
 replace L2 := L2.gr (g9.trans g10)
 replace L3 := L3.gr (g9.trans g10)
 refine k9 _ _ g10 ⟨L2, L3⟩ ?_
 try clear k9 K9
 simp only [p3, p4]
 refine flo_eff rfl rfl (fun w11 g11 _ K11 k11 => ?_)
 replace hB := hB.trans g11
 refine ec 25 (of_v (j0) (j1) (j2) (j3) (j4) (j5) (ee) (by omega) (by omega) (by omega) (by omega) (by omega) (by omega) (by omega) _) ?_
 rintro e12 w12 ⟨⟨t12_0, t12_1, t12_2, t12_3, t12_4, t12_5, t12_6, t12_7, t12_8, t12_9, t12_10, t12_11, t12_12, t12_13, t12_14, t12_15, t12_16, t12_17, t12_18, t12_19, t12_20, t12_21, t12_22, t12_23, rfl, h12a, h12b, h12c, h12d, h12e, h12f⟩, g12⟩
 refine ⟨_, rfl, ?_⟩
 replace hB := hB.trans g12
 rw [← eB0] at h12a
 rw [← eB1] at h12b
 rw [← eB2] at h12c
 rw [← eB3] at h12d
 rw [← eB4] at h12e
 rw [← eB5] at h12f
 replace L2 := L2.gr (g11.trans g12)
 replace L3 := L3.gr (g11.trans g12)
 refine k11 _ _ g12 ⟨L2, L3⟩ ?_
 try clear k11 K11
 simp only [p3, p4]
 refine flo_nil (fun w13 g13 _ => ?_)
 replace hB := hB.trans g13
 refine floFin2 (fun b14 b15 (L14 : Lc w13 b14 #[(.bool false), (.slice none 0 0), (.bool false), (.slice none 0 0), (.bool false), (.slice none 0 0), (.bool false), (.slice none 0 0), (.bool false), (.slice none 0 0), (.bool false), (.slice none 0 0), (.bool false), (.slice none 0 0), (.bool false), (.slice none 0 0), (.bool false), (.slice none 0 0), (.bool false), (.slice none 0 0), (.bool false), (.slice none 0 0), (.bool false), (.slice none 0 0)] 35) q14 (L15 : Lc w13 b15 #[(.bool false), (.slice none 0 0), (.bool false), (.slice none 0 0), (.bool false), (.slice none 0 0), (.bool false), (.slice none 0 0), (.bool false), (.slice none 0 0), (.bool false), (.slice none 0 0), (.bool false), (.slice none 0 0), (.bool false), (.slice none 0 0), (.bool false), (.slice none 0 0), (.bool false), (.slice none 0 0), (.bool false), (.slice none 0 0), (.bool false), (.slice none 0 0)] 35) q15 ne14_15 => ?_)
 have ne2_14 : b2 ≠ b14 := Nat.ne_of_lt (Nat.lt_of_lt_of_le lt2_8 q14)
 have ne3_14 : b3 ≠ b14 := Nat.ne_of_lt (Nat.lt_of_lt_of_le lt3_8 q14)
 replace q14 := Nat.le_trans hz8 q14
 have ne2_15 : b2 ≠ b15 := Nat.ne_of_lt (Nat.lt_of_lt_of_le lt2_8 q15)
 have ne3_15 : b3 ≠ b15 := Nat.ne_of_lt (Nat.lt_of_lt_of_le lt3_8 q15)
 replace q15 := Nat.le_trans hz8 q15
 simp only [putl, p3, p4]
 refine oe ?_
 refine es 35 0 (.agg #[t10_0, t10_1, t10_2, t10_3, t10_4, t10_5, t10_6, t10_7, t10_8, t10_9, t10_10, t10_11, t10_12, t10_13, t10_14, t10_15, t10_16, t10_17, t10_18, t10_19, t10_20, t10_21, t10_22, t10_23]) [t10_0, t10_1, t10_2, t10_3, t10_4, t10_5, t10_6, t10_7, t10_8, t10_9, t10_10, t10_11, t10_12, t10_13, t10_14, t10_15, t10_16, t10_17, t10_18, t10_19, t10_20, t10_21, t10_22, t10_23] #[t10_0, t10_1, t10_2, t10_3, t10_4, t10_5, t10_6, t10_7, t10_8, t10_9, t10_10, t10_11, t10_12, t10_13, t10_14, t10_15, t10_16, t10_17, t10_18, t10_19, t10_20, t10_21, t10_22, t10_23] L14 hB q14 ⟨h10a.one0, h10a.one1, h10a.one2, h10a.one3, h10b.one0, h10b.one1, h10b.one2, h10b.one3, h10c.one0, h10c.one1, h10c.one2, h10c.one3, h10d.one0, h10d.one1, h10d.one2, h10d.one3, h10e.one0, h10e.one1, h10e.one2, h10e.one3, h10f.one0, h10f.one1, h10f.one2, h10f.one3, trivial⟩ fun w17 st17 kp17 L14 hB => ?_
 replace L2 := st17.lc (L2.gr g13) ne2_14
 replace L3 := st17.lc (L3.gr g13) ne3_14
 refine ⟨⟨L2, L3⟩, ?_⟩
 refine oe ?_
 replace L15 := st17.lc L15 (Ne.symm ne14_15)
 refine es 35 0 (.agg #[t12_0, t12_1, t12_2, t12_3, t12_4, t12_5, t12_6, t12_7, t12_8, t12_9, t12_10, t12_11, t12_12, t12_13, t12_14, t12_15, t12_16, t12_17, t12_18, t12_19, t12_20, t12_21, t12_22, t12_23]) [t12_0, t12_1, t12_2, t12_3, t12_4, t12_5, t12_6, t12_7, t12_8, t12_9, t12_10, t12_11, t12_12, t12_13, t12_14, t12_15, t12_16, t12_17, t12_18, t12_19, t12_20, t12_21, t12_22, t12_23] #[t12_0, t12_1, t12_2, t12_3, t12_4, t12_5, t12_6, t12_7, t12_8, t12_9, t12_10, t12_11, t12_12, t12_13, t12_14, t12_15, t12_16, t12_17, t12_18, t12_19, t12_20, t12_21, t12_22, t12_23] L15 hB q15 ⟨h12a.one0, h12a.one1, h12a.one2, h12a.one3, h12b.one0, h12b.one1, h12b.one2, h12b.one3, h12c.one0, h12c.one1, h12c.one2, h12c.one3, h12d.one0, h12d.one1, h12d.one2, h12d.one3, h12e.one0, h12e.one1, h12e.one2, h12e.one3, h12f.one0, h12f.one1, h12f.one2, h12f.one3, trivial⟩ fun w19 st19 kp19 L15 hB => ?_
 replace L2 := st19.lc L2 ne2_15
 replace L3 := st19.lc L3 ne3_15
 refine ⟨⟨L2, L3⟩, ?_⟩
 refine ord_nil ?_
 refine k7 _ _ ?_
 try clear k7 K7
 refine wp_seq_k (fun K20 k20 => ?_)
 have hz21 := Below.size hB
 have lt2_21 := L2.lt
 replace L14 := st19.lc L14 ne14_15
 have lt14_21 := L14.lt
 have lt15_21 := L15.lt
 have gd21 := Gr.drew w19
 replace hB := hB.trans gd21
 replace L14 := L14.gr gd21
 replace L15 := L15.gr gd21
 refine wp_region_flo (fun w' => Lc w' b14 #[t10_0, t10_1, t10_2, t10_3, t10_4, t10_5, t10_6, t10_7, t10_8, t10_9, t10_10, t10_11, t10_12, t10_13, t10_14, t10_15, t10_16, t10_17, t10_18, t10_19, t10_20, t10_21, t10_22, t10_23] 35 ∧ Lc w' b15 #[t12_0, t12_1, t12_2, t12_3, t12_4, t12_5, t12_6, t12_7, t12_8, t12_9, t12_10, t12_11, t12_12, t12_13, t12_14, t12_15, t12_16, t12_17, t12_18, t12_19, t12_20, t12_21, t12_22, t12_23] 35) [(true, 0), (true, 1), (true, 3), (true, 4), (true, 5), (false, 2), (false, 6), (false, 7)] [⟨8, 9, 35, #[(.bool false), (.slice none 0 0), (.bool false), (.slice none 0 0), (.bool false), (.slice none 0 0), (.bool false), (.slice none 0 0), (.bool false), (.slice none 0 0), (.bool false), (.slice none 0 0), (.bool false), (.slice none 0 0), (.bool false), (.slice none 0 0), (.bool false), (.slice none 0 0), (.bool false), (.slice none 0 0), (.bool false), (.slice none 0 0), (.bool false), (.slice none 0 0)]⟩, ⟨9, 10, 35, #[(.bool false), (.slice none 0 0), (.bool false), (.slice none 0 0), (.bool false), (.slice none 0 0), (.bool false), (.slice none 0 0), (.bool false), (.slice none 0 0), (.bool false), (.slice none 0 0), (.bool false), (.slice none 0 0), (.bool false), (.slice none 0 0), (.bool false), (.slice none 0 0), (.bool false), (.slice none 0 0), (.bool false), (.slice none 0 0), (.bool false), (.slice none 0 0)]⟩] [(false, 10), (false, 11)] (by kernel_rfl) (by kernel_rfl) (by kernel_rfl) (by kernel_rfl) (by kernel_rfl) (by decide) (fun _ _ _ _ _ h => h) (fun _ _ _ _ _ h => h) (fun w' o h => ⟨Lc.gr h.1 (Gr.alloc w' o), Lc.gr h.2 (Gr.alloc w' o)⟩) ⟨L14, L15⟩ (by intro f hf; simp only [List.mem_cons, List.not_mem_nil, or_false] at hf; rcases hf with rfl | rfl <;> first | exact alloc_zero (z := (.agg #[(.bool false), (.slice none 0 0), (.bool false), (.slice none 0 0), (.bool false), (.slice none 0 0), (.bool false), (.slice none 0 0), (.bool false), (.slice none 0 0), (.bool false), (.slice none 0 0), (.bool false), (.slice none 0 0), (.bool false), (.slice none 0 0), (.bool false), (.slice none 0 0), (.bool false), (.slice none 0 0), (.bool false), (.slice none 0 0), (.bool false), (.slice none 0 0)])) (by kernel_rfl) rfl | exact alloc_zero (z := (.agg #[(.bool false), (.slice none 0 0), (.bool false), (.slice none 0 0), (.bool false), (.slice none 0 0), (.bool false), (.slice none 0 0), (.bool false), (.slice none 0 0), (.bool false), (.slice none 0 0), (.bool false), (.slice none 0 0), (.bool false), (.slice none 0 0), (.bool false), (.slice none 0 0), (.bool false), (.slice none 0 0), (.bool false), (.slice none 0 0), (.bool false), (.slice none 0 0)])) (by kernel_rfl) rfl) ?_
 refine fw 26 (.agg #[t10_0, t10_1, t10_2, t10_3, t10_4, t10_5, t10_6, t10_7, t10_8, t10_9, t10_10, t10_11, t10_12, t10_13, t10_14, t10_15, t10_16, t10_17, t10_18, t10_19, t10_20, t10_21, t10_22, t10_23]) rfl (fun w' hS => (rl 35 0 [t10_0, t10_1, t10_2, t10_3, t10_4, t10_5, t10_6, t10_7, t10_8, t10_9, t10_10, t10_11, t10_12, t10_13, t10_14, t10_15, t10_16, t10_17, t10_18, t10_19, t10_20, t10_21, t10_22, t10_23] hS.1)) ?_
 simp only [p3, p4]
 refine fw 27 (.agg #[t12_0, t12_1, t12_2, t12_3, t12_4, t12_5, t12_6, t12_7, t12_8, t12_9, t12_10, t12_11, t12_12, t12_13, t12_14, t12_15, t12_16, t12_17, t12_18, t12_19, t12_20, t12_21, t12_22, t12_23]) rfl (fun w' hS => (rl 35 0 [t12_0, t12_1, t12_2, t12_3, t12_4, t12_5, t12_6, t12_7, t12_8, t12_9, t12_10, t12_11, t12_12, t12_13, t12_14, t12_15, t12_16, t12_17, t12_18, t12_19, t12_20, t12_21, t12_22, t12_23] hS.2)) ?_
 simp only [p3, p4]
 refine fw 29 (.agg #[t10_0, t10_1, t10_2, t10_3, t10_4, t10_5, t10_6, t10_7, t10_8, t10_9, t10_10, t10_11, t10_12, t10_13, t10_14, t10_15, t10_16, t10_17, t10_18, t10_19, t10_20, t10_21, t10_22, t10_23]) rfl (fun w' hS => (rl 35 0 [t10_0, t10_1, t10_2, t10_3, t10_4, t10_5, t10_6, t10_7, t10_8, t10_9, t10_10, t10_11, t10_12, t10_13, t10_14, t10_15, t10_16, t10_17, t10_18, t10_19, t10_20, t10_21, t10_22, t10_23] hS.1)) ?_
 simp only [p3, p4]
 refine fv 30 (.int .i8 (ff)) ?_
 simp only [p3, p4]
 refine fw 31 (.int .i64 (ff)) rfl (fun w' hS => (RunV.int (x := IntKind.i64.wrap (ff)) (y := ff) (rvk (by kernel_rfl)) (by first | rfl | (rw [IntKind.wrap_i64]; omega)))) ?_
 simp only [p3, p4]
 refine flo_eff rfl rfl (fun w22 g22 _ K22 k22 => ?_)
 replace hB := hB.trans g22
 have kq24 := g11.kp.trans (g12.kp.trans (g13.kp.trans (kp17.trans (kp19.trans (gd21.kp.trans g22.kp)))))
 replace h10a := h10a.kp kq24
 replace h10b := h10b.kp kq24
 replace h10c := h10c.kp kq24
 replace h10d := h10d.kp kq24
 replace h10e := h10e.kp kq24
 replace h10f := h10f.kp kq24
 have kq25 := g13.kp.trans (kp17.trans (kp19.trans (gd21.kp.trans g22.kp)))
 replace h12a := h12a.kp kq25
 replace h12b := h12b.kp kq25
 replace h12c := h12c.kp kq25
 replace h12d := h12d.kp kq25
 replace h12e := h12e.kp kq25
 replace h12f := h12f.kp kq25
 refine ec 28 (tadd_v h10a h10b h10c h10d h10e h10f h12a h12b h12c h12d h12e h12f (by omega)) ?_
 rintro e23 w23 ⟨⟨t23_0, t23_1, t23_2, t23_3, t23_4, t23_5, t23_6, t23_7, t23_8, t23_9, t23_10, t23_11, t23_12, t23_13, t23_14, t23_15, t23_16, t23_17, t23_18, t23_19, t23_20, t23_21, t23_22, t23_23, rfl, h23a, h23b, h23c, h23d, h23e, h23f⟩, g23⟩
 refine ⟨_, rfl, ?_⟩
 replace hB := hB.trans g23
 replace L14 := L14.gr (g22.trans g23)
 replace L15 := L15.gr (g22.trans g23)
 refine k22 _ _ g23 ⟨L14, L15⟩ ?_
 try clear k22 K22
 simp only [p3, p4]
 refine flo_eff rfl rfl (fun w26 g26 _ K26 k26 => ?_)
 replace hB := hB.trans g26
 refine ec 32 (from_r (ff) (by omega) (by omega) _) ?_
 rintro e27 w27 ⟨⟨p27, q27, r27, s27, rfl, h27⟩, g27⟩
 refine ⟨_, rfl, ?_⟩
 replace hB := hB.trans g27
 rw [← eFF] at h27
 replace L14 := L14.gr (g26.trans g27)
 replace L15 := L15.gr (g26.trans g27)
 refine k26 _ _ g27 ⟨L14, L15⟩ ?_
 try clear k26 K26
 simp only [p3, p4]
 refine flo_eff rfl rfl (fun w28 g28 _ K28 k28 => ?_)
 replace hB := hB.trans g28
 have kq30 := g23.kp.trans (g26.kp.trans (g27.kp.trans g28.kp))
 replace h10a := h10a.kp kq30
 replace h10b := h10b.kp kq30
 replace h10c := h10c.kp kq30
 replace h10d := h10d.kp kq30
 replace h10e := h10e.kp kq30
 replace h10f := h10f.kp kq30
 replace h27 := h27.kp g28.kp
 refine ec 33 (tscale_v h10a h10b h10c h10d h10e h10f h27 (by omega)) ?_
 rintro e29 w29 ⟨⟨t29_0, t29_1, t29_2, t29_3, t29_4, t29_5, t29_6, t29_7, t29_8, t29_9, t29_10, t29_11, t29_12, t29_13, t29_14, t29_15, t29_16, t29_17, t29_18, t29_19, t29_20, t29_21, t29_22, t29_23, rfl, h29a, h29b, h29c, h29d, h29e, h29f⟩, g29⟩
 refine ⟨_, rfl, ?_⟩
 replace hB := hB.trans g29
 replace L14 := L14.gr (g28.trans g29)
 replace L15 := L15.gr (g28.trans g29)
 refine k28 _ _ g29 ⟨L14, L15⟩ ?_
 try clear k28 K28
 simp only [p3, p4]
 refine flo_nil (fun w31 g31 _ => ?_)
 replace hB := hB.trans g31
 refine floFin2 (fun b32 b33 (L32 : Lc w31 b32 #[(.bool false), (.slice none 0 0), (.bool false), (.slice none 0 0), (.bool false), (.slice none 0 0), (.bool false), (.slice none 0 0), (.bool false), (.slice none 0 0), (.bool false), (.slice none 0 0), (.bool false), (.slice none 0 0), (.bool false), (.slice none 0 0), (.bool false), (.slice none 0 0), (.bool false), (.slice none 0 0), (.bool false), (.slice none 0 0), (.bool false), (.slice none 0 0)] 35) q32 (L33 : Lc w31 b33 #[(.bool false), (.slice none 0 0), (.bool false), (.slice none 0 0), (.bool false), (.slice none 0 0), (.bool false), (.slice none 0 0), (.bool false), (.slice none 0 0), (.bool false), (.slice none 0 0), (.bool false), (.slice none 0 0), (.bool false), (.slice none 0 0), (.bool false), (.slice none 0 0), (.bool false), (.slice none 0 0), (.bool false), (.slice none 0 0), (.bool false), (.slice none 0 0)] 35) q33 ne32_33 => ?_)
 have ne2_32 : b2 ≠ b32 := Nat.ne_of_lt (Nat.lt_of_lt_of_le lt2_21 q32)
 have ne14_32 : b14 ≠ b32 := Nat.ne_of_lt (Nat.lt_of_lt_of_le lt14_21 q32)
 have ne15_32 : b15 ≠ b32 := Nat.ne_of_lt (Nat.lt_of_lt_of_le lt15_21 q32)
 replace q32 := Nat.le_trans hz21 q32
 have ne2_33 : b2 ≠ b33 := Nat.ne_of_lt (Nat.lt_of_lt_of_le lt2_21 q33)
 have ne14_33 : b14 ≠ b33 := Nat.ne_of_lt (Nat.lt_of_lt_of_le lt14_21 q33)
 have ne15_33 : b15 ≠ b33 := Nat.ne_of_lt (Nat.lt_of_lt_of_le lt15_21 q33)
 replace q33 := Nat.le_trans hz21 q33
 simp only [putl, p3, p4]
 refine oe ?_
 refine es 35 0 (.agg #[t23_0, t23_1, t23_2, t23_3, t23_4, t23_5, t23_6, t23_7, t23_8, t23_9, t23_10, t23_11, t23_12, t23_13, t23_14, t23_15, t23_16, t23_17, t23_18, t23_19, t23_20, t23_21, t23_22, t23_23]) [t23_0, t23_1, t23_2, t23_3, t23_4, t23_5, t23_6, t23_7, t23_8, t23_9, t23_10, t23_11, t23_12, t23_13, t23_14, t23_15, t23_16, t23_17, t23_18, t23_19, t23_20, t23_21, t23_22, t23_23] #[t23_0, t23_1, t23_2, t23_3, t23_4, t23_5, t23_6, t23_7, t23_8, t23_9, t23_10, t23_11, t23_12, t23_13, t23_14, t23_15, t23_16, t23_17, t23_18, t23_19, t23_20, t23_21, t23_22, t23_23] L32 hB q32 ⟨h23a.one0, h23a.one1, h23a.one2, h23a.one3, h23b.one0, h23b.one1, h23b.one2, h23b.one3, h23c.one0, h23c.one1, h23c.one2, h23c.one3, h23d.one0, h23d.one1, h23d.one2, h23d.one3, h23e.one0, h23e.one1, h23e.one2, h23e.one3, h23f.one0, h23f.one1, h23f.one2, h23f.one3, trivial⟩ fun w35 st35 kp35 L32 hB => ?_
 replace L14 := st35.lc (L14.gr g31) ne14_32
 replace L15 := st35.lc (L15.gr g31) ne15_32
 refine ⟨⟨L14, L15⟩, ?_⟩
 refine oe ?_
 replace L33 := st35.lc L33 (Ne.symm ne32_33)
 refine es 35 0 (.agg #[t29_0, t29_1, t29_2, t29_3, t29_4, t29_5, t29_6, t29_7, t29_8, t29_9, t29_10, t29_11, t29_12, t29_13, t29_14, t29_15, t29_16, t29_17, t29_18, t29_19, t29_20, t29_21, t29_22, t29_23]) [t29_0, t29_1, t29_2, t29_3, t29_4, t29_5, t29_6, t29_7, t29_8, t29_9, t29_10, t29_11, t29_12, t29_13, t29_14, t29_15, t29_16, t29_17, t29_18, t29_19, t29_20, t29_21, t29_22, t29_23] #[t29_0, t29_1, t29_2, t29_3, t29_4, t29_5, t29_6, t29_7, t29_8, t29_9, t29_10, t29_11, t29_12, t29_13, t29_14, t29_15, t29_16, t29_17, t29_18, t29_19, t29_20, t29_21, t29_22, t29_23] L33 hB q33 ⟨h29a.one0, h29a.one1, h29a.one2, h29a.one3, h29b.one0, h29b.one1, h29b.one2, h29b.one3, h29c.one0, h29c.one1, h29c.one2, h29c.one3, h29d.one0, h29d.one1, h29d.one2, h29d.one3, h29e.one0, h29e.one1, h29e.one2, h29e.one3, h29f.one0, h29f.one1, h29f.one2, h29f.one3, trivial⟩ fun w37 st37 kp37 L33 hB => ?_
 replace L14 := st37.lc L14 ne14_33
 replace L15 := st37.lc L15 ne15_33
 refine ⟨⟨L14, L15⟩, ?_⟩
 refine ord_nil ?_
 refine k20 _ _ ?_
 try clear k20 K20
 refine wp_seq_k (fun K38 k38 => ?_)
 refine wp_seq_k (fun K39 k39 => ?_)
 have gd75 := Gr.drew w37
 replace hB := hB.trans gd75
 replace L14 := L14.gr gd75
 replace L15 := L15.gr gd75
 replace L32 := (st37.lc L32 ne32_33).gr gd75
 replace L33 := L33.gr gd75
 refine wp_region_ord (fun w' => Lc w' b14 #[t10_0, t10_1, t10_2, t10_3, t10_4, t10_5, t10_6, t10_7, t10_8, t10_9, t10_10, t10_11, t10_12, t10_13, t10_14, t10_15, t10_16, t10_17, t10_18, t10_19, t10_20, t10_21, t10_22, t10_23] 35 ∧ Lc w' b15 #[t12_0, t12_1, t12_2, t12_3, t12_4, t12_5, t12_6, t12_7, t12_8, t12_9, t12_10, t12_11, t12_12, t12_13, t12_14, t12_15, t12_16, t12_17, t12_18, t12_19, t12_20, t12_21, t12_22, t12_23] 35 ∧ Lc w' b32 #[t23_0, t23_1, t23_2, t23_3, t23_4, t23_5, t23_6, t23_7, t23_8, t23_9, t23_10, t23_11, t23_12, t23_13, t23_14, t23_15, t23_16, t23_17, t23_18, t23_19, t23_20, t23_21, t23_22, t23_23] 35 ∧ Lc w' b33 #[t29_0, t29_1, t29_2, t29_3, t29_4, t29_5, t29_6, t29_7, t29_8, t29_9, t29_10, t29_11, t29_12, t29_13, t29_14, t29_15, t29_16, t29_17, t29_18, t29_19, t29_20, t29_21, t29_22, t29_23] 35) [(true, 0), (true, 1), (true, 2), (true, 3), (true, 4), (true, 5), (false, 6), (false, 7), (true, 8), (true, 9), (true, 10), (true, 11), (true, 12), (true, 13), (true, 14), (true, 15), (false, 16), (false, 17), (true, 18), (true, 19), (true, 20), (true, 21), (true, 22), (true, 23), (true, 24), (true, 25), (true, 26), (false, 27), (false, 28), (false, 29), (true, 30), (true, 31), (true, 32), (true, 33), (true, 34), (true, 35), (true, 36), (true, 37), (true, 38), (false, 39), (false, 40), (false, 41), (true, 42), (true, 43)] (by kernel_rfl) (by kernel_rfl) (by kernel_rfl) (by decide) (fun _ _ _ _ _ h => h) ⟨L14, L15, L32, L33⟩ ?_
 refine ov 34 (.pointer (some ⟨b32, 0, none⟩)) ?_
 simp only [p3, p4]
 refine ow 35 (.agg #[t23_0, t23_1, t23_2, t23_3, t23_4, t23_5, t23_6, t23_7, t23_8, t23_9, t23_10, t23_11]) rfl (fun w' hS => (rl 33 0 [t23_0, t23_1, t23_2, t23_3, t23_4, t23_5, t23_6, t23_7, t23_8, t23_9, t23_10, t23_11] hS.2.2.1)) ?_
 simp only [p3, p4]
 refine ov 36 (.pointer (some ⟨b14, 0, none⟩)) ?_
 simp only [p3, p4]
 refine ow 37 (.agg #[t10_0, t10_1, t10_2, t10_3, t10_4, t10_5, t10_6, t10_7, t10_8, t10_9, t10_10, t10_11]) rfl (fun w' hS => (rl 33 0 [t10_0, t10_1, t10_2, t10_3, t10_4, t10_5, t10_6, t10_7, t10_8, t10_9, t10_10, t10_11] hS.1)) ?_
 simp only [p3, p4]
 refine ov 38 (.pointer (some ⟨b15, 0, none⟩)) ?_
 simp only [p3, p4]
 refine ow 39 (.agg #[t12_0, t12_1, t12_2, t12_3, t12_4, t12_5, t12_6, t12_7, t12_8, t12_9, t12_10, t12_11]) rfl (fun w' hS => (rl 33 0 [t12_0, t12_1, t12_2, t12_3, t12_4, t12_5, t12_6, t12_7, t12_8, t12_9, t12_10, t12_11] hS.2.1)) ?_
 simp only [p3, p4]
 refine oe ?_
 have kq78 := g29.kp.trans (g31.kp.trans (kp35.trans (kp37.trans gd75.kp)))
 replace h10a := h10a.kp kq78
 replace h10b := h10b.kp kq78
 replace h10c := h10c.kp kq78
 have kq79 := g23.kp.trans (g26.kp.trans (g27.kp.trans (g28.kp.trans (g29.kp.trans (g31.kp.trans (kp35.trans (kp37.trans gd75.kp)))))))
 replace h12a := h12a.kp kq79
 replace h12b := h12b.kp kq79
 replace h12c := h12c.kp kq79
 refine ec 40 (vadd_v h10a h10b h10c h12a h12b h12c (by omega)) ?_
 rintro e77 w77 ⟨⟨t77_0, t77_1, t77_2, t77_3, t77_4, t77_5, t77_6, t77_7, t77_8, t77_9, t77_10, t77_11, rfl, h77a, h77b, h77c⟩, g77⟩
 refine ⟨_, rfl, ?_⟩
 replace hB := hB.trans g77
 replace L14 := L14.gr g77
 replace L15 := L15.gr g77
 replace L32 := L32.gr g77
 replace L33 := L33.gr g77
 refine ⟨⟨L14, L15, L32, L33⟩, ?_⟩
 simp only [p3, p4]
 refine oe ?_
 have kq82 := g26.kp.trans (g27.kp.trans (g28.kp.trans (g29.kp.trans (g31.kp.trans (kp35.trans (kp37.trans (gd75.kp.trans g77.kp)))))))
 replace h23a := h23a.kp kq82
 replace h23b := h23b.kp kq82
 replace h23c := h23c.kp kq82
 refine ec 41 (vequal_v h23a h23b h23c h77a h77b h77c (by omega)) ?_
 rintro e81 w81 ⟨rfl, g81⟩
 refine ⟨_, rfl, ?_⟩
 replace hB := hB.trans g81
 replace L14 := L14.gr g81
 replace L15 := L15.gr g81
 replace L32 := L32.gr g81
 replace L33 := L33.gr g81
 refine ⟨⟨L14, L15, L32, L33⟩, ?_⟩
 simp only [p3, p4]
 have hb83 : (vcmp (A0 + B0) (A1 + B1) (A2 + B2) (A0 + B0) (A1 + B1) (A2 + B2) == (0 : Int)) = true := (lawSk0 A0 A1 A2 B0 B1 B2 )
 refine ow 42 (.bool false) rfl (fun w' hS => (RunV.bool (x := !(vcmp (A0 + B0) (A1 + B1) (A2 + B2) (A0 + B0) (A1 + B1) (A2 + B2) == (0 : Int))) (rvk (by kernel_rfl)) (show (!(vcmp (A0 + B0) (A1 + B1) (A2 + B2) (A0 + B0) (A1 + B1) (A2 + B2) == (0 : Int))) = false by rw [hb83]; rfl))) ?_
 simp only [p3, p4]
 refine ov 43 (.bool false) ?_
 simp only [p3, p4]
 refine ov 44 (.pointer (some ⟨b32, 12, none⟩)) ?_
 simp only [p3, p4]
 refine ow 45 (.agg #[t23_12, t23_13, t23_14, t23_15, t23_16, t23_17, t23_18, t23_19, t23_20, t23_21, t23_22, t23_23]) rfl (fun w' hS => (rl 33 12 [t23_12, t23_13, t23_14, t23_15, t23_16, t23_17, t23_18, t23_19, t23_20, t23_21, t23_22, t23_23] hS.2.2.1)) ?_
 simp only [p3, p4]
 refine ov 46 (.pointer (some ⟨b14, 12, none⟩)) ?_
 simp only [p3, p4]
 refine ow 47 (.agg #[t10_12, t10_13, t10_14, t10_15, t10_16, t10_17, t10_18, t10_19, t10_20, t10_21, t10_22, t10_23]) rfl (fun w' hS => (rl 33 12 [t10_12, t10_13, t10_14, t10_15, t10_16, t10_17, t10_18, t10_19, t10_20, t10_21, t10_22, t10_23] hS.1)) ?_
 simp only [p3, p4]
 refine ov 48 (.pointer (some ⟨b15, 12, none⟩)) ?_
 simp only [p3, p4]
 refine ow 49 (.agg #[t12_12, t12_13, t12_14, t12_15, t12_16, t12_17, t12_18, t12_19, t12_20, t12_21, t12_22, t12_23]) rfl (fun w' hS => (rl 33 12 [t12_12, t12_13, t12_14, t12_15, t12_16, t12_17, t12_18, t12_19, t12_20, t12_21, t12_22, t12_23] hS.2.1)) ?_
 simp only [p3, p4]
 refine oe ?_
 have kq86 := g29.kp.trans (g31.kp.trans (kp35.trans (kp37.trans (gd75.kp.trans (g77.kp.trans g81.kp)))))
 replace h10d := h10d.kp kq86
 replace h10e := h10e.kp kq86
 replace h10f := h10f.kp kq86
 have kq87 := g23.kp.trans (g26.kp.trans (g27.kp.trans (g28.kp.trans (g29.kp.trans (g31.kp.trans (kp35.trans (kp37.trans (gd75.kp.trans (g77.kp.trans g81.kp)))))))))
 replace h12d := h12d.kp kq87
 replace h12e := h12e.kp kq87
 replace h12f := h12f.kp kq87
 refine ec 50 (vadd_v h10d h10e h10f h12d h12e h12f (by omega)) ?_
 rintro e85 w85 ⟨⟨t85_0, t85_1, t85_2, t85_3, t85_4, t85_5, t85_6, t85_7, t85_8, t85_9, t85_10, t85_11, rfl, h85a, h85b, h85c⟩, g85⟩
 refine ⟨_, rfl, ?_⟩
 replace hB := hB.trans g85
 replace L14 := L14.gr g85
 replace L15 := L15.gr g85
 replace L32 := L32.gr g85
 replace L33 := L33.gr g85
 refine ⟨⟨L14, L15, L32, L33⟩, ?_⟩
 simp only [p3, p4]
 refine oe ?_
 have kq90 := g26.kp.trans (g27.kp.trans (g28.kp.trans (g29.kp.trans (g31.kp.trans (kp35.trans (kp37.trans (gd75.kp.trans (g77.kp.trans (g81.kp.trans g85.kp)))))))))
 replace h23d := h23d.kp kq90
 replace h23e := h23e.kp kq90
 replace h23f := h23f.kp kq90
 refine ec 51 (vequal_v h23d h23e h23f h85a h85b h85c (by omega)) ?_
 rintro e89 w89 ⟨rfl, g89⟩
 refine ⟨_, rfl, ?_⟩
 replace hB := hB.trans g89
 replace L14 := L14.gr g89
 replace L15 := L15.gr g89
 replace L32 := L32.gr g89
 replace L33 := L33.gr g89
 refine ⟨⟨L14, L15, L32, L33⟩, ?_⟩
 simp only [p3, p4]
 have hb91 : (vcmp (A3 + B3) (A4 + B4) (A5 + B5) (A3 + B3) (A4 + B4) (A5 + B5) == (0 : Int)) = true := (lawSk1 A3 A4 A5 B3 B4 B5 )
 refine ow 52 (.bool false) rfl (fun w' hS => (RunV.bool (x := !(vcmp (A3 + B3) (A4 + B4) (A5 + B5) (A3 + B3) (A4 + B4) (A5 + B5) == (0 : Int))) (rvk (by kernel_rfl)) (show (!(vcmp (A3 + B3) (A4 + B4) (A5 + B5) (A3 + B3) (A4 + B4) (A5 + B5) == (0 : Int))) = false by rw [hb91]; rfl))) ?_
 simp only [p3, p4]
 refine ov 53 (.bool false) ?_
 simp only [p3, p4]
 refine ov 54 (.bool false) ?_
 simp only [p3, p4]
 refine ov 55 (.pointer (some ⟨b33, 0, none⟩)) ?_
 simp only [p3, p4]
 refine ow 56 (.agg #[t29_0, t29_1, t29_2, t29_3, t29_4, t29_5, t29_6, t29_7, t29_8, t29_9, t29_10, t29_11]) rfl (fun w' hS => (rl 33 0 [t29_0, t29_1, t29_2, t29_3, t29_4, t29_5, t29_6, t29_7, t29_8, t29_9, t29_10, t29_11] hS.2.2.2)) ?_
 simp only [p3, p4]
 refine ov 57 (.pointer (some ⟨b14, 0, none⟩)) ?_
 simp only [p3, p4]
 refine ow 58 (.agg #[t10_0, t10_1, t10_2, t10_3, t10_4, t10_5, t10_6, t10_7, t10_8, t10_9, t10_10, t10_11]) rfl (fun w' hS => (rl 33 0 [t10_0, t10_1, t10_2, t10_3, t10_4, t10_5, t10_6, t10_7, t10_8, t10_9, t10_10, t10_11] hS.1)) ?_
 simp only [p3, p4]
 refine ov 59 (.int .i8 (ff)) ?_
 simp only [p3, p4]
 refine ow 60 (.int .i64 (ff)) rfl (fun w' hS => (RunV.int (x := IntKind.i64.wrap (ff)) (y := ff) (rvk (by kernel_rfl)) (by first | rfl | (rw [IntKind.wrap_i64]; omega)))) ?_
 simp only [p3, p4]
 refine oe ?_
 refine ec 61 (from_r (ff) (by omega) (by omega) _) ?_
 rintro e93 w93 ⟨⟨p93, q93, r93, s93, rfl, h93⟩, g93⟩
 refine ⟨_, rfl, ?_⟩
 replace hB := hB.trans g93
 rw [← eFF] at h93
 replace L14 := L14.gr g93
 replace L15 := L15.gr g93
 replace L32 := L32.gr g93
 replace L33 := L33.gr g93
 refine ⟨⟨L14, L15, L32, L33⟩, ?_⟩
 simp only [p3, p4]
 refine oe ?_
 have kq96 := g77.kp.trans (g81.kp.trans (g85.kp.trans (g89.kp.trans g93.kp)))
 replace h10a := h10a.kp kq96
 replace h10b := h10b.kp kq96
 replace h10c := h10c.kp kq96
 refine ec 62 (vscale_v h10a h10b h10c h93 (by omega)) ?_
 rintro e95 w95 ⟨⟨t95_0, t95_1, t95_2, t95_3, t95_4, t95_5, t95_6, t95_7, t95_8, t95_9, t95_10, t95_11, rfl, h95a, h95b, h95c⟩, g95⟩
 refine ⟨_, rfl, ?_⟩
 replace hB := hB.trans g95
 replace L14 := L14.gr g95
 replace L15 := L15.gr g95
 replace L32 := L32.gr g95
 replace L33 := L33.gr g95
 refine ⟨⟨L14, L15, L32, L33⟩, ?_⟩
 simp only [p3, p4]
 refine oe ?_
 have kq99 := g31.kp.trans (kp35.trans (kp37.trans (gd75.kp.trans (g77.kp.trans (g81.kp.trans (g85.kp.trans (g89.kp.trans (g93.kp.trans g95.kp))))))))
 replace h29a := h29a.kp kq99
 replace h29b := h29b.kp kq99
 replace h29c := h29c.kp kq99
 refine ec 63 (vequal_v h29a h29b h29c h95a h95b h95c (by omega)) ?_
 rintro e98 w98 ⟨rfl, g98⟩
 refine ⟨_, rfl, ?_⟩
 replace hB := hB.trans g98
 replace L14 := L14.gr g98
 replace L15 := L15.gr g98
 replace L32 := L32.gr g98
 replace L33 := L33.gr g98
 refine ⟨⟨L14, L15, L32, L33⟩, ?_⟩
 simp only [p3, p4]
 have hb100 : (vcmp (FF * A0) (FF * A1) (FF * A2) (FF * A0) (FF * A1) (FF * A2) == (0 : Int)) = true := (lawSk2 A0 A1 A2 FF )
 refine ow 64 (.bool false) rfl (fun w' hS => (RunV.bool (x := !(vcmp (FF * A0) (FF * A1) (FF * A2) (FF * A0) (FF * A1) (FF * A2) == (0 : Int))) (rvk (by kernel_rfl)) (show (!(vcmp (FF * A0) (FF * A1) (FF * A2) (FF * A0) (FF * A1) (FF * A2) == (0 : Int))) = false by rw [hb100]; rfl))) ?_
 simp only [p3, p4]
 refine ov 65 (.bool false) ?_
 simp only [p3, p4]
 refine ov 66 (.bool false) ?_
 simp only [p3, p4]
 refine ov 67 (.pointer (some ⟨b33, 12, none⟩)) ?_
 simp only [p3, p4]
 refine ow 68 (.agg #[t29_12, t29_13, t29_14, t29_15, t29_16, t29_17, t29_18, t29_19, t29_20, t29_21, t29_22, t29_23]) rfl (fun w' hS => (rl 33 12 [t29_12, t29_13, t29_14, t29_15, t29_16, t29_17, t29_18, t29_19, t29_20, t29_21, t29_22, t29_23] hS.2.2.2)) ?_
 simp only [p3, p4]
 refine ov 69 (.pointer (some ⟨b14, 12, none⟩)) ?_
 simp only [p3, p4]
 refine ow 70 (.agg #[t10_12, t10_13, t10_14, t10_15, t10_16, t10_17, t10_18, t10_19, t10_20, t10_21, t10_22, t10_23]) rfl (fun w' hS => (rl 33 12 [t10_12, t10_13, t10_14, t10_15, t10_16, t10_17, t10_18, t10_19, t10_20, t10_21, t10_22, t10_23] hS.1)) ?_
 simp only [p3, p4]
 refine ov 71 (.int .i8 (ff)) ?_
 simp only [p3, p4]
 refine ow 72 (.int .i64 (ff)) rfl (fun w' hS => (RunV.int (x := IntKind.i64.wrap (ff)) (y := ff) (rvk (by kernel_rfl)) (by first | rfl | (rw [IntKind.wrap_i64]; omega)))) ?_
 simp only [p3, p4]
 refine oe ?_
 refine ec 73 (from_r (ff) (by omega) (by omega) _) ?_
 rintro e102 w102 ⟨⟨p102, q102, r102, s102, rfl, h102⟩, g102⟩
 refine ⟨_, rfl, ?_⟩
 replace hB := hB.trans g102
 rw [← eFF] at h102
 replace L14 := L14.gr g102
 replace L15 := L15.gr g102
 replace L32 := L32.gr g102
 replace L33 := L33.gr g102
 refine ⟨⟨L14, L15, L32, L33⟩, ?_⟩
 simp only [p3, p4]
 refine oe ?_
 have kq105 := g85.kp.trans (g89.kp.trans (g93.kp.trans (g95.kp.trans (g98.kp.trans g102.kp))))
 replace h10d := h10d.kp kq105
 replace h10e := h10e.kp kq105
 replace h10f := h10f.kp kq105
 refine ec 74 (vscale_v h10d h10e h10f h102 (by omega)) ?_
 rintro e104 w104 ⟨⟨t104_0, t104_1, t104_2, t104_3, t104_4, t104_5, t104_6, t104_7, t104_8, t104_9, t104_10, t104_11, rfl, h104a, h104b, h104c⟩, g104⟩
 refine ⟨_, rfl, ?_⟩
 replace hB := hB.trans g104
 replace L14 := L14.gr g104
 replace L15 := L15.gr g104
 replace L32 := L32.gr g104
 replace L33 := L33.gr g104
 refine ⟨⟨L14, L15, L32, L33⟩, ?_⟩
 simp only [p3, p4]
 refine oe ?_
 have kq108 := g31.kp.trans (kp35.trans (kp37.trans (gd75.kp.trans (g77.kp.trans (g81.kp.trans (g85.kp.trans (g89.kp.trans (g93.kp.trans (g95.kp.trans (g98.kp.trans (g102.kp.trans g104.kp)))))))))))
 replace h29d := h29d.kp kq108
 replace h29e := h29e.kp kq108
 replace h29f := h29f.kp kq108
 refine ec 75 (vequal_v h29d h29e h29f h104a h104b h104c (by omega)) ?_
 rintro e107 w107 ⟨rfl, g107⟩
 refine ⟨_, rfl, ?_⟩
 replace hB := hB.trans g107
 replace L14 := L14.gr g107
 replace L15 := L15.gr g107
 replace L32 := L32.gr g107
 replace L33 := L33.gr g107
 refine ⟨⟨L14, L15, L32, L33⟩, ?_⟩
 simp only [p3, p4]
 have hb109 : (vcmp (FF * A3) (FF * A4) (FF * A5) (FF * A3) (FF * A4) (FF * A5) == (0 : Int)) = true := (lawSk3 A3 A4 A5 FF )
 refine ow 76 (.bool false) rfl (fun w' hS => (RunV.bool (x := !(vcmp (FF * A3) (FF * A4) (FF * A5) (FF * A3) (FF * A4) (FF * A5) == (0 : Int))) (rvk (by kernel_rfl)) (show (!(vcmp (FF * A3) (FF * A4) (FF * A5) (FF * A3) (FF * A4) (FF * A5) == (0 : Int))) = false by rw [hb109]; rfl))) ?_
 simp only [p3, p4]
 refine ov 77 (.bool false) ?_
 simp only [p3, p4]
 refine ord_nil ?_
 refine k39 _ _ ?_
 try clear k39 K39
 refine wp_cond_false rfl ?_
 refine wp_skip ?_
 refine k38 _ _ ?_
 try clear k38 K38
 refine wp_cut3 (fun a w' => ∃  (u110 : Nat → Value), a = ⟨[(u110 0), (u110 1), (.int .i8 (ff)), (.pointer (some ⟨b2, 0, none⟩)), (.pointer (some ⟨b3, 0, none⟩)), undef, (u110 6), (.pointer (some ⟨b14, 0, none⟩)), (.pointer (some ⟨b15, 0, none⟩)), (.pointer (some ⟨b32, 0, none⟩)), (.pointer (some ⟨b33, 0, none⟩)), (u110 11), (.bool false), undef, undef, undef, undef, undef, undef, undef, (u110 20), (.bool false), (u110 22), (u110 23), (u110 24), (u110 25), (u110 26), (u110 27), (u110 28), (u110 29), (u110 30), (u110 31), (u110 32), (u110 33), (u110 34), (u110 35), (u110 36), (u110 37), (u110 38), (u110 39), (u110 40), (u110 41), (u110 42), (u110 43), (u110 44), (u110 45), (u110 46), (u110 47), (u110 48), (u110 49), (u110 50), (u110 51), (u110 52), (u110 53), (u110 54), (u110 55), (u110 56), (u110 57), (u110 58), (u110 59), (u110 60), (u110 61), (u110 62), (u110 63), (u110 64), (u110 65), (u110 66), (u110 67), (u110 68), (u110 69), (u110 70), (u110 71), (u110 72), (u110 73), (u110 74), (u110 75), (u110 76), (.bool false), (u110 78), (u110 79), (u110 80), (u110 81), (u110 82), (u110 83), (u110 84), (u110 85), (u110 86), (u110 87), (u110 88), (u110 89), (u110 90), (u110 91), (u110 92), (u110 93), (u110 94), (u110 95), (u110 96), (u110 97), (u110 98), (u110 99), (u110 100), (u110 101), (u110 102), (u110 103), (u110 104), undef, undef, undef, undef, undef, undef, undef, undef, undef, undef, undef, undef, undef, undef, undef, undef, undef, undef, undef, undef, undef, undef, undef, undef, undef, undef, undef, undef, undef, undef, undef, undef, undef, undef, undef, undef, undef, undef, undef, undef, undef, undef, undef, undef, undef, undef, undef, undef, undef, undef, undef, undef, undef, undef, undef].toArray, []⟩ ∧ IsRat w' 128 t10_0 t10_1 t10_2 t10_3 (A0) ∧ IsRat w' 128 t10_4 t10_5 t10_6 t10_7 (A1) ∧ IsRat w' 128 t10_8 t10_9 t10_10 t10_11 (A2) ∧ IsRat w' 128 t10_12 t10_13 t10_14 t10_15 (A3) ∧ IsRat w' 128 t10_16 t10_17 t10_18 t10_19 (A4) ∧ IsRat w' 128 t10_20 t10_21 t10_22 t10_23 (A5) ∧ Lc w' b2 #[(.int .i8 (n0)), (.int .i8 (n1)), (.int .i8 (n2)), (.int .i8 (n3)), (.int .i8 (n4)), (.int .i8 (n5)), (.int .u8 (dd))] 25 ∧ Lc w' b14 #[t10_0, t10_1, t10_2, t10_3, t10_4, t10_5, t10_6, t10_7, t10_8, t10_9, t10_10, t10_11, t10_12, t10_13, t10_14, t10_15, t10_16, t10_17, t10_18, t10_19, t10_20, t10_21, t10_22, t10_23] 35 ∧ Gr w w') (fun K110 k110 => ?_) ?_
 ·refine chain_k (fun K111 k111 => ?_)
  refine rg [0, 1, 2, 3, 4, 5, 6, 7, 8, 9, 10, 11, 12] ?_
  refine sv 78 (.pointer (some ⟨b14, 0, none⟩)) ?_
  simp only [p3, p4]
  refine sw 79 (.agg #[t10_0, t10_1, t10_2, t10_3, t10_4, t10_5, t10_6, t10_7, t10_8, t10_9, t10_10, t10_11]) rfl (rl 33 0 [t10_0, t10_1, t10_2, t10_3, t10_4, t10_5, t10_6, t10_7, t10_8, t10_9, t10_10, t10_11] L14) ?_
  simp only [p3, p4]
  refine sv 80 (.pointer (some ⟨b15, 0, none⟩)) ?_
  simp only [p3, p4]
  refine sw 81 (.agg #[t12_0, t12_1, t12_2, t12_3, t12_4, t12_5, t12_6, t12_7, t12_8, t12_9, t12_10, t12_11]) rfl (rl 33 0 [t12_0, t12_1, t12_2, t12_3, t12_4, t12_5, t12_6, t12_7, t12_8, t12_9, t12_10, t12_11] L15) ?_
  simp only [p3, p4]
  refine se ?_
  have kq113 := g95.kp.trans (g98.kp.trans (g102.kp.trans (g104.kp.trans g107.kp)))
  replace h10a := h10a.kp kq113
  replace h10b := h10b.kp kq113
  replace h10c := h10c.kp kq113
  have kq114 := g77.kp.trans (g81.kp.trans (g85.kp.trans (g89.kp.trans (g93.kp.trans (g95.kp.trans (g98.kp.trans (g102.kp.trans (g104.kp.trans g107.kp))))))))
  replace h12a := h12a.kp kq114
  replace h12b := h12b.kp kq114
  replace h12c := h12c.kp kq114
  refine ec 82 (vequal_v h10a h10b h10c h12a h12b h12c (by omega)) ?_
  rintro e112 w112 ⟨rfl, g112⟩
  refine ⟨_, rfl, ?_⟩
  replace hB := hB.trans g112
  simp only [p3, p4]
  rcases Bool.eq_false_or_eq_true (vcmp A0 A1 A2 B0 B1 B2 == (0 : Int)) with hb115 | hb115
  ·refine sw 83 (.bool true) rfl (RunV.bool (x := vcmp A0 A1 A2 B0 B1 B2 == (0 : Int)) (rvk (by kernel_rfl)) hb115) ?_
   simp only [p3, p4]
   refine sv 84 (.pointer (some ⟨b14, 12, none⟩)) ?_
   simp only [p3, p4]
   replace L14 := L14.gr g112
   refine sw 85 (.agg #[t10_12, t10_13, t10_14, t10_15, t10_16, t10_17, t10_18, t10_19, t10_20, t10_21, t10_22, t10_23]) rfl (rl 33 12 [t10_12, t10_13, t10_14, t10_15, t10_16, t10_17, t10_18, t10_19, t10_20, t10_21, t10_22, t10_23] L14) ?_
   simp only [p3, p4]
   refine sv 86 (.pointer (some ⟨b15, 12, none⟩)) ?_
   simp only [p3, p4]
   replace L15 := L15.gr g112
   refine sw 87 (.agg #[t12_12, t12_13, t12_14, t12_15, t12_16, t12_17, t12_18, t12_19, t12_20, t12_21, t12_22, t12_23]) rfl (rl 33 12 [t12_12, t12_13, t12_14, t12_15, t12_16, t12_17, t12_18, t12_19, t12_20, t12_21, t12_22, t12_23] L15) ?_
   simp only [p3, p4]
   refine se ?_
   have kq117 := g104.kp.trans (g107.kp.trans g112.kp)
   replace h10d := h10d.kp kq117
   replace h10e := h10e.kp kq117
   replace h10f := h10f.kp kq117
   have kq118 := g85.kp.trans (g89.kp.trans (g93.kp.trans (g95.kp.trans (g98.kp.trans (g102.kp.trans (g104.kp.trans (g107.kp.trans g112.kp)))))))
   replace h12d := h12d.kp kq118
   replace h12e := h12e.kp kq118
   replace h12f := h12f.kp kq118
   refine ec 88 (vequal_v h10d h10e h10f h12d h12e h12f (by omega)) ?_
   rintro e116 w116 ⟨rfl, g116⟩
   refine ⟨_, rfl, ?_⟩
   replace hB := hB.trans g116
   simp only [p3, p4]
   refine sv 89 (.bool (vcmp A3 A4 A5 B3 B4 B5 == (0 : Int))) ?_
   simp only [p3, p4]
   refine sv 11 (.bool (vcmp A3 A4 A5 B3 B4 B5 == (0 : Int))) ?_
   simp only [p3, p4]
   refine sq_nil ?_
   refine k111 _ _ ?_
   try clear k111 K111
   refine chain_k (fun K119 k119 => ?_)
   refine rg [0, 1, 2, 3, 4] ?_
   refine sv 90 (.pointer (some ⟨b2, 0, none⟩)) ?_
   simp only [p3, p4]
   replace L2 := (st37.lc (st35.lc (L2.gr (gd21.trans (g22.trans (g23.trans (g26.trans (g27.trans (g28.trans (g29.trans g31)))))))) ne2_32) ne2_33).gr (gd75.trans (g77.trans (g81.trans (g85.trans (g89.trans (g93.trans (g95.trans (g98.trans (g102.trans (g104.trans (g107.trans (g112.trans g116))))))))))))
   refine sw 91 (.agg #[(.int .i8 (n0)), (.int .i8 (n1)), (.int .i8 (n2)), (.int .i8 (n3)), (.int .i8 (n4)), (.int .i8 (n5))]) rfl (rl 23 0 [(.int .i8 (n0)), (.int .i8 (n1)), (.int .i8 (n2)), (.int .i8 (n3)), (.int .i8 (n4)), (.int .i8 (n5))] L2) ?_
   simp only [p3, p4]
   refine sv 92 (.agg #[(.int .i8 0), (.int .i8 0), (.int .i8 0), (.int .i8 0), (.int .i8 0), (.int .i8 0)]) ?_
   simp only [p3, p4]
   refine sw 93 (.bool false) rfl (RunV.bool (x := (n0 == 0 && n1 == 0 && n2 == 0 && n3 == 0 && n4 == 0 && n5 == 0)) (rv_arreq 23 23 22 (k := .i8) _ _ [n0, n1, n2, n3, n4, n5] [0, 0, 0, 0, 0, 0] rfl rfl rfl (by kernel_rfl) (by kernel_rfl) (by kernel_rfl)) hzt) ?_
   simp only [p3, p4]
   refine sv 12 (.bool false) ?_
   simp only [p3, p4]
   refine sq_nil ?_
   refine k119 _ _ ?_
   try clear k119 K119
   refine chain_k (fun K120 k120 => ?_)
   refine wp_seq_k (fun K121 k121 => ?_)
   refine rg [0, 1, 2, 3, 4, 5, 6, 7, 8, 9, 10] ?_
   replace L14 := L14.gr g116
   refine sw 94 (.agg #[t10_0, t10_1, t10_2, t10_3, t10_4, t10_5, t10_6, t10_7, t10_8, t10_9, t10_10, t10_11, t10_12, t10_13, t10_14, t10_15, t10_16, t10_17, t10_18, t10_19, t10_20, t10_21, t10_22, t10_23]) rfl (rl 35 0 [t10_0, t10_1, t10_2, t10_3, t10_4, t10_5, t10_6, t10_7, t10_8, t10_9, t10_10, t10_11, t10_12, t10_13, t10_14, t10_15, t10_16, t10_17, t10_18, t10_19, t10_20, t10_21, t10_22, t10_23] L14) ?_
   simp only [p3, p4]
   replace L15 := L15.gr g116
   refine sw 95 (.agg #[t12_0, t12_1, t12_2, t12_3, t12_4, t12_5, t12_6, t12_7, t12_8, t12_9, t12_10, t12_11, t12_12, t12_13, t12_14, t12_15, t12_16, t12_17, t12_18, t12_19, t12_20, t12_21, t12_22, t12_23]) rfl (rl 35 0 [t12_0, t12_1, t12_2, t12_3, t12_4, t12_5, t12_6, t12_7, t12_8, t12_9, t12_10, t12_11, t12_12, t12_13, t12_14, t12_15, t12_16, t12_17, t12_18, t12_19, t12_20, t12_21, t12_22, t12_23] L15) ?_
   simp only [p3, p4]
   refine se ?_
   have kq123 := g112.kp.trans g116.kp
   replace h10a := h10a.kp kq123
   replace h10b := h10b.kp kq123
   replace h10c := h10c.kp kq123
   replace h10d := h10d.kp g116.kp
   replace h10e := h10e.kp g116.kp
   replace h10f := h10f.kp g116.kp
   replace h12a := h12a.kp kq123
   replace h12b := h12b.kp kq123
   replace h12c := h12c.kp kq123
   replace h12d := h12d.kp g116.kp
   replace h12e := h12e.kp g116.kp
   replace h12f := h12f.kp g116.kp
   refine ec 96 (tequal_t h10a h10b h10c h10d h10e h10f h12a h12b h12c h12d h12e h12f (by omega) hb115) ?_
   rintro e122 w122 ⟨rfl, g122⟩
   refine ⟨_, rfl, ?_⟩
   replace hB := hB.trans g122
   simp only [p3, p4]
   refine sv 97 (.bool (vcmp A3 A4 A5 B3 B4 B5 == (0 : Int))) ?_
   simp only [p3, p4]
   have hb124 : (((vcmp A3 A4 A5 B3 B4 B5 == (0 : Int)) != (vcmp A3 A4 A5 B3 B4 B5 == (0 : Int)))) = false := (by simp)
   refine sw 98 (.bool false) rfl (RunV.bool (x := ((vcmp A3 A4 A5 B3 B4 B5 == (0 : Int)) != (vcmp A3 A4 A5 B3 B4 B5 == (0 : Int)))) (rvk (by kernel_rfl)) hb124) ?_
   simp only [p3, p4]
   refine sv 99 (.bool false) ?_
   simp only [p3, p4]
   replace L14 := L14.gr g122
   refine sw 100 (.agg #[t10_0, t10_1, t10_2, t10_3, t10_4, t10_5, t10_6, t10_7, t10_8, t10_9, t10_10, t10_11, t10_12, t10_13, t10_14, t10_15, t10_16, t10_17, t10_18, t10_19, t10_20, t10_21, t10_22, t10_23]) rfl (rl 35 0 [t10_0, t10_1, t10_2, t10_3, t10_4, t10_5, t10_6, t10_7, t10_8, t10_9, t10_10, t10_11, t10_12, t10_13, t10_14, t10_15, t10_16, t10_17, t10_18, t10_19, t10_20, t10_21, t10_22, t10_23] L14) ?_
   simp only [p3, p4]
   refine se ?_
   replace h10a := h10a.kp g122.kp
   replace h10b := h10b.kp g122.kp
   replace h10c := h10c.kp g122.kp
   replace h10d := h10d.kp g122.kp
   replace h10e := h10e.kp g122.kp
   replace h10f := h10f.kp g122.kp
   refine ec 101 (tzero_b h10a h10b h10c h10d h10e h10f (by omega) hz) ?_
   rintro e125 w125 ⟨rfl, g125⟩
   refine ⟨_, rfl, ?_⟩
   replace hB := hB.trans g125
   simp only [p3, p4]
   refine sv 102 (.bool false) ?_
   simp only [p3, p4]
   refine sv 103 (.bool false) ?_
   simp only [p3, p4]
   refine sv 104 (.bool false) ?_
   simp only [p3, p4]
   refine sq_nil ?_
   refine k121 _ _ ?_
   try clear k121 K121
   refine wp_cond_false rfl ?_
   refine wp_skip ?_
   refine k120 _ _ ?_
   try clear k120 K120
   refine chain_nil ?_
   replace h10a := h10a.kp g125.kp
   replace h10b := h10b.kp g125.kp
   replace h10c := h10c.kp g125.kp
   replace h10d := h10d.kp g125.kp
   replace h10e := h10e.kp g125.kp
   replace h10f := h10f.kp g125.kp
   replace L2 := L2.gr (g122.trans g125)
   replace L14 := L14.gr g125
   refine k110 ⟨List.toArray ?l126, []⟩ _ ?_
   exact ⟨(fun i => List.getD ?l126 i undef), rfl, h10a, h10b, h10c, h10d, h10e, h10f, L2, L14, hB⟩
  ·refine sw 83 (.bool false) rfl (RunV.bool (x := vcmp A0 A1 A2 B0 B1 B2 == (0 : Int)) (rvk (by kernel_rfl)) hb115) ?_
   simp only [p3, p4]
   refine ss 84 ?_
   simp only [p3, p4]
   refine ss 85 ?_
   simp only [p3, p4]
   refine ss 86 ?_
   simp only [p3, p4]
   refine ss 87 ?_
   simp only [p3, p4]
   refine ss 88 ?_
   simp only [p3, p4]
   refine sv 89 (.bool false) ?_
   simp only [p3, p4]
   refine sv 11 (.bool false) ?_
   simp only [p3, p4]
   refine sq_nil ?_
   refine k111 _ _ ?_
   try clear k111 K111
   refine chain_k (fun K127 k127 => ?_)
   refine rg [0, 1, 2, 3, 4] ?_
   refine sv 90 (.pointer (some ⟨b2, 0, none⟩)) ?_
   simp only [p3, p4]
   replace L2 := (st37.lc (st35.lc (L2.gr (gd21.trans (g22.trans (g23.trans (g26.trans (g27.trans (g28.trans (g29.trans g31)))))))) ne2_32) ne2_33).gr (gd75.trans (g77.trans (g81.trans (g85.trans (g89.trans (g93.trans (g95.trans (g98.trans (g102.trans (g104.trans (g107.trans g112)))))))))))
   refine sw 91 (.agg #[(.int .i8 (n0)), (.int .i8 (n1)), (.int .i8 (n2)), (.int .i8 (n3)), (.int .i8 (n4)), (.int .i8 (n5))]) rfl (rl 23 0 [(.int .i8 (n0)), (.int .i8 (n1)), (.int .i8 (n2)), (.int .i8 (n3)), (.int .i8 (n4)), (.int .i8 (n5))] L2) ?_
   simp only [p3, p4]
   refine sv 92 (.agg #[(.int .i8 0), (.int .i8 0), (.int .i8 0), (.int .i8 0), (.int .i8 0), (.int .i8 0)]) ?_
   simp only [p3, p4]
   refine sw 93 (.bool false) rfl (RunV.bool (x := (n0 == 0 && n1 == 0 && n2 == 0 && n3 == 0 && n4 == 0 && n5 == 0)) (rv_arreq 23 23 22 (k := .i8) _ _ [n0, n1, n2, n3, n4, n5] [0, 0, 0, 0, 0, 0] rfl rfl rfl (by kernel_rfl) (by kernel_rfl) (by kernel_rfl)) hzt) ?_
   simp only [p3, p4]
   refine sv 12 (.bool false) ?_
   simp only [p3, p4]
   refine sq_nil ?_
   refine k127 _ _ ?_
   try clear k127 K127
   refine chain_k (fun K128 k128 => ?_)
   refine wp_seq_k (fun K129 k129 => ?_)
   refine rg [0, 1, 2, 3, 4, 5, 6, 7, 8, 9, 10] ?_
   replace L14 := L14.gr g112
   refine sw 94 (.agg #[t10_0, t10_1, t10_2, t10_3, t10_4, t10_5, t10_6, t10_7, t10_8, t10_9, t10_10, t10_11, t10_12, t10_13, t10_14, t10_15, t10_16, t10_17, t10_18, t10_19, t10_20, t10_21, t10_22, t10_23]) rfl (rl 35 0 [t10_0, t10_1, t10_2, t10_3, t10_4, t10_5, t10_6, t10_7, t10_8, t10_9, t10_10, t10_11, t10_12, t10_13, t10_14, t10_15, t10_16, t10_17, t10_18, t10_19, t10_20, t10_21, t10_22, t10_23] L14) ?_
   simp only [p3, p4]
   replace L15 := L15.gr g112
   refine sw 95 (.agg #[t12_0, t12_1, t12_2, t12_3, t12_4, t12_5, t12_6, t12_7, t12_8, t12_9, t12_10, t12_11, t12_12, t12_13, t12_14, t12_15, t12_16, t12_17, t12_18, t12_19, t12_20, t12_21, t12_22, t12_23]) rfl (rl 35 0 [t12_0, t12_1, t12_2, t12_3, t12_4, t12_5, t12_6, t12_7, t12_8, t12_9, t12_10, t12_11, t12_12, t12_13, t12_14, t12_15, t12_16, t12_17, t12_18, t12_19, t12_20, t12_21, t12_22, t12_23] L15) ?_
   simp only [p3, p4]
   refine se ?_
   replace h10a := h10a.kp g112.kp
   replace h10b := h10b.kp g112.kp
   replace h10c := h10c.kp g112.kp
   have kq131 := g104.kp.trans (g107.kp.trans g112.kp)
   replace h10d := h10d.kp kq131
   replace h10e := h10e.kp kq131
   replace h10f := h10f.kp kq131
   replace h12a := h12a.kp g112.kp
   replace h12b := h12b.kp g112.kp
   replace h12c := h12c.kp g112.kp
   have kq132 := g85.kp.trans (g89.kp.trans (g93.kp.trans (g95.kp.trans (g98.kp.trans (g102.kp.trans (g104.kp.trans (g107.kp.trans g112.kp)))))))
   replace h12d := h12d.kp kq132
   replace h12e := h12e.kp kq132
   replace h12f := h12f.kp kq132
   refine ec 96 (tequal_f h10a h10b h10c h10d h10e h10f h12a h12b h12c h12d h12e h12f (by omega) hb115) ?_
   rintro e130 w130 ⟨rfl, g130⟩
   refine ⟨_, rfl, ?_⟩
   replace hB := hB.trans g130
   simp only [p3, p4]
   refine sv 97 (.bool false) ?_
   simp only [p3, p4]
   refine sv 98 (.bool false) ?_
   simp only [p3, p4]
   refine sv 99 (.bool false) ?_
   simp only [p3, p4]
   replace L14 := L14.gr g130
   refine sw 100 (.agg #[t10_0, t10_1, t10_2, t10_3, t10_4, t10_5, t10_6, t10_7, t10_8, t10_9, t10_10, t10_11, t10_12, t10_13, t10_14, t10_15, t10_16, t10_17, t10_18, t10_19, t10_20, t10_21, t10_22, t10_23]) rfl (rl 35 0 [t10_0, t10_1, t10_2, t10_3, t10_4, t10_5, t10_6, t10_7, t10_8, t10_9, t10_10, t10_11, t10_12, t10_13, t10_14, t10_15, t10_16, t10_17, t10_18, t10_19, t10_20, t10_21, t10_22, t10_23] L14) ?_
   simp only [p3, p4]
   refine se ?_
   replace h10a := h10a.kp g130.kp
   replace h10b := h10b.kp g130.kp
   replace h10c := h10c.kp g130.kp
   replace h10d := h10d.kp g130.kp
   replace h10e := h10e.kp g130.kp
   replace h10f := h10f.kp g130.kp
   refine ec 101 (tzero_b h10a h10b h10c h10d h10e h10f (by omega) hz) ?_
   rintro e133 w133 ⟨rfl, g133⟩
   refine ⟨_, rfl, ?_⟩
   replace hB := hB.trans g133
   simp only [p3, p4]
   refine sv 102 (.bool false) ?_
   simp only [p3, p4]
   refine sv 103 (.bool false) ?_
   simp only [p3, p4]
   refine sv 104 (.bool false) ?_
   simp only [p3, p4]
   refine sq_nil ?_
   refine k129 _ _ ?_
   try clear k129 K129
   refine wp_cond_false rfl ?_
   refine wp_skip ?_
   refine k128 _ _ ?_
   try clear k128 K128
   refine chain_nil ?_
   replace h10a := h10a.kp g133.kp
   replace h10b := h10b.kp g133.kp
   replace h10c := h10c.kp g133.kp
   replace h10d := h10d.kp g133.kp
   replace h10e := h10e.kp g133.kp
   replace h10f := h10f.kp g133.kp
   replace L2 := L2.gr (g130.trans g133)
   replace L14 := L14.gr g133
   refine k110 ⟨List.toArray ?l134, []⟩ _ ?_
   exact ⟨(fun i => List.getD ?l134 i undef), rfl, h10a, h10b, h10c, h10d, h10e, h10f, L2, L14, hB⟩
 rintro a110 w110 ⟨u110, rfl, h10a, h10b, h10c, h10d, h10e, h10f, L2, L14, hB⟩
 refine wp_seq_k (fun K135 k135 => ?_)
 refine rg [0, 1, 2, 3, 4, 5, 6, 7] ?_
 refine sw 106 (.agg #[t10_0, t10_1, t10_2, t10_3, t10_4, t10_5, t10_6, t10_7, t10_8, t10_9, t10_10, t10_11, t10_12, t10_13, t10_14, t10_15, t10_16, t10_17, t10_18, t10_19, t10_20, t10_21, t10_22, t10_23]) rfl (rl 35 0 [t10_0, t10_1, t10_2, t10_3, t10_4, t10_5, t10_6, t10_7, t10_8, t10_9, t10_10, t10_11, t10_12, t10_13, t10_14, t10_15, t10_16, t10_17, t10_18, t10_19, t10_20, t10_21, t10_22, t10_23] L14) ?_
 simp only [p3, p4]
 refine se ?_
 refine ec 107 (tprim_ok h10a h10b h10c h10d h10e h10f (by omega) hz hps) ?_
 rintro e136 w136 ⟨⟨t136_0, t136_1, t136_2, t136_3, t136_4, t136_5, t136_6, t136_7, t136_8, t136_9, t136_10, t136_11, t136_12, t136_13, t136_14, t136_15, t136_16, t136_17, t136_18, t136_19, t136_20, t136_21, t136_22, t136_23, rfl, h136a, h136b, h136c, h136d, h136e, h136f⟩, g136⟩
 refine ⟨_, rfl, ?_⟩
 replace hB := hB.trans g136
 rw [sc0] at h136a
 replace h136a := h136a.small (by omega) (by omega)
 rw [sc1] at h136b
 replace h136b := h136b.small (by omega) (by omega)
 rw [sc2] at h136c
 replace h136c := h136c.small (by omega) (by omega)
 rw [sc3] at h136d
 replace h136d := h136d.small (by omega) (by omega)
 rw [sc4] at h136e
 replace h136e := h136e.small (by omega) (by omega)
 rw [sc5] at h136f
 replace h136f := h136f.small (by omega) (by omega)
 simp only [p3, p4]
 refine sv 105 (.tuple #[(.agg #[t136_0, t136_1, t136_2, t136_3, t136_4, t136_5, t136_6, t136_7, t136_8, t136_9, t136_10, t136_11, t136_12, t136_13, t136_14, t136_15, t136_16, t136_17, t136_18, t136_19, t136_20, t136_21, t136_22, t136_23]), (.int .i64 0)]) ?_
 simp only [p3, p4]
 refine sv 108 (.agg #[t136_0, t136_1, t136_2, t136_3, t136_4, t136_5, t136_6, t136_7, t136_8, t136_9, t136_10, t136_11, t136_12, t136_13, t136_14, t136_15, t136_16, t136_17, t136_18, t136_19, t136_20, t136_21, t136_22, t136_23]) ?_
 simp only [p3, p4]
 refine sv 109 (.int .i64 0) ?_
 simp only [p3, p4]
 refine se ?_
 refine ea 35 #[(.bool false), (.slice none 0 0), (.bool false), (.slice none 0 0), (.bool false), (.slice none 0 0), (.bool false), (.slice none 0 0), (.bool false), (.slice none 0 0), (.bool false), (.slice none 0 0), (.bool false), (.slice none 0 0), (.bool false), (.slice none 0 0), (.bool false), (.slice none 0 0), (.bool false), (.slice none 0 0), (.bool false), (.slice none 0 0), (.bool false), (.slice none 0 0)] 13 hB fun b137 w137 g137 L137 o137 q137 hB => ?_
 replace L2 := L2.gr g136
 have ne2_137 := L2.ne o137
 simp only [p3, p4]
 refine se ?_
 refine es 35 0 (.agg #[t136_0, t136_1, t136_2, t136_3, t136_4, t136_5, t136_6, t136_7, t136_8, t136_9, t136_10, t136_11, t136_12, t136_13, t136_14, t136_15, t136_16, t136_17, t136_18, t136_19, t136_20, t136_21, t136_22, t136_23]) [t136_0, t136_1, t136_2, t136_3, t136_4, t136_5, t136_6, t136_7, t136_8, t136_9, t136_10, t136_11, t136_12, t136_13, t136_14, t136_15, t136_16, t136_17, t136_18, t136_19, t136_20, t136_21, t136_22, t136_23] #[t136_0, t136_1, t136_2, t136_3, t136_4, t136_5, t136_6, t136_7, t136_8, t136_9, t136_10, t136_11, t136_12, t136_13, t136_14, t136_15, t136_16, t136_17, t136_18, t136_19, t136_20, t136_21, t136_22, t136_23] L137 hB q137 ⟨h136a.one0, h136a.one1, h136a.one2, h136a.one3, h136b.one0, h136b.one1, h136b.one2, h136b.one3, h136c.one0, h136c.one1, h136c.one2, h136c.one3, h136d.one0, h136d.one1, h136d.one2, h136d.one3, h136e.one0, h136e.one1, h136e.one2, h136e.one3, h136f.one0, h136f.one1, h136f.one2, h136f.one3, trivial⟩ fun w138 st138 kp138 L137 hB => ?_
 refine sv 14 (.int .i64 0) ?_
 simp only [p3, p4]
 refine sq_nil ?_
 refine k135 _ _ ?_
 try clear k135 K135
 refine wp_seq_k (fun K139 k139 => ?_)
 refine wp_seq_k (fun K140 k140 => ?_)
 refine rg [0] ?_
 refine sv 110 (.bool false) ?_
 simp only [p3, p4]
 refine sq_nil ?_
 refine k140 _ _ ?_
 try clear k140 K140
 refine wp_cond_false rfl ?_
 refine wp_skip ?_
 refine k139 _ _ ?_
 try clear k139 K139
 refine wp_seq_k (fun K141 k141 => ?_)
 refine rg [0] ?_
 refine sv 15 (.int .i64 0) ?_
 simp only [p3, p4]
 refine sq_nil ?_
 refine k141 _ _ ?_
 try clear k141 K141
 refine wp_seq_k (fun K142 k142 => ?_)
 refine wp_seq_k (fun K143 k143 => ?_)
 refine rg [0] ?_
 refine sv 16 (.int .i64 0) ?_
 simp only [p3, p4]
 refine sq_nil ?_
 refine k143 _ _ ?_
 try clear k143 K143
 refine wp_block ?_
 refine wp_loop_rounds 8 ?_
 show Code.wp _ _ _ _ _
 refine wp_seq_k (fun K144 k144 => ?_)
 refine wp_seq_k (fun K145 k145 => ?_)
 refine rg [0, 1] ?_
 refine sv 117 (.int .i64 0) ?_
 simp only [p3, p4]
 refine sv 118 (.bool true) ?_
 simp only [p3, p4]
 refine sq_nil ?_
 refine k145 _ _ ?_
 try clear k145 K145
 refine wp_cond_true rfl ?_
 refine wp_skip ?_
 refine k144 _ _ ?_
 try clear k144 K144
 refine wp_seq_k (fun K146 k146 => ?_)
 refine wp_block ?_
 refine wp_seq_k (fun K147 k147 => ?_)
 refine rg [0, 1, 2, 3, 4, 5] ?_
 refine sv 121 (.int .i64 0) ?_
 simp only [p3, p4]
 refine sv 122 (.pointer (some ⟨b2, 0, none⟩)) ?_
 simp only [p3, p4]
 refine sv 123 (.pointer (some ⟨b2, 0, none⟩)) ?_
 simp only [p3, p4]
 replace L2 := st138.lc (L2.gr g137) ne2_137
 refine sw 124 (.int .i8 (n0)) rfl (rk 22 0 L2) ?_
 simp only [p3, p4]
 refine sw 125 (.int .i64 (n0)) rfl (RunV.int (x := IntKind.i64.wrap (n0)) (y := n0) (rvk (by kernel_rfl)) (by first | rfl | (rw [IntKind.wrap_i64]; omega))) ?_
 simp only [p3, p4]
 refine sv 17 (.int .i64 (n0)) ?_
 simp only [p3, p4]
 refine sq_nil ?_
 refine k147 _ _ ?_
 try clear k147 K147
 refine wp_seq_cut (fun a w' => ∃ (vz149 : Int) (u148 : Nat → Value), a = ⟨[(u148 0), (u148 1), (.int .i8 (ff)), (.pointer (some ⟨b2, 0, none⟩)), (.pointer (some ⟨b3, 0, none⟩)), undef, (u110 6), (.pointer (some ⟨b14, 0, none⟩)), (.pointer (some ⟨b15, 0, none⟩)), (.pointer (some ⟨b32, 0, none⟩)), (.pointer (some ⟨b33, 0, none⟩)), (u110 11), (.bool false), (.pointer (some ⟨b137, 0, none⟩)), (.int .i64 0), (.int .i64 0), (.int .i64 0), (.int .i64 (vz149)), undef, undef, (u148 20), (.bool false), (u148 22), (u148 23), (u148 24), (u148 25), (u148 26), (u148 27), (u148 28), (u148 29), (u148 30), (u148 31), (u148 32), (u148 33), (u148 34), (u148 35), (u148 36), (u148 37), (u148 38), (u148 39), (u148 40), (u148 41), (u148 42), (u148 43), (u148 44), (u148 45), (u148 46), (u148 47), (u148 48), (u148 49), (u148 50), (u148 51), (u148 52), (u148 53), (u148 54), (u148 55), (u148 56), (u148 57), (u148 58), (u148 59), (u148 60), (u148 61), (u148 62), (u148 63), (u148 64), (u148 65), (u148 66), (u148 67), (u148 68), (u148 69), (u148 70), (u148 71), (u148 72), (u148 73), (u148 74), (u148 75), (u148 76), (.bool false), (u148 78), (u148 79), (u148 80), (u148 81), (u148 82), (u148 83), (u148 84), (u148 85), (u148 86), (u148 87), (u148 88), (u148 89), (u148 90), (u148 91), (u148 92), (u148 93), (u148 94), (u148 95), (u148 96), (u148 97), (u148 98), (u148 99), (u148 100), (u148 101), (u148 102), (u148 103), (u110 104), (u148 105), (u148 106), (u148 107), (u148 108), (u148 109), (.bool false), undef, undef, undef, undef, undef, undef, (u148 117), (.bool true), undef, undef, (u148 121), (u148 122), (u148 123), (u148 124), (u148 125), (u148 126), (u148 127), (u148 128), (u148 129), undef, undef, undef, undef, undef, undef, undef, undef, undef, undef, undef, undef, undef, undef, undef, undef, undef, undef, undef, undef, undef, undef, undef, undef, undef, undef, undef, undef, undef, undef].toArray, []⟩ ∧ ((vz149 = n0 ∨ vz149 = -n0) ∧ 0 ≤ vz149 ∧ vz149 ≤ 128) ∧ IsRat w' 64 t136_0 t136_1 t136_2 t136_3 (((n0 / GG : Int) : Rat)) ∧ IsRat w' 64 t136_4 t136_5 t136_6 t136_7 (((n1 / GG : Int) : Rat)) ∧ IsRat w' 64 t136_8 t136_9 t136_10 t136_11 (((n2 / GG : Int) : Rat)) ∧ IsRat w' 64 t136_12 t136_13 t136_14 t136_15 (((n3 / GG : Int) : Rat)) ∧ IsRat w' 64 t136_16 t136_17 t136_18 t136_19 (((n4 / GG : Int) : Rat)) ∧ IsRat w' 64 t136_20 t136_21 t136_22 t136_23 (((n5 / GG : Int) : Rat)) ∧ Lc w' b2 #[(.int .i8 (n0)), (.int .i8 (n1)), (.int .i8 (n2)), (.int .i8 (n3)), (.int .i8 (n4)), (.int .i8 (n5)), (.int .u8 (dd))] 25 ∧ Lc w' b137 #[t136_0, t136_1, t136_2, t136_3, t136_4, t136_5, t136_6, t136_7, t136_8, t136_9, t136_10, t136_11, t136_12, t136_13, t136_14, t136_15, t136_16, t136_17, t136_18, t136_19, t136_20, t136_21, t136_22, t136_23] 35 ∧ Gr w w') (fun K148 k148 => ?_) ?_
 ·refine wp_seq_k (fun K150 k150 => ?_)
  refine rg [0, 1] ?_
  refine sv 126 (.int .i64 (n0)) ?_
  simp only [p3, p4]
  refine sv 127 (.bool (decide (n0 < (0 : Int)))) ?_
  simp only [p3, p4]
  refine sq_nil ?_
  refine k150 _ _ ?_
  try clear k150 K150
  refine wp_cond_split (t := decide (n0 < (0 : Int))) rfl (fun hb151 => ?_) (fun hb151 => ?_)
  ·have hq151 := of_decide_eq_true hb151
   refine rg [0, 1, 2] ?_
   refine sv 128 (.int .i64 (n0)) ?_
   simp only [p3, p4]
   refine sw 129 (.int .i64 ((0 - n0))) rfl (RunV.int (x := IntKind.i64.wrap ((0 - n0))) (y := (0 - n0)) (rvk (by kernel_rfl)) (by first | rfl | (rw [IntKind.wrap_i64]; omega))) ?_
   simp only [p3, p4]
   refine sv 17 (.int .i64 ((0 - n0))) ?_
   simp only [p3, p4]
   refine sq_nil ?_
   have kq152 := g137.kp.trans kp138
   replace h136a := h136a.kp kq152
   replace h136b := h136b.kp kq152
   replace h136c := h136c.kp kq152
   replace h136d := h136d.kp kq152
   replace h136e := h136e.kp kq152
   replace h136f := h136f.kp kq152
   refine k148 ⟨List.toArray ?l153, []⟩ _ ?_
   exact ⟨_, (fun i => List.getD ?l153 i undef), rfl, ⟨by omega, by omega, by omega⟩, h136a, h136b, h136c, h136d, h136e, h136f, L2, L137, hB⟩
  ·have hq151 := of_decide_eq_false hb151
   refine wp_skip ?_
   have kq154 := g137.kp.trans kp138
   replace h136a := h136a.kp kq154
   replace h136b := h136b.kp kq154
   replace h136c := h136c.kp kq154
   replace h136d := h136d.kp kq154
   replace h136e := h136e.kp kq154
   replace h136f := h136f.kp kq154
   refine k148 ⟨List.toArray ?l155, []⟩ _ ?_
   exact ⟨_, (fun i => List.getD ?l155 i undef), rfl, ⟨by omega, by omega, by omega⟩, h136a, h136b, h136c, h136d, h136e, h136f, L2, L137, hB⟩
 rintro a148 w148 ⟨vz149, u148, rfl, hv149, h136a, h136b, h136c, h136d, h136e, h136f, L2, L137, hB⟩
 refine wp_block ?_
 refine wp_loop_inv (a := ⟨List.toArray ?l156, []⟩) (fun n a w' => ∃ (gz157 : Int) (nz157 : Int) (u156 : Nat → Value), nz157.toNat = n ∧ a = ⟨[(u156 0), (u156 1), (.int .i8 (ff)), (.pointer (some ⟨b2, 0, none⟩)), (.pointer (some ⟨b3, 0, none⟩)), undef, (u110 6), (.pointer (some ⟨b14, 0, none⟩)), (.pointer (some ⟨b15, 0, none⟩)), (.pointer (some ⟨b32, 0, none⟩)), (.pointer (some ⟨b33, 0, none⟩)), (u110 11), (.bool false), (.pointer (some ⟨b137, 0, none⟩)), (.int .i64 0), (.int .i64 (gz157)), (.int .i64 0), (.int .i64 (nz157)), undef, undef, (u156 20), (.bool false), (u156 22), (u156 23), (u156 24), (u156 25), (u156 26), (u156 27), (u156 28), (u156 29), (u156 30), (u156 31), (u156 32), (u156 33), (u156 34), (u156 35), (u156 36), (u156 37), (u156 38), (u156 39), (u156 40), (u156 41), (u156 42), (u156 43), (u156 44), (u156 45), (u156 46), (u156 47), (u156 48), (u156 49), (u156 50), (u156 51), (u156 52), (u156 53), (u156 54), (u156 55), (u156 56), (u156 57), (u156 58), (u156 59), (u156 60), (u156 61), (u156 62), (u156 63), (u156 64), (u156 65), (u156 66), (u156 67), (u156 68), (u156 69), (u156 70), (u156 71), (u156 72), (u156 73), (u156 74), (u156 75), (u156 76), (.bool false), (u156 78), (u156 79), (u156 80), (u156 81), (u156 82), (u156 83), (u156 84), (u156 85), (u156 86), (u156 87), (u156 88), (u156 89), (u156 90), (u156 91), (u156 92), (u156 93), (u156 94), (u156 95), (u156 96), (u156 97), (u156 98), (u156 99), (u156 100), (u156 101), (u156 102), (u156 103), (u110 104), (u156 105), (u156 106), (u156 107), (u156 108), (u156 109), (.bool false), undef, undef, undef, undef, undef, undef, (u156 117), (.bool true), undef, undef, (u156 121), (u156 122), (u156 123), (u156 124), (u156 125), (u156 126), (u148 127), (u156 128), (u156 129), (u156 130), (u156 131), (u156 132), (u156 133), (u156 134), (u156 135), undef, undef, undef, undef, undef, undef, undef, undef, undef, undef, undef, undef, undef, undef, undef, undef, undef, undef, undef, undef, undef, undef, undef, undef].toArray, []⟩ ∧ Int.gcd gz157 nz157 = Int.gcd (0) vz149 ∧ 0 ≤ gz157 ∧ 0 ≤ nz157 ∧ IsRat w' 64 t136_0 t136_1 t136_2 t136_3 (((n0 / GG : Int) : Rat)) ∧ IsRat w' 64 t136_4 t136_5 t136_6 t136_7 (((n1 / GG : Int) : Rat)) ∧ IsRat w' 64 t136_8 t136_9 t136_10 t136_11 (((n2 / GG : Int) : Rat)) ∧ IsRat w' 64 t136_12 t136_13 t136_14 t136_15 (((n3 / GG : Int) : Rat)) ∧ IsRat w' 64 t136_16 t136_17 t136_18 t136_19 (((n4 / GG : Int) : Rat)) ∧ IsRat w' 64 t136_20 t136_21 t136_22 t136_23 (((n5 / GG : Int) : Rat)) ∧ Lc w' b2 #[(.int .i8 (n0)), (.int .i8 (n1)), (.int .i8 (n2)), (.int .i8 (n3)), (.int .i8 (n4)), (.int .i8 (n5)), (.int .u8 (dd))] 25 ∧ Lc w' b137 #[t136_0, t136_1, t136_2, t136_3, t136_4, t136_5, t136_6, t136_7, t136_8, t136_9, t136_10, t136_11, t136_12, t136_13, t136_14, t136_15, t136_16, t136_17, t136_18, t136_19, t136_20, t136_21, t136_22, t136_23] 35 ∧ Gr w w') ((vz149 : Int).toNat) ?_ ?_
 ·exact ⟨_, _, (fun i => List.getD ?l156 i undef), rfl, rfl, rfl, (by omega), (by omega), h136a, h136b, h136c, h136d, h136e, h136f, L2, L137, hB⟩
 rintro n156 a156 w156 ⟨gz157, nz157, u156, rfl, rfl, hz157, ha157, hc157, h136a, h136b, h136c, h136d, h136e, h136f, L2, L137, hB⟩ K156 k156
 refine wp_seq_k (fun K158 k158 => ?_)
 refine wp_seq_k (fun K159 k159 => ?_)
 refine rg [0, 1] ?_
 refine sv 130 (.int .i64 (nz157)) ?_
 simp only [p3, p4]
 refine sv 131 (.bool ((nz157 != (0 : Int)))) ?_
 simp only [p3, p4]
 refine sq_nil ?_
 refine k159 _ _ ?_
 try clear k159 K159
 refine wp_cond_split (t := (nz157 != (0 : Int))) rfl (fun hb160 => ?_) (fun hb160 => ?_)
 ·have hp157 : 0 < nz157 := by have h0 : ¬ nz157 = 0 := (by simpa using hb160); omega
  refine wp_skip ?_
  refine k158 _ _ ?_
  try clear k158 K158
  refine wp_block ?_
  have gd162 := Gr.drew w156
  replace hB := hB.trans gd162
  refine wp_region_ord (fun _ => True) [(true, 0), (true, 1), (true, 2), (true, 3), (true, 4), (true, 5)] (by kernel_rfl) (by kernel_rfl) (by kernel_rfl) (by decide) (fun _ _ _ _ _ h => h) trivial ?_
  refine ov 132 (.int .i64 (nz157)) ?_
  simp only [p3, p4]
  refine ov 133 (.int .i64 (gz157)) ?_
  simp only [p3, p4]
  refine ov 134 (.int .i64 (nz157)) ?_
  simp only [p3, p4]
  refine ow 135 (.int .i64 ((gz157 % nz157))) rfl (fun w' hS => (rv_rem 3 3 _ _ gz157 nz157 rfl rfl rfl ha157 hp157)) ?_
  simp only [p3, p4]
  refine ov 15 (.int .i64 (nz157)) ?_
  simp only [p3, p4]
  refine ov 17 (.int .i64 ((gz157 % nz157))) ?_
  simp only [p3, p4]
  refine ord_nil ?_
  replace h136a := h136a.kp gd162.kp
  replace h136b := h136b.kp gd162.kp
  replace h136c := h136c.kp gd162.kp
  replace h136d := h136d.kp gd162.kp
  replace h136e := h136e.kp gd162.kp
  replace h136f := h136f.kp gd162.kp
  replace L2 := L2.gr gd162
  replace L137 := L137.gr gd162
  refine k156 ((gz157 % nz157).toNat) ⟨List.toArray ?l163, []⟩ _ (by have := Int.emod_lt_of_pos gz157 hp157; omega) ?_
  exact ⟨_, _, (fun i => List.getD ?l163 i undef), rfl, rfl, (by rw [gcd_stepZ ha157 hp157]; exact hz157), (by omega), (Int.emod_nonneg _ (by omega)), h136a, h136b, h136c, h136d, h136e, h136f, L2, L137, hB⟩
 ·have hg157 := gcd_endZ hz157 hb160 ha157 hv149.1
  refine wp_exit ?_
  simp only [Exit.then, Exit.inBlock, ↓reduceIte]
  refine k146 _ _ ?_
  try clear k146 K146
  refine rg [0, 1, 2] ?_
  refine sv 119 (.int .i64 0) ?_
  simp only [p3, p4]
  refine sv 120 (.int .i64 1) ?_
  simp only [p3, p4]
  refine sv 16 (.int .i64 1) ?_
  simp only [p3, p4]
  refine sq_nil ?_
  show Code.rounds _ _ _ _ _ _
  show Code.wp _ _ _ _ _
  refine wp_seq_k (fun K164 k164 => ?_)
  refine wp_seq_k (fun K165 k165 => ?_)
  refine rg [0, 1] ?_
  refine sv 117 (.int .i64 1) ?_
  simp only [p3, p4]
  refine sv 118 (.bool true) ?_
  simp only [p3, p4]
  refine sq_nil ?_
  refine k165 _ _ ?_
  try clear k165 K165
  refine wp_cond_true rfl ?_
  refine wp_skip ?_
  refine k164 _ _ ?_
  try clear k164 K164
  refine wp_seq_k (fun K166 k166 => ?_)
  refine wp_block ?_
  refine wp_seq_k (fun K167 k167 => ?_)
  refine rg [0, 1, 2, 3, 4, 5] ?_
  refine sv 121 (.int .i64 1) ?_
  simp only [p3, p4]
  refine sv 122 (.pointer (some ⟨b2, 0, none⟩)) ?_
  simp only [p3, p4]
  refine sv 123 (.pointer (some ⟨b2, 1, none⟩)) ?_
  simp only [p3, p4]
  refine sw 124 (.int .i8 (n1)) rfl (rk 22 1 L2) ?_
  simp only [p3, p4]
  refine sw 125 (.int .i64 (n1)) rfl (RunV.int (x := IntKind.i64.wrap (n1)) (y := n1) (rvk (by kernel_rfl)) (by first | rfl | (rw [IntKind.wrap_i64]; omega))) ?_
  simp only [p3, p4]
  refine sv 17 (.int .i64 (n1)) ?_
  simp only [p3, p4]
  refine sq_nil ?_
  refine k167 _ _ ?_
  try clear k167 K167
  refine wp_seq_cut (fun a w' => ∃ (vz169 : Int) (u168 : Nat → Value), a = ⟨[(u168 0), (u168 1), (.int .i8 (ff)), (.pointer (some ⟨b2, 0, none⟩)), (.pointer (some ⟨b3, 0, none⟩)), undef, (u110 6), (.pointer (some ⟨b14, 0, none⟩)), (.pointer (some ⟨b15, 0, none⟩)), (.pointer (some ⟨b32, 0, none⟩)), (.pointer (some ⟨b33, 0, none⟩)), (u110 11), (.bool false), (.pointer (some ⟨b137, 0, none⟩)), (.int .i64 0), (.int .i64 (gz157)), (.int .i64 1), (.int .i64 (vz169)), undef, undef, (u168 20), (.bool false), (u168 22), (u168 23), (u168 24), (u168 25), (u168 26), (u168 27), (u168 28), (u168 29), (u168 30), (u168 31), (u168 32), (u168 33), (u168 34), (u168 35), (u168 36), (u168 37), (u168 38), (u168 39), (u168 40), (u168 41), (u168 42), (u168 43), (u168 44), (u168 45), (u168 46), (u168 47), (u168 48), (u168 49), (u168 50), (u168 51), (u168 52), (u168 53), (u168 54), (u168 55), (u168 56), (u168 57), (u168 58), (u168 59), (u168 60), (u168 61), (u168 62), (u168 63), (u168 64), (u168 65), (u168 66), (u168 67), (u168 68), (u168 69), (u168 70), (u168 71), (u168 72), (u168 73), (u168 74), (u168 75), (u168 76), (.bool false), (u168 78), (u168 79), (u168 80), (u168 81), (u168 82), (u168 83), (u168 84), (u168 85), (u168 86), (u168 87), (u168 88), (u168 89), (u168 90), (u168 91), (u168 92), (u168 93), (u168 94), (u168 95), (u168 96), (u168 97), (u168 98), (u168 99), (u168 100), (u168 101), (u168 102), (u168 103), (u110 104), (u168 105), (u168 106), (u168 107), (u168 108), (u168 109), (.bool false), undef, undef, undef, undef, undef, undef, (u168 117), (.bool true), (u168 119), (u168 120), (u168 121), (u168 122), (u168 123), (u168 124), (u168 125), (u168 126), (u168 127), (u168 128), (u168 129), (u168 130), (.bool ((nz157 != (0 : Int)))), (u168 132), (u168 133), (u168 134), (u168 135), undef, undef, undef, undef, undef, undef, undef, undef, undef, undef, undef, undef, undef, undef, undef, undef, undef, undef, undef, undef, undef, undef, undef, undef].toArray, []⟩ ∧ ((vz169 = n1 ∨ vz169 = -n1) ∧ 0 ≤ vz169 ∧ vz169 ≤ 128) ∧ IsRat w' 64 t136_0 t136_1 t136_2 t136_3 (((n0 / GG : Int) : Rat)) ∧ IsRat w' 64 t136_4 t136_5 t136_6 t136_7 (((n1 / GG : Int) : Rat)) ∧ IsRat w' 64 t136_8 t136_9 t136_10 t136_11 (((n2 / GG : Int) : Rat)) ∧ IsRat w' 64 t136_12 t136_13 t136_14 t136_15 (((n3 / GG : Int) : Rat)) ∧ IsRat w' 64 t136_16 t136_17 t136_18 t136_19 (((n4 / GG : Int) : Rat)) ∧ IsRat w' 64 t136_20 t136_21 t136_22 t136_23 (((n5 / GG : Int) : Rat)) ∧ Lc w' b2 #[(.int .i8 (n0)), (.int .i8 (n1)), (.int .i8 (n2)), (.int .i8 (n3)), (.int .i8 (n4)), (.int .i8 (n5)), (.int .u8 (dd))] 25 ∧ Lc w' b137 #[t136_0, t136_1, t136_2, t136_3, t136_4, t136_5, t136_6, t136_7, t136_8, t136_9, t136_10, t136_11, t136_12, t136_13, t136_14, t136_15, t136_16, t136_17, t136_18, t136_19, t136_20, t136_21, t136_22, t136_23] 35 ∧ Gr w w') (fun K168 k168 => ?_) ?_
  ·refine wp_seq_k (fun K170 k170 => ?_)
   refine rg [0, 1] ?_
   refine sv 126 (.int .i64 (n1)) ?_
   simp only [p3, p4]
   refine sv 127 (.bool (decide (n1 < (0 : Int)))) ?_
   simp only [p3, p4]
   refine sq_nil ?_
   refine k170 _ _ ?_
   try clear k170 K170
   refine wp_cond_split (t := decide (n1 < (0 : Int))) rfl (fun hb171 => ?_) (fun hb171 => ?_)
   ·have hq171 := of_decide_eq_true hb171
    refine rg [0, 1, 2] ?_
    refine sv 128 (.int .i64 (n1)) ?_
    simp only [p3, p4]
    refine sw 129 (.int .i64 ((0 - n1))) rfl (RunV.int (x := IntKind.i64.wrap ((0 - n1))) (y := (0 - n1)) (rvk (by kernel_rfl)) (by first | rfl | (rw [IntKind.wrap_i64]; omega))) ?_
    simp only [p3, p4]
    refine sv 17 (.int .i64 ((0 - n1))) ?_
    simp only [p3, p4]
    refine sq_nil ?_
    refine k168 ⟨List.toArray ?l172, []⟩ _ ?_
    exact ⟨_, (fun i => List.getD ?l172 i undef), rfl, ⟨by omega, by omega, by omega⟩, h136a, h136b, h136c, h136d, h136e, h136f, L2, L137, hB⟩
   ·have hq171 := of_decide_eq_false hb171
    refine wp_skip ?_
    refine k168 ⟨List.toArray ?l173, []⟩ _ ?_
    exact ⟨_, (fun i => List.getD ?l173 i undef), rfl, ⟨by omega, by omega, by omega⟩, h136a, h136b, h136c, h136d, h136e, h136f, L2, L137, hB⟩
  rintro a168 w168 ⟨vz169, u168, rfl, hv169, h136a, h136b, h136c, h136d, h136e, h136f, L2, L137, hB⟩
  refine wp_block ?_
  refine wp_loop_inv (a := ⟨List.toArray ?l174, []⟩) (fun n a w' => ∃ (gz175 : Int) (nz175 : Int) (u174 : Nat → Value), nz175.toNat = n ∧ a = ⟨[(u174 0), (u174 1), (.int .i8 (ff)), (.pointer (some ⟨b2, 0, none⟩)), (.pointer (some ⟨b3, 0, none⟩)), undef, (u110 6), (.pointer (some ⟨b14, 0, none⟩)), (.pointer (some ⟨b15, 0, none⟩)), (.pointer (some ⟨b32, 0, none⟩)), (.pointer (some ⟨b33, 0, none⟩)), (u110 11), (.bool false), (.pointer (some ⟨b137, 0, none⟩)), (.int .i64 0), (.int .i64 (gz175)), (.int .i64 1), (.int .i64 (nz175)), undef, undef, (u174 20), (.bool false), (u174 22), (u174 23), (u174 24), (u174 25), (u174 26), (u174 27), (u174 28), (u174 29), (u174 30), (u174 31), (u174 32), (u174 33), (u174 34), (u174 35), (u174 36), (u174 37), (u174 38), (u174 39), (u174 40), (u174 41), (u174 42), (u174 43), (u174 44), (u174 45), (u174 46), (u174 47), (u174 48), (u174 49), (u174 50), (u174 51), (u174 52), (u174 53), (u174 54), (u174 55), (u174 56), (u174 57), (u174 58), (u174 59), (u174 60), (u174 61), (u174 62), (u174 63), (u174 64), (u174 65), (u174 66), (u174 67), (u174 68), (u174 69), (u174 70), (u174 71), (u174 72), (u174 73), (u174 74), (u174 75), (u174 76), (.bool false), (u174 78), (u174 79), (u174 80), (u174 81), (u174 82), (u174 83), (u174 84), (u174 85), (u174 86), (u174 87), (u174 88), (u174 89), (u174 90), (u174 91), (u174 92), (u174 93), (u174 94), (u174 95), (u174 96), (u174 97), (u174 98), (u174 99), (u174 100), (u174 101), (u174 102), (u174 103), (u110 104), (u174 105), (u174 106), (u174 107), (u174 108), (u174 109), (.bool false), undef, undef, undef, undef, undef, undef, (u174 117), (.bool true), (u174 119), (u174 120), (u174 121), (u174 122), (u174 123), (u174 124), (u174 125), (u174 126), (u168 127), (u174 128), (u174 129), (u174 130), (u174 131), (u174 132), (u174 133), (u174 134), (u174 135), undef, undef, undef, undef, undef, undef, undef, undef, undef, undef, undef, undef, undef, undef, undef, undef, undef, undef, undef, undef, undef, undef, undef, undef].toArray, []⟩ ∧ Int.gcd gz175 nz175 = Int.gcd (gz157) vz169 ∧ 0 ≤ gz175 ∧ 0 ≤ nz175 ∧ IsRat w' 64 t136_0 t136_1 t136_2 t136_3 (((n0 / GG : Int) : Rat)) ∧ IsRat w' 64 t136_4 t136_5 t136_6 t136_7 (((n1 / GG : Int) : Rat)) ∧ IsRat w' 64 t136_8 t136_9 t136_10 t136_11 (((n2 / GG : Int) : Rat)) ∧ IsRat w' 64 t136_12 t136_13 t136_14 t136_15 (((n3 / GG : Int) : Rat)) ∧ IsRat w' 64 t136_16 t136_17 t136_18 t136_19 (((n4 / GG : Int) : Rat)) ∧ IsRat w' 64 t136_20 t136_21 t136_22 t136_23 (((n5 / GG : Int) : Rat)) ∧ Lc w' b2 #[(.int .i8 (n0)), (.int .i8 (n1)), (.int .i8 (n2)), (.int .i8 (n3)), (.int .i8 (n4)), (.int .i8 (n5)), (.int .u8 (dd))] 25 ∧ Lc w' b137 #[t136_0, t136_1, t136_2, t136_3, t136_4, t136_5, t136_6, t136_7, t136_8, t136_9, t136_10, t136_11, t136_12, t136_13, t136_14, t136_15, t136_16, t136_17, t136_18, t136_19, t136_20, t136_21, t136_22, t136_23] 35 ∧ Gr w w') ((vz169 : Int).toNat) ?_ ?_
  ·exact ⟨_, _, (fun i => List.getD ?l174 i undef), rfl, rfl, rfl, (by omega), (by omega), h136a, h136b, h136c, h136d, h136e, h136f, L2, L137, hB⟩
  rintro n174 a174 w174 ⟨gz175, nz175, u174, rfl, rfl, hz175, ha175, hc175, h136a, h136b, h136c, h136d, h136e, h136f, L2, L137, hB⟩ K174 k174
  refine wp_seq_k (fun K176 k176 => ?_)
  refine wp_seq_k (fun K177 k177 => ?_)
  refine rg [0, 1] ?_
  refine sv 130 (.int .i64 (nz175)) ?_
  simp only [p3, p4]
  refine sv 131 (.bool ((nz175 != (0 : Int)))) ?_
  simp only [p3, p4]
  refine sq_nil ?_
  refine k177 _ _ ?_
  try clear k177 K177
  refine wp_cond_split (t := (nz175 != (0 : Int))) rfl (fun hb178 => ?_) (fun hb178 => ?_)
  ·have hp175 : 0 < nz175 := by have h0 : ¬ nz175 = 0 := (by simpa using hb178); omega
   refine wp_skip ?_
   refine k176 _ _ ?_
   try clear k176 K176
   refine wp_block ?_
   have gd180 := Gr.drew w174
   replace hB := hB.trans gd180
   refine wp_region_ord (fun _ => True) [(true, 0), (true, 1), (true, 2), (true, 3), (true, 4), (true, 5)] (by kernel_rfl) (by kernel_rfl) (by kernel_rfl) (by decide) (fun _ _ _ _ _ h => h) trivial ?_
   refine ov 132 (.int .i64 (nz175)) ?_
   simp only [p3, p4]
   refine ov 133 (.int .i64 (gz175)) ?_
   simp only [p3, p4]
   refine ov 134 (.int .i64 (nz175)) ?_
   simp only [p3, p4]
   refine ow 135 (.int .i64 ((gz175 % nz175))) rfl (fun w' hS => (rv_rem 3 3 _ _ gz175 nz175 rfl rfl rfl ha175 hp175)) ?_
   simp only [p3, p4]
   refine ov 15 (.int .i64 (nz175)) ?_
   simp only [p3, p4]
   refine ov 17 (.int .i64 ((gz175 % nz175))) ?_
   simp only [p3, p4]
   refine ord_nil ?_
   replace h136a := h136a.kp gd180.kp
   replace h136b := h136b.kp gd180.kp
   replace h136c := h136c.kp gd180.kp
   replace h136d := h136d.kp gd180.kp
   replace h136e := h136e.kp gd180.kp
   replace h136f := h136f.kp gd180.kp
   replace L2 := L2.gr gd180
   replace L137 := L137.gr gd180
   refine k174 ((gz175 % nz175).toNat) ⟨List.toArray ?l181, []⟩ _ (by have := Int.emod_lt_of_pos gz175 hp175; omega) ?_
   exact ⟨_, _, (fun i => List.getD ?l181 i undef), rfl, rfl, (by rw [gcd_stepZ ha175 hp175]; exact hz175), (by omega), (Int.emod_nonneg _ (by omega)), h136a, h136b, h136c, h136d, h136e, h136f, L2, L137, hB⟩
  ·have hg175 := gcd_endZ hz175 hb178 ha175 hv169.1
   refine wp_exit ?_
   simp only [Exit.then, Exit.inBlock, ↓reduceIte]
   refine k166 _ _ ?_
   try clear k166 K166
   refine rg [0, 1, 2] ?_
   refine sv 119 (.int .i64 1) ?_
   simp only [p3, p4]
   refine sv 120 (.int .i64 2) ?_
   simp only [p3, p4]
   refine sv 16 (.int .i64 2) ?_
   simp only [p3, p4]
   refine sq_nil ?_
   show Code.rounds _ _ _ _ _ _
   show Code.wp _ _ _ _ _
   refine wp_seq_k (fun K182 k182 => ?_)
   refine wp_seq_k (fun K183 k183 => ?_)
   refine rg [0, 1] ?_
   refine sv 117 (.int .i64 2) ?_
   simp only [p3, p4]
   refine sv 118 (.bool true) ?_
   simp only [p3, p4]
   refine sq_nil ?_
   refine k183 _ _ ?_
   try clear k183 K183
   refine wp_cond_true rfl ?_
   refine wp_skip ?_
   refine k182 _ _ ?_
   try clear k182 K182
   refine wp_seq_k (fun K184 k184 => ?_)
   refine wp_block ?_
   refine wp_seq_k (fun K185 k185 => ?_)
   refine rg [0, 1, 2, 3, 4, 5] ?_
   refine sv 121 (.int .i64 2) ?_
   simp only [p3, p4]
   refine sv 122 (.pointer (some ⟨b2, 0, none⟩)) ?_
   simp only [p3, p4]
   refine sv 123 (.pointer (some ⟨b2, 2, none⟩)) ?_
   simp only [p3, p4]
   refine sw 124 (.int .i8 (n2)) rfl (rk 22 2 L2) ?_
   simp only [p3, p4]
   refine sw 125 (.int .i64 (n2)) rfl (RunV.int (x := IntKind.i64.wrap (n2)) (y := n2) (rvk (by kernel_rfl)) (by first | rfl | (rw [IntKind.wrap_i64]; omega))) ?_
   simp only [p3, p4]
   refine sv 17 (.int .i64 (n2)) ?_
   simp only [p3, p4]
   refine sq_nil ?_
   refine k185 _ _ ?_
   try clear k185 K185
   refine wp_seq_cut (fun a w' => ∃ (vz187 : Int) (u186 : Nat → Value), a = ⟨[(u186 0), (u186 1), (.int .i8 (ff)), (.pointer (some ⟨b2, 0, none⟩)), (.pointer (some ⟨b3, 0, none⟩)), undef, (u110 6), (.pointer (some ⟨b14, 0, none⟩)), (.pointer (some ⟨b15, 0, none⟩)), (.pointer (some ⟨b32, 0, none⟩)), (.pointer (some ⟨b33, 0, none⟩)), (u110 11), (.bool false), (.pointer (some ⟨b137, 0, none⟩)), (.int .i64 0), (.int .i64 (gz175)), (.int .i64 2), (.int .i64 (vz187)), undef, undef, (u186 20), (.bool false), (u186 22), (u186 23), (u186 24), (u186 25), (u186 26), (u186 27), (u186 28), (u186 29), (u186 30), (u186 31), (u186 32), (u186 33), (u186 34), (u186 35), (u186 36), (u186 37), (u186 38), (u186 39), (u186 40), (u186 41), (u186 42), (u186 43), (u186 44), (u186 45), (u186 46), (u186 47), (u186 48), (u186 49), (u186 50), (u186 51), (u186 52), (u186 53), (u186 54), (u186 55), (u186 56), (u186 57), (u186 58), (u186 59), (u186 60), (u186 61), (u186 62), (u186 63), (u186 64), (u186 65), (u186 66), (u186 67), (u186 68), (u186 69), (u186 70), (u186 71), (u186 72), (u186 73), (u186 74), (u186 75), (u186 76), (.bool false), (u186 78), (u186 79), (u186 80), (u186 81), (u186 82), (u186 83), (u186 84), (u186 85), (u186 86), (u186 87), (u186 88), (u186 89), (u186 90), (u186 91), (u186 92), (u186 93), (u186 94), (u186 95), (u186 96), (u186 97), (u186 98), (u186 99), (u186 100), (u186 101), (u186 102), (u186 103), (u110 104), (u186 105), (u186 106), (u186 107), (u186 108), (u186 109), (.bool false), undef, undef, undef, undef, undef, undef, (u186 117), (.bool true), (u186 119), (u186 120), (u186 121), (u186 122), (u186 123), (u186 124), (u186 125), (u186 126), (u186 127), (u186 128), (u186 129), (u186 130), (.bool ((nz175 != (0 : Int)))), (u186 132), (u186 133), (u186 134), (u186 135), undef, undef, undef, undef, undef, undef, undef, undef, undef, undef, undef, undef, undef, undef, undef, undef, undef, undef, undef, undef, undef, undef, undef, undef].toArray, []⟩ ∧ ((vz187 = n2 ∨ vz187 = -n2) ∧ 0 ≤ vz187 ∧ vz187 ≤ 128) ∧ IsRat w' 64 t136_0 t136_1 t136_2 t136_3 (((n0 / GG : Int) : Rat)) ∧ IsRat w' 64 t136_4 t136_5 t136_6 t136_7 (((n1 / GG : Int) : Rat)) ∧ IsRat w' 64 t136_8 t136_9 t136_10 t136_11 (((n2 / GG : Int) : Rat)) ∧ IsRat w' 64 t136_12 t136_13 t136_14 t136_15 (((n3 / GG : Int) : Rat)) ∧ IsRat w' 64 t136_16 t136_17 t136_18 t136_19 (((n4 / GG : Int) : Rat)) ∧ IsRat w' 64 t136_20 t136_21 t136_22 t136_23 (((n5 / GG : Int) : Rat)) ∧ Lc w' b2 #[(.int .i8 (n0)), (.int .i8 (n1)), (.int .i8 (n2)), (.int .i8 (n3)), (.int .i8 (n4)), (.int .i8 (n5)), (.int .u8 (dd))] 25 ∧ Lc w' b137 #[t136_0, t136_1, t136_2, t136_3, t136_4, t136_5, t136_6, t136_7, t136_8, t136_9, t136_10, t136_11, t136_12, t136_13, t136_14, t136_15, t136_16, t136_17, t136_18, t136_19, t136_20, t136_21, t136_22, t136_23] 35 ∧ Gr w w') (fun K186 k186 => ?_) ?_
   ·refine wp_seq_k (fun K188 k188 => ?_)
    refine rg [0, 1] ?_
    refine sv 126 (.int .i64 (n2)) ?_
    simp only [p3, p4]
    refine sv 127 (.bool (decide (n2 < (0 : Int)))) ?_
    simp only [p3, p4]
    refine sq_nil ?_
    refine k188 _ _ ?_
    try clear k188 K188
    refine wp_cond_split (t := decide (n2 < (0 : Int))) rfl (fun hb189 => ?_) (fun hb189 => ?_)
    ·have hq189 := of_decide_eq_true hb189
     refine rg [0, 1, 2] ?_
     refine sv 128 (.int .i64 (n2)) ?_
     simp only [p3, p4]
     refine sw 129 (.int .i64 ((0 - n2))) rfl (RunV.int (x := IntKind.i64.wrap ((0 - n2))) (y := (0 - n2)) (rvk (by kernel_rfl)) (by first | rfl | (rw [IntKind.wrap_i64]; omega))) ?_
     simp only [p3, p4]
     refine sv 17 (.int .i64 ((0 - n2))) ?_
     simp only [p3, p4]
     refine sq_nil ?_
     refine k186 ⟨List.toArray ?l190, []⟩ _ ?_
     exact ⟨_, (fun i => List.getD ?l190 i undef), rfl, ⟨by omega, by omega, by omega⟩, h136a, h136b, h136c, h136d, h136e, h136f, L2, L137, hB⟩
    ·have hq189 := of_decide_eq_false hb189
     refine wp_skip ?_
     refine k186 ⟨List.toArray ?l191, []⟩ _ ?_
     exact ⟨_, (fun i => List.getD ?l191 i undef), rfl, ⟨by omega, by omega, by omega⟩, h136a, h136b, h136c, h136d, h136e, h136f, L2, L137, hB⟩
   rintro a186 w186 ⟨vz187, u186, rfl, hv187, h136a, h136b, h136c, h136d, h136e, h136f, L2, L137, hB⟩
   refine wp_block ?_
   refine wp_loop_inv (a := ⟨List.toArray ?l192, []⟩) (fun n a w' => ∃ (gz193 : Int) (nz193 : Int) (u192 : Nat → Value), nz193.toNat = n ∧ a = ⟨[(u192 0), (u192 1), (.int .i8 (ff)), (.pointer (some ⟨b2, 0, none⟩)), (.pointer (some ⟨b3, 0, none⟩)), undef, (u110 6), (.pointer (some ⟨b14, 0, none⟩)), (.pointer (some ⟨b15, 0, none⟩)), (.pointer (some ⟨b32, 0, none⟩)), (.pointer (some ⟨b33, 0, none⟩)), (u110 11), (.bool false), (.pointer (some ⟨b137, 0, none⟩)), (.int .i64 0), (.int .i64 (gz193)), (.int .i64 2), (.int .i64 (nz193)), undef, undef, (u192 20), (.bool false), (u192 22), (u192 23), (u192 24), (u192 25), (u192 26), (u192 27), (u192 28), (u192 29), (u192 30), (u192 31), (u192 32), (u192 33), (u192 34), (u192 35), (u192 36), (u192 37), (u192 38), (u192 39), (u192 40), (u192 41), (u192 42), (u192 43), (u192 44), (u192 45), (u192 46), (u192 47), (u192 48), (u192 49), (u192 50), (u192 51), (u192 52), (u192 53), (u192 54), (u192 55), (u192 56), (u192 57), (u192 58), (u192 59), (u192 60), (u192 61), (u192 62), (u192 63), (u192 64), (u192 65), (u192 66), (u192 67), (u192 68), (u192 69), (u192 70), (u192 71), (u192 72), (u192 73), (u192 74), (u192 75), (u192 76), (.bool false), (u192 78), (u192 79), (u192 80), (u192 81), (u192 82), (u192 83), (u192 84), (u192 85), (u192 86), (u192 87), (u192 88), (u192 89), (u192 90), (u192 91), (u192 92), (u192 93), (u192 94), (u192 95), (u192 96), (u192 97), (u192 98), (u192 99), (u192 100), (u192 101), (u192 102), (u192 103), (u110 104), (u192 105), (u192 106), (u192 107), (u192 108), (u192 109), (.bool false), undef, undef, undef, undef, undef, undef, (u192 117), (.bool true), (u192 119), (u192 120), (u192 121), (u192 122), (u192 123), (u192 124), (u192 125), (u192 126), (u186 127), (u192 128), (u192 129), (u192 130), (u192 131), (u192 132), (u192 133), (u192 134), (u192 135), undef, undef, undef, undef, undef, undef, undef, undef, undef, undef, undef, undef, undef, undef, undef, undef, undef, undef, undef, undef, undef, undef, undef, undef].toArray, []⟩ ∧ Int.gcd gz193 nz193 = Int.gcd (gz175) vz187 ∧ 0 ≤ gz193 ∧ 0 ≤ nz193 ∧ IsRat w' 64 t136_0 t136_1 t136_2 t136_3 (((n0 / GG : Int) : Rat)) ∧ IsRat w' 64 t136_4 t136_5 t136_6 t136_7 (((n1 / GG : Int) : Rat)) ∧ IsRat w' 64 t136_8 t136_9 t136_10 t136_11 (((n2 / GG : Int) : Rat)) ∧ IsRat w' 64 t136_12 t136_13 t136_14 t136_15 (((n3 / GG : Int) : Rat)) ∧ IsRat w' 64 t136_16 t136_17 t136_18 t136_19 (((n4 / GG : Int) : Rat)) ∧ IsRat w' 64 t136_20 t136_21 t136_22 t136_23 (((n5 / GG : Int) : Rat)) ∧ Lc w' b2 #[(.int .i8 (n0)), (.int .i8 (n1)), (.int .i8 (n2)), (.int .i8 (n3)), (.int .i8 (n4)), (.int .i8 (n5)), (.int .u8 (dd))] 25 ∧ Lc w' b137 #[t136_0, t136_1, t136_2, t136_3, t136_4, t136_5, t136_6, t136_7, t136_8, t136_9, t136_10, t136_11, t136_12, t136_13, t136_14, t136_15, t136_16, t136_17, t136_18, t136_19, t136_20, t136_21, t136_22, t136_23] 35 ∧ Gr w w') ((vz187 : Int).toNat) ?_ ?_
   ·exact ⟨_, _, (fun i => List.getD ?l192 i undef), rfl, rfl, rfl, (by omega), (by omega), h136a, h136b, h136c, h136d, h136e, h136f, L2, L137, hB⟩
   rintro n192 a192 w192 ⟨gz193, nz193, u192, rfl, rfl, hz193, ha193, hc193, h136a, h136b, h136c, h136d, h136e, h136f, L2, L137, hB⟩ K192 k192
   refine wp_seq_k (fun K194 k194 => ?_)
   refine wp_seq_k (fun K195 k195 => ?_)
   refine rg [0, 1] ?_
   refine sv 130 (.int .i64 (nz193)) ?_
   simp only [p3, p4]
   refine sv 131 (.bool ((nz193 != (0 : Int)))) ?_
   simp only [p3, p4]
   refine sq_nil ?_
   refine k195 _ _ ?_
   try clear k195 K195
   refine wp_cond_split (t := (nz193 != (0 : Int))) rfl (fun hb196 => ?_) (fun hb196 => ?_)
   ·have hp193 : 0 < nz193 := by have h0 : ¬ nz193 = 0 := (by simpa using hb196); omega
    refine wp_skip ?_
    refine k194 _ _ ?_
    try clear k194 K194
    refine wp_block ?_
    have gd198 := Gr.drew w192
    replace hB := hB.trans gd198
    refine wp_region_ord (fun _ => True) [(true, 0), (true, 1), (true, 2), (true, 3), (true, 4), (true, 5)] (by kernel_rfl) (by kernel_rfl) (by kernel_rfl) (by decide) (fun _ _ _ _ _ h => h) trivial ?_
    refine ov 132 (.int .i64 (nz193)) ?_
    simp only [p3, p4]
    refine ov 133 (.int .i64 (gz193)) ?_
    simp only [p3, p4]
    refine ov 134 (.int .i64 (nz193)) ?_
    simp only [p3, p4]
    refine ow 135 (.int .i64 ((gz193 % nz193))) rfl (fun w' hS => (rv_rem 3 3 _ _ gz193 nz193 rfl rfl rfl ha193 hp193)) ?_
    simp only [p3, p4]
    refine ov 15 (.int .i64 (nz193)) ?_
    simp only [p3, p4]
    refine ov 17 (.int .i64 ((gz193 % nz193))) ?_
    simp only [p3, p4]
    refine ord_nil ?_
    replace h136a := h136a.kp gd198.kp
    replace h136b := h136b.kp gd198.kp
    replace h136c := h136c.kp gd198.kp
    replace h136d := h136d.kp gd198.kp
    replace h136e := h136e.kp gd198.kp
    replace h136f := h136f.kp gd198.kp
    replace L2 := L2.gr gd198
    replace L137 := L137.gr gd198
    refine k192 ((gz193 % nz193).toNat) ⟨List.toArray ?l199, []⟩ _ (by have := Int.emod_lt_of_pos gz193 hp193; omega) ?_
    exact ⟨_, _, (fun i => List.getD ?l199 i undef), rfl, rfl, (by rw [gcd_stepZ ha193 hp193]; exact hz193), (by omega), (Int.emod_nonneg _ (by omega)), h136a, h136b, h136c, h136d, h136e, h136f, L2, L137, hB⟩
   ·have hg193 := gcd_endZ hz193 hb196 ha193 hv187.1
    refine wp_exit ?_
    simp only [Exit.then, Exit.inBlock, ↓reduceIte]
    refine k184 _ _ ?_
    try clear k184 K184
    refine rg [0, 1, 2] ?_
    refine sv 119 (.int .i64 2) ?_
    simp only [p3, p4]
    refine sv 120 (.int .i64 3) ?_
    simp only [p3, p4]
    refine sv 16 (.int .i64 3) ?_
    simp only [p3, p4]
    refine sq_nil ?_
    show Code.rounds _ _ _ _ _ _
    show Code.wp _ _ _ _ _
    refine wp_seq_k (fun K200 k200 => ?_)
    refine wp_seq_k (fun K201 k201 => ?_)
    refine rg [0, 1] ?_
    refine sv 117 (.int .i64 3) ?_
    simp only [p3, p4]
    refine sv 118 (.bool true) ?_
    simp only [p3, p4]
    refine sq_nil ?_
    refine k201 _ _ ?_
    try clear k201 K201
    refine wp_cond_true rfl ?_
    refine wp_skip ?_
    refine k200 _ _ ?_
    try clear k200 K200
    refine wp_seq_k (fun K202 k202 => ?_)
    refine wp_block ?_
    refine wp_seq_k (fun K203 k203 => ?_)
    refine rg [0, 1, 2, 3, 4, 5] ?_
    refine sv 121 (.int .i64 3) ?_
    simp only [p3, p4]
    refine sv 122 (.pointer (some ⟨b2, 0, none⟩)) ?_
    simp only [p3, p4]
    refine sv 123 (.pointer (some ⟨b2, 3, none⟩)) ?_
    simp only [p3, p4]
    refine sw 124 (.int .i8 (n3)) rfl (rk 22 3 L2) ?_
    simp only [p3, p4]
    refine sw 125 (.int .i64 (n3)) rfl (RunV.int (x := IntKind.i64.wrap (n3)) (y := n3) (rvk (by kernel_rfl)) (by first | rfl | (rw [IntKind.wrap_i64]; omega))) ?_
    simp only [p3, p4]
    refine sv 17 (.int .i64 (n3)) ?_
    simp only [p3, p4]
    refine sq_nil ?_
    refine k203 _ _ ?_
    try clear k203 K203
    refine wp_seq_cut (fun a w' => ∃ (vz205 : Int) (u204 : Nat → Value), a = ⟨[(u204 0), (u204 1), (.int .i8 (ff)), (.pointer (some ⟨b2, 0, none⟩)), (.pointer (some ⟨b3, 0, none⟩)), undef, (u110 6), (.pointer (some ⟨b14, 0, none⟩)), (.pointer (some ⟨b15, 0, none⟩)), (.pointer (some ⟨b32, 0, none⟩)), (.pointer (some ⟨b33, 0, none⟩)), (u110 11), (.bool false), (.pointer (some ⟨b137, 0, none⟩)), (.int .i64 0), (.int .i64 (gz193)), (.int .i64 3), (.int .i64 (vz205)), undef, undef, (u204 20), (.bool false), (u204 22), (u204 23), (u204 24), (u204 25), (u204 26), (u204 27), (u204 28), (u204 29), (u204 30), (u204 31), (u204 32), (u204 33), (u204 34), (u204 35), (u204 36), (u204 37), (u204 38), (u204 39), (u204 40), (u204 41), (u204 42), (u204 43), (u204 44), (u204 45), (u204 46), (u204 47), (u204 48), (u204 49), (u204 50), (u204 51), (u204 52), (u204 53), (u204 54), (u204 55), (u204 56), (u204 57), (u204 58), (u204 59), (u204 60), (u204 61), (u204 62), (u204 63), (u204 64), (u204 65), (u204 66), (u204 67), (u204 68), (u204 69), (u204 70), (u204 71), (u204 72), (u204 73), (u204 74), (u204 75), (u204 76), (.bool false), (u204 78), (u204 79), (u204 80), (u204 81), (u204 82), (u204 83), (u204 84), (u204 85), (u204 86), (u204 87), (u204 88), (u204 89), (u204 90), (u204 91), (u204 92), (u204 93), (u204 94), (u204 95), (u204 96), (u204 97), (u204 98), (u204 99), (u204 100), (u204 101), (u204 102), (u204 103), (u110 104), (u204 105), (u204 106), (u204 107), (u204 108), (u204 109), (.bool false), undef, undef, undef, undef, undef, undef, (u204 117), (.bool true), (u204 119), (u204 120), (u204 121), (u204 122), (u204 123), (u204 124), (u204 125), (u204 126), (u204 127), (u204 128), (u204 129), (u204 130), (.bool ((nz193 != (0 : Int)))), (u204 132), (u204 133), (u204 134), (u204 135), undef, undef, undef, undef, undef, undef, undef, undef, undef, undef, undef, undef, undef, undef, undef, undef, undef, undef, undef, undef, undef, undef, undef, undef].toArray, []⟩ ∧ ((vz205 = n3 ∨ vz205 = -n3) ∧ 0 ≤ vz205 ∧ vz205 ≤ 128) ∧ IsRat w' 64 t136_0 t136_1 t136_2 t136_3 (((n0 / GG : Int) : Rat)) ∧ IsRat w' 64 t136_4 t136_5 t136_6 t136_7 (((n1 / GG : Int) : Rat)) ∧ IsRat w' 64 t136_8 t136_9 t136_10 t136_11 (((n2 / GG : Int) : Rat)) ∧ IsRat w' 64 t136_12 t136_13 t136_14 t136_15 (((n3 / GG : Int) : Rat)) ∧ IsRat w' 64 t136_16 t136_17 t136_18 t136_19 (((n4 / GG : Int) : Rat)) ∧ IsRat w' 64 t136_20 t136_21 t136_22 t136_23 (((n5 / GG : Int) : Rat)) ∧ Lc w' b2 #[(.int .i8 (n0)), (.int .i8 (n1)), (.int .i8 (n2)), (.int .i8 (n3)), (.int .i8 (n4)), (.int .i8 (n5)), (.int .u8 (dd))] 25 ∧ Lc w' b137 #[t136_0, t136_1, t136_2, t136_3, t136_4, t136_5, t136_6, t136_7, t136_8, t136_9, t136_10, t136_11, t136_12, t136_13, t136_14, t136_15, t136_16, t136_17, t136_18, t136_19, t136_20, t136_21, t136_22, t136_23] 35 ∧ Gr w w') (fun K204 k204 => ?_) ?_
    ·refine wp_seq_k (fun K206 k206 => ?_)
     refine rg [0, 1] ?_
     refine sv 126 (.int .i64 (n3)) ?_
     simp only [p3, p4]
     refine sv 127 (.bool (decide (n3 < (0 : Int)))) ?_
     simp only [p3, p4]
     refine sq_nil ?_
     refine k206 _ _ ?_
     try clear k206 K206
     refine wp_cond_split (t := decide (n3 < (0 : Int))) rfl (fun hb207 => ?_) (fun hb207 => ?_)
     ·have hq207 := of_decide_eq_true hb207
      refine rg [0, 1, 2] ?_
      refine sv 128 (.int .i64 (n3)) ?_
      simp only [p3, p4]
      refine sw 129 (.int .i64 ((0 - n3))) rfl (RunV.int (x := IntKind.i64.wrap ((0 - n3))) (y := (0 - n3)) (rvk (by kernel_rfl)) (by first | rfl | (rw [IntKind.wrap_i64]; omega))) ?_
      simp only [p3, p4]
      refine sv 17 (.int .i64 ((0 - n3))) ?_
      simp only [p3, p4]
      refine sq_nil ?_
      refine k204 ⟨List.toArray ?l208, []⟩ _ ?_
      exact ⟨_, (fun i => List.getD ?l208 i undef), rfl, ⟨by omega, by omega, by omega⟩, h136a, h136b, h136c, h136d, h136e, h136f, L2, L137, hB⟩
     ·have hq207 := of_decide_eq_false hb207
      refine wp_skip ?_
      refine k204 ⟨List.toArray ?l209, []⟩ _ ?_
      exact ⟨_, (fun i => List.getD ?l209 i undef), rfl, ⟨by omega, by omega, by omega⟩, h136a, h136b, h136c, h136d, h136e, h136f, L2, L137, hB⟩
    rintro a204 w204 ⟨vz205, u204, rfl, hv205, h136a, h136b, h136c, h136d, h136e, h136f, L2, L137, hB⟩
    refine wp_block ?_
    refine wp_loop_inv (a := ⟨List.toArray ?l210, []⟩) (fun n a w' => ∃ (gz211 : Int) (nz211 : Int) (u210 : Nat → Value), nz211.toNat = n ∧ a = ⟨[(u210 0), (u210 1), (.int .i8 (ff)), (.pointer (some ⟨b2, 0, none⟩)), (.pointer (some ⟨b3, 0, none⟩)), undef, (u110 6), (.pointer (some ⟨b14, 0, none⟩)), (.pointer (some ⟨b15, 0, none⟩)), (.pointer (some ⟨b32, 0, none⟩)), (.pointer (some ⟨b33, 0, none⟩)), (u110 11), (.bool false), (.pointer (some ⟨b137, 0, none⟩)), (.int .i64 0), (.int .i64 (gz211)), (.int .i64 3), (.int .i64 (nz211)), undef, undef, (u210 20), (.bool false), (u210 22), (u210 23), (u210 24), (u210 25), (u210 26), (u210 27), (u210 28), (u210 29), (u210 30), (u210 31), (u210 32), (u210 33), (u210 34), (u210 35), (u210 36), (u210 37), (u210 38), (u210 39), (u210 40), (u210 41), (u210 42), (u210 43), (u210 44), (u210 45), (u210 46), (u210 47), (u210 48), (u210 49), (u210 50), (u210 51), (u210 52), (u210 53), (u210 54), (u210 55), (u210 56), (u210 57), (u210 58), (u210 59), (u210 60), (u210 61), (u210 62), (u210 63), (u210 64), (u210 65), (u210 66), (u210 67), (u210 68), (u210 69), (u210 70), (u210 71), (u210 72), (u210 73), (u210 74), (u210 75), (u210 76), (.bool false), (u210 78), (u210 79), (u210 80), (u210 81), (u210 82), (u210 83), (u210 84), (u210 85), (u210 86), (u210 87), (u210 88), (u210 89), (u210 90), (u210 91), (u210 92), (u210 93), (u210 94), (u210 95), (u210 96), (u210 97), (u210 98), (u210 99), (u210 100), (u210 101), (u210 102), (u210 103), (u110 104), (u210 105), (u210 106), (u210 107), (u210 108), (u210 109), (.bool false), undef, undef, undef, undef, undef, undef, (u210 117), (.bool true), (u210 119), (u210 120), (u210 121), (u210 122), (u210 123), (u210 124), (u210 125), (u210 126), (u204 127), (u210 128), (u210 129), (u210 130), (u210 131), (u210 132), (u210 133), (u210 134), (u210 135), undef, undef, undef, undef, undef, undef, undef, undef, undef, undef, undef, undef, undef, undef, undef, undef, undef, undef, undef, undef, undef, undef, undef, undef].toArray, []⟩ ∧ Int.gcd gz211 nz211 = Int.gcd (gz193) vz205 ∧ 0 ≤ gz211 ∧ 0 ≤ nz211 ∧ IsRat w' 64 t136_0 t136_1 t136_2 t136_3 (((n0 / GG : Int) : Rat)) ∧ IsRat w' 64 t136_4 t136_5 t136_6 t136_7 (((n1 / GG : Int) : Rat)) ∧ IsRat w' 64 t136_8 t136_9 t136_10 t136_11 (((n2 / GG : Int) : Rat)) ∧ IsRat w' 64 t136_12 t136_13 t136_14 t136_15 (((n3 / GG : Int) : Rat)) ∧ IsRat w' 64 t136_16 t136_17 t136_18 t136_19 (((n4 / GG : Int) : Rat)) ∧ IsRat w' 64 t136_20 t136_21 t136_22 t136_23 (((n5 / GG : Int) : Rat)) ∧ Lc w' b2 #[(.int .i8 (n0)), (.int .i8 (n1)), (.int .i8 (n2)), (.int .i8 (n3)), (.int .i8 (n4)), (.int .i8 (n5)), (.int .u8 (dd))] 25 ∧ Lc w' b137 #[t136_0, t136_1, t136_2, t136_3, t136_4, t136_5, t136_6, t136_7, t136_8, t136_9, t136_10, t136_11, t136_12, t136_13, t136_14, t136_15, t136_16, t136_17, t136_18, t136_19, t136_20, t136_21, t136_22, t136_23] 35 ∧ Gr w w') ((vz205 : Int).toNat) ?_ ?_
    ·exact ⟨_, _, (fun i => List.getD ?l210 i undef), rfl, rfl, rfl, (by omega), (by omega), h136a, h136b, h136c, h136d, h136e, h136f, L2, L137, hB⟩
    rintro n210 a210 w210 ⟨gz211, nz211, u210, rfl, rfl, hz211, ha211, hc211, h136a, h136b, h136c, h136d, h136e, h136f, L2, L137, hB⟩ K210 k210
    refine wp_seq_k (fun K212 k212 => ?_)
    refine wp_seq_k (fun K213 k213 => ?_)
    refine rg [0, 1] ?_
    refine sv 130 (.int .i64 (nz211)) ?_
    simp only [p3, p4]
    refine sv 131 (.bool ((nz211 != (0 : Int)))) ?_
    simp only [p3, p4]
    refine sq_nil ?_
    refine k213 _ _ ?_
    try clear k213 K213
    refine wp_cond_split (t := (nz211 != (0 : Int))) rfl (fun hb214 => ?_) (fun hb214 => ?_)
    ·have hp211 : 0 < nz211 := by have h0 : ¬ nz211 = 0 := (by simpa using hb214); omega
     refine wp_skip ?_
     refine k212 _ _ ?_
     try clear k212 K212
     refine wp_block ?_
     have gd216 := Gr.drew w210
     replace hB := hB.trans gd216
     refine wp_region_ord (fun _ => True) [(true, 0), (true, 1), (true, 2), (true, 3), (true, 4), (true, 5)] (by kernel_rfl) (by kernel_rfl) (by kernel_rfl) (by decide) (fun _ _ _ _ _ h => h) trivial ?_
     refine ov 132 (.int .i64 (nz211)) ?_
     simp only [p3, p4]
     refine ov 133 (.int .i64 (gz211)) ?_
     simp only [p3, p4]
     refine ov 134 (.int .i64 (nz211)) ?_
     simp only [p3, p4]
     refine ow 135 (.int .i64 ((gz211 % nz211))) rfl (fun w' hS => (rv_rem 3 3 _ _ gz211 nz211 rfl rfl rfl ha211 hp211)) ?_
     simp only [p3, p4]
     refine ov 15 (.int .i64 (nz211)) ?_
     simp only [p3, p4]
     refine ov 17 (.int .i64 ((gz211 % nz211))) ?_
     simp only [p3, p4]
     refine ord_nil ?_
     replace h136a := h136a.kp gd216.kp
     replace h136b := h136b.kp gd216.kp
     replace h136c := h136c.kp gd216.kp
     replace h136d := h136d.kp gd216.kp
     replace h136e := h136e.kp gd216.kp
     replace h136f := h136f.kp gd216.kp
     replace L2 := L2.gr gd216
     replace L137 := L137.gr gd216
     refine k210 ((gz211 % nz211).toNat) ⟨List.toArray ?l217, []⟩ _ (by have := Int.emod_lt_of_pos gz211 hp211; omega) ?_
     exact ⟨_, _, (fun i => List.getD ?l217 i undef), rfl, rfl, (by rw [gcd_stepZ ha211 hp211]; exact hz211), (by omega), (Int.emod_nonneg _ (by omega)), h136a, h136b, h136c, h136d, h136e, h136f, L2, L137, hB⟩
    ·have hg211 := gcd_endZ hz211 hb214 ha211 hv205.1
     refine wp_exit ?_
     simp only [Exit.then, Exit.inBlock, ↓reduceIte]
     refine k202 _ _ ?_
     try clear k202 K202
     refine rg [0, 1, 2] ?_
     refine sv 119 (.int .i64 3) ?_
     simp only [p3, p4]
     refine sv 120 (.int .i64 4) ?_
     simp only [p3, p4]
     refine sv 16 (.int .i64 4) ?_
     simp only [p3, p4]
     refine sq_nil ?_
     show Code.rounds _ _ _ _ _ _
     show Code.wp _ _ _ _ _
     refine wp_seq_k (fun K218 k218 => ?_)
     refine wp_seq_k (fun K219 k219 => ?_)
     refine rg [0, 1] ?_
     refine sv 117 (.int .i64 4) ?_
     simp only [p3, p4]
     refine sv 118 (.bool true) ?_
     simp only [p3, p4]
     refine sq_nil ?_
     refine k219 _ _ ?_
     try clear k219 K219
     refine wp_cond_true rfl ?_
     refine wp_skip ?_
     refine k218 _ _ ?_
     try clear k218 K218
     refine wp_seq_k (fun K220 k220 => ?_)
     refine wp_block ?_
     refine wp_seq_k (fun K221 k221 => ?_)
     refine rg [0, 1, 2, 3, 4, 5] ?_
     refine sv 121 (.int .i64 4) ?_
     simp only [p3, p4]
     refine sv 122 (.pointer (some ⟨b2, 0, none⟩)) ?_
     simp only [p3, p4]
     refine sv 123 (.pointer (some ⟨b2, 4, none⟩)) ?_
     simp only [p3, p4]
     refine sw 124 (.int .i8 (n4)) rfl (rk 22 4 L2) ?_
     simp only [p3, p4]
     refine sw 125 (.int .i64 (n4)) rfl (RunV.int (x := IntKind.i64.wrap (n4)) (y := n4) (rvk (by kernel_rfl)) (by first | rfl | (rw [IntKind.wrap_i64]; omega))) ?_
     simp only [p3, p4]
     refine sv 17 (.int .i64 (n4)) ?_
     simp only [p3, p4]
     refine sq_nil ?_
     refine k221 _ _ ?_
     try clear k221 K221
     refine wp_seq_cut (fun a w' => ∃ (vz223 : Int) (u222 : Nat → Value), a = ⟨[(u222 0), (u222 1), (.int .i8 (ff)), (.pointer (some ⟨b2, 0, none⟩)), (.pointer (some ⟨b3, 0, none⟩)), undef, (u110 6), (.pointer (some ⟨b14, 0, none⟩)), (.pointer (some ⟨b15, 0, none⟩)), (.pointer (some ⟨b32, 0, none⟩)), (.pointer (some ⟨b33, 0, none⟩)), (u110 11), (.bool false), (.pointer (some ⟨b137, 0, none⟩)), (.int .i64 0), (.int .i64 (gz211)), (.int .i64 4), (.int .i64 (vz223)), undef, undef, (u222 20), (.bool false), (u222 22), (u222 23), (u222 24), (u222 25), (u222 26), (u222 27), (u222 28), (u222 29), (u222 30), (u222 31), (u222 32), (u222 33), (u222 34), (u222 35), (u222 36), (u222 37), (u222 38), (u222 39), (u222 40), (u222 41), (u222 42), (u222 43), (u222 44), (u222 45), (u222 46), (u222 47), (u222 48), (u222 49), (u222 50), (u222 51), (u222 52), (u222 53), (u222 54), (u222 55), (u222 56), (u222 57), (u222 58), (u222 59), (u222 60), (u222 61), (u222 62), (u222 63), (u222 64), (u222 65), (u222 66), (u222 67), (u222 68), (u222 69), (u222 70), (u222 71), (u222 72), (u222 73), (u222 74), (u222 75), (u222 76), (.bool false), (u222 78), (u222 79), (u222 80), (u222 81), (u222 82), (u222 83), (u222 84), (u222 85), (u222 86), (u222 87), (u222 88), (u222 89), (u222 90), (u222 91), (u222 92), (u222 93), (u222 94), (u222 95), (u222 96), (u222 97), (u222 98), (u222 99), (u222 100), (u222 101), (u222 102), (u222 103), (u110 104), (u222 105), (u222 106), (u222 107), (u222 108), (u222 109), (.bool false), undef, undef, undef, undef, undef, undef, (u222 117), (.bool true), (u222 119), (u222 120), (u222 121), (u222 122), (u222 123), (u222 124), (u222 125), (u222 126), (u222 127), (u222 128), (u222 129), (u222 130), (.bool ((nz211 != (0 : Int)))), (u222 132), (u222 133), (u222 134), (u222 135), undef, undef, undef, undef, undef, undef, undef, undef, undef, undef, undef, undef, undef, undef, undef, undef, undef, undef, undef, undef, undef, undef, undef, undef].toArray, []⟩ ∧ ((vz223 = n4 ∨ vz223 = -n4) ∧ 0 ≤ vz223 ∧ vz223 ≤ 128) ∧ IsRat w' 64 t136_0 t136_1 t136_2 t136_3 (((n0 / GG : Int) : Rat)) ∧ IsRat w' 64 t136_4 t136_5 t136_6 t136_7 (((n1 / GG : Int) : Rat)) ∧ IsRat w' 64 t136_8 t136_9 t136_10 t136_11 (((n2 / GG : Int) : Rat)) ∧ IsRat w' 64 t136_12 t136_13 t136_14 t136_15 (((n3 / GG : Int) : Rat)) ∧ IsRat w' 64 t136_16 t136_17 t136_18 t136_19 (((n4 / GG : Int) : Rat)) ∧ IsRat w' 64 t136_20 t136_21 t136_22 t136_23 (((n5 / GG : Int) : Rat)) ∧ Lc w' b2 #[(.int .i8 (n0)), (.int .i8 (n1)), (.int .i8 (n2)), (.int .i8 (n3)), (.int .i8 (n4)), (.int .i8 (n5)), (.int .u8 (dd))] 25 ∧ Lc w' b137 #[t136_0, t136_1, t136_2, t136_3, t136_4, t136_5, t136_6, t136_7, t136_8, t136_9, t136_10, t136_11, t136_12, t136_13, t136_14, t136_15, t136_16, t136_17, t136_18, t136_19, t136_20, t136_21, t136_22, t136_23] 35 ∧ Gr w w') (fun K222 k222 => ?_) ?_
     ·refine wp_seq_k (fun K224 k224 => ?_)
      refine rg [0, 1] ?_
      refine sv 126 (.int .i64 (n4)) ?_
      simp only [p3, p4]
      refine sv 127 (.bool (decide (n4 < (0 : Int)))) ?_
      simp only [p3, p4]
      refine sq_nil ?_
      refine k224 _ _ ?_
      try clear k224 K224
      refine wp_cond_split (t := decide (n4 < (0 : Int))) rfl (fun hb225 => ?_) (fun hb225 => ?_)
      ·have hq225 := of_decide_eq_true hb225
       refine rg [0, 1, 2] ?_
       refine sv 128 (.int .i64 (n4)) ?_
       simp only [p3, p4]
       refine sw 129 (.int .i64 ((0 - n4))) rfl (RunV.int (x := IntKind.i64.wrap ((0 - n4))) (y := (0 - n4)) (rvk (by kernel_rfl)) (by first | rfl | (rw [IntKind.wrap_i64]; omega))) ?_
       simp only [p3, p4]
       refine sv 17 (.int .i64 ((0 - n4))) ?_
       simp only [p3, p4]
       refine sq_nil ?_
       refine k222 ⟨List.toArray ?l226, []⟩ _ ?_
       exact ⟨_, (fun i => List.getD ?l226 i undef), rfl, ⟨by omega, by omega, by omega⟩, h136a, h136b, h136c, h136d, h136e, h136f, L2, L137, hB⟩
      ·have hq225 := of_decide_eq_false hb225
       refine wp_skip ?_
       refine k222 ⟨List.toArray ?l227, []⟩ _ ?_
       exact ⟨_, (fun i => List.getD ?l227 i undef), rfl, ⟨by omega, by omega, by omega⟩, h136a, h136b, h136c, h136d, h136e, h136f, L2, L137, hB⟩
     rintro a222 w222 ⟨vz223, u222, rfl, hv223, h136a, h136b, h136c, h136d, h136e, h136f, L2, L137, hB⟩
     refine wp_block ?_
     refine wp_loop_inv (a := ⟨List.toArray ?l228, []⟩) (fun n a w' => ∃ (gz229 : Int) (nz229 : Int) (u228 : Nat → Value), nz229.toNat = n ∧ a = ⟨[(u228 0), (u228 1), (.int .i8 (ff)), (.pointer (some ⟨b2, 0, none⟩)), (.pointer (some ⟨b3, 0, none⟩)), undef, (u110 6), (.pointer (some ⟨b14, 0, none⟩)), (.pointer (some ⟨b15, 0, none⟩)), (.pointer (some ⟨b32, 0, none⟩)), (.pointer (some ⟨b33, 0, none⟩)), (u110 11), (.bool false), (.pointer (some ⟨b137, 0, none⟩)), (.int .i64 0), (.int .i64 (gz229)), (.int .i64 4), (.int .i64 (nz229)), undef, undef, (u228 20), (.bool false), (u228 22), (u228 23), (u228 24), (u228 25), (u228 26), (u228 27), (u228 28), (u228 29), (u228 30), (u228 31), (u228 32), (u228 33), (u228 34), (u228 35), (u228 36), (u228 37), (u228 38), (u228 39), (u228 40), (u228 41), (u228 42), (u228 43), (u228 44), (u228 45), (u228 46), (u228 47), (u228 48), (u228 49), (u228 50), (u228 51), (u228 52), (u228 53), (u228 54), (u228 55), (u228 56), (u228 57), (u228 58), (u228 59), (u228 60), (u228 61), (u228 62), (u228 63), (u228 64), (u228 65), (u228 66), (u228 67), (u228 68), (u228 69), (u228 70), (u228 71), (u228 72), (u228 73), (u228 74), (u228 75), (u228 76), (.bool false), (u228 78), (u228 79), (u228 80), (u228 81), (u228 82), (u228 83), (u228 84), (u228 85), (u228 86), (u228 87), (u228 88), (u228 89), (u228 90), (u228 91), (u228 92), (u228 93), (u228 94), (u228 95), (u228 96), (u228 97), (u228 98), (u228 99), (u228 100), (u228 101), (u228 102), (u228 103), (u110 104), (u228 105), (u228 106), (u228 107), (u228 108), (u228 109), (.bool false), undef, undef, undef, undef, undef, undef, (u228 117), (.bool true), (u228 119), (u228 120), (u228 121), (u228 122), (u228 123), (u228 124), (u228 125), (u228 126), (u222 127), (u228 128), (u228 129), (u228 130), (u228 131), (u228 132), (u228 133), (u228 134), (u228 135), undef, undef, undef, undef, undef, undef, undef, undef, undef, undef, undef, undef, undef, undef, undef, undef, undef, undef, undef, undef, undef, undef, undef, undef].toArray, []⟩ ∧ Int.gcd gz229 nz229 = Int.gcd (gz211) vz223 ∧ 0 ≤ gz229 ∧ 0 ≤ nz229 ∧ IsRat w' 64 t136_0 t136_1 t136_2 t136_3 (((n0 / GG : Int) : Rat)) ∧ IsRat w' 64 t136_4 t136_5 t136_6 t136_7 (((n1 / GG : Int) : Rat)) ∧ IsRat w' 64 t136_8 t136_9 t136_10 t136_11 (((n2 / GG : Int) : Rat)) ∧ IsRat w' 64 t136_12 t136_13 t136_14 t136_15 (((n3 / GG : Int) : Rat)) ∧ IsRat w' 64 t136_16 t136_17 t136_18 t136_19 (((n4 / GG : Int) : Rat)) ∧ IsRat w' 64 t136_20 t136_21 t136_22 t136_23 (((n5 / GG : Int) : Rat)) ∧ Lc w' b2 #[(.int .i8 (n0)), (.int .i8 (n1)), (.int .i8 (n2)), (.int .i8 (n3)), (.int .i8 (n4)), (.int .i8 (n5)), (.int .u8 (dd))] 25 ∧ Lc w' b137 #[t136_0, t136_1, t136_2, t136_3, t136_4, t136_5, t136_6, t136_7, t136_8, t136_9, t136_10, t136_11, t136_12, t136_13, t136_14, t136_15, t136_16, t136_17, t136_18, t136_19, t136_20, t136_21, t136_22, t136_23] 35 ∧ Gr w w') ((vz223 : Int).toNat) ?_ ?_
     ·exact ⟨_, _, (fun i => List.getD ?l228 i undef), rfl, rfl, rfl, (by omega), (by omega), h136a, h136b, h136c, h136d, h136e, h136f, L2, L137, hB⟩
     rintro n228 a228 w228 ⟨gz229, nz229, u228, rfl, rfl, hz229, ha229, hc229, h136a, h136b, h136c, h136d, h136e, h136f, L2, L137, hB⟩ K228 k228
     refine wp_seq_k (fun K230 k230 => ?_)
     refine wp_seq_k (fun K231 k231 => ?_)
     refine rg [0, 1] ?_
     refine sv 130 (.int .i64 (nz229)) ?_
     simp only [p3, p4]
     refine sv 131 (.bool ((nz229 != (0 : Int)))) ?_
     simp only [p3, p4]
     refine sq_nil ?_
     refine k231 _ _ ?_
     try clear k231 K231
     refine wp_cond_split (t := (nz229 != (0 : Int))) rfl (fun hb232 => ?_) (fun hb232 => ?_)
     ·have hp229 : 0 < nz229 := by have h0 : ¬ nz229 = 0 := (by simpa using hb232); omega
      refine wp_skip ?_
      refine k230 _ _ ?_
      try clear k230 K230
      refine wp_block ?_
      have gd234 := Gr.drew w228
      replace hB := hB.trans gd234
      refine wp_region_ord (fun _ => True) [(true, 0), (true, 1), (true, 2), (true, 3), (true, 4), (true, 5)] (by kernel_rfl) (by kernel_rfl) (by kernel_rfl) (by decide) (fun _ _ _ _ _ h => h) trivial ?_
      refine ov 132 (.int .i64 (nz229)) ?_
      simp only [p3, p4]
      refine ov 133 (.int .i64 (gz229)) ?_
      simp only [p3, p4]
      refine ov 134 (.int .i64 (nz229)) ?_
      simp only [p3, p4]
      refine ow 135 (.int .i64 ((gz229 % nz229))) rfl (fun w' hS => (rv_rem 3 3 _ _ gz229 nz229 rfl rfl rfl ha229 hp229)) ?_
      simp only [p3, p4]
      refine ov 15 (.int .i64 (nz229)) ?_
      simp only [p3, p4]
      refine ov 17 (.int .i64 ((gz229 % nz229))) ?_
      simp only [p3, p4]
      refine ord_nil ?_
      replace h136a := h136a.kp gd234.kp
      replace h136b := h136b.kp gd234.kp
      replace h136c := h136c.kp gd234.kp
      replace h136d := h136d.kp gd234.kp
      replace h136e := h136e.kp gd234.kp
      replace h136f := h136f.kp gd234.kp
      replace L2 := L2.gr gd234
      replace L137 := L137.gr gd234
      refine k228 ((gz229 % nz229).toNat) ⟨List.toArray ?l235, []⟩ _ (by have := Int.emod_lt_of_pos gz229 hp229; omega) ?_
      exact ⟨_, _, (fun i => List.getD ?l235 i undef), rfl, rfl, (by rw [gcd_stepZ ha229 hp229]; exact hz229), (by omega), (Int.emod_nonneg _ (by omega)), h136a, h136b, h136c, h136d, h136e, h136f, L2, L137, hB⟩
     ·have hg229 := gcd_endZ hz229 hb232 ha229 hv223.1
      refine wp_exit ?_
      simp only [Exit.then, Exit.inBlock, ↓reduceIte]
      refine k220 _ _ ?_
      try clear k220 K220
      refine rg [0, 1, 2] ?_
      refine sv 119 (.int .i64 4) ?_
      simp only [p3, p4]
      refine sv 120 (.int .i64 5) ?_
      simp only [p3, p4]
      refine sv 16 (.int .i64 5) ?_
      simp only [p3, p4]
      refine sq_nil ?_
      show Code.rounds _ _ _ _ _ _
      show Code.wp _ _ _ _ _
      refine wp_seq_k (fun K236 k236 => ?_)
      refine wp_seq_k (fun K237 k237 => ?_)
      refine rg [0, 1] ?_
      refine sv 117 (.int .i64 5) ?_
      simp only [p3, p4]
      refine sv 118 (.bool true) ?_
      simp only [p3, p4]
      refine sq_nil ?_
      refine k237 _ _ ?_
      try clear k237 K237
      refine wp_cond_true rfl ?_
      refine wp_skip ?_
      refine k236 _ _ ?_
      try clear k236 K236
      refine wp_seq_k (fun K238 k238 => ?_)
      refine wp_block ?_
      refine wp_seq_k (fun K239 k239 => ?_)
      refine rg [0, 1, 2, 3, 4, 5] ?_
      refine sv 121 (.int .i64 5) ?_
      simp only [p3, p4]
      refine sv 122 (.pointer (some ⟨b2, 0, none⟩)) ?_
      simp only [p3, p4]
      refine sv 123 (.pointer (some ⟨b2, 5, none⟩)) ?_
      simp only [p3, p4]
      refine sw 124 (.int .i8 (n5)) rfl (rk 22 5 L2) ?_
      simp only [p3, p4]
      refine sw 125 (.int .i64 (n5)) rfl (RunV.int (x := IntKind.i64.wrap (n5)) (y := n5) (rvk (by kernel_rfl)) (by first | rfl | (rw [IntKind.wrap_i64]; omega))) ?_
      simp only [p3, p4]
      refine sv 17 (.int .i64 (n5)) ?_
      simp only [p3, p4]
      refine sq_nil ?_
      refine k239 _ _ ?_
      try clear k239 K239
      refine wp_seq_cut (fun a w' => ∃ (vz241 : Int) (u240 : Nat → Value), a = ⟨[(u240 0), (u240 1), (.int .i8 (ff)), (.pointer (some ⟨b2, 0, none⟩)), (.pointer (some ⟨b3, 0, none⟩)), undef, (u110 6), (.pointer (some ⟨b14, 0, none⟩)), (.pointer (some ⟨b15, 0, none⟩)), (.pointer (some ⟨b32, 0, none⟩)), (.pointer (some ⟨b33, 0, none⟩)), (u110 11), (.bool false), (.pointer (some ⟨b137, 0, none⟩)), (.int .i64 0), (.int .i64 (gz229)), (.int .i64 5), (.int .i64 (vz241)), undef, undef, (u240 20), (.bool false), (u240 22), (u240 23), (u240 24), (u240 25), (u240 26), (u240 27), (u240 28), (u240 29), (u240 30), (u240 31), (u240 32), (u240 33), (u240 34), (u240 35), (u240 36), (u240 37), (u240 38), (u240 39), (u240 40), (u240 41), (u240 42), (u240 43), (u240 44), (u240 45), (u240 46), (u240 47), (u240 48), (u240 49), (u240 50), (u240 51), (u240 52), (u240 53), (u240 54), (u240 55), (u240 56), (u240 57), (u240 58), (u240 59), (u240 60), (u240 61), (u240 62), (u240 63), (u240 64), (u240 65), (u240 66), (u240 67), (u240 68), (u240 69), (u240 70), (u240 71), (u240 72), (u240 73), (u240 74), (u240 75), (u240 76), (.bool false), (u240 78), (u240 79), (u240 80), (u240 81), (u240 82), (u240 83), (u240 84), (u240 85), (u240 86), (u240 87), (u240 88), (u240 89), (u240 90), (u240 91), (u240 92), (u240 93), (u240 94), (u240 95), (u240 96), (u240 97), (u240 98), (u240 99), (u240 100), (u240 101), (u240 102), (u240 103), (u110 104), (u240 105), (u240 106), (u240 107), (u240 108), (u240 109), (.bool false), undef, undef, undef, undef, undef, undef, (u240 117), (.bool true), (u240 119), (u240 120), (u240 121), (u240 122), (u240 123), (u240 124), (u240 125), (u240 126), (u240 127), (u240 128), (u240 129), (u240 130), (.bool ((nz229 != (0 : Int)))), (u240 132), (u240 133), (u240 134), (u240 135), undef, undef, undef, undef, undef, undef, undef, undef, undef, undef, undef, undef, undef, undef, undef, undef, undef, undef, undef, undef, undef, undef, undef, undef].toArray, []⟩ ∧ ((vz241 = n5 ∨ vz241 = -n5) ∧ 0 ≤ vz241 ∧ vz241 ≤ 128) ∧ IsRat w' 64 t136_0 t136_1 t136_2 t136_3 (((n0 / GG : Int) : Rat)) ∧ IsRat w' 64 t136_4 t136_5 t136_6 t136_7 (((n1 / GG : Int) : Rat)) ∧ IsRat w' 64 t136_8 t136_9 t136_10 t136_11 (((n2 / GG : Int) : Rat)) ∧ IsRat w' 64 t136_12 t136_13 t136_14 t136_15 (((n3 / GG : Int) : Rat)) ∧ IsRat w' 64 t136_16 t136_17 t136_18 t136_19 (((n4 / GG : Int) : Rat)) ∧ IsRat w' 64 t136_20 t136_21 t136_22 t136_23 (((n5 / GG : Int) : Rat)) ∧ Lc w' b2 #[(.int .i8 (n0)), (.int .i8 (n1)), (.int .i8 (n2)), (.int .i8 (n3)), (.int .i8 (n4)), (.int .i8 (n5)), (.int .u8 (dd))] 25 ∧ Lc w' b137 #[t136_0, t136_1, t136_2, t136_3, t136_4, t136_5, t136_6, t136_7, t136_8, t136_9, t136_10, t136_11, t136_12, t136_13, t136_14, t136_15, t136_16, t136_17, t136_18, t136_19, t136_20, t136_21, t136_22, t136_23] 35 ∧ Gr w w') (fun K240 k240 => ?_) ?_
      ·refine wp_seq_k (fun K242 k242 => ?_)
       refine rg [0, 1] ?_
       refine sv 126 (.int .i64 (n5)) ?_
       simp only [p3, p4]
       refine sv 127 (.bool (decide (n5 < (0 : Int)))) ?_
       simp only [p3, p4]
       refine sq_nil ?_
       refine k242 _ _ ?_
       try clear k242 K242
       refine wp_cond_split (t := decide (n5 < (0 : Int))) rfl (fun hb243 => ?_) (fun hb243 => ?_)
       ·have hq243 := of_decide_eq_true hb243
        refine rg [0, 1, 2] ?_
        refine sv 128 (.int .i64 (n5)) ?_
        simp only [p3, p4]
        refine sw 129 (.int .i64 ((0 - n5))) rfl (RunV.int (x := IntKind.i64.wrap ((0 - n5))) (y := (0 - n5)) (rvk (by kernel_rfl)) (by first | rfl | (rw [IntKind.wrap_i64]; omega))) ?_
        simp only [p3, p4]
        refine sv 17 (.int .i64 ((0 - n5))) ?_
        simp only [p3, p4]
        refine sq_nil ?_
        refine k240 ⟨List.toArray ?l244, []⟩ _ ?_
        exact ⟨_, (fun i => List.getD ?l244 i undef), rfl, ⟨by omega, by omega, by omega⟩, h136a, h136b, h136c, h136d, h136e, h136f, L2, L137, hB⟩
       ·have hq243 := of_decide_eq_false hb243
        refine wp_skip ?_
        refine k240 ⟨List.toArray ?l245, []⟩ _ ?_
        exact ⟨_, (fun i => List.getD ?l245 i undef), rfl, ⟨by omega, by omega, by omega⟩, h136a, h136b, h136c, h136d, h136e, h136f, L2, L137, hB⟩
      rintro a240 w240 ⟨vz241, u240, rfl, hv241, h136a, h136b, h136c, h136d, h136e, h136f, L2, L137, hB⟩
      refine wp_block ?_
      refine wp_loop_inv (a := ⟨List.toArray ?l246, []⟩) (fun n a w' => ∃ (gz247 : Int) (nz247 : Int) (u246 : Nat → Value), nz247.toNat = n ∧ a = ⟨[(u246 0), (u246 1), (.int .i8 (ff)), (.pointer (some ⟨b2, 0, none⟩)), (.pointer (some ⟨b3, 0, none⟩)), undef, (u110 6), (.pointer (some ⟨b14, 0, none⟩)), (.pointer (some ⟨b15, 0, none⟩)), (.pointer (some ⟨b32, 0, none⟩)), (.pointer (some ⟨b33, 0, none⟩)), (u110 11), (.bool false), (.pointer (some ⟨b137, 0, none⟩)), (.int .i64 0), (.int .i64 (gz247)), (.int .i64 5), (.int .i64 (nz247)), undef, undef, (u246 20), (.bool false), (u246 22), (u246 23), (u246 24), (u246 25), (u246 26), (u246 27), (u246 28), (u246 29), (u246 30), (u246 31), (u246 32), (u246 33), (u246 34), (u246 35), (u246 36), (u246 37), (u246 38), (u246 39), (u246 40), (u246 41), (u246 42), (u246 43), (u246 44), (u246 45), (u246 46), (u246 47), (u246 48), (u246 49), (u246 50), (u246 51), (u246 52), (u246 53), (u246 54), (u246 55), (u246 56), (u246 57), (u246 58), (u246 59), (u246 60), (u246 61), (u246 62), (u246 63), (u246 64), (u246 65), (u246 66), (u246 67), (u246 68), (u246 69), (u246 70), (u246 71), (u246 72), (u246 73), (u246 74), (u246 75), (u246 76), (.bool false), (u246 78), (u246 79), (u246 80), (u246 81), (u246 82), (u246 83), (u246 84), (u246 85), (u246 86), (u246 87), (u246 88), (u246 89), (u246 90), (u246 91), (u246 92), (u246 93), (u246 94), (u246 95), (u246 96), (u246 97), (u246 98), (u246 99), (u246 100), (u246 101), (u246 102), (u246 103), (u110 104), (u246 105), (u246 106), (u246 107), (u246 108), (u246 109), (.bool false), undef, undef, undef, undef, undef, undef, (u246 117), (.bool true), (u246 119), (u246 120), (u246 121), (u246 122), (u246 123), (u246 124), (u246 125), (u246 126), (u240 127), (u246 128), (u246 129), (u246 130), (u246 131), (u246 132), (u246 133), (u246 134), (u246 135), undef, undef, undef, undef, undef, undef, undef, undef, undef, undef, undef, undef, undef, undef, undef, undef, undef, undef, undef, undef, undef, undef, undef, undef].toArray, []⟩ ∧ Int.gcd gz247 nz247 = Int.gcd (gz229) vz241 ∧ 0 ≤ gz247 ∧ 0 ≤ nz247 ∧ IsRat w' 64 t136_0 t136_1 t136_2 t136_3 (((n0 / GG : Int) : Rat)) ∧ IsRat w' 64 t136_4 t136_5 t136_6 t136_7 (((n1 / GG : Int) : Rat)) ∧ IsRat w' 64 t136_8 t136_9 t136_10 t136_11 (((n2 / GG : Int) : Rat)) ∧ IsRat w' 64 t136_12 t136_13 t136_14 t136_15 (((n3 / GG : Int) : Rat)) ∧ IsRat w' 64 t136_16 t136_17 t136_18 t136_19 (((n4 / GG : Int) : Rat)) ∧ IsRat w' 64 t136_20 t136_21 t136_22 t136_23 (((n5 / GG : Int) : Rat)) ∧ Lc w' b2 #[(.int .i8 (n0)), (.int .i8 (n1)), (.int .i8 (n2)), (.int .i8 (n3)), (.int .i8 (n4)), (.int .i8 (n5)), (.int .u8 (dd))] 25 ∧ Lc w' b137 #[t136_0, t136_1, t136_2, t136_3, t136_4, t136_5, t136_6, t136_7, t136_8, t136_9, t136_10, t136_11, t136_12, t136_13, t136_14, t136_15, t136_16, t136_17, t136_18, t136_19, t136_20, t136_21, t136_22, t136_23] 35 ∧ Gr w w') ((vz241 : Int).toNat) ?_ ?_
      ·exact ⟨_, _, (fun i => List.getD ?l246 i undef), rfl, rfl, rfl, (by omega), (by omega), h136a, h136b, h136c, h136d, h136e, h136f, L2, L137, hB⟩
      rintro n246 a246 w246 ⟨gz247, nz247, u246, rfl, rfl, hz247, ha247, hc247, h136a, h136b, h136c, h136d, h136e, h136f, L2, L137, hB⟩ K246 k246
      refine wp_seq_k (fun K248 k248 => ?_)
      refine wp_seq_k (fun K249 k249 => ?_)
      refine rg [0, 1] ?_
      refine sv 130 (.int .i64 (nz247)) ?_
      simp only [p3, p4]
      refine sv 131 (.bool ((nz247 != (0 : Int)))) ?_
      simp only [p3, p4]
      refine sq_nil ?_
      refine k249 _ _ ?_
      try clear k249 K249
      refine wp_cond_split (t := (nz247 != (0 : Int))) rfl (fun hb250 => ?_) (fun hb250 => ?_)
      ·have hp247 : 0 < nz247 := by have h0 : ¬ nz247 = 0 := (by simpa using hb250); omega
       refine wp_skip ?_
       refine k248 _ _ ?_
       try clear k248 K248
       refine wp_block ?_
       have gd252 := Gr.drew w246
       replace hB := hB.trans gd252
       refine wp_region_ord (fun _ => True) [(true, 0), (true, 1), (true, 2), (true, 3), (true, 4), (true, 5)] (by kernel_rfl) (by kernel_rfl) (by kernel_rfl) (by decide) (fun _ _ _ _ _ h => h) trivial ?_
       refine ov 132 (.int .i64 (nz247)) ?_
       simp only [p3, p4]
       refine ov 133 (.int .i64 (gz247)) ?_
       simp only [p3, p4]
       refine ov 134 (.int .i64 (nz247)) ?_
       simp only [p3, p4]
       refine ow 135 (.int .i64 ((gz247 % nz247))) rfl (fun w' hS => (rv_rem 3 3 _ _ gz247 nz247 rfl rfl rfl ha247 hp247)) ?_
       simp only [p3, p4]
       refine ov 15 (.int .i64 (nz247)) ?_
       simp only [p3, p4]
       refine ov 17 (.int .i64 ((gz247 % nz247))) ?_
       simp only [p3, p4]
       refine ord_nil ?_
       replace h136a := h136a.kp gd252.kp
       replace h136b := h136b.kp gd252.kp
       replace h136c := h136c.kp gd252.kp
       replace h136d := h136d.kp gd252.kp
       replace h136e := h136e.kp gd252.kp
       replace h136f := h136f.kp gd252.kp
       replace L2 := L2.gr gd252
       replace L137 := L137.gr gd252
       refine k246 ((gz247 % nz247).toNat) ⟨List.toArray ?l253, []⟩ _ (by have := Int.emod_lt_of_pos gz247 hp247; omega) ?_
       exact ⟨_, _, (fun i => List.getD ?l253 i undef), rfl, rfl, (by rw [gcd_stepZ ha247 hp247]; exact hz247), (by omega), (Int.emod_nonneg _ (by omega)), h136a, h136b, h136c, h136d, h136e, h136f, L2, L137, hB⟩
      ·have hg247 := gcd_endZ hz247 hb250 ha247 hv241.1
       have hGz : gz247 = GG := by rw [hGG, hg247, hg229, hg211, hg193, hg175, hg157]; rfl
       refine wp_exit ?_
       simp only [Exit.then, Exit.inBlock, ↓reduceIte]
       refine k238 _ _ ?_
       try clear k238 K238
       refine rg [0, 1, 2] ?_
       refine sv 119 (.int .i64 5) ?_
       simp only [p3, p4]
       refine sv 120 (.int .i64 6) ?_
       simp only [p3, p4]
       refine sv 16 (.int .i64 6) ?_
       simp only [p3, p4]
       refine sq_nil ?_
       show Code.rounds _ _ _ _ _ _
       show Code.wp _ _ _ _ _
       refine wp_seq_k (fun K254 k254 => ?_)
       refine wp_seq_k (fun K255 k255 => ?_)
       refine rg [0, 1] ?_
       refine sv 117 (.int .i64 6) ?_
       simp only [p3, p4]
       refine sv 118 (.bool false) ?_
       simp only [p3, p4]
       refine sq_nil ?_
       refine k255 _ _ ?_
       try clear k255 K255
       refine wp_cond_false rfl ?_
       refine wp_exit ?_
       simp only [Exit.then, Exit.inBlock, ↓reduceIte]
       refine k142 _ _ ?_
       try clear k142 K142
       refine wp_seq_k (fun K256 k256 => ?_)
       refine rg [0, 1, 2] ?_
       refine sv 136 (.agg #[(.string ⟨([] : List UInt8).toArray⟩), (.string ⟨([] : List UInt8).toArray⟩), (.string ⟨([] : List UInt8).toArray⟩), (.string ⟨([] : List UInt8).toArray⟩), (.string ⟨([] : List UInt8).toArray⟩), (.string ⟨([] : List UInt8).toArray⟩)]) ?_
       simp only [p3, p4]
       refine se ?_
       refine ea 77 #[(.string ⟨([] : List UInt8).toArray⟩), (.string ⟨([] : List UInt8).toArray⟩), (.string ⟨([] : List UInt8).toArray⟩), (.string ⟨([] : List UInt8).toArray⟩), (.string ⟨([] : List UInt8).toArray⟩), (.string ⟨([] : List UInt8).toArray⟩)] 18 hB fun b257 w257 g257 L257 o257 q257 hB => ?_
       have ne2_257 := L2.ne o257
       have ne137_257 := L137.ne o257
       simp only [p3, p4]
       refine se ?_
       refine es 77 0 (.agg #[(.string ⟨([] : List UInt8).toArray⟩), (.string ⟨([] : List UInt8).toArray⟩), (.string ⟨([] : List UInt8).toArray⟩), (.string ⟨([] : List UInt8).toArray⟩), (.string ⟨([] : List UInt8).toArray⟩), (.string ⟨([] : List UInt8).toArray⟩)]) [(.string ⟨([] : List UInt8).toArray⟩), (.string ⟨([] : List UInt8).toArray⟩), (.string ⟨([] : List UInt8).toArray⟩), (.string ⟨([] : List UInt8).toArray⟩), (.string ⟨([] : List UInt8).toArray⟩), (.string ⟨([] : List UInt8).toArray⟩)] #[(.string ⟨([] : List UInt8).toArray⟩), (.string ⟨([] : List UInt8).toArray⟩), (.string ⟨([] : List UInt8).toArray⟩), (.string ⟨([] : List UInt8).toArray⟩), (.string ⟨([] : List UInt8).toArray⟩), (.string ⟨([] : List UInt8).toArray⟩)] L257 hB q257 ⟨rfl, rfl, rfl, rfl, rfl, rfl, trivial⟩ fun w258 st258 kp258 L257 hB => ?_
       refine sq_nil ?_
       refine k256 _ _ ?_
       try clear k256 K256
       refine wp_seq_k (fun K259 k259 => ?_)
       refine wp_seq_k (fun K260 k260 => ?_)
       refine rg [0] ?_
       refine sv 19 (.int .i64 0) ?_
       simp only [p3, p4]
       refine sq_nil ?_
       refine k260 _ _ ?_
       try clear k260 K260
       refine wp_block ?_
       refine wp_loop_rounds 8 ?_
       show Code.wp _ _ _ _ _
       refine wp_seq_k (fun K261 k261 => ?_)
       refine wp_seq_k (fun K262 k262 => ?_)
       refine rg [0, 1] ?_
       refine sv 137 (.int .i64 0) ?_
       simp only [p3, p4]
       refine sv 138 (.bool true) ?_
       simp only [p3, p4]
       refine sq_nil ?_
       refine k262 _ _ ?_
       try clear k262 K262
       refine wp_cond_true rfl ?_
       refine wp_skip ?_
       refine k261 _ _ ?_
       try clear k261 K261
       refine wp_seq_k (fun K263 k263 => ?_)
       refine wp_block ?_
       refine rg [0, 1, 2, 3, 4, 5, 6, 7, 8, 9, 10, 11] ?_
       refine sv 141 (.int .i64 0) ?_
       simp only [p3, p4]
       refine sv 142 (.int .i64 0) ?_
       simp only [p3, p4]
       refine sv 143 (.pointer (some ⟨b2, 0, none⟩)) ?_
       simp only [p3, p4]
       refine sv 144 (.pointer (some ⟨b2, 0, none⟩)) ?_
       simp only [p3, p4]
       replace L2 := st258.lc (L2.gr g257) ne2_257
       refine sw 145 (.int .i8 (n0)) rfl (rk 22 0 L2) ?_
       simp only [p3, p4]
       refine sw 146 (.int .i64 (n0)) rfl (RunV.int (x := IntKind.i64.wrap (n0)) (y := n0) (rvk (by kernel_rfl)) (by first | rfl | (rw [IntKind.wrap_i64]; omega))) ?_
       simp only [p3, p4]
       refine sv 147 (.int .i64 (gz247)) ?_
       simp only [p3, p4]
       refine sw 148 (.int .i64 (n0 / GG)) rfl (rv_quo 3 3 _ _ n0 gz247 (n0 / GG) rfl rfl rfl (quo_eq hGz dv0) (by omega) (by omega) (by omega)) ?_
       simp only [p3, p4]
       refine se ?_
       refine ec 149 (from_r (n0 / GG) (by omega) (by omega) _) ?_
       rintro e264 w264 ⟨⟨p264, q264, r264, s264, rfl, h264⟩, g264⟩
       refine ⟨_, rfl, ?_⟩
       replace hB := hB.trans g264
       simp only [p3, p4]
       refine se ?_
       refine ec 150 (number_r h264 (by omega) (ht.gr hB)) ?_
       rintro e265 w265 ⟨rfl, g265⟩
       refine ⟨_, rfl, ?_⟩
       replace hB := hB.trans g265
       simp only [p3, p4]
       refine sv 151 (.pointer (some ⟨b257, 0, none⟩)) ?_
       simp only [p3, p4]
       refine se ?_
       replace L257 := L257.gr (g264.trans g265)
       refine es 75 0 (.string ⟨(ratL ((((n0 / GG : Int) : Rat))) : List UInt8).toArray⟩) [(.string ⟨(ratL ((((n0 / GG : Int) : Rat))) : List UInt8).toArray⟩)] #[(.string ⟨(ratL ((((n0 / GG : Int) : Rat))) : List UInt8).toArray⟩), (.string ⟨([] : List UInt8).toArray⟩), (.string ⟨([] : List UInt8).toArray⟩), (.string ⟨([] : List UInt8).toArray⟩), (.string ⟨([] : List UInt8).toArray⟩), (.string ⟨([] : List UInt8).toArray⟩)] L257 hB q257 ⟨rfl, trivial⟩ fun w266 st266 kp266 L257 hB => ?_
       refine sq_nil ?_
       refine k263 _ _ ?_
       try clear k263 K263
       refine rg [0, 1, 2] ?_
       refine sv 139 (.int .i64 0) ?_
       simp only [p3, p4]
       refine sv 140 (.int .i64 1) ?_
       simp only [p3, p4]
       refine sv 19 (.int .i64 1) ?_
       simp only [p3, p4]
       refine sq_nil ?_
       show Code.rounds _ _ _ _ _ _
       show Code.wp _ _ _ _ _
       refine wp_seq_k (fun K267 k267 => ?_)
       refine wp_seq_k (fun K268 k268 => ?_)
       refine rg [0, 1] ?_
       refine sv 137 (.int .i64 1) ?_
       simp only [p3, p4]
       refine sv 138 (.bool true) ?_
       simp only [p3, p4]
       refine sq_nil ?_
       refine k268 _ _ ?_
       try clear k268 K268
       refine wp_cond_true rfl ?_
       refine wp_skip ?_
       refine k267 _ _ ?_
       try clear k267 K267
       refine wp_seq_k (fun K269 k269 => ?_)
       refine wp_block ?_
       refine rg [0, 1, 2, 3, 4, 5, 6, 7, 8, 9, 10, 11] ?_
       refine sv 141 (.int .i64 1) ?_
       simp only [p3, p4]
       refine sv 142 (.int .i64 1) ?_
       simp only [p3, p4]
       refine sv 143 (.pointer (some ⟨b2, 0, none⟩)) ?_
       simp only [p3, p4]
       refine sv 144 (.pointer (some ⟨b2, 1, none⟩)) ?_
       simp only [p3, p4]
       replace L2 := st266.lc (L2.gr (g264.trans g265)) ne2_257
       refine sw 145 (.int .i8 (n1)) rfl (rk 22 1 L2) ?_
       simp only [p3, p4]
       refine sw 146 (.int .i64 (n1)) rfl (RunV.int (x := IntKind.i64.wrap (n1)) (y := n1) (rvk (by kernel_rfl)) (by first | rfl | (rw [IntKind.wrap_i64]; omega))) ?_
       simp only [p3, p4]
       refine sv 147 (.int .i64 (gz247)) ?_
       simp only [p3, p4]
       refine sw 148 (.int .i64 (n1 / GG)) rfl (rv_quo 3 3 _ _ n1 gz247 (n1 / GG) rfl rfl rfl (quo_eq hGz dv1) (by omega) (by omega) (by omega)) ?_
       simp only [p3, p4]
       refine se ?_
       refine ec 149 (from_r (n1 / GG) (by omega) (by omega) _) ?_
       rintro e270 w270 ⟨⟨p270, q270, r270, s270, rfl, h270⟩, g270⟩
       refine ⟨_, rfl, ?_⟩
       replace hB := hB.trans g270
       simp only [p3, p4]
       refine se ?_
       refine ec 150 (number_r h270 (by omega) (ht.gr hB)) ?_
       rintro e271 w271 ⟨rfl, g271⟩
       refine ⟨_, rfl, ?_⟩
       replace hB := hB.trans g271
       simp only [p3, p4]
       refine sv 151 (.pointer (some ⟨b257, 1, none⟩)) ?_
       simp only [p3, p4]
       refine se ?_
       replace L257 := L257.gr (g270.trans g271)
       refine es 75 1 (.string ⟨(ratL ((((n1 / GG : Int) : Rat))) : List UInt8).toArray⟩) [(.string ⟨(ratL ((((n1 / GG : Int) : Rat))) : List UInt8).toArray⟩)] #[(.string ⟨(ratL ((((n0 / GG : Int) : Rat))) : List UInt8).toArray⟩), (.string ⟨(ratL ((((n1 / GG : Int) : Rat))) : List UInt8).toArray⟩), (.string ⟨([] : List UInt8).toArray⟩), (.string ⟨([] : List UInt8).toArray⟩), (.string ⟨([] : List UInt8).toArray⟩), (.string ⟨([] : List UInt8).toArray⟩)] L257 hB q257 ⟨rfl, trivial⟩ fun w272 st272 kp272 L257 hB => ?_
       refine sq_nil ?_
       refine k269 _ _ ?_
       try clear k269 K269
       refine rg [0, 1, 2] ?_
       refine sv 139 (.int .i64 1) ?_
       simp only [p3, p4]
       refine sv 140 (.int .i64 2) ?_
       simp only [p3, p4]
       refine sv 19 (.int .i64 2) ?_
       simp only [p3, p4]
       refine sq_nil ?_
       show Code.rounds _ _ _ _ _ _
       show Code.wp _ _ _ _ _
       refine wp_seq_k (fun K273 k273 => ?_)
       refine wp_seq_k (fun K274 k274 => ?_)
       refine rg [0, 1] ?_
       refine sv 137 (.int .i64 2) ?_
       simp only [p3, p4]
       refine sv 138 (.bool true) ?_
       simp only [p3, p4]
       refine sq_nil ?_
       refine k274 _ _ ?_
       try clear k274 K274
       refine wp_cond_true rfl ?_
       refine wp_skip ?_
       refine k273 _ _ ?_
       try clear k273 K273
       refine wp_seq_k (fun K275 k275 => ?_)
       refine wp_block ?_
       refine rg [0, 1, 2, 3, 4, 5, 6, 7, 8, 9, 10, 11] ?_
       refine sv 141 (.int .i64 2) ?_
       simp only [p3, p4]
       refine sv 142 (.int .i64 2) ?_
       simp only [p3, p4]
       refine sv 143 (.pointer (some ⟨b2, 0, none⟩)) ?_
       simp only [p3, p4]
       refine sv 144 (.pointer (some ⟨b2, 2, none⟩)) ?_
       simp only [p3, p4]
       replace L2 := st272.lc (L2.gr (g270.trans g271)) ne2_257
       refine sw 145 (.int .i8 (n2)) rfl (rk 22 2 L2) ?_
       simp only [p3, p4]
       refine sw 146 (.int .i64 (n2)) rfl (RunV.int (x := IntKind.i64.wrap (n2)) (y := n2) (rvk (by kernel_rfl)) (by first | rfl | (rw [IntKind.wrap_i64]; omega))) ?_
       simp only [p3, p4]
       refine sv 147 (.int .i64 (gz247)) ?_
       simp only [p3, p4]
       refine sw 148 (.int .i64 (n2 / GG)) rfl (rv_quo 3 3 _ _ n2 gz247 (n2 / GG) rfl rfl rfl (quo_eq hGz dv2) (by omega) (by omega) (by omega)) ?_
       simp only [p3, p4]
       refine se ?_
       refine ec 149 (from_r (n2 / GG) (by omega) (by omega) _) ?_
       rintro e276 w276 ⟨⟨p276, q276, r276, s276, rfl, h276⟩, g276⟩
       refine ⟨_, rfl, ?_⟩
       replace hB := hB.trans g276
       simp only [p3, p4]
       refine se ?_
       refine ec 150 (number_r h276 (by omega) (ht.gr hB)) ?_
       rintro e277 w277 ⟨rfl, g277⟩
       refine ⟨_, rfl, ?_⟩
       replace hB := hB.trans g277
       simp only [p3, p4]
       refine sv 151 (.pointer (some ⟨b257, 2, none⟩)) ?_
       simp only [p3, p4]
       refine se ?_
       replace L257 := L257.gr (g276.trans g277)
       refine es 75 2 (.string ⟨(ratL ((((n2 / GG : Int) : Rat))) : List UInt8).toArray⟩) [(.string ⟨(ratL ((((n2 / GG : Int) : Rat))) : List UInt8).toArray⟩)] #[(.string ⟨(ratL ((((n0 / GG : Int) : Rat))) : List UInt8).toArray⟩), (.string ⟨(ratL ((((n1 / GG : Int) : Rat))) : List UInt8).toArray⟩), (.string ⟨(ratL ((((n2 / GG : Int) : Rat))) : List UInt8).toArray⟩), (.string ⟨([] : List UInt8).toArray⟩), (.string ⟨([] : List UInt8).toArray⟩), (.string ⟨([] : List UInt8).toArray⟩)] L257 hB q257 ⟨rfl, trivial⟩ fun w278 st278 kp278 L257 hB => ?_
       refine sq_nil ?_
       refine k275 _ _ ?_
       try clear k275 K275
       refine rg [0, 1, 2] ?_
       refine sv 139 (.int .i64 2) ?_
       simp only [p3, p4]
       refine sv 140 (.int .i64 3) ?_
       simp only [p3, p4]
       refine sv 19 (.int .i64 3) ?_
       simp only [p3, p4]
       refine sq_nil ?_
       show Code.rounds _ _ _ _ _ _
       show Code.wp _ _ _ _ _
       refine wp_seq_k (fun K279 k279 => ?_)
       refine wp_seq_k (fun K280 k280 => ?_)
       refine rg [0, 1] ?_
       refine sv 137 (.int .i64 3) ?_
       simp only [p3, p4]
       refine sv 138 (.bool true) ?_
       simp only [p3, p4]
       refine sq_nil ?_
       refine k280 _ _ ?_
       try clear k280 K280
       refine wp_cond_true rfl ?_
       refine wp_skip ?_
       refine k279 _ _ ?_
       try clear k279 K279
       refine wp_seq_k (fun K281 k281 => ?_)
       refine wp_block ?_
       refine rg [0, 1, 2, 3, 4, 5, 6, 7, 8, 9, 10, 11] ?_
       refine sv 141 (.int .i64 3) ?_
       simp only [p3, p4]
       refine sv 142 (.int .i64 3) ?_
       simp only [p3, p4]
       refine sv 143 (.pointer (some ⟨b2, 0, none⟩)) ?_
       simp only [p3, p4]
       refine sv 144 (.pointer (some ⟨b2, 3, none⟩)) ?_
       simp only [p3, p4]
       replace L2 := st278.lc (L2.gr (g276.trans g277)) ne2_257
       refine sw 145 (.int .i8 (n3)) rfl (rk 22 3 L2) ?_
       simp only [p3, p4]
       refine sw 146 (.int .i64 (n3)) rfl (RunV.int (x := IntKind.i64.wrap (n3)) (y := n3) (rvk (by kernel_rfl)) (by first | rfl | (rw [IntKind.wrap_i64]; omega))) ?_
       simp only [p3, p4]
       refine sv 147 (.int .i64 (gz247)) ?_
       simp only [p3, p4]
       refine sw 148 (.int .i64 (n3 / GG)) rfl (rv_quo 3 3 _ _ n3 gz247 (n3 / GG) rfl rfl rfl (quo_eq hGz dv3) (by omega) (by omega) (by omega)) ?_
       simp only [p3, p4]
       refine se ?_
       refine ec 149 (from_r (n3 / GG) (by omega) (by omega) _) ?_
       rintro e282 w282 ⟨⟨p282, q282, r282, s282, rfl, h282⟩, g282⟩
       refine ⟨_, rfl, ?_⟩
       replace hB := hB.trans g282
       simp only [p3, p4]
       refine se ?_
       refine ec 150 (number_r h282 (by omega) (ht.gr hB)) ?_
       rintro e283 w283 ⟨rfl, g283⟩
       refine ⟨_, rfl, ?_⟩
       replace hB := hB.trans g283
       simp only [p3, p4]
       refine sv 151 (.pointer (some ⟨b257, 3, none⟩)) ?_
       simp only [p3, p4]
       refine se ?_
       replace L257 := L257.gr (g282.trans g283)
       refine es 75 3 (.string ⟨(ratL ((((n3 / GG : Int) : Rat))) : List UInt8).toArray⟩) [(.string ⟨(ratL ((((n3 / GG : Int) : Rat))) : List UInt8).toArray⟩)] #[(.string ⟨(ratL ((((n0 / GG : Int) : Rat))) : List UInt8).toArray⟩), (.string ⟨(ratL ((((n1 / GG : Int) : Rat))) : List UInt8).toArray⟩), (.string ⟨(ratL ((((n2 / GG : Int) : Rat))) : List UInt8).toArray⟩), (.string ⟨(ratL ((((n3 / GG : Int) : Rat))) : List UInt8).toArray⟩), (.string ⟨([] : List UInt8).toArray⟩), (.string ⟨([] : List UInt8).toArray⟩)] L257 hB q257 ⟨rfl, trivial⟩ fun w284 st284 kp284 L257 hB => ?_
       refine sq_nil ?_
       refine k281 _ _ ?_
       try clear k281 K281
       refine rg [0, 1, 2] ?_
       refine sv 139 (.int .i64 3) ?_
       simp only [p3, p4]
       refine sv 140 (.int .i64 4) ?_
       simp only [p3, p4]
       refine sv 19 (.int .i64 4) ?_
       simp only [p3, p4]
       refine sq_nil ?_
       show Code.rounds _ _ _ _ _ _
       show Code.wp _ _ _ _ _
       refine wp_seq_k (fun K285 k285 => ?_)
       refine wp_seq_k (fun K286 k286 => ?_)
       refine rg [0, 1] ?_
       refine sv 137 (.int .i64 4) ?_
       simp only [p3, p4]
       refine sv 138 (.bool true) ?_
       simp only [p3, p4]
       refine sq_nil ?_
       refine k286 _ _ ?_
       try clear k286 K286
       refine wp_cond_true rfl ?_
       refine wp_skip ?_
       refine k285 _ _ ?_
       try clear k285 K285
       refine wp_seq_k (fun K287 k287 => ?_)
       refine wp_block ?_
       refine rg [0, 1, 2, 3, 4, 5, 6, 7, 8, 9, 10, 11] ?_
       refine sv 141 (.int .i64 4) ?_
       simp only [p3, p4]
       refine sv 142 (.int .i64 4) ?_
       simp only [p3, p4]
       refine sv 143 (.pointer (some ⟨b2, 0, none⟩)) ?_
       simp only [p3, p4]
       refine sv 144 (.pointer (some ⟨b2, 4, none⟩)) ?_
       simp only [p3, p4]
       replace L2 := st284.lc (L2.gr (g282.trans g283)) ne2_257
       refine sw 145 (.int .i8 (n4)) rfl (rk 22 4 L2) ?_
       simp only [p3, p4]
       refine sw 146 (.int .i64 (n4)) rfl (RunV.int (x := IntKind.i64.wrap (n4)) (y := n4) (rvk (by kernel_rfl)) (by first | rfl | (rw [IntKind.wrap_i64]; omega))) ?_
       simp only [p3, p4]
       refine sv 147 (.int .i64 (gz247)) ?_
       simp only [p3, p4]
       refine sw 148 (.int .i64 (n4 / GG)) rfl (rv_quo 3 3 _ _ n4 gz247 (n4 / GG) rfl rfl rfl (quo_eq hGz dv4) (by omega) (by omega) (by omega)) ?_
       simp only [p3, p4]
       refine se ?_
       refine ec 149 (from_r (n4 / GG) (by omega) (by omega) _) ?_
       rintro e288 w288 ⟨⟨p288, q288, r288, s288, rfl, h288⟩, g288⟩
       refine ⟨_, rfl, ?_⟩
       replace hB := hB.trans g288
       simp only [p3, p4]
       refine se ?_
       refine ec 150 (number_r h288 (by omega) (ht.gr hB)) ?_
       rintro e289 w289 ⟨rfl, g289⟩
       refine ⟨_, rfl, ?_⟩
       replace hB := hB.trans g289
       simp only [p3, p4]
       refine sv 151 (.pointer (some ⟨b257, 4, none⟩)) ?_
       simp only [p3, p4]
       refine se ?_
       replace L257 := L257.gr (g288.trans g289)
       refine es 75 4 (.string ⟨(ratL ((((n4 / GG : Int) : Rat))) : List UInt8).toArray⟩) [(.string ⟨(ratL ((((n4 / GG : Int) : Rat))) : List UInt8).toArray⟩)] #[(.string ⟨(ratL ((((n0 / GG : Int) : Rat))) : List UInt8).toArray⟩), (.string ⟨(ratL ((((n1 / GG : Int) : Rat))) : List UInt8).toArray⟩), (.string ⟨(ratL ((((n2 / GG : Int) : Rat))) : List UInt8).toArray⟩), (.string ⟨(ratL ((((n3 / GG : Int) : Rat))) : List UInt8).toArray⟩), (.string ⟨(ratL ((((n4 / GG : Int) : Rat))) : List UInt8).toArray⟩), (.string ⟨([] : List UInt8).toArray⟩)] L257 hB q257 ⟨rfl, trivial⟩ fun w290 st290 kp290 L257 hB => ?_
       refine sq_nil ?_
       refine k287 _ _ ?_
       try clear k287 K287
       refine rg [0, 1, 2] ?_
       refine sv 139 (.int .i64 4) ?_
       simp only [p3, p4]
       refine sv 140 (.int .i64 5) ?_
       simp only [p3, p4]
       refine sv 19 (.int .i64 5) ?_
       simp only [p3, p4]
       refine sq_nil ?_
       show Code.rounds _ _ _ _ _ _
       show Code.wp _ _ _ _ _
       refine wp_seq_k (fun K291 k291 => ?_)
       refine wp_seq_k (fun K292 k292 => ?_)
       refine rg [0, 1] ?_
       refine sv 137 (.int .i64 5) ?_
       simp only [p3, p4]
       refine sv 138 (.bool true) ?_
       simp only [p3, p4]
       refine sq_nil ?_
       refine k292 _ _ ?_
       try clear k292 K292
       refine wp_cond_true rfl ?_
       refine wp_skip ?_
       refine k291 _ _ ?_
       try clear k291 K291
       refine wp_seq_k (fun K293 k293 => ?_)
       refine wp_block ?_
       refine rg [0, 1, 2, 3, 4, 5, 6, 7, 8, 9, 10, 11] ?_
       refine sv 141 (.int .i64 5) ?_
       simp only [p3, p4]
       refine sv 142 (.int .i64 5) ?_
       simp only [p3, p4]
       refine sv 143 (.pointer (some ⟨b2, 0, none⟩)) ?_
       simp only [p3, p4]
       refine sv 144 (.pointer (some ⟨b2, 5, none⟩)) ?_
       simp only [p3, p4]
       replace L2 := st290.lc (L2.gr (g288.trans g289)) ne2_257
       refine sw 145 (.int .i8 (n5)) rfl (rk 22 5 L2) ?_
       simp only [p3, p4]
       refine sw 146 (.int .i64 (n5)) rfl (RunV.int (x := IntKind.i64.wrap (n5)) (y := n5) (rvk (by kernel_rfl)) (by first | rfl | (rw [IntKind.wrap_i64]; omega))) ?_
       simp only [p3, p4]
       refine sv 147 (.int .i64 (gz247)) ?_
       simp only [p3, p4]
       refine sw 148 (.int .i64 (n5 / GG)) rfl (rv_quo 3 3 _ _ n5 gz247 (n5 / GG) rfl rfl rfl (quo_eq hGz dv5) (by omega) (by omega) (by omega)) ?_
       simp only [p3, p4]
       refine se ?_
       refine ec 149 (from_r (n5 / GG) (by omega) (by omega) _) ?_
       rintro e294 w294 ⟨⟨p294, q294, r294, s294, rfl, h294⟩, g294⟩
       refine ⟨_, rfl, ?_⟩
       replace hB := hB.trans g294
       simp only [p3, p4]
       refine se ?_
       refine ec 150 (number_r h294 (by omega) (ht.gr hB)) ?_
       rintro e295 w295 ⟨rfl, g295⟩
       refine ⟨_, rfl, ?_⟩
       replace hB := hB.trans g295
       simp only [p3, p4]
       refine sv 151 (.pointer (some ⟨b257, 5, none⟩)) ?_
       simp only [p3, p4]
       refine se ?_
       replace L257 := L257.gr (g294.trans g295)
       refine es 75 5 (.string ⟨(ratL ((((n5 / GG : Int) : Rat))) : List UInt8).toArray⟩) [(.string ⟨(ratL ((((n5 / GG : Int) : Rat))) : List UInt8).toArray⟩)] #[(.string ⟨(ratL ((((n0 / GG : Int) : Rat))) : List UInt8).toArray⟩), (.string ⟨(ratL ((((n1 / GG : Int) : Rat))) : List UInt8).toArray⟩), (.string ⟨(ratL ((((n2 / GG : Int) : Rat))) : List UInt8).toArray⟩), (.string ⟨(ratL ((((n3 / GG : Int) : Rat))) : List UInt8).toArray⟩), (.string ⟨(ratL ((((n4 / GG : Int) : Rat))) : List UInt8).toArray⟩), (.string ⟨(ratL ((((n5 / GG : Int) : Rat))) : List UInt8).toArray⟩)] L257 hB q257 ⟨rfl, trivial⟩ fun w296 st296 kp296 L257 hB => ?_
       refine sq_nil ?_
       refine k293 _ _ ?_
       try clear k293 K293
       refine rg [0, 1, 2] ?_
       refine sv 139 (.int .i64 5) ?_
       simp only [p3, p4]
       refine sv 140 (.int .i64 6) ?_
       simp only [p3, p4]
       refine sv 19 (.int .i64 6) ?_
       simp only [p3, p4]
       refine sq_nil ?_
       show Code.rounds _ _ _ _ _ _
       show Code.wp _ _ _ _ _
       refine wp_seq_k (fun K297 k297 => ?_)
       refine wp_seq_k (fun K298 k298 => ?_)
       refine rg [0, 1] ?_
       refine sv 137 (.int .i64 6) ?_
       simp only [p3, p4]
       refine sv 138 (.bool false) ?_
       simp only [p3, p4]
       refine sq_nil ?_
       refine k298 _ _ ?_
       try clear k298 K298
       refine wp_cond_false rfl ?_
       refine wp_exit ?_
       simp only [Exit.then, Exit.inBlock, ↓reduceIte]
       refine k259 _ _ ?_
       try clear k259 K259
       refine wp_seq_k (fun K299 k299 => ?_)
       have gd304 := Gr.drew w296
       replace hB := hB.trans gd304
       replace L137 := (st296.lc ((st290.lc ((st284.lc ((st278.lc ((st272.lc ((st266.lc ((st258.lc (L137.gr g257) ne137_257).gr (g264.trans g265)) ne137_257).gr (g270.trans g271)) ne137_257).gr (g276.trans g277)) ne137_257).gr (g282.trans g283)) ne137_257).gr (g288.trans g289)) ne137_257).gr (g294.trans g295)) ne137_257).gr gd304
       replace L257 := L257.gr gd304
       refine wp_region_ord (fun w' => Lc w' b137 #[t136_0, t136_1, t136_2, t136_3, t136_4, t136_5, t136_6, t136_7, t136_8, t136_9, t136_10, t136_11, t136_12, t136_13, t136_14, t136_15, t136_16, t136_17, t136_18, t136_19, t136_20, t136_21, t136_22, t136_23] 35 ∧ Lc w' b257 #[(.string ⟨(ratL ((((n0 / GG : Int) : Rat))) : List UInt8).toArray⟩), (.string ⟨(ratL ((((n1 / GG : Int) : Rat))) : List UInt8).toArray⟩), (.string ⟨(ratL ((((n2 / GG : Int) : Rat))) : List UInt8).toArray⟩), (.string ⟨(ratL ((((n3 / GG : Int) : Rat))) : List UInt8).toArray⟩), (.string ⟨(ratL ((((n4 / GG : Int) : Rat))) : List UInt8).toArray⟩), (.string ⟨(ratL ((((n5 / GG : Int) : Rat))) : List UInt8).toArray⟩)] 77) [(true, 0), (true, 1), (true, 2), (true, 3), (true, 5), (false, 4), (true, 6), (true, 7), (true, 8)] (by kernel_rfl) (by kernel_rfl) (by kernel_rfl) (by decide) (fun _ _ _ _ _ h => h) ⟨L137, L257⟩ ?_
       refine ov 152 (.int .i64 0) ?_
       simp only [p3, p4]
       refine ov 153 (.bool true) ?_
       simp only [p3, p4]
       refine ov 154 (.bool true) ?_
       simp only [p3, p4]
       refine ow 155 (.agg #[t136_0, t136_1, t136_2, t136_3, t136_4, t136_5, t136_6, t136_7, t136_8, t136_9, t136_10, t136_11, t136_12, t136_13, t136_14, t136_15, t136_16, t136_17, t136_18, t136_19, t136_20, t136_21, t136_22, t136_23]) rfl (fun w' hS => (rl 35 0 [t136_0, t136_1, t136_2, t136_3, t136_4, t136_5, t136_6, t136_7, t136_8, t136_9, t136_10, t136_11, t136_12, t136_13, t136_14, t136_15, t136_16, t136_17, t136_18, t136_19, t136_20, t136_21, t136_22, t136_23] hS.1)) ?_
       simp only [p3, p4]
       refine ow 157 (.agg #[(.string ⟨(ratL ((((n0 / GG : Int) : Rat))) : List UInt8).toArray⟩), (.string ⟨(ratL ((((n1 / GG : Int) : Rat))) : List UInt8).toArray⟩), (.string ⟨(ratL ((((n2 / GG : Int) : Rat))) : List UInt8).toArray⟩), (.string ⟨(ratL ((((n3 / GG : Int) : Rat))) : List UInt8).toArray⟩), (.string ⟨(ratL ((((n4 / GG : Int) : Rat))) : List UInt8).toArray⟩), (.string ⟨(ratL ((((n5 / GG : Int) : Rat))) : List UInt8).toArray⟩)]) rfl (fun w' hS => (rl 77 0 [(.string ⟨(ratL ((((n0 / GG : Int) : Rat))) : List UInt8).toArray⟩), (.string ⟨(ratL ((((n1 / GG : Int) : Rat))) : List UInt8).toArray⟩), (.string ⟨(ratL ((((n2 / GG : Int) : Rat))) : List UInt8).toArray⟩), (.string ⟨(ratL ((((n3 / GG : Int) : Rat))) : List UInt8).toArray⟩), (.string ⟨(ratL ((((n4 / GG : Int) : Rat))) : List UInt8).toArray⟩), (.string ⟨(ratL ((((n5 / GG : Int) : Rat))) : List UInt8).toArray⟩)] hS.2)) ?_
       simp only [p3, p4]
       refine oe ?_
       have kq307 := g257.kp.trans (kp258.trans (g264.kp.trans (g265.kp.trans (kp266.trans (g270.kp.trans (g271.kp.trans (kp272.trans (g276.kp.trans (g277.kp.trans (kp278.trans (g282.kp.trans (g283.kp.trans (kp284.trans (g288.kp.trans (g289.kp.trans (kp290.trans (g294.kp.trans (g295.kp.trans (kp296.trans gd304.kp)))))))))))))))))))
       replace h136a := h136a.kp kq307
       replace h136b := h136b.kp kq307
       replace h136c := h136c.kp kq307
       replace h136d := h136d.kp kq307
       replace h136e := h136e.kp kq307
       replace h136f := h136f.kp kq307
       refine ec 156 (tnumbers_v h136a h136b h136c h136d h136e h136f (by omega) (ht.gr hB)) ?_
       rintro e306 w306 ⟨rfl, g306⟩
       refine ⟨_, rfl, ?_⟩
       replace hB := hB.trans g306
       replace L137 := L137.gr g306
       replace L257 := L257.gr g306
       refine ⟨⟨L137, L257⟩, ?_⟩
       simp only [p3, p4]
       refine ow 158 (.bool true) rfl (fun w' hS => (rv_streq 77 77 75 _ _ [ratL (((n0 / GG : Int) : Rat)), ratL (((n1 / GG : Int) : Rat)), ratL (((n2 / GG : Int) : Rat)), ratL (((n3 / GG : Int) : Rat)), ratL (((n4 / GG : Int) : Rat)), ratL (((n5 / GG : Int) : Rat))] rfl rfl rfl (by kernel_rfl) (by kernel_rfl) (by kernel_rfl))) ?_
       simp only [p3, p4]
       refine ov 159 (.bool true) ?_
       simp only [p3, p4]
       refine ov 6 (.bool true) ?_
       simp only [p3, p4]
       refine ord_nil ?_
       refine k299 _ _ ?_
       try clear k299 K299
       refine wp_ret ?_
       refine bodyPost_ret (v := (.bool true)) (ret_tmp rfl rfl) rfl ⟨?_, hB⟩
       exact rfl

theorem twist_scales (n0 n1 n2 n3 n4 n5 dd : Int) (in0 : -128 ≤ n0 ∧ n0 ≤ 127) (in1 : -128 ≤ n1 ∧ n1 ≤ 127) (in2 : -128 ≤ n2 ∧ n2 ≤ 127) (in3 : -128 ≤ n3 ∧ n3 ≤ 127) (in4 : -128 ≤ n4 ∧ n4 ≤ 127) (in5 : -128 ≤ n5 ∧ n5 ≤ 127) (idd : 0 ≤ dd ∧ dd ≤ 255) (j0 j1 j2 j3 j4 j5 ee : Int) (ij0 : -128 ≤ j0 ∧ j0 ≤ 127) (ij1 : -128 ≤ j1 ∧ j1 ≤ 127) (ij2 : -128 ≤ j2 ∧ j2 ≤ 127) (ij3 : -128 ≤ j3 ∧ j3 ≤ 127) (ij4 : -128 ≤ j4 ∧ j4 ≤ 127) (ij5 : -128 ≤ j5 ∧ j5 ≤ 127) (iee : 0 ≤ ee ∧ ee ≤ 255) (ff : Int) (iff : -128 ≤ ff ∧ ff ≤ 127) (w : World) (ht : Tab w) :
    Calls Tryd.prog 8 #[(.agg #[(.int .i8 (n0)), (.int .i8 (n1)), (.int .i8 (n2)), (.int .i8 (n3)), (.int .i8 (n4)), (.int .i8 (n5)), (.int .u8 (dd))]), (.agg #[(.int .i8 (j0)), (.int .i8 (j1)), (.int .i8 (j2)), (.int .i8 (j3)), (.int .i8 (j4)), (.int .i8 (j5)), (.int .u8 (ee))]), (.int .i8 (ff))] w fun e w' => e = .returned (.bool true) ∧ Gr w w' := by
  have hD : 0 < 1 + dd % 3 := by omega
  by_cases hn : n0 = 0 ∧ n1 = 0 ∧ n2 = 0 ∧ n3 = 0 ∧ n4 = 0 ∧ n5 = 0
  · refine scales_z n0 n1 n2 n3 n4 n5 dd in0 in1 in2 in3 in4 in5 idd j0 j1 j2 j3 j4 j5 ee ij0 ij1 ij2 ij3 ij4 ij5 iee ff iff _ _ _ _ _ _ rfl rfl rfl rfl rfl rfl _ _ _ _ _ _ rfl rfl rfl rfl rfl rfl _ rfl w ht ?_ ?_
    · obtain ⟨h0, h1, h2, h3, h4, h5⟩ := hn
      rw [h0, h1, h2, h3, h4, h5]
      exact ⟨⟨zero_over _, zero_over _, zero_over _⟩, zero_over _, zero_over _, zero_over _⟩
    · obtain ⟨h0, h1, h2, h3, h4, h5⟩ := hn
      rw [h0, h1, h2, h3, h4, h5]; rfl
  · refine scales_n n0 n1 n2 n3 n4 n5 dd in0 in1 in2 in3 in4 in5 idd j0 j1 j2 j3 j4 j5 ee ij0 ij1 ij2 ij3 ij4 ij5 iee ff iff _ _ _ _ _ _ rfl rfl rfl rfl rfl rfl _ _ _ _ _ _ rfl rfl rfl rfl rfl rfl _ rfl w ht ?_ ?_ _ rfl ?_
    · rintro ⟨⟨h0, h1, h2⟩, h3, h4, h5⟩
      exact hn ⟨over_zero hD h0, over_zero hD h1, over_zero hD h2, over_zero hD h3, over_zero hD h4, over_zero hD h5⟩
    · rw [Bool.eq_false_iff]
      intro h
      simp only [Bool.and_eq_true, beq_iff_eq] at h
      omega
    · refine gcdL_pos ?_
      intro h
      exact hn ⟨h n0 (by simp), h n1 (by simp), h n2 (by simp), h n3 (by simp), h n4 (by simp), h n5 (by simp)⟩

end Go.Proofs.YtgopfikljndklaaDoor
