/- Joined of: Gen68, RowVectorPerpendicular. -/
import Derived.Test.YtlcmllfacolkaaaGreatDoorPartF
import Derived.Test.YtlcmllfacolkaaaGreatDoorCards
import Derived.Test.YtlcmllfacolkaaaGreatDoorTie
import Derived.Test.YtlcmllfacolkaaaGreatDoorPartD
/- Printed by a program of the prover's: VectorPerpendicular. -/
namespace Go.Proofs.YtlcmllfacolkaaaGreatDoor
open Go.RowKit

theorem sgn_nil {x : Rat} (h : x = 0) : (sgn x.num != (0 : Int)) = false := by rw [h]; rfl
theorem bz (x y z : Rat) : (vcmp x y z 0 0 0 == (0 : Int)) = decide (x = 0 ∧ y = 0 ∧ z = 0) := by
  rw [Bool.eq_iff_iff, beq_iff_eq, vcmp_zero, decide_eq_true_eq]
theorem perp_a {a1 a2 a3 : Rat} (c1 c2 c3 : Rat) (h : (vcmp a1 a2 a3 0 0 0 == (0 : Int)) = true) : ((vcmp (a2 * c3 - a3 * c2) (a3 * c1 - a1 * c3) (a1 * c2 - a2 * c1) 0 0 0 == (0 : Int)) == true) = true := by
  rw [bz, decide_eq_true_eq] at h
  obtain ⟨rfl, rfl, rfl⟩ := h
  rw [bz, beq_iff_eq, decide_eq_true_eq]
  grind
theorem perp_c (a1 a2 a3 : Rat) {c1 c2 c3 : Rat} (h : (vcmp c1 c2 c3 0 0 0 == (0 : Int)) = true) : ((vcmp (a2 * c3 - a3 * c2) (a3 * c1 - a1 * c3) (a1 * c2 - a2 * c1) 0 0 0 == (0 : Int)) == true) = true := by
  rw [bz, decide_eq_true_eq] at h
  obtain ⟨rfl, rfl, rfl⟩ := h
  rw [bz, beq_iff_eq, decide_eq_true_eq]
  grind
theorem perp_n {A C X : Bool} (h1 : A = false) (h2 : C = false) : (X == ((!A && !C) && X)) = true := by
  rw [h1, h2]; cases X <;> rfl

theorem lawVe0 (a1 a2 a3 c1 c2 c3 : Rat)  : (sgn ((0 + a1 * (a2 * c3 - a3 * c2) + a2 * (a3 * c1 - a1 * c3) + a3 * (a1 * c2 - a2 * c1))).num != (0 : Int)) = false := sgn_nil (by grind)
theorem lawVe1 (a1 a2 a3 c1 c2 c3 : Rat)  : (sgn ((0 + c1 * (a2 * c3 - a3 * c2) + c2 * (a3 * c1 - a1 * c3) + c3 * (a1 * c2 - a2 * c1))).num != (0 : Int)) = false := sgn_nil (by grind)
theorem lawVe2 (a1 a2 a3 c1 c2 c3 : Rat)  : (vcmp (c2 * a3 - c3 * a2) (c3 * a1 - c1 * a3) (c1 * a2 - c2 * a1) (0 - (a2 * c3 - a3 * c2)) (0 - (a3 * c1 - a1 * c3)) (0 - (a1 * c2 - a2 * c1)) == (0 : Int)) = true := veq_t (by grind) (by grind) (by grind)
set_option maxRecDepth 100000 in
set_option maxHeartbeats 8000000 in
theorem vperp_q (ia1 ia2 ia3 da : Int) (ja1 : -128 ≤ ia1 ∧ ia1 ≤ 127) (ja2 : -128 ≤ ia2 ∧ ia2 ≤ 127) (ja3 : -128 ≤ ia3 ∧ ia3 ≤ 127) (jda : 0 ≤ da ∧ da ≤ 255) (a1 a2 a3 : Rat) (ea1 : a1 = ((ia1 : Int) : Rat) / ((1 + da % 6 : Int) : Rat)) (ea2 : a2 = ((ia2 : Int) : Rat) / ((1 + da % 6 : Int) : Rat)) (ea3 : a3 = ((ia3 : Int) : Rat) / ((1 + da % 6 : Int) : Rat)) (ic1 ic2 ic3 dc : Int) (jc1 : -128 ≤ ic1 ∧ ic1 ≤ 127) (jc2 : -128 ≤ ic2 ∧ ic2 ≤ 127) (jc3 : -128 ≤ ic3 ∧ ic3 ≤ 127) (jdc : 0 ≤ dc ∧ dc ≤ 255) (c1 c2 c3 : Rat) (ec1 : c1 = ((ic1 : Int) : Rat) / ((1 + dc % 6 : Int) : Rat)) (ec2 : c2 = ((ic2 : Int) : Rat) / ((1 + dc % 6 : Int) : Rat)) (ec3 : c3 = ((ic3 : Int) : Rat) / ((1 + dc % 6 : Int) : Rat)) (w : World) (ht : Tab w) (hm : Mx w) :
    Calls Tryz.prog 8 #[(.agg #[(.int .i8 (ia1)), (.int .i8 (ia2)), (.int .i8 (ia3)), (.int .u8 (da))]), (.agg #[(.int .i8 (ic1)), (.int .i8 (ic2)), (.int .i8 (ic3)), (.int .u8 (dc))])] w fun e w' => e = .returned (.bool true) ∧ Gr w w' := by
 have ha1 : RS 16 a1 := small_rs ja1 jda ea1
 have ha2 : RS 16 a2 := small_rs ja2 jda ea2
 have ha3 : RS 16 a3 := small_rs ja3 jda ea3
 have hc1 : RS 16 c1 := small_rs jc1 jdc ec1
 have hc2 : RS 16 c2 := small_rs jc2 jdc ec2
 have hc3 : RS 16 c3 := small_rs jc3 jdc ec3
 go_enter Tryz.func8, Tryz.ntmps8
 have hB := Gr.refl w
 refine wp_seq_k (fun K1 k1 => ?_)
 refine rg [0, 1, 2] ?_
 refine se ?_
 refine eb 42 #[(.int .i8 (ia1)), (.int .i8 (ia2)), (.int .i8 (ia3)), (.int .u8 (da))] 2 hB fun b2 w2 g2 L2 o2 q2 hB => ?_
 simp only [p3, p4]
 refine se ?_
 refine eb 42 #[(.int .i8 (ic1)), (.int .i8 (ic2)), (.int .i8 (ic3)), (.int .u8 (dc))] 3 hB fun b3 w3 g3 L3 o3 q3 hB => ?_
 simp only [p3, p4]
 refine sv 4 (.bool false) ?_
 simp only [p3, p4]
 refine sq_nil ?_
 refine k1 _ _ ?_
 try clear k1 K1
 refine wp_seq_k (fun K4 k4 => ?_)
 refine wp_seq_k (fun K5 k5 => ?_)
 refine rg [0, 1] ?_
 refine se ?_
 refine ec 8 (known3 _ (ht.gr hB) (hm.gr hB)) ?_
 rintro e6 w6 ⟨rfl, g6⟩
 refine ⟨_, rfl, ?_⟩
 replace hB := hB.trans g6
 simp only [p3, p4]
 refine sv 9 (.bool false) ?_
 simp only [p3, p4]
 refine sq_nil ?_
 refine k5 _ _ ?_
 try clear k5 K5
 refine wp_cond_false rfl ?_
 refine wp_skip ?_
 refine k4 _ _ ?_
 try clear k4 K4
 refine wp_seq_k (fun K7 k7 => ?_)
 have hz8 := Below.size hB
 replace L2 := L2.gr (g3.trans g6)
 have lt2_8 := L2.lt
 replace L3 := L3.gr g6
 have lt3_8 := L3.lt
 have gd8 := Gr.drew w6
 replace hB := hB.trans gd8
 replace L2 := L2.gr gd8
 replace L3 := L3.gr gd8
 refine wp_region_flo (fun w' => Lc w' b2 #[(.int .i8 (ia1)), (.int .i8 (ia2)), (.int .i8 (ia3)), (.int .u8 (da))] 42 ∧ Lc w' b3 #[(.int .i8 (ic1)), (.int .i8 (ic2)), (.int .i8 (ic3)), (.int .u8 (dc))] 42) [(true, 0), (true, 2), (false, 1), (false, 3)] [⟨4, 5, 32, #[(.bool false), (.slice none 0 0), (.bool false), (.slice none 0 0), (.bool false), (.slice none 0 0), (.bool false), (.slice none 0 0), (.bool false), (.slice none 0 0), (.bool false), (.slice none 0 0)]⟩, ⟨5, 6, 32, #[(.bool false), (.slice none 0 0), (.bool false), (.slice none 0 0), (.bool false), (.slice none 0 0), (.bool false), (.slice none 0 0), (.bool false), (.slice none 0 0), (.bool false), (.slice none 0 0)]⟩] [(false, 6), (false, 7)] (by kernel_rfl) (by kernel_rfl) (by kernel_rfl) (by kernel_rfl) (by kernel_rfl) (by decide) (fun _ _ _ _ _ h => h) (fun _ _ _ _ _ h => h) (fun w' o h => ⟨Lc.gr h.1 (Gr.alloc w' o), Lc.gr h.2 (Gr.alloc w' o)⟩) ⟨L2, L3⟩ (by intro f hf; simp only [List.mem_cons, List.not_mem_nil, or_false] at hf; rcases hf with rfl | rfl <;> first | exact alloc_zero (z := (.agg #[(.bool false), (.slice none 0 0), (.bool false), (.slice none 0 0), (.bool false), (.slice none 0 0), (.bool false), (.slice none 0 0), (.bool false), (.slice none 0 0), (.bool false), (.slice none 0 0)])) (by kernel_rfl) rfl | exact alloc_zero (z := (.agg #[(.bool false), (.slice none 0 0), (.bool false), (.slice none 0 0), (.bool false), (.slice none 0 0), (.bool false), (.slice none 0 0), (.bool false), (.slice none 0 0), (.bool false), (.slice none 0 0)])) (by kernel_rfl) rfl) ?_
 refine fw 10 (.agg #[(.int .i8 (ia1)), (.int .i8 (ia2)), (.int .i8 (ia3)), (.int .u8 (da))]) rfl (fun w' hS => (rl 42 0 [(.int .i8 (ia1)), (.int .i8 (ia2)), (.int .i8 (ia3)), (.int .u8 (da))] hS.1)) ?_
 simp only [p3, p4]
 refine fw 12 (.agg #[(.int .i8 (ic1)), (.int .i8 (ic2)), (.int .i8 (ic3)), (.int .u8 (dc))]) rfl (fun w' hS => (rl 42 0 [(.int .i8 (ic1)), (.int .i8 (ic2)), (.int .i8 (ic3)), (.int .u8 (dc))] hS.2)) ?_
 simp only [p3, p4]
 refine flo_eff rfl rfl (fun w9 g9 _ K9 k9 => ?_)
 replace hB := hB.trans g9
 refine ec 11 (made_v ia1 ia2 ia3 da ja1 ja2 ja3 jda a1 a2 a3 ea1 ea2 ea3 _ (hm.gr hB)) ?_
 rintro e10 w10 ⟨⟨t10_0, t10_1, t10_2, t10_3, t10_4, t10_5, t10_6, t10_7, t10_8, t10_9, t10_10, t10_11, rfl, h10a, h10b, h10c⟩, g10⟩
 refine ⟨_, rfl, ?_⟩
 replace hB := hB.trans g10
 replace L2 := L2.gr (g9.trans g10)
 replace L3 := L3.gr (g9.trans g10)
 refine k9 _ _ g10 ⟨L2, L3⟩ ?_
 try clear k9 K9
 simp only [p3, p4]
 refine flo_eff rfl rfl (fun w11 g11 _ K11 k11 => ?_)
 replace hB := hB.trans g11
 refine ec 13 (made_v ic1 ic2 ic3 dc jc1 jc2 jc3 jdc c1 c2 c3 ec1 ec2 ec3 _ (hm.gr hB)) ?_
 rintro e12 w12 ⟨⟨t12_0, t12_1, t12_2, t12_3, t12_4, t12_5, t12_6, t12_7, t12_8, t12_9, t12_10, t12_11, rfl, h12a, h12b, h12c⟩, g12⟩
 refine ⟨_, rfl, ?_⟩
 replace hB := hB.trans g12
 replace L2 := L2.gr (g11.trans g12)
 replace L3 := L3.gr (g11.trans g12)
 refine k11 _ _ g12 ⟨L2, L3⟩ ?_
 try clear k11 K11
 simp only [p3, p4]
 refine flo_nil (fun w13 g13 _ => ?_)
 replace hB := hB.trans g13
 refine floFin2 (fun b14 b15 (L14 : Lc w13 b14 #[(.bool false), (.slice none 0 0), (.bool false), (.slice none 0 0), (.bool false), (.slice none 0 0), (.bool false), (.slice none 0 0), (.bool false), (.slice none 0 0), (.bool false), (.slice none 0 0)] 32) q14 (L15 : Lc w13 b15 #[(.bool false), (.slice none 0 0), (.bool false), (.slice none 0 0), (.bool false), (.slice none 0 0), (.bool false), (.slice none 0 0), (.bool false), (.slice none 0 0), (.bool false), (.slice none 0 0)] 32) q15 ne14_15 => ?_)
 have ne2_14 : b2 ≠ b14 := Nat.ne_of_lt (Nat.lt_of_lt_of_le lt2_8 q14)
 have ne3_14 : b3 ≠ b14 := Nat.ne_of_lt (Nat.lt_of_lt_of_le lt3_8 q14)
 replace q14 := Nat.le_trans hz8 q14
 have ne2_15 : b2 ≠ b15 := Nat.ne_of_lt (Nat.lt_of_lt_of_le lt2_8 q15)
 have ne3_15 : b3 ≠ b15 := Nat.ne_of_lt (Nat.lt_of_lt_of_le lt3_8 q15)
 replace q15 := Nat.le_trans hz8 q15
 simp only [putl, p3, p4]
 refine oe ?_
 refine es 32 0 (.agg #[t10_0, t10_1, t10_2, t10_3, t10_4, t10_5, t10_6, t10_7, t10_8, t10_9, t10_10, t10_11]) [t10_0, t10_1, t10_2, t10_3, t10_4, t10_5, t10_6, t10_7, t10_8, t10_9, t10_10, t10_11] #[t10_0, t10_1, t10_2, t10_3, t10_4, t10_5, t10_6, t10_7, t10_8, t10_9, t10_10, t10_11] L14 hB q14 ⟨h10a.one0, h10a.one1, h10a.one2, h10a.one3, h10b.one0, h10b.one1, h10b.one2, h10b.one3, h10c.one0, h10c.one1, h10c.one2, h10c.one3, trivial⟩ fun w17 st17 kp17 L14 hB => ?_
 replace L2 := st17.lc (L2.gr g13) ne2_14
 replace L3 := st17.lc (L3.gr g13) ne3_14
 refine ⟨⟨L2, L3⟩, ?_⟩
 refine oe ?_
 replace L15 := st17.lc L15 (Ne.symm ne14_15)
 refine es 32 0 (.agg #[t12_0, t12_1, t12_2, t12_3, t12_4, t12_5, t12_6, t12_7, t12_8, t12_9, t12_10, t12_11]) [t12_0, t12_1, t12_2, t12_3, t12_4, t12_5, t12_6, t12_7, t12_8, t12_9, t12_10, t12_11] #[t12_0, t12_1, t12_2, t12_3, t12_4, t12_5, t12_6, t12_7, t12_8, t12_9, t12_10, t12_11] L15 hB q15 ⟨h12a.one0, h12a.one1, h12a.one2, h12a.one3, h12b.one0, h12b.one1, h12b.one2, h12b.one3, h12c.one0, h12c.one1, h12c.one2, h12c.one3, trivial⟩ fun w19 st19 kp19 L15 hB => ?_
 replace L2 := st19.lc L2 ne2_15
 replace L3 := st19.lc L3 ne3_15
 refine ⟨⟨L2, L3⟩, ?_⟩
 refine ord_nil ?_
 refine k7 _ _ ?_
 try clear k7 K7
 refine wp_seq_k (fun K20 k20 => ?_)
 refine rg [0, 1, 2, 3, 4] ?_
 replace L14 := st19.lc L14 ne14_15
 refine sw 14 (.agg #[t10_0, t10_1, t10_2, t10_3, t10_4, t10_5, t10_6, t10_7, t10_8, t10_9, t10_10, t10_11]) rfl (rl 32 0 [t10_0, t10_1, t10_2, t10_3, t10_4, t10_5, t10_6, t10_7, t10_8, t10_9, t10_10, t10_11] L14) ?_
 simp only [p3, p4]
 refine sw 15 (.agg #[t12_0, t12_1, t12_2, t12_3, t12_4, t12_5, t12_6, t12_7, t12_8, t12_9, t12_10, t12_11]) rfl (rl 32 0 [t12_0, t12_1, t12_2, t12_3, t12_4, t12_5, t12_6, t12_7, t12_8, t12_9, t12_10, t12_11] L15) ?_
 simp only [p3, p4]
 refine se ?_
 have kq22 := g11.kp.trans (g12.kp.trans (g13.kp.trans (kp17.trans kp19)))
 replace h10a := h10a.kp kq22
 replace h10b := h10b.kp kq22
 replace h10c := h10c.kp kq22
 have kq23 := g13.kp.trans (kp17.trans kp19)
 replace h12a := h12a.kp kq23
 replace h12b := h12b.kp kq23
 replace h12c := h12c.kp kq23
 refine ec 16 (cross_v h10a h10b h10c h12a h12b h12c (by omega)) ?_
 rintro e21 w21 ⟨⟨t21_0, t21_1, t21_2, t21_3, t21_4, t21_5, t21_6, t21_7, t21_8, t21_9, t21_10, t21_11, rfl, h21a, h21b, h21c⟩, g21⟩
 refine ⟨_, rfl, ?_⟩
 replace hB := hB.trans g21
 simp only [p3, p4]
 refine se ?_
 refine ea 32 #[(.bool false), (.slice none 0 0), (.bool false), (.slice none 0 0), (.bool false), (.slice none 0 0), (.bool false), (.slice none 0 0), (.bool false), (.slice none 0 0), (.bool false), (.slice none 0 0)] 7 hB fun b24 w24 g24 L24 o24 q24 hB => ?_
 replace L14 := L14.gr g21
 have ne14_24 := L14.ne o24
 replace L15 := L15.gr g21
 have ne15_24 := L15.ne o24
 simp only [p3, p4]
 refine se ?_
 refine es 32 0 (.agg #[t21_0, t21_1, t21_2, t21_3, t21_4, t21_5, t21_6, t21_7, t21_8, t21_9, t21_10, t21_11]) [t21_0, t21_1, t21_2, t21_3, t21_4, t21_5, t21_6, t21_7, t21_8, t21_9, t21_10, t21_11] #[t21_0, t21_1, t21_2, t21_3, t21_4, t21_5, t21_6, t21_7, t21_8, t21_9, t21_10, t21_11] L24 hB q24 ⟨h21a.one0, h21a.one1, h21a.one2, h21a.one3, h21b.one0, h21b.one1, h21b.one2, h21b.one3, h21c.one0, h21c.one1, h21c.one2, h21c.one3, trivial⟩ fun w25 st25 kp25 L24 hB => ?_
 refine sq_nil ?_
 refine k20 _ _ ?_
 try clear k20 K20
 refine wp_seq_k (fun K26 k26 => ?_)
 refine wp_seq_k (fun K27 k27 => ?_)
 have gd53 := Gr.drew w25
 replace hB := hB.trans gd53
 replace L14 := (st25.lc (L14.gr g24) ne14_24).gr gd53
 replace L15 := (st25.lc (L15.gr g24) ne15_24).gr gd53
 replace L24 := L24.gr gd53
 refine wp_region_ord (fun w' => Lc w' b14 #[t10_0, t10_1, t10_2, t10_3, t10_4, t10_5, t10_6, t10_7, t10_8, t10_9, t10_10, t10_11] 32 ∧ Lc w' b15 #[t12_0, t12_1, t12_2, t12_3, t12_4, t12_5, t12_6, t12_7, t12_8, t12_9, t12_10, t12_11] 32 ∧ Lc w' b24 #[t21_0, t21_1, t21_2, t21_3, t21_4, t21_5, t21_6, t21_7, t21_8, t21_9, t21_10, t21_11] 32) [(true, 0), (true, 1), (false, 2), (false, 3), (true, 4), (true, 5), (true, 6), (true, 7), (false, 8), (false, 9), (true, 10), (true, 11), (true, 12), (true, 13), (true, 14), (true, 16), (false, 15), (false, 17), (false, 18), (true, 19), (true, 20)] (by kernel_rfl) (by kernel_rfl) (by kernel_rfl) (by decide) (fun _ _ _ _ _ h => h) ⟨L14, L15, L24⟩ ?_
 refine ow 17 (.agg #[t10_0, t10_1, t10_2, t10_3, t10_4, t10_5, t10_6, t10_7, t10_8, t10_9, t10_10, t10_11]) rfl (fun w' hS => (rl 32 0 [t10_0, t10_1, t10_2, t10_3, t10_4, t10_5, t10_6, t10_7, t10_8, t10_9, t10_10, t10_11] hS.1)) ?_
 simp only [p3, p4]
 refine ow 18 (.agg #[t21_0, t21_1, t21_2, t21_3, t21_4, t21_5, t21_6, t21_7, t21_8, t21_9, t21_10, t21_11]) rfl (fun w' hS => (rl 32 0 [t21_0, t21_1, t21_2, t21_3, t21_4, t21_5, t21_6, t21_7, t21_8, t21_9, t21_10, t21_11] hS.2.2)) ?_
 simp only [p3, p4]
 refine oe ?_
 have kq56 := g21.kp.trans (g24.kp.trans (kp25.trans gd53.kp))
 replace h10a := h10a.kp kq56
 replace h10b := h10b.kp kq56
 replace h10c := h10c.kp kq56
 have kq57 := g24.kp.trans (kp25.trans gd53.kp)
 replace h21a := h21a.kp kq57
 replace h21b := h21b.kp kq57
 replace h21c := h21c.kp kq57
 refine ec 19 (dot_v h10a h10b h10c h21a h21b h21c (by omega)) ?_
 rintro e55 w55 ⟨⟨p55, q55, r55, s55, rfl, h55⟩, g55⟩
 refine ⟨_, rfl, ?_⟩
 replace hB := hB.trans g55
 replace L14 := L14.gr g55
 replace L15 := L15.gr g55
 replace L24 := L24.gr g55
 refine ⟨⟨L14, L15, L24⟩, ?_⟩
 simp only [p3, p4]
 refine oe ?_
 refine ec 20 (sign_r h55) ?_
 rintro e59 w59 ⟨rfl, g59⟩
 refine ⟨_, rfl, ?_⟩
 replace hB := hB.trans g59
 replace L14 := L14.gr g59
 replace L15 := L15.gr g59
 replace L24 := L24.gr g59
 refine ⟨⟨L14, L15, L24⟩, ?_⟩
 simp only [p3, p4]
 have hb60 : ((sgn ((0 + a1 * (a2 * c3 - a3 * c2) + a2 * (a3 * c1 - a1 * c3) + a3 * (a1 * c2 - a2 * c1))).num != (0 : Int))) = false := (lawVe0 a1 a2 a3 c1 c2 c3 )
 refine ow 21 (.bool false) rfl (fun w' hS => (RunV.bool (x := (sgn ((0 + a1 * (a2 * c3 - a3 * c2) + a2 * (a3 * c1 - a1 * c3) + a3 * (a1 * c2 - a2 * c1))).num != (0 : Int))) (rvk (by kernel_rfl)) hb60)) ?_
 simp only [p3, p4]
 refine ov 22 (.bool false) ?_
 simp only [p3, p4]
 refine ow 23 (.agg #[t12_0, t12_1, t12_2, t12_3, t12_4, t12_5, t12_6, t12_7, t12_8, t12_9, t12_10, t12_11]) rfl (fun w' hS => (rl 32 0 [t12_0, t12_1, t12_2, t12_3, t12_4, t12_5, t12_6, t12_7, t12_8, t12_9, t12_10, t12_11] hS.2.1)) ?_
 simp only [p3, p4]
 refine ow 24 (.agg #[t21_0, t21_1, t21_2, t21_3, t21_4, t21_5, t21_6, t21_7, t21_8, t21_9, t21_10, t21_11]) rfl (fun w' hS => (rl 32 0 [t21_0, t21_1, t21_2, t21_3, t21_4, t21_5, t21_6, t21_7, t21_8, t21_9, t21_10, t21_11] hS.2.2)) ?_
 simp only [p3, p4]
 refine oe ?_
 have kq63 := g21.kp.trans (g24.kp.trans (kp25.trans (gd53.kp.trans (g55.kp.trans g59.kp))))
 replace h12a := h12a.kp kq63
 replace h12b := h12b.kp kq63
 replace h12c := h12c.kp kq63
 have kq64 := g55.kp.trans g59.kp
 replace h21a := h21a.kp kq64
 replace h21b := h21b.kp kq64
 replace h21c := h21c.kp kq64
 refine ec 25 (dot_v h12a h12b h12c h21a h21b h21c (by omega)) ?_
 rintro e62 w62 ⟨⟨p62, q62, r62, s62, rfl, h62⟩, g62⟩
 refine ⟨_, rfl, ?_⟩
 replace hB := hB.trans g62
 replace L14 := L14.gr g62
 replace L15 := L15.gr g62
 replace L24 := L24.gr g62
 refine ⟨⟨L14, L15, L24⟩, ?_⟩
 simp only [p3, p4]
 refine oe ?_
 refine ec 26 (sign_r h62) ?_
 rintro e66 w66 ⟨rfl, g66⟩
 refine ⟨_, rfl, ?_⟩
 replace hB := hB.trans g66
 replace L14 := L14.gr g66
 replace L15 := L15.gr g66
 replace L24 := L24.gr g66
 refine ⟨⟨L14, L15, L24⟩, ?_⟩
 simp only [p3, p4]
 have hb67 : ((sgn ((0 + c1 * (a2 * c3 - a3 * c2) + c2 * (a3 * c1 - a1 * c3) + c3 * (a1 * c2 - a2 * c1))).num != (0 : Int))) = false := (lawVe1 a1 a2 a3 c1 c2 c3 )
 refine ow 27 (.bool false) rfl (fun w' hS => (RunV.bool (x := (sgn ((0 + c1 * (a2 * c3 - a3 * c2) + c2 * (a3 * c1 - a1 * c3) + c3 * (a1 * c2 - a2 * c1))).num != (0 : Int))) (rvk (by kernel_rfl)) hb67)) ?_
 simp only [p3, p4]
 refine ov 28 (.bool false) ?_
 simp only [p3, p4]
 refine ov 29 (.bool false) ?_
 simp only [p3, p4]
 refine ow 30 (.agg #[t12_0, t12_1, t12_2, t12_3, t12_4, t12_5, t12_6, t12_7, t12_8, t12_9, t12_10, t12_11]) rfl (fun w' hS => (rl 32 0 [t12_0, t12_1, t12_2, t12_3, t12_4, t12_5, t12_6, t12_7, t12_8, t12_9, t12_10, t12_11] hS.2.1)) ?_
 simp only [p3, p4]
 refine ow 31 (.agg #[t10_0, t10_1, t10_2, t10_3, t10_4, t10_5, t10_6, t10_7, t10_8, t10_9, t10_10, t10_11]) rfl (fun w' hS => (rl 32 0 [t10_0, t10_1, t10_2, t10_3, t10_4, t10_5, t10_6, t10_7, t10_8, t10_9, t10_10, t10_11] hS.1)) ?_
 simp only [p3, p4]
 refine ow 33 (.agg #[t21_0, t21_1, t21_2, t21_3, t21_4, t21_5, t21_6, t21_7, t21_8, t21_9, t21_10, t21_11]) rfl (fun w' hS => (rl 32 0 [t21_0, t21_1, t21_2, t21_3, t21_4, t21_5, t21_6, t21_7, t21_8, t21_9, t21_10, t21_11] hS.2.2)) ?_
 simp only [p3, p4]
 refine oe ?_
 have kq70 := g62.kp.trans g66.kp
 replace h12a := h12a.kp kq70
 replace h12b := h12b.kp kq70
 replace h12c := h12c.kp kq70
 have kq71 := g55.kp.trans (g59.kp.trans (g62.kp.trans g66.kp))
 replace h10a := h10a.kp kq71
 replace h10b := h10b.kp kq71
 replace h10c := h10c.kp kq71
 refine ec 32 (cross_v h12a h12b h12c h10a h10b h10c (by omega)) ?_
 rintro e69 w69 ⟨⟨t69_0, t69_1, t69_2, t69_3, t69_4, t69_5, t69_6, t69_7, t69_8, t69_9, t69_10, t69_11, rfl, h69a, h69b, h69c⟩, g69⟩
 refine ⟨_, rfl, ?_⟩
 replace hB := hB.trans g69
 replace L14 := L14.gr g69
 replace L15 := L15.gr g69
 replace L24 := L24.gr g69
 refine ⟨⟨L14, L15, L24⟩, ?_⟩
 simp only [p3, p4]
 refine oe ?_
 have kq74 := g62.kp.trans (g66.kp.trans g69.kp)
 replace h21a := h21a.kp kq74
 replace h21b := h21b.kp kq74
 replace h21c := h21c.kp kq74
 refine ec 34 (vneg_v h21a h21b h21c (by omega)) ?_
 rintro e73 w73 ⟨⟨t73_0, t73_1, t73_2, t73_3, t73_4, t73_5, t73_6, t73_7, t73_8, t73_9, t73_10, t73_11, rfl, h73a, h73b, h73c⟩, g73⟩
 refine ⟨_, rfl, ?_⟩
 replace hB := hB.trans g73
 replace L14 := L14.gr g73
 replace L15 := L15.gr g73
 replace L24 := L24.gr g73
 refine ⟨⟨L14, L15, L24⟩, ?_⟩
 simp only [p3, p4]
 refine oe ?_
 replace h69a := h69a.kp g73.kp
 replace h69b := h69b.kp g73.kp
 replace h69c := h69c.kp g73.kp
 refine ec 35 (vequal_v h69a h69b h69c h73a h73b h73c (by omega)) ?_
 rintro e76 w76 ⟨rfl, g76⟩
 refine ⟨_, rfl, ?_⟩
 replace hB := hB.trans g76
 replace L14 := L14.gr g76
 replace L15 := L15.gr g76
 replace L24 := L24.gr g76
 refine ⟨⟨L14, L15, L24⟩, ?_⟩
 simp only [p3, p4]
 have hb77 : (vcmp (c2 * a3 - c3 * a2) (c3 * a1 - c1 * a3) (c1 * a2 - c2 * a1) (0 - (a2 * c3 - a3 * c2)) (0 - (a3 * c1 - a1 * c3)) (0 - (a1 * c2 - a2 * c1)) == (0 : Int)) = true := (lawVe2 a1 a2 a3 c1 c2 c3 )
 refine ow 36 (.bool false) rfl (fun w' hS => (RunV.bool (x := !(vcmp (c2 * a3 - c3 * a2) (c3 * a1 - c1 * a3) (c1 * a2 - c2 * a1) (0 - (a2 * c3 - a3 * c2)) (0 - (a3 * c1 - a1 * c3)) (0 - (a1 * c2 - a2 * c1)) == (0 : Int))) (rvk (by kernel_rfl)) (show (!(vcmp (c2 * a3 - c3 * a2) (c3 * a1 - c1 * a3) (c1 * a2 - c2 * a1) (0 - (a2 * c3 - a3 * c2)) (0 - (a3 * c1 - a1 * c3)) (0 - (a1 * c2 - a2 * c1)) == (0 : Int))) = false by rw [hb77]; rfl))) ?_
 simp only [p3, p4]
 refine ov 37 (.bool false) ?_
 simp only [p3, p4]
 refine ord_nil ?_
 refine k27 _ _ ?_
 try clear k27 K27
 refine wp_cond_false rfl ?_
 refine wp_skip ?_
 refine k26 _ _ ?_
 try clear k26 K26
 refine wp_seq_k (fun K78 k78 => ?_)
 have gd86 := Gr.drew w76
 replace hB := hB.trans gd86
 replace L14 := L14.gr gd86
 replace L15 := L15.gr gd86
 replace L24 := L24.gr gd86
 refine wp_region_ord (fun w' => Lc w' b14 #[t10_0, t10_1, t10_2, t10_3, t10_4, t10_5, t10_6, t10_7, t10_8, t10_9, t10_10, t10_11] 32 ∧ Lc w' b15 #[t12_0, t12_1, t12_2, t12_3, t12_4, t12_5, t12_6, t12_7, t12_8, t12_9, t12_10, t12_11] 32 ∧ Lc w' b24 #[t21_0, t21_1, t21_2, t21_3, t21_4, t21_5, t21_6, t21_7, t21_8, t21_9, t21_10, t21_11] 32) [(true, 0), (true, 2), (false, 1), (false, 3), (true, 4), (true, 5), (false, 6), (true, 7), (true, 8), (true, 9), (true, 10), (false, 11), (true, 12), (true, 13), (true, 14)] (by kernel_rfl) (by kernel_rfl) (by kernel_rfl) (by decide) (fun _ _ _ _ _ h => h) ⟨L14, L15, L24⟩ ?_
 refine ow 38 (.agg #[t21_0, t21_1, t21_2, t21_3, t21_4, t21_5, t21_6, t21_7, t21_8, t21_9, t21_10, t21_11]) rfl (fun w' hS => (rl 32 0 [t21_0, t21_1, t21_2, t21_3, t21_4, t21_5, t21_6, t21_7, t21_8, t21_9, t21_10, t21_11] hS.2.2)) ?_
 simp only [p3, p4]
 refine ow 40 (.agg #[t10_0, t10_1, t10_2, t10_3, t10_4, t10_5, t10_6, t10_7, t10_8, t10_9, t10_10, t10_11]) rfl (fun w' hS => (rl 32 0 [t10_0, t10_1, t10_2, t10_3, t10_4, t10_5, t10_6, t10_7, t10_8, t10_9, t10_10, t10_11] hS.1)) ?_
 simp only [p3, p4]
 refine oe ?_
 have kq89 := g73.kp.trans (g76.kp.trans gd86.kp)
 replace h21a := h21a.kp kq89
 replace h21b := h21b.kp kq89
 replace h21c := h21c.kp kq89
 refine ec 39 (vzero_v h21a h21b h21c (by omega)) ?_
 rintro e88 w88 ⟨rfl, g88⟩
 refine ⟨_, rfl, ?_⟩
 replace hB := hB.trans g88
 replace L14 := L14.gr g88
 replace L15 := L15.gr g88
 replace L24 := L24.gr g88
 refine ⟨⟨L14, L15, L24⟩, ?_⟩
 simp only [p3, p4]
 refine oe ?_
 have kq92 := g69.kp.trans (g73.kp.trans (g76.kp.trans (gd86.kp.trans g88.kp)))
 replace h10a := h10a.kp kq92
 replace h10b := h10b.kp kq92
 replace h10c := h10c.kp kq92
 refine ec 41 (vzero_v h10a h10b h10c (by omega)) ?_
 rintro e91 w91 ⟨rfl, g91⟩
 refine ⟨_, rfl, ?_⟩
 replace hB := hB.trans g91
 replace L14 := L14.gr g91
 replace L15 := L15.gr g91
 replace L24 := L24.gr g91
 refine ⟨⟨L14, L15, L24⟩, ?_⟩
 simp only [p3, p4]
 rcases Bool.eq_false_or_eq_true (vcmp a1 a2 a3 0 0 0 == (0 : Int)) with hb93 | hb93
 ·refine ow 42 (.bool true) rfl (fun w' hS => (RunV.bool (x := vcmp a1 a2 a3 0 0 0 == (0 : Int)) (rvk (by kernel_rfl)) hb93)) ?_
  simp only [p3, p4]
  refine os 43 ?_
  simp only [p3, p4]
  refine oz 44 ⟨L14, L15, L24⟩ ?_
  simp only [p3, p4]
  refine ov 45 (.bool true) ?_
  simp only [p3, p4]
  refine ov 46 (.bool true) ?_
  simp only [p3, p4]
  refine os 47 ?_
  simp only [p3, p4]
  refine os 48 ?_
  simp only [p3, p4]
  refine oz 49 ⟨L14, L15, L24⟩ ?_
  simp only [p3, p4]
  refine ov 50 (.bool true) ?_
  simp only [p3, p4]
  refine ov 51 (.bool (((vcmp (a2 * c3 - a3 * c2) (a3 * c1 - a1 * c3) (a1 * c2 - a2 * c1) 0 0 0 == (0 : Int)) == true))) ?_
  simp only [p3, p4]
  refine ov 4 (.bool (((vcmp (a2 * c3 - a3 * c2) (a3 * c1 - a1 * c3) (a1 * c2 - a2 * c1) 0 0 0 == (0 : Int)) == true))) ?_
  simp only [p3, p4]
  refine ord_nil ?_
  refine k78 _ _ ?_
  try clear k78 K78
  refine wp_ret ?_
  refine bodyPost_ret (v := (.bool (((vcmp (a2 * c3 - a3 * c2) (a3 * c1 - a1 * c3) (a1 * c2 - a2 * c1) 0 0 0 == (0 : Int)) == true)))) (ret_tmp rfl rfl) rfl ⟨?_, hB⟩
  exact congrArg (fun b => Ending.returned (.bool b)) (perp_a c1 c2 c3 hb93)
 ·refine ow 42 (.bool false) rfl (fun w' hS => (RunV.bool (x := vcmp a1 a2 a3 0 0 0 == (0 : Int)) (rvk (by kernel_rfl)) hb93)) ?_
  simp only [p3, p4]
  refine ow 43 (.agg #[t12_0, t12_1, t12_2, t12_3, t12_4, t12_5, t12_6, t12_7, t12_8, t12_9, t12_10, t12_11]) rfl (fun w' hS => (rl 32 0 [t12_0, t12_1, t12_2, t12_3, t12_4, t12_5, t12_6, t12_7, t12_8, t12_9, t12_10, t12_11] hS.2.1)) ?_
  simp only [p3, p4]
  refine oe ?_
  have kq96 := g69.kp.trans (g73.kp.trans (g76.kp.trans (gd86.kp.trans (g88.kp.trans g91.kp))))
  replace h12a := h12a.kp kq96
  replace h12b := h12b.kp kq96
  replace h12c := h12c.kp kq96
  refine ec 44 (vzero_v h12a h12b h12c (by omega)) ?_
  rintro e95 w95 ⟨rfl, g95⟩
  refine ⟨_, rfl, ?_⟩
  replace hB := hB.trans g95
  replace L14 := L14.gr g95
  replace L15 := L15.gr g95
  replace L24 := L24.gr g95
  refine ⟨⟨L14, L15, L24⟩, ?_⟩
  simp only [p3, p4]
  refine ov 45 (.bool (vcmp c1 c2 c3 0 0 0 == (0 : Int))) ?_
  simp only [p3, p4]
  rcases Bool.eq_false_or_eq_true (vcmp c1 c2 c3 0 0 0 == (0 : Int)) with hb97 | hb97
  ·refine ow 46 (.bool true) rfl (fun w' hS => (RunV.bool (x := vcmp c1 c2 c3 0 0 0 == (0 : Int)) (rvk (by kernel_rfl)) hb97)) ?_
   simp only [p3, p4]
   refine os 47 ?_
   simp only [p3, p4]
   refine os 48 ?_
   simp only [p3, p4]
   refine oz 49 ⟨L14, L15, L24⟩ ?_
   simp only [p3, p4]
   refine ov 50 (.bool true) ?_
   simp only [p3, p4]
   refine ov 51 (.bool (((vcmp (a2 * c3 - a3 * c2) (a3 * c1 - a1 * c3) (a1 * c2 - a2 * c1) 0 0 0 == (0 : Int)) == true))) ?_
   simp only [p3, p4]
   refine ov 4 (.bool (((vcmp (a2 * c3 - a3 * c2) (a3 * c1 - a1 * c3) (a1 * c2 - a2 * c1) 0 0 0 == (0 : Int)) == true))) ?_
   simp only [p3, p4]
   refine ord_nil ?_
   refine k78 _ _ ?_
   try clear k78 K78
   refine wp_ret ?_
   refine bodyPost_ret (v := (.bool (((vcmp (a2 * c3 - a3 * c2) (a3 * c1 - a1 * c3) (a1 * c2 - a2 * c1) 0 0 0 == (0 : Int)) == true)))) (ret_tmp rfl rfl) rfl ⟨?_, hB⟩
   exact congrArg (fun b => Ending.returned (.bool b)) (perp_c a1 a2 a3 hb97)
  ·refine ow 46 (.bool false) rfl (fun w' hS => (RunV.bool (x := vcmp c1 c2 c3 0 0 0 == (0 : Int)) (rvk (by kernel_rfl)) hb97)) ?_
   simp only [p3, p4]
   refine ow 47 (.agg #[t10_0, t10_1, t10_2, t10_3, t10_4, t10_5, t10_6, t10_7, t10_8, t10_9, t10_10, t10_11]) rfl (fun w' hS => (rl 32 0 [t10_0, t10_1, t10_2, t10_3, t10_4, t10_5, t10_6, t10_7, t10_8, t10_9, t10_10, t10_11] hS.1)) ?_
   simp only [p3, p4]
   refine ow 48 (.agg #[t12_0, t12_1, t12_2, t12_3, t12_4, t12_5, t12_6, t12_7, t12_8, t12_9, t12_10, t12_11]) rfl (fun w' hS => (rl 32 0 [t12_0, t12_1, t12_2, t12_3, t12_4, t12_5, t12_6, t12_7, t12_8, t12_9, t12_10, t12_11] hS.2.1)) ?_
   simp only [p3, p4]
   refine oe ?_
   have kq100 := g91.kp.trans g95.kp
   replace h10a := h10a.kp kq100
   replace h10b := h10b.kp kq100
   replace h10c := h10c.kp kq100
   replace h12a := h12a.kp g95.kp
   replace h12b := h12b.kp g95.kp
   replace h12c := h12c.kp g95.kp
   refine ec 49 (vparallel_v h10a h10b h10c h12a h12b h12c (by omega)) ?_
   rintro e99 w99 ⟨rfl, g99⟩
   refine ⟨_, rfl, ?_⟩
   replace hB := hB.trans g99
   replace L14 := L14.gr g99
   replace L15 := L15.gr g99
   replace L24 := L24.gr g99
   refine ⟨⟨L14, L15, L24⟩, ?_⟩
   simp only [p3, p4]
   refine ov 50 (.bool (((!(vcmp a1 a2 a3 0 0 0 == (0 : Int)) && !(vcmp c1 c2 c3 0 0 0 == (0 : Int))) && (vcmp (a2 * c3 - a3 * c2) (a3 * c1 - a1 * c3) (a1 * c2 - a2 * c1) 0 0 0 == (0 : Int))))) ?_
   simp only [p3, p4]
   refine ov 51 (.bool (((vcmp (a2 * c3 - a3 * c2) (a3 * c1 - a1 * c3) (a1 * c2 - a2 * c1) 0 0 0 == (0 : Int)) == (((!(vcmp a1 a2 a3 0 0 0 == (0 : Int)) && !(vcmp c1 c2 c3 0 0 0 == (0 : Int))) && (vcmp (a2 * c3 - a3 * c2) (a3 * c1 - a1 * c3) (a1 * c2 - a2 * c1) 0 0 0 == (0 : Int))))))) ?_
   simp only [p3, p4]
   refine ov 4 (.bool (((vcmp (a2 * c3 - a3 * c2) (a3 * c1 - a1 * c3) (a1 * c2 - a2 * c1) 0 0 0 == (0 : Int)) == (((!(vcmp a1 a2 a3 0 0 0 == (0 : Int)) && !(vcmp c1 c2 c3 0 0 0 == (0 : Int))) && (vcmp (a2 * c3 - a3 * c2) (a3 * c1 - a1 * c3) (a1 * c2 - a2 * c1) 0 0 0 == (0 : Int))))))) ?_
   simp only [p3, p4]
   refine ord_nil ?_
   refine k78 _ _ ?_
   try clear k78 K78
   refine wp_ret ?_
   refine bodyPost_ret (v := (.bool (((vcmp (a2 * c3 - a3 * c2) (a3 * c1 - a1 * c3) (a1 * c2 - a2 * c1) 0 0 0 == (0 : Int)) == (((!(vcmp a1 a2 a3 0 0 0 == (0 : Int)) && !(vcmp c1 c2 c3 0 0 0 == (0 : Int))) && (vcmp (a2 * c3 - a3 * c2) (a3 * c1 - a1 * c3) (a1 * c2 - a2 * c1) 0 0 0 == (0 : Int)))))))) (ret_tmp rfl rfl) rfl ⟨?_, hB⟩
   exact congrArg (fun b => Ending.returned (.bool b)) (perp_n hb93 hb97)

theorem vector_perpendicular (ia1 ia2 ia3 da : Int) (ja1 : -128 ≤ ia1 ∧ ia1 ≤ 127) (ja2 : -128 ≤ ia2 ∧ ia2 ≤ 127) (ja3 : -128 ≤ ia3 ∧ ia3 ≤ 127) (jda : 0 ≤ da ∧ da ≤ 255) (ic1 ic2 ic3 dc : Int) (jc1 : -128 ≤ ic1 ∧ ic1 ≤ 127) (jc2 : -128 ≤ ic2 ∧ ic2 ≤ 127) (jc3 : -128 ≤ ic3 ∧ ic3 ≤ 127) (jdc : 0 ≤ dc ∧ dc ≤ 255) (w : World) (ht : Tab w) (hm : Mx w) :
    Calls Tryz.prog 8 #[(.agg #[(.int .i8 (ia1)), (.int .i8 (ia2)), (.int .i8 (ia3)), (.int .u8 (da))]), (.agg #[(.int .i8 (ic1)), (.int .i8 (ic2)), (.int .i8 (ic3)), (.int .u8 (dc))])] w fun e w' => e = .returned (.bool true) ∧ Gr w w' := by
  obtain ⟨a1, ea1⟩ : ∃ r : Rat, r = ((ia1 : Int) : Rat) / ((1 + da % 6 : Int) : Rat) := ⟨_, rfl⟩
  obtain ⟨a2, ea2⟩ : ∃ r : Rat, r = ((ia2 : Int) : Rat) / ((1 + da % 6 : Int) : Rat) := ⟨_, rfl⟩
  obtain ⟨a3, ea3⟩ : ∃ r : Rat, r = ((ia3 : Int) : Rat) / ((1 + da % 6 : Int) : Rat) := ⟨_, rfl⟩
  obtain ⟨c1, ec1⟩ : ∃ r : Rat, r = ((ic1 : Int) : Rat) / ((1 + dc % 6 : Int) : Rat) := ⟨_, rfl⟩
  obtain ⟨c2, ec2⟩ : ∃ r : Rat, r = ((ic2 : Int) : Rat) / ((1 + dc % 6 : Int) : Rat) := ⟨_, rfl⟩
  obtain ⟨c3, ec3⟩ : ∃ r : Rat, r = ((ic3 : Int) : Rat) / ((1 + dc % 6 : Int) : Rat) := ⟨_, rfl⟩
  exact vperp_q ia1 ia2 ia3 da ja1 ja2 ja3 jda a1 a2 a3 ea1 ea2 ea3 ic1 ic2 ic3 dc jc1 jc2 jc3 jdc c1 c2 c3 ec1 ec2 ec3 w ht hm

end Go.Proofs.YtlcmllfacolkaaaGreatDoor
/- The law VectorPerpendicular holds of every input: its row, and its card tied to the program's text. Printed by a program of the prover's. -/
namespace Go.Proofs.YtlcmllfacolkaaaGreatDoor
open Go.ChangeShapes Go.WideShapes Go.ChangeAt Go.RowKit

theorem vectorPerpendicular_table {W : World} (h : laidMetH Tryz.prog Rows.vectorPerpendicularRow.laid W) : Tab W :=
  Lib.tabIs_of_head (rest := _) (g := 1) (t := 208) (e := 132) (n := 20) (by kernel_rfl) (by kernel_rfl) (by kernel_rfl) (by kernel_rfl) (by kernel_rfl) (by kernel_rfl) ((show laidMet Tryz.prog Rows.vectorPerpendicularRow.laid W from (MakeChecks.laidMetH_plain _ _ _ (by kernel_rfl)) ▸ h).tail.tail)
theorem vectorPerpendicular_maxlen {W : World} (h : W.ShapedOpen Tryz.prog) : Mx W :=
  Go.Proofs.cell_of_shapedOpen_int (zero := #[.int .i64 0]) (g := 0) (t := 3) h (of_decide_eq_true (by kernel_rfl)) (by kernel_rfl) rfl (by kernel_rfl) (by kernel_rfl) Tryz.underlying3
set_option maxRecDepth 100000 in
theorem vectorPerpendicular_contract (H : Type) (enc : TypeId × Value → H) (W : World) (base : Nat) (args : Array Value) (ds gs : List (DataW H)) (before : List MemPlace)
    (hval : ∀ (j : Nat) t v, Tryz.f8.params[j]? = some t → args[j]? = some v → Value.okWide Tryz.prog W .any base t v)
    (hW : DataW.Whole enc Tryz.prog Tryz.f8.params.toList Rows.vectorPerpendicularSpec.vars false W args.toList ds gs before) (hL : laidMetH Tryz.prog Rows.vectorPerpendicularRow.laid W) (hsh : W.ShapedOpen Tryz.prog) :
    Calls Tryz.prog 8 args W fun e W' => ∃ v, e = .returned v ∧ Rows.vectorPerpendicularSpec.post enc Tryz.prog Tryz.f8 false true false false W args v W' := by
  have hW' := hW
  obtain ⟨p, q, hA0, hV, rfl, hfz, hnd⟩ := hW
  have hA : DataW.TrodAll enc Tryz.prog W 0 (fun _ => true) true Tryz.f8.params.toList args.toList ds p := hA0
  rw [Tryz.params8] at hA hval
  obtain ⟨v0, vs0, d0, ds0, p0, q0, hargs, rfl, rfl, h0, r0⟩ := trodAll_cons hA
  obtain ⟨v1, vs1, d1, ds1, p1, q1, rfl, rfl, rfl, h1, r1⟩ := trodAll_cons r0
  obtain ⟨rfl, rfl, rfl⟩ := trodAll_nil r1
  obtain rfl : args = #[v0, v1] := by cases args; simp_all
  obtain ⟨rfl, rfl⟩ := trodVars_none hV
  obtain ⟨c0, rfl, z0, o0⟩ := open_cells (ts := [39, 39, 39, 5]) [.i8, .i8, .i8, .u8] (by kernel_rfl) (by kernel_rfl) (by kernel_rfl) (by kernel_rfl) (hval 0 42 v0 rfl rfl)
  obtain ⟨n0_0, y0_0, b0_0⟩ := o0 0 .i8 rfl
  obtain ⟨n0_1, y0_1, b0_1⟩ := o0 1 .i8 rfl
  obtain ⟨n0_2, y0_2, b0_2⟩ := o0 2 .i8 rfl
  obtain ⟨n0_3, y0_3, b0_3⟩ := o0 3 .u8 rfl
  obtain rfl : c0 = #[.int .i8 n0_0, .int .i8 n0_1, .int .i8 n0_2, .int .u8 n0_3] := by
    apply Array.ext_getElem?; intro i
    rcases i with _ | _ | _ | _ | i
    · exact y0_0
    · exact y0_1
    · exact y0_2
    · exact y0_3
    · rw [Array.getElem?_eq_none (by simp at z0; omega), Array.getElem?_eq_none (by simp)]
  obtain ⟨c1, rfl, z1, o1⟩ := open_cells (ts := [39, 39, 39, 5]) [.i8, .i8, .i8, .u8] (by kernel_rfl) (by kernel_rfl) (by kernel_rfl) (by kernel_rfl) (hval 1 42 v1 rfl rfl)
  obtain ⟨n1_0, y1_0, b1_0⟩ := o1 0 .i8 rfl
  obtain ⟨n1_1, y1_1, b1_1⟩ := o1 1 .i8 rfl
  obtain ⟨n1_2, y1_2, b1_2⟩ := o1 2 .i8 rfl
  obtain ⟨n1_3, y1_3, b1_3⟩ := o1 3 .u8 rfl
  obtain rfl : c1 = #[.int .i8 n1_0, .int .i8 n1_1, .int .i8 n1_2, .int .u8 n1_3] := by
    apply Array.ext_getElem?; intro i
    rcases i with _ | _ | _ | _ | i
    · exact y1_0
    · exact y1_1
    · exact y1_2
    · exact y1_3
    · rw [Array.getElem?_eq_none (by simp at z1; omega), Array.getElem?_eq_none (by simp)]
  refine (vector_perpendicular n0_0 n0_1 n0_2 n0_3 (has_i8 b0_0) (has_i8 b0_1) (has_i8 b0_2) (has_u8 b0_3) n1_0 n1_1 n1_2 n1_3 (has_i8 b1_0) (has_i8 b1_1) (has_i8 b1_2) (has_u8 b1_3) W (vectorPerpendicular_table hL) (vectorPerpendicular_maxlen hsh)).mono fun e W' ⟨he, hg⟩ => ?_
  subst he
  exact ⟨_, rfl, law_post (tb := 4) laidOut (by kernel_rfl) (by kernel_rfl) (by kernel_rfl) rfl hW' rfl hg⟩
noncomputable def vectorPerpendicular_world (os : Os) : World := World.laidAll Tryz.prog os Rows.vectorPerpendicularRow.laid
theorem vectorPerpendicular_met (os : Os) : laidMet Tryz.prog Rows.vectorPerpendicularRow.laid ((vectorPerpendicular_world os).forCall (fun _ _ => 0) ⟨#[], #[.agg #[.int .i8 0, .int .i8 0, .int .i8 0, .int .u8 0], .agg #[.int .i8 0, .int .i8 0, .int .i8 0, .int .u8 0]], []⟩).memory :=
  laidMet_laidAll _ (by kernel_rfl) (by kernel_rfl)
theorem vectorPerpendicular_reads (os : Os) {H : Type} (enc : TypeId × Value → H) : ∃ places, DataW.whole enc Tryz.prog ((vectorPerpendicular_world os).forCall (fun _ _ => 0) ⟨#[], #[.agg #[.int .i8 0, .int .i8 0, .int .i8 0, .int .u8 0], .agg #[.int .i8 0, .int .i8 0, .int .i8 0, .int .u8 0]], []⟩).memory Tryz.f8.params.toList Rows.vectorPerpendicularSpec.vars false (#[.agg #[.int .i8 0, .int .i8 0, .int .i8 0, .int .u8 0], .agg #[.int .i8 0, .int .i8 0, .int .i8 0, .int .u8 0]] : Array Value).toList 8 = some ([.agg [.agg [.lit (.int .i8 0), .lit (.int .i8 0), .lit (.int .i8 0)], .lit (.int .u8 0)], .agg [.agg [.lit (.int .i8 0), .lit (.int .i8 0), .lit (.int .i8 0)], .lit (.int .u8 0)]], [], places) :=
  ⟨[], by kernel_rfl⟩
set_option maxRecDepth 100000 in
theorem vectorPerpendicular_lifted (os : Os) (started : os.Started) (H : Type) (enc : TypeId × Value → H) (F : Stop.Interp) :
    ReturnsInHanded {} Tryz.checked os 8 .any ((OpenSpec.ofChange Rows.vectorPerpendicularSpec).preRow enc Tryz.prog Tryz.f8 Rows.vectorPerpendicularRow.domain false Rows.vectorPerpendicularRow.laid) (((OpenSpec.ofChange Rows.vectorPerpendicularSpec).at F).post enc Tryz.prog Tryz.f8 false true false false) := by
  obtain ⟨places, hx⟩ := vectorPerpendicular_reads os enc
  refine returnsInHanded_of_row (C := Tryz.checked) (s := OpenSpec.ofChange Rows.vectorPerpendicularSpec) own started (by kernel_rfl) Tryz.func8
    (witness_row_sh (enc := enc) (C := Tryz.checked) false (vectorPerpendicular_world os) #[.agg #[.int .i8 0, .int .i8 0, .int .i8 0, .int .u8 0], .agg #[.int .i8 0, .int .i8 0, .int .i8 0, .int .u8 0]] (World.laidAll_os _ _ _) (World.shaped_of_ZipB (by kernel_rfl) (by kernel_rfl)) (by kernel_rfl)
      (OpenSpec.preRow_of_cond 8 hx (by kernel_rfl) (fun k hk => by cases hk) (by kernel_rfl) (by rw [MakeChecks.laidMetH_plain _ _ _ (by kernel_rfl)]; exact vectorPerpendicular_met os))) ?_
  intro W base args ds gs before hval hW _ _ _ hL hsh _
  exact vectorPerpendicular_contract H enc W base args ds gs before hval hW hL hsh
theorem vectorPerpendicular_said : Rows.VectorPerpendicularSaid :=
  OpenClaim.holds_of_cond 8 Tryz.f8 rfl rfl rfl rfl rfl rfl rfl ⟨rfl, rfl, rfl, rfl, rfl⟩ rfl rfl rfl rfl rfl (by kernel_rfl) Tryz.func8 (by kernel_rfl)
    (of_decide_eq_true (by kernel_rfl)) (by unfold Func.isWrapper; first | (rw [if_pos (by decide +kernel)]; kernel_rfl) | (rw [if_neg (by decide +kernel)]; exact ⟨rfl, rfl⟩))
    (fun os started H enc _ F => by rw [OpenClaim.pre_eq_preRow]; exact vectorPerpendicular_lifted os started H enc F)
theorem vectorPerpendicular_plain (f : FuncId) (fn : Func) (hf : Tryz.pinned.checked.prog.funcNamed "dowel/dowellaw03.VectorPerpendicular" = some f) (hfn : Tryz.pinned.checked.prog.funcs[f]? = some fn) :
    true = Tryz.pinned.checked.prog.looks [] ∧ ∀ (j : Nat) t, fn.params[j]? = some t → Tryz.pinned.checked.prog.wantsStandIn t = false := by
  obtain rfl : f = 8 := Option.some.inj ((show Tryz.prog.funcNamed "dowel/dowellaw03.VectorPerpendicular" = some 8 by kernel_rfl).symm.trans hf) |>.symm
  obtain rfl : fn = Tryz.f8 := (Option.some.inj (Tryz.func8.symm.trans hfn)).symm
  refine ⟨by kernel_rfl, fun j t ht => ?_⟩
  rw [Tryz.params8] at ht
  have hm := Array.mem_of_getElem? ht
  have hall : (#[42, 42] : Array TypeId).toList.all (fun t => !Tryz.prog.wantsStandIn t) = true := by kernel_rfl
  have := List.all_eq_true.1 hall t (Array.mem_toList_iff.2 hm)
  have h3 : Tryz.prog.wantsStandIn t = false := by simpa using this
  exact h3
/-- the card -/
theorem vectorPerpendicular_card : Rows.VectorPerpendicularCardSaid :=
  Claim7.holds_tied_plain_at .later [] _ _ _ _ vectorPerpendicular_said (fun _ h => by cases h) (by kernel_rfl) (fun _ h => by cases h) vectorPerpendicular_row_tie rfl ⟨rfl, rfl⟩ (by kernel_rfl) rfl vectorPerpendicular_plain (by kernel_rfl)
end Go.Proofs.YtlcmllfacolkaaaGreatDoor
