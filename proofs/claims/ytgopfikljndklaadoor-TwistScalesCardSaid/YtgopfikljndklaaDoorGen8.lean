/- Printed by a program of the prover's: small twists. -/
import Derived.Test.YtgopfikljndklaaDoorGen7
namespace Go.Proofs.YtgopfikljndklaaDoor
open Go.RowKit

set_option maxRecDepth 100000 in
set_option maxHeartbeats 1000000 in
theorem point_v (n0 n1 n2 : Int) (_i0 : -128 ≤ n0 ∧ n0 ≤ 127) (_i1 : -128 ≤ n1 ∧ n1 ≤ 127) (_i2 : -128 ≤ n2 ∧ n2 ≤ 127) (w : World) :
    Calls Tryd.prog 22 #[(.agg #[(.int .i8 (n0)), (.int .i8 (n1)), (.int .i8 (n2))])] w fun e w' => (∃ t0 t1 t2 t3 t4 t5 t6 t7 t8 t9 t10 t11, e = .returned (.agg #[t0, t1, t2, t3, t4, t5, t6, t7, t8, t9, t10, t11]) ∧ IsRat w' 64 t0 t1 t2 t3 ((n0 : Int) : Rat) ∧ IsRat w' 64 t4 t5 t6 t7 ((n1 : Int) : Rat) ∧ IsRat w' 64 t8 t9 t10 t11 ((n2 : Int) : Rat)) ∧ Gr w w' := by
 go_enter Tryd.func22, Tryd.ntmps22
 have hB := Gr.refl w
 refine wp_seq_k (fun K1 k1 => ?_)
 refine rg [0, 1] ?_
 refine se ?_
 refine eb 54 #[(.int .i8 (n0)), (.int .i8 (n1)), (.int .i8 (n2))] 1 hB fun b2 w2 g2 L2 o2 q2 hB => ?_
 simp only [p3, p4]
 refine se ?_
 refine ea 33 #[(.bool false), (.slice none 0 0), (.bool false), (.slice none 0 0), (.bool false), (.slice none 0 0), (.bool false), (.slice none 0 0), (.bool false), (.slice none 0 0), (.bool false), (.slice none 0 0)] 2 hB fun b3 w3 g3 L3 o3 q3 hB => ?_
 simp only [p3, p4]
 refine sq_nil ?_
 refine k1 _ _ ?_
 try clear k1 K1
 refine wp_seq_k (fun K4 k4 => ?_)
 refine rg [0, 1, 2, 3, 4, 5, 6, 7, 8, 9, 10, 11] ?_
 refine sv 3 (.pointer (some ⟨b2, 0, none⟩)) ?_
 simp only [p3, p4]
 replace L2 := L2.gr g3
 refine sw 4 (.int .i8 (n0)) rfl (rk 22 0 L2) ?_
 simp only [p3, p4]
 refine sw 5 (.int .i64 (n0)) rfl (RunV.int (x := IntKind.i64.wrap (n0)) (y := n0) (rvk (by kernel_rfl)) (by first | rfl | (rw [IntKind.wrap_i64]; omega))) ?_
 simp only [p3, p4]
 refine sv 6 (.pointer (some ⟨b2, 1, none⟩)) ?_
 simp only [p3, p4]
 refine sw 7 (.int .i8 (n1)) rfl (rk 22 1 L2) ?_
 simp only [p3, p4]
 refine sw 8 (.int .i64 (n1)) rfl (RunV.int (x := IntKind.i64.wrap (n1)) (y := n1) (rvk (by kernel_rfl)) (by first | rfl | (rw [IntKind.wrap_i64]; omega))) ?_
 simp only [p3, p4]
 refine sv 9 (.pointer (some ⟨b2, 2, none⟩)) ?_
 simp only [p3, p4]
 refine sw 10 (.int .i8 (n2)) rfl (rk 22 2 L2) ?_
 simp only [p3, p4]
 refine sw 11 (.int .i64 (n2)) rfl (RunV.int (x := IntKind.i64.wrap (n2)) (y := n2) (rvk (by kernel_rfl)) (by first | rfl | (rw [IntKind.wrap_i64]; omega))) ?_
 simp only [p3, p4]
 refine sv 12 (.agg #[(.int .i64 (n0)), (.int .i64 (n1)), (.int .i64 (n2))]) ?_
 simp only [p3, p4]
 refine se ?_
 refine ec 13 (vof_v (n0) (n1) (n2) (by omega) (by omega) (by omega) _) ?_
 rintro e5 w5 ⟨⟨t5_0, t5_1, t5_2, t5_3, t5_4, t5_5, t5_6, t5_7, t5_8, t5_9, t5_10, t5_11, rfl, h5a, h5b, h5c⟩, g5⟩
 refine ⟨_, rfl, ?_⟩
 replace hB := hB.trans g5
 simp only [p3, p4]
 refine se ?_
 replace L3 := L3.gr g5
 refine es 33 0 (.agg #[t5_0, t5_1, t5_2, t5_3, t5_4, t5_5, t5_6, t5_7, t5_8, t5_9, t5_10, t5_11]) [t5_0, t5_1, t5_2, t5_3, t5_4, t5_5, t5_6, t5_7, t5_8, t5_9, t5_10, t5_11] #[t5_0, t5_1, t5_2, t5_3, t5_4, t5_5, t5_6, t5_7, t5_8, t5_9, t5_10, t5_11] L3 hB q3 ⟨h5a.one0, h5a.one1, h5a.one2, h5a.one3, h5b.one0, h5b.one1, h5b.one2, h5b.one3, h5c.one0, h5c.one1, h5c.one2, h5c.one3, trivial⟩ fun w6 st6 kp6 L3 hB => ?_
 refine sq_nil ?_
 refine k4 _ _ ?_
 try clear k4 K4
 refine wp_ret ?_
 refine bodyPost_ret (v := (.agg #[t5_0, t5_1, t5_2, t5_3, t5_4, t5_5, t5_6, t5_7, t5_8, t5_9, t5_10, t5_11])) (ret_cell _ _ _ rfl rfl L3 (by kernel_rfl)) rfl ⟨?_, hB⟩
 replace h5a := h5a.kp kp6
 replace h5b := h5b.kp kp6
 replace h5c := h5c.kp kp6
 exact ⟨_, _, _, _, _, _, _, _, _, _, _, _, rfl, h5a, h5b, h5c⟩

set_option maxRecDepth 100000 in
set_option maxHeartbeats 4000000 in
theorem vec_0 (n0 n1 n2 n3 n4 n5 dd : Int) (_i0 : -128 ≤ n0 ∧ n0 ≤ 127) (_i1 : -128 ≤ n1 ∧ n1 ≤ 127) (_i2 : -128 ≤ n2 ∧ n2 ≤ 127) (_i3 : -128 ≤ n3 ∧ n3 ≤ 127) (_i4 : -128 ≤ n4 ∧ n4 ≤ 127) (_i5 : -128 ≤ n5 ∧ n5 ≤ 127) (_id : 0 ≤ dd ∧ dd ≤ 255) (w : World) :
    Calls Tryd.prog 26 #[(.agg #[(.int .i8 (n0)), (.int .i8 (n1)), (.int .i8 (n2)), (.int .i8 (n3)), (.int .i8 (n4)), (.int .i8 (n5)), (.int .u8 (dd))]), (.int .i64 0)] w fun e w' => (∃ t0 t1 t2 t3 t4 t5 t6 t7 t8 t9 t10 t11, e = .returned (.agg #[t0, t1, t2, t3, t4, t5, t6, t7, t8, t9, t10, t11]) ∧ IsRat w' (64 + 64) t0 t1 t2 t3 (((n0 : Int) : Rat) / ((1 + dd % 3 : Int) : Rat)) ∧ IsRat w' (64 + 64) t4 t5 t6 t7 (((n1 : Int) : Rat) / ((1 + dd % 3 : Int) : Rat)) ∧ IsRat w' (64 + 64) t8 t9 t10 t11 (((n2 : Int) : Rat) / ((1 + dd % 3 : Int) : Rat))) ∧ Gr w w' := by
 go_enter Tryd.func26, Tryd.ntmps26
 have hB := Gr.refl w
 refine wp_seq_k (fun K1 k1 => ?_)
 refine rg [0, 1] ?_
 refine se ?_
 refine eb 25 #[(.int .i8 (n0)), (.int .i8 (n1)), (.int .i8 (n2)), (.int .i8 (n3)), (.int .i8 (n4)), (.int .i8 (n5)), (.int .u8 (dd))] 2 hB fun b2 w2 g2 L2 o2 q2 hB => ?_
 simp only [p3, p4]
 refine se ?_
 refine ea 33 #[(.bool false), (.slice none 0 0), (.bool false), (.slice none 0 0), (.bool false), (.slice none 0 0), (.bool false), (.slice none 0 0), (.bool false), (.slice none 0 0), (.bool false), (.slice none 0 0)] 4 hB fun b3 w3 g3 L3 o3 q3 hB => ?_
 simp only [p3, p4]
 refine sq_nil ?_
 refine k1 _ _ ?_
 try clear k1 K1
 refine wp_seq_k (fun K4 k4 => ?_)
 refine rg [0] ?_
 refine se ?_
 refine ea 33 #[(.bool false), (.slice none 0 0), (.bool false), (.slice none 0 0), (.bool false), (.slice none 0 0), (.bool false), (.slice none 0 0), (.bool false), (.slice none 0 0), (.bool false), (.slice none 0 0)] 5 hB fun b5 w5 g5 L5 o5 q5 hB => ?_
 replace L2 := L2.gr g3
 have ne2_5 := L2.ne o5
 have ne3_5 := L3.ne o5
 simp only [p3, p4]
 refine sq_nil ?_
 refine k4 _ _ ?_
 try clear k4 K4
 refine wp_seq_k (fun K6 k6 => ?_)
 refine wp_seq_k (fun K7 k7 => ?_)
 refine rg [0] ?_
 refine sv 6 (.int .i64 0) ?_
 simp only [p3, p4]
 refine sq_nil ?_
 refine k7 _ _ ?_
 try clear k7 K7
 refine wp_block ?_
 refine wp_loop_rounds 4 ?_
 show Code.wp _ _ _ _ _
 refine wp_seq_k (fun K8 k8 => ?_)
 refine wp_seq_k (fun K9 k9 => ?_)
 refine rg [0, 1] ?_
 refine sv 7 (.int .i64 0) ?_
 simp only [p3, p4]
 refine sv 8 (.bool true) ?_
 simp only [p3, p4]
 refine sq_nil ?_
 refine k9 _ _ ?_
 try clear k9 K9
 refine wp_cond_true rfl ?_
 refine wp_skip ?_
 refine k8 _ _ ?_
 try clear k8 K8
 refine wp_seq_k (fun K10 k10 => ?_)
 refine wp_block ?_
 have gd20 := Gr.drew w5
 replace hB := hB.trans gd20
 replace L2 := L2.gr (g5.trans gd20)
 refine wp_region_ord (fun w' => Lc w' b2 #[(.int .i8 (n0)), (.int .i8 (n1)), (.int .i8 (n2)), (.int .i8 (n3)), (.int .i8 (n4)), (.int .i8 (n5)), (.int .u8 (dd))] 25) [(true, 0), (true, 1), (true, 2), (true, 3), (true, 4), (true, 5), (true, 6), (true, 7), (true, 9), (true, 10), (true, 11), (true, 12), (true, 13), (false, 8), (false, 14), (false, 15), (true, 16), (true, 17), (true, 18), (true, 19), (false, 20)] (by kernel_rfl) (by kernel_rfl) (by kernel_rfl) (by decide) (fun _ _ _ _ _ h => h) L2 ?_
 refine ov 12 (.int .i64 0) ?_
 simp only [p3, p4]
 refine ov 13 (.int .i64 0) ?_
 simp only [p3, p4]
 refine ov 14 (.int .i64 0) ?_
 simp only [p3, p4]
 refine ov 15 (.int .i64 0) ?_
 simp only [p3, p4]
 refine ov 16 (.pointer (some ⟨b2, 0, none⟩)) ?_
 simp only [p3, p4]
 refine ov 17 (.pointer (some ⟨b2, 0, none⟩)) ?_
 simp only [p3, p4]
 refine ow 18 (.int .i8 (n0)) rfl (fun w' hS => (rk 22 0 hS)) ?_
 simp only [p3, p4]
 refine ow 19 (.int .i64 (n0)) rfl (fun w' hS => (RunV.int (x := IntKind.i64.wrap (n0)) (y := n0) (rvk (by kernel_rfl)) (by first | rfl | (rw [IntKind.wrap_i64]; omega)))) ?_
 simp only [p3, p4]
 refine ov 21 (.pointer (some ⟨b2, 6, none⟩)) ?_
 simp only [p3, p4]
 refine ow 22 (.int .u8 (dd)) rfl (fun w' hS => (rk 5 6 hS)) ?_
 simp only [p3, p4]
 refine ow 23 (.int .u8 ((dd % 3))) rfl (fun w' hS => (RunV.int (x := Int.tmod (dd) 3) (y := dd % 3) (rvk (by kernel_rfl)) (by rw [Int.tmod_eq_emod_of_nonneg (by omega)]))) ?_
 simp only [p3, p4]
 refine ow 24 (.int .i64 ((dd % 3))) rfl (fun w' hS => (RunV.int (x := IntKind.i64.wrap ((dd % 3))) (y := (dd % 3)) (rvk (by kernel_rfl)) (by first | rfl | (rw [IntKind.wrap_i64]; omega)))) ?_
 simp only [p3, p4]
 refine ow 25 (.int .i64 ((1 + (dd % 3)))) rfl (fun w' hS => (RunV.int (x := IntKind.i64.wrap ((1 + (dd % 3)))) (y := (1 + (dd % 3))) (rvk (by kernel_rfl)) (by first | rfl | (rw [IntKind.wrap_i64]; omega)))) ?_
 simp only [p3, p4]
 refine oe ?_
 refine ec 20 (from_r (n0) (by omega) (by omega) _) ?_
 rintro e22 w22 ⟨⟨p22, q22, r22, s22, rfl, h22⟩, g22⟩
 refine ⟨_, rfl, ?_⟩
 replace hB := hB.trans g22
 replace L2 := L2.gr g22
 refine ⟨L2, ?_⟩
 simp only [p3, p4]
 refine oe ?_
 refine ec 26 (from_r ((1 + (dd % 3))) (by omega) (by omega) _) ?_
 rintro e24 w24 ⟨⟨p24, q24, r24, s24, rfl, h24⟩, g24⟩
 refine ⟨_, rfl, ?_⟩
 replace hB := hB.trans g24
 replace L2 := L2.gr g24
 refine ⟨L2, ?_⟩
 simp only [p3, p4]
 refine oe ?_
 replace h22 := h22.kp g24.kp
 refine ec 27 (div_r h22 h24 (by omega) (by rw [Rat.num_intCast]; omega)) ?_
 rintro e26 w26 ⟨⟨p26, q26, r26, s26, rfl, h26⟩, g26⟩
 refine ⟨_, rfl, ?_⟩
 replace hB := hB.trans g26
 replace L2 := L2.gr g26
 refine ⟨L2, ?_⟩
 simp only [p3, p4]
 refine ov 11 (.tuple #[(.agg #[p26, q26, r26, s26]), (.int .i64 0)]) ?_
 simp only [p3, p4]
 refine ov 28 (.agg #[p26, q26, r26, s26]) ?_
 simp only [p3, p4]
 refine ov 29 (.int .i64 0) ?_
 simp only [p3, p4]
 refine ov 30 (.pointer (some ⟨b5, 0, none⟩)) ?_
 simp only [p3, p4]
 refine oe ?_
 replace L5 := L5.gr (gd20.trans (g22.trans (g24.trans g26)))
 refine es 31 0 (.agg #[p26, q26, r26, s26]) [p26, q26, r26, s26] #[p26, q26, r26, s26, (.bool false), (.slice none 0 0), (.bool false), (.slice none 0 0), (.bool false), (.slice none 0 0), (.bool false), (.slice none 0 0)] L5 hB q5 ⟨h26.one0, h26.one1, h26.one2, h26.one3, trivial⟩ fun w28 st28 kp28 L5 hB => ?_
 replace L2 := st28.lc L2 ne2_5
 refine ⟨L2, ?_⟩
 refine ord_nil ?_
 refine k10 _ _ ?_
 try clear k10 K10
 refine rg [0, 1, 2] ?_
 refine sv 9 (.int .i64 0) ?_
 simp only [p3, p4]
 refine sv 10 (.int .i64 1) ?_
 simp only [p3, p4]
 refine sv 6 (.int .i64 1) ?_
 simp only [p3, p4]
 refine sq_nil ?_
 show Code.rounds _ _ _ _ _ _
 show Code.wp _ _ _ _ _
 refine wp_seq_k (fun K29 k29 => ?_)
 refine wp_seq_k (fun K30 k30 => ?_)
 refine rg [0, 1] ?_
 refine sv 7 (.int .i64 1) ?_
 simp only [p3, p4]
 refine sv 8 (.bool true) ?_
 simp only [p3, p4]
 refine sq_nil ?_
 refine k30 _ _ ?_
 try clear k30 K30
 refine wp_cond_true rfl ?_
 refine wp_skip ?_
 refine k29 _ _ ?_
 try clear k29 K29
 refine wp_seq_k (fun K31 k31 => ?_)
 refine wp_block ?_
 have gd41 := Gr.drew w28
 replace hB := hB.trans gd41
 replace L2 := L2.gr gd41
 refine wp_region_ord (fun w' => Lc w' b2 #[(.int .i8 (n0)), (.int .i8 (n1)), (.int .i8 (n2)), (.int .i8 (n3)), (.int .i8 (n4)), (.int .i8 (n5)), (.int .u8 (dd))] 25) [(true, 0), (true, 1), (true, 2), (true, 3), (true, 4), (true, 5), (true, 6), (true, 7), (true, 9), (true, 10), (true, 11), (true, 12), (true, 13), (false, 8), (false, 14), (false, 15), (true, 16), (true, 17), (true, 18), (true, 19), (false, 20)] (by kernel_rfl) (by kernel_rfl) (by kernel_rfl) (by decide) (fun _ _ _ _ _ h => h) L2 ?_
 refine ov 12 (.int .i64 1) ?_
 simp only [p3, p4]
 refine ov 13 (.int .i64 0) ?_
 simp only [p3, p4]
 refine ov 14 (.int .i64 1) ?_
 simp only [p3, p4]
 refine ov 15 (.int .i64 1) ?_
 simp only [p3, p4]
 refine ov 16 (.pointer (some ⟨b2, 0, none⟩)) ?_
 simp only [p3, p4]
 refine ov 17 (.pointer (some ⟨b2, 1, none⟩)) ?_
 simp only [p3, p4]
 refine ow 18 (.int .i8 (n1)) rfl (fun w' hS => (rk 22 1 hS)) ?_
 simp only [p3, p4]
 refine ow 19 (.int .i64 (n1)) rfl (fun w' hS => (RunV.int (x := IntKind.i64.wrap (n1)) (y := n1) (rvk (by kernel_rfl)) (by first | rfl | (rw [IntKind.wrap_i64]; omega)))) ?_
 simp only [p3, p4]
 refine ov 21 (.pointer (some ⟨b2, 6, none⟩)) ?_
 simp only [p3, p4]
 refine ow 22 (.int .u8 (dd)) rfl (fun w' hS => (rk 5 6 hS)) ?_
 simp only [p3, p4]
 refine ow 23 (.int .u8 ((dd % 3))) rfl (fun w' hS => (RunV.int (x := Int.tmod (dd) 3) (y := dd % 3) (rvk (by kernel_rfl)) (by rw [Int.tmod_eq_emod_of_nonneg (by omega)]))) ?_
 simp only [p3, p4]
 refine ow 24 (.int .i64 ((dd % 3))) rfl (fun w' hS => (RunV.int (x := IntKind.i64.wrap ((dd % 3))) (y := (dd % 3)) (rvk (by kernel_rfl)) (by first | rfl | (rw [IntKind.wrap_i64]; omega)))) ?_
 simp only [p3, p4]
 refine ow 25 (.int .i64 ((1 + (dd % 3)))) rfl (fun w' hS => (RunV.int (x := IntKind.i64.wrap ((1 + (dd % 3)))) (y := (1 + (dd % 3))) (rvk (by kernel_rfl)) (by first | rfl | (rw [IntKind.wrap_i64]; omega)))) ?_
 simp only [p3, p4]
 refine oe ?_
 refine ec 20 (from_r (n1) (by omega) (by omega) _) ?_
 rintro e43 w43 ⟨⟨p43, q43, r43, s43, rfl, h43⟩, g43⟩
 refine ⟨_, rfl, ?_⟩
 replace hB := hB.trans g43
 replace L2 := L2.gr g43
 refine ⟨L2, ?_⟩
 simp only [p3, p4]
 refine oe ?_
 refine ec 26 (from_r ((1 + (dd % 3))) (by omega) (by omega) _) ?_
 rintro e45 w45 ⟨⟨p45, q45, r45, s45, rfl, h45⟩, g45⟩
 refine ⟨_, rfl, ?_⟩
 replace hB := hB.trans g45
 replace L2 := L2.gr g45
 refine ⟨L2, ?_⟩
 simp only [p3, p4]
 refine oe ?_
 replace h43 := h43.kp g45.kp
 refine ec 27 (div_r h43 h45 (by omega) (by rw [Rat.num_intCast]; omega)) ?_
 rintro e47 w47 ⟨⟨p47, q47, r47, s47, rfl, h47⟩, g47⟩
 refine ⟨_, rfl, ?_⟩
 replace hB := hB.trans g47
 replace L2 := L2.gr g47
 refine ⟨L2, ?_⟩
 simp only [p3, p4]
 refine ov 11 (.tuple #[(.agg #[p47, q47, r47, s47]), (.int .i64 0)]) ?_
 simp only [p3, p4]
 refine ov 28 (.agg #[p47, q47, r47, s47]) ?_
 simp only [p3, p4]
 refine ov 29 (.int .i64 0) ?_
 simp only [p3, p4]
 refine ov 30 (.pointer (some ⟨b5, 4, none⟩)) ?_
 simp only [p3, p4]
 refine oe ?_
 replace L5 := L5.gr (gd41.trans (g43.trans (g45.trans g47)))
 refine es 31 4 (.agg #[p47, q47, r47, s47]) [p47, q47, r47, s47] #[p26, q26, r26, s26, p47, q47, r47, s47, (.bool false), (.slice none 0 0), (.bool false), (.slice none 0 0)] L5 hB q5 ⟨h47.one0, h47.one1, h47.one2, h47.one3, trivial⟩ fun w49 st49 kp49 L5 hB => ?_
 replace L2 := st49.lc L2 ne2_5
 refine ⟨L2, ?_⟩
 refine ord_nil ?_
 refine k31 _ _ ?_
 try clear k31 K31
 refine rg [0, 1, 2] ?_
 refine sv 9 (.int .i64 1) ?_
 simp only [p3, p4]
 refine sv 10 (.int .i64 2) ?_
 simp only [p3, p4]
 refine sv 6 (.int .i64 2) ?_
 simp only [p3, p4]
 refine sq_nil ?_
 show Code.rounds _ _ _ _ _ _
 show Code.wp _ _ _ _ _
 refine wp_seq_k (fun K50 k50 => ?_)
 refine wp_seq_k (fun K51 k51 => ?_)
 refine rg [0, 1] ?_
 refine sv 7 (.int .i64 2) ?_
 simp only [p3, p4]
 refine sv 8 (.bool true) ?_
 simp only [p3, p4]
 refine sq_nil ?_
 refine k51 _ _ ?_
 try clear k51 K51
 refine wp_cond_true rfl ?_
 refine wp_skip ?_
 refine k50 _ _ ?_
 try clear k50 K50
 refine wp_seq_k (fun K52 k52 => ?_)
 refine wp_block ?_
 have gd62 := Gr.drew w49
 replace hB := hB.trans gd62
 replace L2 := L2.gr gd62
 refine wp_region_ord (fun w' => Lc w' b2 #[(.int .i8 (n0)), (.int .i8 (n1)), (.int .i8 (n2)), (.int .i8 (n3)), (.int .i8 (n4)), (.int .i8 (n5)), (.int .u8 (dd))] 25) [(true, 0), (true, 1), (true, 2), (true, 3), (true, 4), (true, 5), (true, 6), (true, 7), (true, 9), (true, 10), (true, 11), (true, 12), (true, 13), (false, 8), (false, 14), (false, 15), (true, 16), (true, 17), (true, 18), (true, 19), (false, 20)] (by kernel_rfl) (by kernel_rfl) (by kernel_rfl) (by decide) (fun _ _ _ _ _ h => h) L2 ?_
 refine ov 12 (.int .i64 2) ?_
 simp only [p3, p4]
 refine ov 13 (.int .i64 0) ?_
 simp only [p3, p4]
 refine ov 14 (.int .i64 2) ?_
 simp only [p3, p4]
 refine ov 15 (.int .i64 2) ?_
 simp only [p3, p4]
 refine ov 16 (.pointer (some ⟨b2, 0, none⟩)) ?_
 simp only [p3, p4]
 refine ov 17 (.pointer (some ⟨b2, 2, none⟩)) ?_
 simp only [p3, p4]
 refine ow 18 (.int .i8 (n2)) rfl (fun w' hS => (rk 22 2 hS)) ?_
 simp only [p3, p4]
 refine ow 19 (.int .i64 (n2)) rfl (fun w' hS => (RunV.int (x := IntKind.i64.wrap (n2)) (y := n2) (rvk (by kernel_rfl)) (by first | rfl | (rw [IntKind.wrap_i64]; omega)))) ?_
 simp only [p3, p4]
 refine ov 21 (.pointer (some ⟨b2, 6, none⟩)) ?_
 simp only [p3, p4]
 refine ow 22 (.int .u8 (dd)) rfl (fun w' hS => (rk 5 6 hS)) ?_
 simp only [p3, p4]
 refine ow 23 (.int .u8 ((dd % 3))) rfl (fun w' hS => (RunV.int (x := Int.tmod (dd) 3) (y := dd % 3) (rvk (by kernel_rfl)) (by rw [Int.tmod_eq_emod_of_nonneg (by omega)]))) ?_
 simp only [p3, p4]
 refine ow 24 (.int .i64 ((dd % 3))) rfl (fun w' hS => (RunV.int (x := IntKind.i64.wrap ((dd % 3))) (y := (dd % 3)) (rvk (by kernel_rfl)) (by first | rfl | (rw [IntKind.wrap_i64]; omega)))) ?_
 simp only [p3, p4]
 refine ow 25 (.int .i64 ((1 + (dd % 3)))) rfl (fun w' hS => (RunV.int (x := IntKind.i64.wrap ((1 + (dd % 3)))) (y := (1 + (dd % 3))) (rvk (by kernel_rfl)) (by first | rfl | (rw [IntKind.wrap_i64]; omega)))) ?_
 simp only [p3, p4]
 refine oe ?_
 refine ec 20 (from_r (n2) (by omega) (by omega) _) ?_
 rintro e64 w64 ⟨⟨p64, q64, r64, s64, rfl, h64⟩, g64⟩
 refine ⟨_, rfl, ?_⟩
 replace hB := hB.trans g64
 replace L2 := L2.gr g64
 refine ⟨L2, ?_⟩
 simp only [p3, p4]
 refine oe ?_
 refine ec 26 (from_r ((1 + (dd % 3))) (by omega) (by omega) _) ?_
 rintro e66 w66 ⟨⟨p66, q66, r66, s66, rfl, h66⟩, g66⟩
 refine ⟨_, rfl, ?_⟩
 replace hB := hB.trans g66
 replace L2 := L2.gr g66
 refine ⟨L2, ?_⟩
 simp only [p3, p4]
 refine oe ?_
 replace h64 := h64.kp g66.kp
 refine ec 27 (div_r h64 h66 (by omega) (by rw [Rat.num_intCast]; omega)) ?_
 rintro e68 w68 ⟨⟨p68, q68, r68, s68, rfl, h68⟩, g68⟩
 refine ⟨_, rfl, ?_⟩
 replace hB := hB.trans g68
 replace L2 := L2.gr g68
 refine ⟨L2, ?_⟩
 simp only [p3, p4]
 refine ov 11 (.tuple #[(.agg #[p68, q68, r68, s68]), (.int .i64 0)]) ?_
 simp only [p3, p4]
 refine ov 28 (.agg #[p68, q68, r68, s68]) ?_
 simp only [p3, p4]
 refine ov 29 (.int .i64 0) ?_
 simp only [p3, p4]
 refine ov 30 (.pointer (some ⟨b5, 8, none⟩)) ?_
 simp only [p3, p4]
 refine oe ?_
 replace L5 := L5.gr (gd62.trans (g64.trans (g66.trans g68)))
 refine es 31 8 (.agg #[p68, q68, r68, s68]) [p68, q68, r68, s68] #[p26, q26, r26, s26, p47, q47, r47, s47, p68, q68, r68, s68] L5 hB q5 ⟨h68.one0, h68.one1, h68.one2, h68.one3, trivial⟩ fun w70 st70 kp70 L5 hB => ?_
 replace L2 := st70.lc L2 ne2_5
 refine ⟨L2, ?_⟩
 refine ord_nil ?_
 refine k52 _ _ ?_
 try clear k52 K52
 refine rg [0, 1, 2] ?_
 refine sv 9 (.int .i64 2) ?_
 simp only [p3, p4]
 refine sv 10 (.int .i64 3) ?_
 simp only [p3, p4]
 refine sv 6 (.int .i64 3) ?_
 simp only [p3, p4]
 refine sq_nil ?_
 show Code.rounds _ _ _ _ _ _
 show Code.wp _ _ _ _ _
 refine wp_seq_k (fun K71 k71 => ?_)
 refine wp_seq_k (fun K72 k72 => ?_)
 refine rg [0, 1] ?_
 refine sv 7 (.int .i64 3) ?_
 simp only [p3, p4]
 refine sv 8 (.bool false) ?_
 simp only [p3, p4]
 refine sq_nil ?_
 refine k72 _ _ ?_
 try clear k72 K72
 refine wp_cond_false rfl ?_
 refine wp_exit ?_
 simp only [Exit.then, Exit.inBlock, ↓reduceIte]
 refine k6 _ _ ?_
 try clear k6 K6
 refine wp_seq_k (fun K73 k73 => ?_)
 refine rg [0, 1] ?_
 refine sw 31 (.agg #[p26, q26, r26, s26, p47, q47, r47, s47, p68, q68, r68, s68]) rfl (rl 33 0 [p26, q26, r26, s26, p47, q47, r47, s47, p68, q68, r68, s68] L5) ?_
 simp only [p3, p4]
 refine se ?_
 replace L3 := st70.lc ((st49.lc ((st28.lc (L3.gr (g5.trans (gd20.trans (g22.trans (g24.trans g26))))) ne3_5).gr (gd41.trans (g43.trans (g45.trans g47)))) ne3_5).gr (gd62.trans (g64.trans (g66.trans g68)))) ne3_5
 refine es 33 0 (.agg #[p26, q26, r26, s26, p47, q47, r47, s47, p68, q68, r68, s68]) [p26, q26, r26, s26, p47, q47, r47, s47, p68, q68, r68, s68] #[p26, q26, r26, s26, p47, q47, r47, s47, p68, q68, r68, s68] L3 hB q3 ⟨h26.one0, h26.one1, h26.one2, h26.one3, h47.one0, h47.one1, h47.one2, h47.one3, h68.one0, h68.one1, h68.one2, h68.one3, trivial⟩ fun w74 st74 kp74 L3 hB => ?_
 refine sq_nil ?_
 refine k73 _ _ ?_
 try clear k73 K73
 refine wp_ret ?_
 refine bodyPost_ret (v := (.agg #[p26, q26, r26, s26, p47, q47, r47, s47, p68, q68, r68, s68])) (ret_cell _ _ _ rfl rfl L3 (by kernel_rfl)) rfl ⟨?_, hB⟩
 have kq75 := kp28.trans (gd41.kp.trans (g43.kp.trans (g45.kp.trans (g47.kp.trans (kp49.trans (gd62.kp.trans (g64.kp.trans (g66.kp.trans (g68.kp.trans (kp70.trans kp74))))))))))
 replace h26 := h26.kp kq75
 have kq76 := kp49.trans (gd62.kp.trans (g64.kp.trans (g66.kp.trans (g68.kp.trans (kp70.trans kp74)))))
 replace h47 := h47.kp kq76
 have kq77 := kp70.trans kp74
 replace h68 := h68.kp kq77
 exact ⟨_, _, _, _, _, _, _, _, _, _, _, _, rfl, h26, h47, h68⟩

set_option maxRecDepth 100000 in
set_option maxHeartbeats 4000000 in
theorem vec_3 (n0 n1 n2 n3 n4 n5 dd : Int) (_i0 : -128 ≤ n0 ∧ n0 ≤ 127) (_i1 : -128 ≤ n1 ∧ n1 ≤ 127) (_i2 : -128 ≤ n2 ∧ n2 ≤ 127) (_i3 : -128 ≤ n3 ∧ n3 ≤ 127) (_i4 : -128 ≤ n4 ∧ n4 ≤ 127) (_i5 : -128 ≤ n5 ∧ n5 ≤ 127) (_id : 0 ≤ dd ∧ dd ≤ 255) (w : World) :
    Calls Tryd.prog 26 #[(.agg #[(.int .i8 (n0)), (.int .i8 (n1)), (.int .i8 (n2)), (.int .i8 (n3)), (.int .i8 (n4)), (.int .i8 (n5)), (.int .u8 (dd))]), (.int .i64 3)] w fun e w' => (∃ t0 t1 t2 t3 t4 t5 t6 t7 t8 t9 t10 t11, e = .returned (.agg #[t0, t1, t2, t3, t4, t5, t6, t7, t8, t9, t10, t11]) ∧ IsRat w' (64 + 64) t0 t1 t2 t3 (((n3 : Int) : Rat) / ((1 + dd % 3 : Int) : Rat)) ∧ IsRat w' (64 + 64) t4 t5 t6 t7 (((n4 : Int) : Rat) / ((1 + dd % 3 : Int) : Rat)) ∧ IsRat w' (64 + 64) t8 t9 t10 t11 (((n5 : Int) : Rat) / ((1 + dd % 3 : Int) : Rat))) ∧ Gr w w' := by
 go_enter Tryd.func26, Tryd.ntmps26
 have hB := Gr.refl w
 refine wp_seq_k (fun K1 k1 => ?_)
 refine rg [0, 1] ?_
 refine se ?_
 refine eb 25 #[(.int .i8 (n0)), (.int .i8 (n1)), (.int .i8 (n2)), (.int .i8 (n3)), (.int .i8 (n4)), (.int .i8 (n5)), (.int .u8 (dd))] 2 hB fun b2 w2 g2 L2 o2 q2 hB => ?_
 simp only [p3, p4]
 refine se ?_
 refine ea 33 #[(.bool false), (.slice none 0 0), (.bool false), (.slice none 0 0), (.bool false), (.slice none 0 0), (.bool false), (.slice none 0 0), (.bool false), (.slice none 0 0), (.bool false), (.slice none 0 0)] 4 hB fun b3 w3 g3 L3 o3 q3 hB => ?_
 simp only [p3, p4]
 refine sq_nil ?_
 refine k1 _ _ ?_
 try clear k1 K1
 refine wp_seq_k (fun K4 k4 => ?_)
 refine rg [0] ?_
 refine se ?_
 refine ea 33 #[(.bool false), (.slice none 0 0), (.bool false), (.slice none 0 0), (.bool false), (.slice none 0 0), (.bool false), (.slice none 0 0), (.bool false), (.slice none 0 0), (.bool false), (.slice none 0 0)] 5 hB fun b5 w5 g5 L5 o5 q5 hB => ?_
 replace L2 := L2.gr g3
 have ne2_5 := L2.ne o5
 have ne3_5 := L3.ne o5
 simp only [p3, p4]
 refine sq_nil ?_
 refine k4 _ _ ?_
 try clear k4 K4
 refine wp_seq_k (fun K6 k6 => ?_)
 refine wp_seq_k (fun K7 k7 => ?_)
 refine rg [0] ?_
 refine sv 6 (.int .i64 0) ?_
 simp only [p3, p4]
 refine sq_nil ?_
 refine k7 _ _ ?_
 try clear k7 K7
 refine wp_block ?_
 refine wp_loop_rounds 4 ?_
 show Code.wp _ _ _ _ _
 refine wp_seq_k (fun K8 k8 => ?_)
 refine wp_seq_k (fun K9 k9 => ?_)
 refine rg [0, 1] ?_
 refine sv 7 (.int .i64 0) ?_
 simp only [p3, p4]
 refine sv 8 (.bool true) ?_
 simp only [p3, p4]
 refine sq_nil ?_
 refine k9 _ _ ?_
 try clear k9 K9
 refine wp_cond_true rfl ?_
 refine wp_skip ?_
 refine k8 _ _ ?_
 try clear k8 K8
 refine wp_seq_k (fun K10 k10 => ?_)
 refine wp_block ?_
 have gd20 := Gr.drew w5
 replace hB := hB.trans gd20
 replace L2 := L2.gr (g5.trans gd20)
 refine wp_region_ord (fun w' => Lc w' b2 #[(.int .i8 (n0)), (.int .i8 (n1)), (.int .i8 (n2)), (.int .i8 (n3)), (.int .i8 (n4)), (.int .i8 (n5)), (.int .u8 (dd))] 25) [(true, 0), (true, 1), (true, 2), (true, 3), (true, 4), (true, 5), (true, 6), (true, 7), (true, 9), (true, 10), (true, 11), (true, 12), (true, 13), (false, 8), (false, 14), (false, 15), (true, 16), (true, 17), (true, 18), (true, 19), (false, 20)] (by kernel_rfl) (by kernel_rfl) (by kernel_rfl) (by decide) (fun _ _ _ _ _ h => h) L2 ?_
 refine ov 12 (.int .i64 0) ?_
 simp only [p3, p4]
 refine ov 13 (.int .i64 3) ?_
 simp only [p3, p4]
 refine ov 14 (.int .i64 0) ?_
 simp only [p3, p4]
 refine ov 15 (.int .i64 3) ?_
 simp only [p3, p4]
 refine ov 16 (.pointer (some ⟨b2, 0, none⟩)) ?_
 simp only [p3, p4]
 refine ov 17 (.pointer (some ⟨b2, 3, none⟩)) ?_
 simp only [p3, p4]
 refine ow 18 (.int .i8 (n3)) rfl (fun w' hS => (rk 22 3 hS)) ?_
 simp only [p3, p4]
 refine ow 19 (.int .i64 (n3)) rfl (fun w' hS => (RunV.int (x := IntKind.i64.wrap (n3)) (y := n3) (rvk (by kernel_rfl)) (by first | rfl | (rw [IntKind.wrap_i64]; omega)))) ?_
 simp only [p3, p4]
 refine ov 21 (.pointer (some ⟨b2, 6, none⟩)) ?_
 simp only [p3, p4]
 refine ow 22 (.int .u8 (dd)) rfl (fun w' hS => (rk 5 6 hS)) ?_
 simp only [p3, p4]
 refine ow 23 (.int .u8 ((dd % 3))) rfl (fun w' hS => (RunV.int (x := Int.tmod (dd) 3) (y := dd % 3) (rvk (by kernel_rfl)) (by rw [Int.tmod_eq_emod_of_nonneg (by omega)]))) ?_
 simp only [p3, p4]
 refine ow 24 (.int .i64 ((dd % 3))) rfl (fun w' hS => (RunV.int (x := IntKind.i64.wrap ((dd % 3))) (y := (dd % 3)) (rvk (by kernel_rfl)) (by first | rfl | (rw [IntKind.wrap_i64]; omega)))) ?_
 simp only [p3, p4]
 refine ow 25 (.int .i64 ((1 + (dd % 3)))) rfl (fun w' hS => (RunV.int (x := IntKind.i64.wrap ((1 + (dd % 3)))) (y := (1 + (dd % 3))) (rvk (by kernel_rfl)) (by first | rfl | (rw [IntKind.wrap_i64]; omega)))) ?_
 simp only [p3, p4]
 refine oe ?_
 refine ec 20 (from_r (n3) (by omega) (by omega) _) ?_
 rintro e22 w22 ⟨⟨p22, q22, r22, s22, rfl, h22⟩, g22⟩
 refine ⟨_, rfl, ?_⟩
 replace hB := hB.trans g22
 replace L2 := L2.gr g22
 refine ⟨L2, ?_⟩
 simp only [p3, p4]
 refine oe ?_
 refine ec 26 (from_r ((1 + (dd % 3))) (by omega) (by omega) _) ?_
 rintro e24 w24 ⟨⟨p24, q24, r24, s24, rfl, h24⟩, g24⟩
 refine ⟨_, rfl, ?_⟩
 replace hB := hB.trans g24
 replace L2 := L2.gr g24
 refine ⟨L2, ?_⟩
 simp only [p3, p4]
 refine oe ?_
 replace h22 := h22.kp g24.kp
 refine ec 27 (div_r h22 h24 (by omega) (by rw [Rat.num_intCast]; omega)) ?_
 rintro e26 w26 ⟨⟨p26, q26, r26, s26, rfl, h26⟩, g26⟩
 refine ⟨_, rfl, ?_⟩
 replace hB := hB.trans g26
 replace L2 := L2.gr g26
 refine ⟨L2, ?_⟩
 simp only [p3, p4]
 refine ov 11 (.tuple #[(.agg #[p26, q26, r26, s26]), (.int .i64 0)]) ?_
 simp only [p3, p4]
 refine ov 28 (.agg #[p26, q26, r26, s26]) ?_
 simp only [p3, p4]
 refine ov 29 (.int .i64 0) ?_
 simp only [p3, p4]
 refine ov 30 (.pointer (some ⟨b5, 0, none⟩)) ?_
 simp only [p3, p4]
 refine oe ?_
 replace L5 := L5.gr (gd20.trans (g22.trans (g24.trans g26)))
 refine es 31 0 (.agg #[p26, q26, r26, s26]) [p26, q26, r26, s26] #[p26, q26, r26, s26, (.bool false), (.slice none 0 0), (.bool false), (.slice none 0 0), (.bool false), (.slice none 0 0), (.bool false), (.slice none 0 0)] L5 hB q5 ⟨h26.one0, h26.one1, h26.one2, h26.one3, trivial⟩ fun w28 st28 kp28 L5 hB => ?_
 replace L2 := st28.lc L2 ne2_5
 refine ⟨L2, ?_⟩
 refine ord_nil ?_
 refine k10 _ _ ?_
 try clear k10 K10
 refine rg [0, 1, 2] ?_
 refine sv 9 (.int .i64 0) ?_
 simp only [p3, p4]
 refine sv 10 (.int .i64 1) ?_
 simp only [p3, p4]
 refine sv 6 (.int .i64 1) ?_
 simp only [p3, p4]
 refine sq_nil ?_
 show Code.rounds _ _ _ _ _ _
 show Code.wp _ _ _ _ _
 refine wp_seq_k (fun K29 k29 => ?_)
 refine wp_seq_k (fun K30 k30 => ?_)
 refine rg [0, 1] ?_
 refine sv 7 (.int .i64 1) ?_
 simp only [p3, p4]
 refine sv 8 (.bool true) ?_
 simp only [p3, p4]
 refine sq_nil ?_
 refine k30 _ _ ?_
 try clear k30 K30
 refine wp_cond_true rfl ?_
 refine wp_skip ?_
 refine k29 _ _ ?_
 try clear k29 K29
 refine wp_seq_k (fun K31 k31 => ?_)
 refine wp_block ?_
 have gd41 := Gr.drew w28
 replace hB := hB.trans gd41
 replace L2 := L2.gr gd41
 refine wp_region_ord (fun w' => Lc w' b2 #[(.int .i8 (n0)), (.int .i8 (n1)), (.int .i8 (n2)), (.int .i8 (n3)), (.int .i8 (n4)), (.int .i8 (n5)), (.int .u8 (dd))] 25) [(true, 0), (true, 1), (true, 2), (true, 3), (true, 4), (true, 5), (true, 6), (true, 7), (true, 9), (true, 10), (true, 11), (true, 12), (true, 13), (false, 8), (false, 14), (false, 15), (true, 16), (true, 17), (true, 18), (true, 19), (false, 20)] (by kernel_rfl) (by kernel_rfl) (by kernel_rfl) (by decide) (fun _ _ _ _ _ h => h) L2 ?_
 refine ov 12 (.int .i64 1) ?_
 simp only [p3, p4]
 refine ov 13 (.int .i64 3) ?_
 simp only [p3, p4]
 refine ov 14 (.int .i64 1) ?_
 simp only [p3, p4]
 refine ov 15 (.int .i64 4) ?_
 simp only [p3, p4]
 refine ov 16 (.pointer (some ⟨b2, 0, none⟩)) ?_
 simp only [p3, p4]
 refine ov 17 (.pointer (some ⟨b2, 4, none⟩)) ?_
 simp only [p3, p4]
 refine ow 18 (.int .i8 (n4)) rfl (fun w' hS => (rk 22 4 hS)) ?_
 simp only [p3, p4]
 refine ow 19 (.int .i64 (n4)) rfl (fun w' hS => (RunV.int (x := IntKind.i64.wrap (n4)) (y := n4) (rvk (by kernel_rfl)) (by first | rfl | (rw [IntKind.wrap_i64]; omega)))) ?_
 simp only [p3, p4]
 refine ov 21 (.pointer (some ⟨b2, 6, none⟩)) ?_
 simp only [p3, p4]
 refine ow 22 (.int .u8 (dd)) rfl (fun w' hS => (rk 5 6 hS)) ?_
 simp only [p3, p4]
 refine ow 23 (.int .u8 ((dd % 3))) rfl (fun w' hS => (RunV.int (x := Int.tmod (dd) 3) (y := dd % 3) (rvk (by kernel_rfl)) (by rw [Int.tmod_eq_emod_of_nonneg (by omega)]))) ?_
 simp only [p3, p4]
 refine ow 24 (.int .i64 ((dd % 3))) rfl (fun w' hS => (RunV.int (x := IntKind.i64.wrap ((dd % 3))) (y := (dd % 3)) (rvk (by kernel_rfl)) (by first | rfl | (rw [IntKind.wrap_i64]; omega)))) ?_
 simp only [p3, p4]
 refine ow 25 (.int .i64 ((1 + (dd % 3)))) rfl (fun w' hS => (RunV.int (x := IntKind.i64.wrap ((1 + (dd % 3)))) (y := (1 + (dd % 3))) (rvk (by kernel_rfl)) (by first | rfl | (rw [IntKind.wrap_i64]; omega)))) ?_
 simp only [p3, p4]
 refine oe ?_
 refine ec 20 (from_r (n4) (by omega) (by omega) _) ?_
 rintro e43 w43 ⟨⟨p43, q43, r43, s43, rfl, h43⟩, g43⟩
 refine ⟨_, rfl, ?_⟩
 replace hB := hB.trans g43
 replace L2 := L2.gr g43
 refine ⟨L2, ?_⟩
 simp only [p3, p4]
 refine oe ?_
 refine ec 26 (from_r ((1 + (dd % 3))) (by omega) (by omega) _) ?_
 rintro e45 w45 ⟨⟨p45, q45, r45, s45, rfl, h45⟩, g45⟩
 refine ⟨_, rfl, ?_⟩
 replace hB := hB.trans g45
 replace L2 := L2.gr g45
 refine ⟨L2, ?_⟩
 simp only [p3, p4]
 refine oe ?_
 replace h43 := h43.kp g45.kp
 refine ec 27 (div_r h43 h45 (by omega) (by rw [Rat.num_intCast]; omega)) ?_
 rintro e47 w47 ⟨⟨p47, q47, r47, s47, rfl, h47⟩, g47⟩
 refine ⟨_, rfl, ?_⟩
 replace hB := hB.trans g47
 replace L2 := L2.gr g47
 refine ⟨L2, ?_⟩
 simp only [p3, p4]
 refine ov 11 (.tuple #[(.agg #[p47, q47, r47, s47]), (.int .i64 0)]) ?_
 simp only [p3, p4]
 refine ov 28 (.agg #[p47, q47, r47, s47]) ?_
 simp only [p3, p4]
 refine ov 29 (.int .i64 0) ?_
 simp only [p3, p4]
 refine ov 30 (.pointer (some ⟨b5, 4, none⟩)) ?_
 simp only [p3, p4]
 refine oe ?_
 replace L5 := L5.gr (gd41.trans (g43.trans (g45.trans g47)))
 refine es 31 4 (.agg #[p47, q47, r47, s47]) [p47, q47, r47, s47] #[p26, q26, r26, s26, p47, q47, r47, s47, (.bool false), (.slice none 0 0), (.bool false), (.slice none 0 0)] L5 hB q5 ⟨h47.one0, h47.one1, h47.one2, h47.one3, trivial⟩ fun w49 st49 kp49 L5 hB => ?_
 replace L2 := st49.lc L2 ne2_5
 refine ⟨L2, ?_⟩
 refine ord_nil ?_
 refine k31 _ _ ?_
 try clear k31 K31
 refine rg [0, 1, 2] ?_
 refine sv 9 (.int .i64 1) ?_
 simp only [p3, p4]
 refine sv 10 (.int .i64 2) ?_
 simp only [p3, p4]
 refine sv 6 (.int .i64 2) ?_
 simp only [p3, p4]
 refine sq_nil ?_
 show Code.rounds _ _ _ _ _ _
 show Code.wp _ _ _ _ _
 refine wp_seq_k (fun K50 k50 => ?_)
 refine wp_seq_k (fun K51 k51 => ?_)
 refine rg [0, 1] ?_
 refine sv 7 (.int .i64 2) ?_
 simp only [p3, p4]
 refine sv 8 (.bool true) ?_
 simp only [p3, p4]
 refine sq_nil ?_
 refine k51 _ _ ?_
 try clear k51 K51
 refine wp_cond_true rfl ?_
 refine wp_skip ?_
 refine k50 _ _ ?_
 try clear k50 K50
 refine wp_seq_k (fun K52 k52 => ?_)
 refine wp_block ?_
 have gd62 := Gr.drew w49
 replace hB := hB.trans gd62
 replace L2 := L2.gr gd62
 refine wp_region_ord (fun w' => Lc w' b2 #[(.int .i8 (n0)), (.int .i8 (n1)), (.int .i8 (n2)), (.int .i8 (n3)), (.int .i8 (n4)), (.int .i8 (n5)), (.int .u8 (dd))] 25) [(true, 0), (true, 1), (true, 2), (true, 3), (true, 4), (true, 5), (true, 6), (true, 7), (true, 9), (true, 10), (true, 11), (true, 12), (true, 13), (false, 8), (false, 14), (false, 15), (true, 16), (true, 17), (true, 18), (true, 19), (false, 20)] (by kernel_rfl) (by kernel_rfl) (by kernel_rfl) (by decide) (fun _ _ _ _ _ h => h) L2 ?_
 refine ov 12 (.int .i64 2) ?_
 simp only [p3, p4]
 refine ov 13 (.int .i64 3) ?_
 simp only [p3, p4]
 refine ov 14 (.int .i64 2) ?_
 simp only [p3, p4]
 refine ov 15 (.int .i64 5) ?_
 simp only [p3, p4]
 refine ov 16 (.pointer (some ⟨b2, 0, none⟩)) ?_
 simp only [p3, p4]
 refine ov 17 (.pointer (some ⟨b2, 5, none⟩)) ?_
 simp only [p3, p4]
 refine ow 18 (.int .i8 (n5)) rfl (fun w' hS => (rk 22 5 hS)) ?_
 simp only [p3, p4]
 refine ow 19 (.int .i64 (n5)) rfl (fun w' hS => (RunV.int (x := IntKind.i64.wrap (n5)) (y := n5) (rvk (by kernel_rfl)) (by first | rfl | (rw [IntKind.wrap_i64]; omega)))) ?_
 simp only [p3, p4]
 refine ov 21 (.pointer (some ⟨b2, 6, none⟩)) ?_
 simp only [p3, p4]
 refine ow 22 (.int .u8 (dd)) rfl (fun w' hS => (rk 5 6 hS)) ?_
 simp only [p3, p4]
 refine ow 23 (.int .u8 ((dd % 3))) rfl (fun w' hS => (RunV.int (x := Int.tmod (dd) 3) (y := dd % 3) (rvk (by kernel_rfl)) (by rw [Int.tmod_eq_emod_of_nonneg (by omega)]))) ?_
 simp only [p3, p4]
 refine ow 24 (.int .i64 ((dd % 3))) rfl (fun w' hS => (RunV.int (x := IntKind.i64.wrap ((dd % 3))) (y := (dd % 3)) (rvk (by kernel_rfl)) (by first | rfl | (rw [IntKind.wrap_i64]; omega)))) ?_
 simp only [p3, p4]
 refine ow 25 (.int .i64 ((1 + (dd % 3)))) rfl (fun w' hS => (RunV.int (x := IntKind.i64.wrap ((1 + (dd % 3)))) (y := (1 + (dd % 3))) (rvk (by kernel_rfl)) (by first | rfl | (rw [IntKind.wrap_i64]; omega)))) ?_
 simp only [p3, p4]
 refine oe ?_
 refine ec 20 (from_r (n5) (by omega) (by omega) _) ?_
 rintro e64 w64 ⟨⟨p64, q64, r64, s64, rfl, h64⟩, g64⟩
 refine ⟨_, rfl, ?_⟩
 replace hB := hB.trans g64
 replace L2 := L2.gr g64
 refine ⟨L2, ?_⟩
 simp only [p3, p4]
 refine oe ?_
 refine ec 26 (from_r ((1 + (dd % 3))) (by omega) (by omega) _) ?_
 rintro e66 w66 ⟨⟨p66, q66, r66, s66, rfl, h66⟩, g66⟩
 refine ⟨_, rfl, ?_⟩
 replace hB := hB.trans g66
 replace L2 := L2.gr g66
 refine ⟨L2, ?_⟩
 simp only [p3, p4]
 refine oe ?_
 replace h64 := h64.kp g66.kp
 refine ec 27 (div_r h64 h66 (by omega) (by rw [Rat.num_intCast]; omega)) ?_
 rintro e68 w68 ⟨⟨p68, q68, r68, s68, rfl, h68⟩, g68⟩
 refine ⟨_, rfl, ?_⟩
 replace hB := hB.trans g68
 replace L2 := L2.gr g68
 refine ⟨L2, ?_⟩
 simp only [p3, p4]
 refine ov 11 (.tuple #[(.agg #[p68, q68, r68, s68]), (.int .i64 0)]) ?_
 simp only [p3, p4]
 refine ov 28 (.agg #[p68, q68, r68, s68]) ?_
 simp only [p3, p4]
 refine ov 29 (.int .i64 0) ?_
 simp only [p3, p4]
 refine ov 30 (.pointer (some ⟨b5, 8, none⟩)) ?_
 simp only [p3, p4]
 refine oe ?_
 replace L5 := L5.gr (gd62.trans (g64.trans (g66.trans g68)))
 refine es 31 8 (.agg #[p68, q68, r68, s68]) [p68, q68, r68, s68] #[p26, q26, r26, s26, p47, q47, r47, s47, p68, q68, r68, s68] L5 hB q5 ⟨h68.one0, h68.one1, h68.one2, h68.one3, trivial⟩ fun w70 st70 kp70 L5 hB => ?_
 replace L2 := st70.lc L2 ne2_5
 refine ⟨L2, ?_⟩
 refine ord_nil ?_
 refine k52 _ _ ?_
 try clear k52 K52
 refine rg [0, 1, 2] ?_
 refine sv 9 (.int .i64 2) ?_
 simp only [p3, p4]
 refine sv 10 (.int .i64 3) ?_
 simp only [p3, p4]
 refine sv 6 (.int .i64 3) ?_
 simp only [p3, p4]
 refine sq_nil ?_
 show Code.rounds _ _ _ _ _ _
 show Code.wp _ _ _ _ _
 refine wp_seq_k (fun K71 k71 => ?_)
 refine wp_seq_k (fun K72 k72 => ?_)
 refine rg [0, 1] ?_
 refine sv 7 (.int .i64 3) ?_
 simp only [p3, p4]
 refine sv 8 (.bool false) ?_
 simp only [p3, p4]
 refine sq_nil ?_
 refine k72 _ _ ?_
 try clear k72 K72
 refine wp_cond_false rfl ?_
 refine wp_exit ?_
 simp only [Exit.then, Exit.inBlock, ↓reduceIte]
 refine k6 _ _ ?_
 try clear k6 K6
 refine wp_seq_k (fun K73 k73 => ?_)
 refine rg [0, 1] ?_
 refine sw 31 (.agg #[p26, q26, r26, s26, p47, q47, r47, s47, p68, q68, r68, s68]) rfl (rl 33 0 [p26, q26, r26, s26, p47, q47, r47, s47, p68, q68, r68, s68] L5) ?_
 simp only [p3, p4]
 refine se ?_
 replace L3 := st70.lc ((st49.lc ((st28.lc (L3.gr (g5.trans (gd20.trans (g22.trans (g24.trans g26))))) ne3_5).gr (gd41.trans (g43.trans (g45.trans g47)))) ne3_5).gr (gd62.trans (g64.trans (g66.trans g68)))) ne3_5
 refine es 33 0 (.agg #[p26, q26, r26, s26, p47, q47, r47, s47, p68, q68, r68, s68]) [p26, q26, r26, s26, p47, q47, r47, s47, p68, q68, r68, s68] #[p26, q26, r26, s26, p47, q47, r47, s47, p68, q68, r68, s68] L3 hB q3 ⟨h26.one0, h26.one1, h26.one2, h26.one3, h47.one0, h47.one1, h47.one2, h47.one3, h68.one0, h68.one1, h68.one2, h68.one3, trivial⟩ fun w74 st74 kp74 L3 hB => ?_
 refine sq_nil ?_
 refine k73 _ _ ?_
 try clear k73 K73
 refine wp_ret ?_
 refine bodyPost_ret (v := (.agg #[p26, q26, r26, s26, p47, q47, r47, s47, p68, q68, r68, s68])) (ret_cell _ _ _ rfl rfl L3 (by kernel_rfl)) rfl ⟨?_, hB⟩
 have kq75 := kp28.trans (gd41.kp.trans (g43.kp.trans (g45.kp.trans (g47.kp.trans (kp49.trans (gd62.kp.trans (g64.kp.trans (g66.kp.trans (g68.kp.trans (kp70.trans kp74))))))))))
 replace h26 := h26.kp kq75
 have kq76 := kp49.trans (gd62.kp.trans (g64.kp.trans (g66.kp.trans (g68.kp.trans (kp70.trans kp74)))))
 replace h47 := h47.kp kq76
 have kq77 := kp70.trans kp74
 replace h68 := h68.kp kq77
 exact ⟨_, _, _, _, _, _, _, _, _, _, _, _, rfl, h26, h47, h68⟩

set_option maxRecDepth 100000 in
set_option maxHeartbeats 1000000 in
theorem of_v (n0 n1 n2 n3 n4 n5 dd : Int) (_i0 : -128 ≤ n0 ∧ n0 ≤ 127) (_i1 : -128 ≤ n1 ∧ n1 ≤ 127) (_i2 : -128 ≤ n2 ∧ n2 ≤ 127) (_i3 : -128 ≤ n3 ∧ n3 ≤ 127) (_i4 : -128 ≤ n4 ∧ n4 ≤ 127) (_i5 : -128 ≤ n5 ∧ n5 ≤ 127) (_id : 0 ≤ dd ∧ dd ≤ 255) (w : World) :
    Calls Tryd.prog 10 #[(.agg #[(.int .i8 (n0)), (.int .i8 (n1)), (.int .i8 (n2)), (.int .i8 (n3)), (.int .i8 (n4)), (.int .i8 (n5)), (.int .u8 (dd))])] w fun e w' => (∃ t0 t1 t2 t3 t4 t5 t6 t7 t8 t9 t10 t11 t12 t13 t14 t15 t16 t17 t18 t19 t20 t21 t22 t23, e = .returned (.agg #[t0, t1, t2, t3, t4, t5, t6, t7, t8, t9, t10, t11, t12, t13, t14, t15, t16, t17, t18, t19, t20, t21, t22, t23]) ∧ IsRat w' (64 + 64) t0 t1 t2 t3 (((n0 : Int) : Rat) / ((1 + dd % 3 : Int) : Rat)) ∧ IsRat w' (64 + 64) t4 t5 t6 t7 (((n1 : Int) : Rat) / ((1 + dd % 3 : Int) : Rat)) ∧ IsRat w' (64 + 64) t8 t9 t10 t11 (((n2 : Int) : Rat) / ((1 + dd % 3 : Int) : Rat)) ∧ IsRat w' (64 + 64) t12 t13 t14 t15 (((n3 : Int) : Rat) / ((1 + dd % 3 : Int) : Rat)) ∧ IsRat w' (64 + 64) t16 t17 t18 t19 (((n4 : Int) : Rat) / ((1 + dd % 3 : Int) : Rat)) ∧ IsRat w' (64 + 64) t20 t21 t22 t23 (((n5 : Int) : Rat) / ((1 + dd % 3 : Int) : Rat))) ∧ Gr w w' := by
 go_enter Tryd.func10, Tryd.ntmps10
 have hB := Gr.refl w
 refine wp_seq_k (fun K1 k1 => ?_)
 refine rg [0, 1] ?_
 refine se ?_
 refine eb 25 #[(.int .i8 (n0)), (.int .i8 (n1)), (.int .i8 (n2)), (.int .i8 (n3)), (.int .i8 (n4)), (.int .i8 (n5)), (.int .u8 (dd))] 1 hB fun b2 w2 g2 L2 o2 q2 hB => ?_
 simp only [p3, p4]
 refine se ?_
 refine ea 35 #[(.bool false), (.slice none 0 0), (.bool false), (.slice none 0 0), (.bool false), (.slice none 0 0), (.bool false), (.slice none 0 0), (.bool false), (.slice none 0 0), (.bool false), (.slice none 0 0), (.bool false), (.slice none 0 0), (.bool false), (.slice none 0 0), (.bool false), (.slice none 0 0), (.bool false), (.slice none 0 0), (.bool false), (.slice none 0 0), (.bool false), (.slice none 0 0)] 2 hB fun b3 w3 g3 L3 o3 q3 hB => ?_
 have ne2_3 := L2.ne o3
 simp only [p3, p4]
 refine sq_nil ?_
 refine k1 _ _ ?_
 try clear k1 K1
 refine wp_seq_k (fun K4 k4 => ?_)
 have gd12 := Gr.drew w3
 replace hB := hB.trans gd12
 replace L2 := L2.gr (g3.trans gd12)
 refine wp_region_ord (fun w' => Lc w' b2 #[(.int .i8 (n0)), (.int .i8 (n1)), (.int .i8 (n2)), (.int .i8 (n3)), (.int .i8 (n4)), (.int .i8 (n5)), (.int .u8 (dd))] 25) [(true, 0), (true, 2), (false, 1), (false, 3), (true, 4), (false, 5)] (by kernel_rfl) (by kernel_rfl) (by kernel_rfl) (by decide) (fun _ _ _ _ _ h => h) L2 ?_
 refine ow 3 (.agg #[(.int .i8 (n0)), (.int .i8 (n1)), (.int .i8 (n2)), (.int .i8 (n3)), (.int .i8 (n4)), (.int .i8 (n5)), (.int .u8 (dd))]) rfl (fun w' hS => (rl 25 0 [(.int .i8 (n0)), (.int .i8 (n1)), (.int .i8 (n2)), (.int .i8 (n3)), (.int .i8 (n4)), (.int .i8 (n5)), (.int .u8 (dd))] hS)) ?_
 simp only [p3, p4]
 refine ow 5 (.agg #[(.int .i8 (n0)), (.int .i8 (n1)), (.int .i8 (n2)), (.int .i8 (n3)), (.int .i8 (n4)), (.int .i8 (n5)), (.int .u8 (dd))]) rfl (fun w' hS => (rl 25 0 [(.int .i8 (n0)), (.int .i8 (n1)), (.int .i8 (n2)), (.int .i8 (n3)), (.int .i8 (n4)), (.int .i8 (n5)), (.int .u8 (dd))] hS)) ?_
 simp only [p3, p4]
 refine oe ?_
 refine ec 4 (vec_0 (n0) (n1) (n2) (n3) (n4) (n5) (dd) (by omega) (by omega) (by omega) (by omega) (by omega) (by omega) (by omega) _) ?_
 rintro e14 w14 ⟨⟨t14_0, t14_1, t14_2, t14_3, t14_4, t14_5, t14_6, t14_7, t14_8, t14_9, t14_10, t14_11, rfl, h14a, h14b, h14c⟩, g14⟩
 refine ⟨_, rfl, ?_⟩
 replace hB := hB.trans g14
 replace L2 := L2.gr g14
 refine ⟨L2, ?_⟩
 simp only [p3, p4]
 refine oe ?_
 refine ec 6 (vec_3 (n0) (n1) (n2) (n3) (n4) (n5) (dd) (by omega) (by omega) (by omega) (by omega) (by omega) (by omega) (by omega) _) ?_
 rintro e16 w16 ⟨⟨t16_0, t16_1, t16_2, t16_3, t16_4, t16_5, t16_6, t16_7, t16_8, t16_9, t16_10, t16_11, rfl, h16a, h16b, h16c⟩, g16⟩
 refine ⟨_, rfl, ?_⟩
 replace hB := hB.trans g16
 replace L2 := L2.gr g16
 refine ⟨L2, ?_⟩
 simp only [p3, p4]
 refine ov 7 (.agg #[t14_0, t14_1, t14_2, t14_3, t14_4, t14_5, t14_6, t14_7, t14_8, t14_9, t14_10, t14_11, t16_0, t16_1, t16_2, t16_3, t16_4, t16_5, t16_6, t16_7, t16_8, t16_9, t16_10, t16_11]) ?_
 simp only [p3, p4]
 refine oe ?_
 replace L3 := L3.gr (gd12.trans (g14.trans g16))
 refine es 35 0 (.agg #[t14_0, t14_1, t14_2, t14_3, t14_4, t14_5, t14_6, t14_7, t14_8, t14_9, t14_10, t14_11, t16_0, t16_1, t16_2, t16_3, t16_4, t16_5, t16_6, t16_7, t16_8, t16_9, t16_10, t16_11]) [t14_0, t14_1, t14_2, t14_3, t14_4, t14_5, t14_6, t14_7, t14_8, t14_9, t14_10, t14_11, t16_0, t16_1, t16_2, t16_3, t16_4, t16_5, t16_6, t16_7, t16_8, t16_9, t16_10, t16_11] #[t14_0, t14_1, t14_2, t14_3, t14_4, t14_5, t14_6, t14_7, t14_8, t14_9, t14_10, t14_11, t16_0, t16_1, t16_2, t16_3, t16_4, t16_5, t16_6, t16_7, t16_8, t16_9, t16_10, t16_11] L3 hB q3 ⟨h14a.one0, h14a.one1, h14a.one2, h14a.one3, h14b.one0, h14b.one1, h14b.one2, h14b.one3, h14c.one0, h14c.one1, h14c.one2, h14c.one3, h16a.one0, h16a.one1, h16a.one2, h16a.one3, h16b.one0, h16b.one1, h16b.one2, h16b.one3, h16c.one0, h16c.one1, h16c.one2, h16c.one3, trivial⟩ fun w18 st18 kp18 L3 hB => ?_
 replace L2 := st18.lc L2 ne2_3
 refine ⟨L2, ?_⟩
 refine ord_nil ?_
 refine k4 _ _ ?_
 try clear k4 K4
 refine wp_ret ?_
 refine bodyPost_ret (v := (.agg #[t14_0, t14_1, t14_2, t14_3, t14_4, t14_5, t14_6, t14_7, t14_8, t14_9, t14_10, t14_11, t16_0, t16_1, t16_2, t16_3, t16_4, t16_5, t16_6, t16_7, t16_8, t16_9, t16_10, t16_11])) (ret_cell _ _ _ rfl rfl L3 (by kernel_rfl)) rfl ⟨?_, hB⟩
 have kq19 := g16.kp.trans kp18
 replace h14a := h14a.kp kq19
 replace h14b := h14b.kp kq19
 replace h14c := h14c.kp kq19
 replace h16a := h16a.kp kp18
 replace h16b := h16b.kp kp18
 replace h16c := h16c.kp kp18
 exact ⟨_, _, _, _, _, _, _, _, _, _, _, _, _, _, _, _, _, _, _, _, _, _, _, _, rfl, h14a, h14b, h14c, h16a, h16b, h16c⟩

theorem vequal_b {k m : Nat} {uaa0 uaa1 uaa2 uaa3 uab0 uab1 uab2 uab3 uac0 uac1 uac2 uac3 : Value} {a1 a2 a3 : Rat} {vaa0 vaa1 vaa2 vaa3 vab0 vab1 vab2 vab3 vac0 vac1 vac2 vac3 : Value} {c1 c2 c3 : Rat} {w : World} (hua1 : IsRat w k uaa0 uaa1 uaa2 uaa3 a1) (hua2 : IsRat w k uab0 uab1 uab2 uab3 a2) (hua3 : IsRat w k uac0 uac1 uac2 uac3 a3) (hva1 : IsRat w m vaa0 vaa1 vaa2 vaa3 c1) (hva2 : IsRat w m vab0 vab1 vab2 vab3 c2) (hva3 : IsRat w m vac0 vac1 vac2 vac3 c3) (hk : k + m ≤ 100000) (b : Bool) (eb : (vcmp a1 a2 a3 c1 c2 c3 == (0 : Int)) = b) :
    Calls Tryd.prog 15 #[(.agg #[uaa0, uaa1, uaa2, uaa3, uab0, uab1, uab2, uab3, uac0, uac1, uac2, uac3]), (.agg #[vaa0, vaa1, vaa2, vaa3, vab0, vab1, vab2, vab3, vac0, vac1, vac2, vac3])] w fun e w' => e = .returned (.bool b) ∧ Gr w w' := by
  have := vequal_v hua1 hua2 hua3 hva1 hva2 hva3 hk
  rw [eb] at this
  exact this

theorem vzero_b {k : Nat} {uaa0 uaa1 uaa2 uaa3 uab0 uab1 uab2 uab3 uac0 uac1 uac2 uac3 : Value} {a1 a2 a3 : Rat} {w : World} (hua1 : IsRat w k uaa0 uaa1 uaa2 uaa3 a1) (hua2 : IsRat w k uab0 uab1 uab2 uab3 a2) (hua3 : IsRat w k uac0 uac1 uac2 uac3 a3) (hk : k ≤ 25000) (b : Bool) (eb : (vcmp a1 a2 a3 0 0 0 == (0 : Int)) = b) :
    Calls Tryd.prog 12 #[(.agg #[uaa0, uaa1, uaa2, uaa3, uab0, uab1, uab2, uab3, uac0, uac1, uac2, uac3])] w fun e w' => e = .returned (.bool b) ∧ Gr w w' := by
  have := vzero_v hua1 hua2 hua3 hk
  rw [eb] at this
  exact this

set_option maxRecDepth 100000 in
set_option maxHeartbeats 1000000 in
theorem tzero_t {k : Nat} {uaa0 uaa1 uaa2 uaa3 uab0 uab1 uab2 uab3 uac0 uac1 uac2 uac3 : Value} {a1 a2 a3 : Rat} {uba0 uba1 uba2 uba3 ubb0 ubb1 ubb2 ubb3 ubc0 ubc1 ubc2 ubc3 : Value} {d1 d2 d3 : Rat} {w : World} (hua1 : IsRat w k uaa0 uaa1 uaa2 uaa3 a1) (hua2 : IsRat w k uab0 uab1 uab2 uab3 a2) (hua3 : IsRat w k uac0 uac1 uac2 uac3 a3) (hub1 : IsRat w k uba0 uba1 uba2 uba3 d1) (hub2 : IsRat w k ubb0 ubb1 ubb2 ubb3 d2) (hub3 : IsRat w k ubc0 ubc1 ubc2 ubc3 d3) (_hk : k ≤ 25000) (e1 : (vcmp a1 a2 a3 0 0 0 == (0 : Int)) = true) :
    Calls Tryd.prog 27 #[(.agg #[uaa0, uaa1, uaa2, uaa3, uab0, uab1, uab2, uab3, uac0, uac1, uac2, uac3, uba0, uba1, uba2, uba3, ubb0, ubb1, ubb2, ubb3, ubc0, ubc1, ubc2, ubc3])] w fun e w' => e = .returned (.bool (vcmp d1 d2 d3 0 0 0 == (0 : Int))) ∧ Gr w w' := by
 go_enter Tryd.func27, Tryd.ntmps27
 have hB := Gr.refl w
 refine wp_seq_k (fun K1 k1 => ?_)
 refine rg [0, 1] ?_
 refine se ?_
 refine eb 35 #[uaa0, uaa1, uaa2, uaa3, uab0, uab1, uab2, uab3, uac0, uac1, uac2, uac3, uba0, uba1, uba2, uba3, ubb0, ubb1, ubb2, ubb3, ubc0, ubc1, ubc2, ubc3] 1 hB fun b2 w2 g2 L2 o2 q2 hB => ?_
 simp only [p3, p4]
 refine sv 2 (.bool false) ?_
 simp only [p3, p4]
 refine sq_nil ?_
 refine k1 _ _ ?_
 try clear k1 K1
 refine wp_seq_k (fun K3 k3 => ?_)
 refine rg [0, 1, 2, 3, 4, 5, 6, 7, 8] ?_
 refine sv 3 (.pointer (some ⟨b2, 0, none⟩)) ?_
 simp only [p3, p4]
 refine sw 4 (.agg #[uaa0, uaa1, uaa2, uaa3, uab0, uab1, uab2, uab3, uac0, uac1, uac2, uac3]) rfl (rl 33 0 [uaa0, uaa1, uaa2, uaa3, uab0, uab1, uab2, uab3, uac0, uac1, uac2, uac3] L2) ?_
 simp only [p3, p4]
 refine se ?_
 replace hua1 := hua1.kp g2.kp
 replace hua2 := hua2.kp g2.kp
 replace hua3 := hua3.kp g2.kp
 refine ec 5 (vzero_b hua1 hua2 hua3 (by omega) true e1) ?_
 rintro e4 w4 ⟨rfl, g4⟩
 refine ⟨_, rfl, ?_⟩
 replace hB := hB.trans g4
 simp only [p3, p4]
 refine sv 6 (.bool true) ?_
 simp only [p3, p4]
 refine sv 7 (.pointer (some ⟨b2, 12, none⟩)) ?_
 simp only [p3, p4]
 replace L2 := L2.gr g4
 refine sw 8 (.agg #[uba0, uba1, uba2, uba3, ubb0, ubb1, ubb2, ubb3, ubc0, ubc1, ubc2, ubc3]) rfl (rl 33 12 [uba0, uba1, uba2, uba3, ubb0, ubb1, ubb2, ubb3, ubc0, ubc1, ubc2, ubc3] L2) ?_
 simp only [p3, p4]
 refine se ?_
 have kq6 := g2.kp.trans g4.kp
 replace hub1 := hub1.kp kq6
 replace hub2 := hub2.kp kq6
 replace hub3 := hub3.kp kq6
 refine ec 9 (vzero_v hub1 hub2 hub3 (by omega)) ?_
 rintro e5 w5 ⟨rfl, g5⟩
 refine ⟨_, rfl, ?_⟩
 replace hB := hB.trans g5
 simp only [p3, p4]
 refine sv 10 (.bool (vcmp d1 d2 d3 0 0 0 == (0 : Int))) ?_
 simp only [p3, p4]
 refine sv 2 (.bool (vcmp d1 d2 d3 0 0 0 == (0 : Int))) ?_
 simp only [p3, p4]
 refine sq_nil ?_
 refine k3 _ _ ?_
 try clear k3 K3
 refine wp_ret ?_
 refine bodyPost_ret (v := (.bool (vcmp d1 d2 d3 0 0 0 == (0 : Int)))) (ret_tmp rfl rfl) rfl ⟨?_, hB⟩
 exact rfl

set_option maxRecDepth 100000 in
set_option maxHeartbeats 1000000 in
theorem tequal_t {k m : Nat} {uaa0 uaa1 uaa2 uaa3 uab0 uab1 uab2 uab3 uac0 uac1 uac2 uac3 : Value} {a1 a2 a3 : Rat} {uba0 uba1 uba2 uba3 ubb0 ubb1 ubb2 ubb3 ubc0 ubc1 ubc2 ubc3 : Value} {d1 d2 d3 : Rat} {vaa0 vaa1 vaa2 vaa3 vab0 vab1 vab2 vab3 vac0 vac1 vac2 vac3 : Value} {c1 c2 c3 : Rat} {vba0 vba1 vba2 vba3 vbb0 vbb1 vbb2 vbb3 vbc0 vbc1 vbc2 vbc3 : Value} {f1 f2 f3 : Rat} {w : World} (hua1 : IsRat w k uaa0 uaa1 uaa2 uaa3 a1) (hua2 : IsRat w k uab0 uab1 uab2 uab3 a2) (hua3 : IsRat w k uac0 uac1 uac2 uac3 a3) (hub1 : IsRat w k uba0 uba1 uba2 uba3 d1) (hub2 : IsRat w k ubb0 ubb1 ubb2 ubb3 d2) (hub3 : IsRat w k ubc0 ubc1 ubc2 ubc3 d3) (hva1 : IsRat w m vaa0 vaa1 vaa2 vaa3 c1) (hva2 : IsRat w m vab0 vab1 vab2 vab3 c2) (hva3 : IsRat w m vac0 vac1 vac2 vac3 c3) (hvb1 : IsRat w m vba0 vba1 vba2 vba3 f1) (hvb2 : IsRat w m vbb0 vbb1 vbb2 vbb3 f2) (hvb3 : IsRat w m vbc0 vbc1 vbc2 vbc3 f3) (_hk : k + m ≤ 20000) (e1 : (vcmp a1 a2 a3 c1 c2 c3 == (0 : Int)) = true) :
    Calls Tryd.prog 36 #[(.agg #[uaa0, uaa1, uaa2, uaa3, uab0, uab1, uab2, uab3, uac0, uac1, uac2, uac3, uba0, uba1, uba2, uba3, ubb0, ubb1, ubb2, ubb3, ubc0, ubc1, ubc2, ubc3]), (.agg #[vaa0, vaa1, vaa2, vaa3, vab0, vab1, vab2, vab3, vac0, vac1, vac2, vac3, vba0, vba1, vba2, vba3, vbb0, vbb1, vbb2, vbb3, vbc0, vbc1, vbc2, vbc3])] w fun e w' => e = .returned (.bool (vcmp d1 d2 d3 f1 f2 f3 == (0 : Int))) ∧ Gr w w' := by
 go_enter Tryd.func36, Tryd.ntmps36
 have hB := Gr.refl w
 refine wp_seq_k (fun K1 k1 => ?_)
 refine rg [0, 1, 2] ?_
 refine se ?_
 refine eb 35 #[uaa0, uaa1, uaa2, uaa3, uab0, uab1, uab2, uab3, uac0, uac1, uac2, uac3, uba0, uba1, uba2, uba3, ubb0, ubb1, ubb2, ubb3, ubc0, ubc1, ubc2, ubc3] 2 hB fun b2 w2 g2 L2 o2 q2 hB => ?_
 simp only [p3, p4]
 refine se ?_
 refine eb 35 #[vaa0, vaa1, vaa2, vaa3, vab0, vab1, vab2, vab3, vac0, vac1, vac2, vac3, vba0, vba1, vba2, vba3, vbb0, vbb1, vbb2, vbb3, vbc0, vbc1, vbc2, vbc3] 3 hB fun b3 w3 g3 L3 o3 q3 hB => ?_
 simp only [p3, p4]
 refine sv 4 (.bool false) ?_
 simp only [p3, p4]
 refine sq_nil ?_
 refine k1 _ _ ?_
 try clear k1 K1
 refine wp_seq_k (fun K4 k4 => ?_)
 refine rg [0, 1, 2, 3, 4, 5, 6, 7, 8, 9, 10, 11, 12] ?_
 refine sv 5 (.pointer (some ⟨b2, 0, none⟩)) ?_
 simp only [p3, p4]
 replace L2 := L2.gr g3
 refine sw 6 (.agg #[uaa0, uaa1, uaa2, uaa3, uab0, uab1, uab2, uab3, uac0, uac1, uac2, uac3]) rfl (rl 33 0 [uaa0, uaa1, uaa2, uaa3, uab0, uab1, uab2, uab3, uac0, uac1, uac2, uac3] L2) ?_
 simp only [p3, p4]
 refine sv 7 (.pointer (some ⟨b3, 0, none⟩)) ?_
 simp only [p3, p4]
 refine sw 8 (.agg #[vaa0, vaa1, vaa2, vaa3, vab0, vab1, vab2, vab3, vac0, vac1, vac2, vac3]) rfl (rl 33 0 [vaa0, vaa1, vaa2, vaa3, vab0, vab1, vab2, vab3, vac0, vac1, vac2, vac3] L3) ?_
 simp only [p3, p4]
 refine se ?_
 have kq6 := g2.kp.trans g3.kp
 replace hua1 := hua1.kp kq6
 replace hua2 := hua2.kp kq6
 replace hua3 := hua3.kp kq6
 replace hva1 := hva1.kp kq6
 replace hva2 := hva2.kp kq6
 replace hva3 := hva3.kp kq6
 refine ec 9 (vequal_b hua1 hua2 hua3 hva1 hva2 hva3 (by omega) true e1) ?_
 rintro e5 w5 ⟨rfl, g5⟩
 refine ⟨_, rfl, ?_⟩
 replace hB := hB.trans g5
 simp only [p3, p4]
 refine sv 10 (.bool true) ?_
 simp only [p3, p4]
 refine sv 11 (.pointer (some ⟨b2, 12, none⟩)) ?_
 simp only [p3, p4]
 replace L2 := L2.gr g5
 refine sw 12 (.agg #[uba0, uba1, uba2, uba3, ubb0, ubb1, ubb2, ubb3, ubc0, ubc1, ubc2, ubc3]) rfl (rl 33 12 [uba0, uba1, uba2, uba3, ubb0, ubb1, ubb2, ubb3, ubc0, ubc1, ubc2, ubc3] L2) ?_
 simp only [p3, p4]
 refine sv 13 (.pointer (some ⟨b3, 12, none⟩)) ?_
 simp only [p3, p4]
 replace L3 := L3.gr g5
 refine sw 14 (.agg #[vba0, vba1, vba2, vba3, vbb0, vbb1, vbb2, vbb3, vbc0, vbc1, vbc2, vbc3]) rfl (rl 33 12 [vba0, vba1, vba2, vba3, vbb0, vbb1, vbb2, vbb3, vbc0, vbc1, vbc2, vbc3] L3) ?_
 simp only [p3, p4]
 refine se ?_
 have kq8 := g2.kp.trans (g3.kp.trans g5.kp)
 replace hub1 := hub1.kp kq8
 replace hub2 := hub2.kp kq8
 replace hub3 := hub3.kp kq8
 replace hvb1 := hvb1.kp kq8
 replace hvb2 := hvb2.kp kq8
 replace hvb3 := hvb3.kp kq8
 refine ec 15 (vequal_v hub1 hub2 hub3 hvb1 hvb2 hvb3 (by omega)) ?_
 rintro e7 w7 ⟨rfl, g7⟩
 refine ⟨_, rfl, ?_⟩
 replace hB := hB.trans g7
 simp only [p3, p4]
 refine sv 16 (.bool (vcmp d1 d2 d3 f1 f2 f3 == (0 : Int))) ?_
 simp only [p3, p4]
 refine sv 4 (.bool (vcmp d1 d2 d3 f1 f2 f3 == (0 : Int))) ?_
 simp only [p3, p4]
 refine sq_nil ?_
 refine k4 _ _ ?_
 try clear k4 K4
 refine wp_ret ?_
 refine bodyPost_ret (v := (.bool (vcmp d1 d2 d3 f1 f2 f3 == (0 : Int)))) (ret_tmp rfl rfl) rfl ⟨?_, hB⟩
 exact rfl

set_option maxRecDepth 100000 in
set_option maxHeartbeats 1000000 in
theorem tzero_f {k : Nat} {uaa0 uaa1 uaa2 uaa3 uab0 uab1 uab2 uab3 uac0 uac1 uac2 uac3 : Value} {a1 a2 a3 : Rat} {uba0 uba1 uba2 uba3 ubb0 ubb1 ubb2 ubb3 ubc0 ubc1 ubc2 ubc3 : Value} {d1 d2 d3 : Rat} {w : World} (hua1 : IsRat w k uaa0 uaa1 uaa2 uaa3 a1) (hua2 : IsRat w k uab0 uab1 uab2 uab3 a2) (hua3 : IsRat w k uac0 uac1 uac2 uac3 a3) (_hub1 : IsRat w k uba0 uba1 uba2 uba3 d1) (_hub2 : IsRat w k ubb0 ubb1 ubb2 ubb3 d2) (_hub3 : IsRat w k ubc0 ubc1 ubc2 ubc3 d3) (_hk : k ≤ 25000) (e1 : (vcmp a1 a2 a3 0 0 0 == (0 : Int)) = false) :
    Calls Tryd.prog 27 #[(.agg #[uaa0, uaa1, uaa2, uaa3, uab0, uab1, uab2, uab3, uac0, uac1, uac2, uac3, uba0, uba1, uba2, uba3, ubb0, ubb1, ubb2, ubb3, ubc0, ubc1, ubc2, ubc3])] w fun e w' => e = .returned (.bool (false)) ∧ Gr w w' := by
 go_enter Tryd.func27, Tryd.ntmps27
 have hB := Gr.refl w
 refine wp_seq_k (fun K1 k1 => ?_)
 refine rg [0, 1] ?_
 refine se ?_
 refine eb 35 #[uaa0, uaa1, uaa2, uaa3, uab0, uab1, uab2, uab3, uac0, uac1, uac2, uac3, uba0, uba1, uba2, uba3, ubb0, ubb1, ubb2, ubb3, ubc0, ubc1, ubc2, ubc3] 1 hB fun b2 w2 g2 L2 o2 q2 hB => ?_
 simp only [p3, p4]
 refine sv 2 (.bool false) ?_
 simp only [p3, p4]
 refine sq_nil ?_
 refine k1 _ _ ?_
 try clear k1 K1
 refine wp_seq_k (fun K3 k3 => ?_)
 refine rg [0, 1, 2, 3, 4, 5, 6, 7, 8] ?_
 refine sv 3 (.pointer (some ⟨b2, 0, none⟩)) ?_
 simp only [p3, p4]
 refine sw 4 (.agg #[uaa0, uaa1, uaa2, uaa3, uab0, uab1, uab2, uab3, uac0, uac1, uac2, uac3]) rfl (rl 33 0 [uaa0, uaa1, uaa2, uaa3, uab0, uab1, uab2, uab3, uac0, uac1, uac2, uac3] L2) ?_
 simp only [p3, p4]
 refine se ?_
 replace hua1 := hua1.kp g2.kp
 replace hua2 := hua2.kp g2.kp
 replace hua3 := hua3.kp g2.kp
 refine ec 5 (vzero_b hua1 hua2 hua3 (by omega) false e1) ?_
 rintro e4 w4 ⟨rfl, g4⟩
 refine ⟨_, rfl, ?_⟩
 replace hB := hB.trans g4
 simp only [p3, p4]
 refine sv 6 (.bool false) ?_
 simp only [p3, p4]
 refine ss 7 ?_
 simp only [p3, p4]
 refine ss 8 ?_
 simp only [p3, p4]
 refine ss 9 ?_
 simp only [p3, p4]
 refine sv 10 (.bool false) ?_
 simp only [p3, p4]
 refine sv 2 (.bool false) ?_
 simp only [p3, p4]
 refine sq_nil ?_
 refine k3 _ _ ?_
 try clear k3 K3
 refine wp_ret ?_
 refine bodyPost_ret (v := (.bool false)) (ret_tmp rfl rfl) rfl ⟨?_, hB⟩
 exact rfl

set_option maxRecDepth 100000 in
set_option maxHeartbeats 1000000 in
theorem tequal_f {k m : Nat} {uaa0 uaa1 uaa2 uaa3 uab0 uab1 uab2 uab3 uac0 uac1 uac2 uac3 : Value} {a1 a2 a3 : Rat} {uba0 uba1 uba2 uba3 ubb0 ubb1 ubb2 ubb3 ubc0 ubc1 ubc2 ubc3 : Value} {d1 d2 d3 : Rat} {vaa0 vaa1 vaa2 vaa3 vab0 vab1 vab2 vab3 vac0 vac1 vac2 vac3 : Value} {c1 c2 c3 : Rat} {vba0 vba1 vba2 vba3 vbb0 vbb1 vbb2 vbb3 vbc0 vbc1 vbc2 vbc3 : Value} {f1 f2 f3 : Rat} {w : World} (hua1 : IsRat w k uaa0 uaa1 uaa2 uaa3 a1) (hua2 : IsRat w k uab0 uab1 uab2 uab3 a2) (hua3 : IsRat w k uac0 uac1 uac2 uac3 a3) (_hub1 : IsRat w k uba0 uba1 uba2 uba3 d1) (_hub2 : IsRat w k ubb0 ubb1 ubb2 ubb3 d2) (_hub3 : IsRat w k ubc0 ubc1 ubc2 ubc3 d3) (hva1 : IsRat w m vaa0 vaa1 vaa2 vaa3 c1) (hva2 : IsRat w m vab0 vab1 vab2 vab3 c2) (hva3 : IsRat w m vac0 vac1 vac2 vac3 c3) (_hvb1 : IsRat w m vba0 vba1 vba2 vba3 f1) (_hvb2 : IsRat w m vbb0 vbb1 vbb2 vbb3 f2) (_hvb3 : IsRat w m vbc0 vbc1 vbc2 vbc3 f3) (_hk : k + m ≤ 20000) (e1 : (vcmp a1 a2 a3 c1 c2 c3 == (0 : Int)) = false) :
    Calls Tryd.prog 36 #[(.agg #[uaa0, uaa1, uaa2, uaa3, uab0, uab1, uab2, uab3, uac0, uac1, uac2, uac3, uba0, uba1, uba2, uba3, ubb0, ubb1, ubb2, ubb3, ubc0, ubc1, ubc2, ubc3]), (.agg #[vaa0, vaa1, vaa2, vaa3, vab0, vab1, vab2, vab3, vac0, vac1, vac2, vac3, vba0, vba1, vba2, vba3, vbb0, vbb1, vbb2, vbb3, vbc0, vbc1, vbc2, vbc3])] w fun e w' => e = .returned (.bool (false)) ∧ Gr w w' := by
 go_enter Tryd.func36, Tryd.ntmps36
 have hB := Gr.refl w
 refine wp_seq_k (fun K1 k1 => ?_)
 refine rg [0, 1, 2] ?_
 refine se ?_
 refine eb 35 #[uaa0, uaa1, uaa2, uaa3, uab0, uab1, uab2, uab3, uac0, uac1, uac2, uac3, uba0, uba1, uba2, uba3, ubb0, ubb1, ubb2, ubb3, ubc0, ubc1, ubc2, ubc3] 2 hB fun b2 w2 g2 L2 o2 q2 hB => ?_
 simp only [p3, p4]
 refine se ?_
 refine eb 35 #[vaa0, vaa1, vaa2, vaa3, vab0, vab1, vab2, vab3, vac0, vac1, vac2, vac3, vba0, vba1, vba2, vba3, vbb0, vbb1, vbb2, vbb3, vbc0, vbc1, vbc2, vbc3] 3 hB fun b3 w3 g3 L3 o3 q3 hB => ?_
 simp only [p3, p4]
 refine sv 4 (.bool false) ?_
 simp only [p3, p4]
 refine sq_nil ?_
 refine k1 _ _ ?_
 try clear k1 K1
 refine wp_seq_k (fun K4 k4 => ?_)
 refine rg [0, 1, 2, 3, 4, 5, 6, 7, 8, 9, 10, 11, 12] ?_
 refine sv 5 (.pointer (some ⟨b2, 0, none⟩)) ?_
 simp only [p3, p4]
 replace L2 := L2.gr g3
 refine sw 6 (.agg #[uaa0, uaa1, uaa2, uaa3, uab0, uab1, uab2, uab3, uac0, uac1, uac2, uac3]) rfl (rl 33 0 [uaa0, uaa1, uaa2, uaa3, uab0, uab1, uab2, uab3, uac0, uac1, uac2, uac3] L2) ?_
 simp only [p3, p4]
 refine sv 7 (.pointer (some ⟨b3, 0, none⟩)) ?_
 simp only [p3, p4]
 refine sw 8 (.agg #[vaa0, vaa1, vaa2, vaa3, vab0, vab1, vab2, vab3, vac0, vac1, vac2, vac3]) rfl (rl 33 0 [vaa0, vaa1, vaa2, vaa3, vab0, vab1, vab2, vab3, vac0, vac1, vac2, vac3] L3) ?_
 simp only [p3, p4]
 refine se ?_
 have kq6 := g2.kp.trans g3.kp
 replace hua1 := hua1.kp kq6
 replace hua2 := hua2.kp kq6
 replace hua3 := hua3.kp kq6
 replace hva1 := hva1.kp kq6
 replace hva2 := hva2.kp kq6
 replace hva3 := hva3.kp kq6
 refine ec 9 (vequal_b hua1 hua2 hua3 hva1 hva2 hva3 (by omega) false e1) ?_
 rintro e5 w5 ⟨rfl, g5⟩
 refine ⟨_, rfl, ?_⟩
 replace hB := hB.trans g5
 simp only [p3, p4]
 refine sv 10 (.bool false) ?_
 simp only [p3, p4]
 refine ss 11 ?_
 simp only [p3, p4]
 refine ss 12 ?_
 simp only [p3, p4]
 refine ss 13 ?_
 simp only [p3, p4]
 refine ss 14 ?_
 simp only [p3, p4]
 refine ss 15 ?_
 simp only [p3, p4]
 refine sv 16 (.bool false) ?_
 simp only [p3, p4]
 refine sv 4 (.bool false) ?_
 simp only [p3, p4]
 refine sq_nil ?_
 refine k4 _ _ ?_
 try clear k4 K4
 refine wp_ret ?_
 refine bodyPost_ret (v := (.bool false)) (ret_tmp rfl rfl) rfl ⟨?_, hB⟩
 exact rfl

end Go.Proofs.YtgopfikljndklaaDoor
