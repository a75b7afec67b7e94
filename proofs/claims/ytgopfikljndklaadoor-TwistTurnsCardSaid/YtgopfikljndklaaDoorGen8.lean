/- Printed by a program of the prover's: small twists. -/
import Derived.Test.YtgopfikljndklaaDoorGen7
namespace Go.Proofs.YtgopfikljndklaaDoor
open Go.RowKit

set_option maxRecDepth 100000 in
set_option maxHeartbeats 1000000 in
theorem point_v (n0 n1 n2 : Int) (_i0 : -128 ≤ n0 ∧ n0 ≤ 127) (_i1 : -128 ≤ n1 ∧ n1 ≤ 127) (_i2 : -128 ≤ n2 ∧ n2 ≤ 127) (w : World) :
    Calls Tryd.prog 22 #[(.agg #[(.int .i8 (n0)), (.int .i8 (n1)), (.int .i8 (n2))])] w fun e w' => (∃ t0 t1 t2 t3 t4 t5 t6 t7 t8 t9 t10 t11, e = .returned (.agg #[t0, t1, t2, t3, t4, t5, t6, t7, t8, t9, t10, t11]) ∧ IsRat w' 64 t0 t1 t2 t3 ((n0 : Int) : Rat) ∧ IsRat w' 64 t4 t5 t6 t7 ((n1 : Int) : Rat) ∧ IsRat w' 64 t8 t9 t10 t11 ((n2 : Int) : Rat)) ∧ Gr w w' := by
  go_enter Tryd.func22, Tryd.ntmps22
  have hB := Gr.refl w
  refine wp_seq_k (fun K1 k1 => ?_)
  refine wp_region ?_
  simp only [List.size_toArray, List.length_cons, List.length_nil, Nat.reduceAdd, List.range, List.range.loop]
  refine sq_eff rfl (by kernel_rfl) (fun K2 k2 => ?_)
  refine eff_box 54 _ (.agg #[(.int .i8 (n0)), (.int .i8 (n1)), (.int .i8 (n2))]) #[(.int .i8 (n0)), (.int .i8 (n1)), (.int .i8 (n2))] (some 1) rfl rfl rfl rfl (fun b3 w3 g3 L3 q3 => ?_)
  replace q3 := Nat.le_trans (Below.size hB) q3
  replace hB := Gr.trans hB g3
  refine k2 _ _ ?_
  try clear k2 K2
  simp only [p1, p2, p3, p4]
  refine sq_eff rfl (by kernel_rfl) (fun K4 k4 => ?_)
  refine eff_alloc 33 (.agg #[(.bool false), (.slice none 0 0), (.bool false), (.slice none 0 0), (.bool false), (.slice none 0 0), (.bool false), (.slice none 0 0), (.bool false), (.slice none 0 0), (.bool false), (.slice none 0 0)]) #[(.bool false), (.slice none 0 0), (.bool false), (.slice none 0 0), (.bool false), (.slice none 0 0), (.bool false), (.slice none 0 0), (.bool false), (.slice none 0 0), (.bool false), (.slice none 0 0)] (some 2) rfl rfl (by kernel_rfl) rfl (fun b5 w5 g5 L5 q5 => ?_)
  have ne3_5 := L3.ne q5
  replace q5 := Nat.le_trans (Below.size hB) q5
  replace hB := Gr.trans hB g5
  refine k4 _ _ ?_
  try clear k4 K4
  simp only [p1, p2, p3, p4]
  refine sq_nil ?_
  refine k1 _ _ ?_
  try clear k1 K1
  refine wp_seq_k (fun K6 k6 => ?_)
  refine wp_region ?_
  simp only [List.size_toArray, List.length_cons, List.length_nil, Nat.reduceAdd, List.range, List.range.loop]
  refine sq_val (some 3) (.pointer (some ⟨b3, 0, none⟩)) rfl rfl (by kernel_rfl) (rvk (by kernel_rfl)) ?_
  simp only [p1, p2, p3, p4]
  replace L3 := L3.gr g5
  refine sq_val (some 4) (.int .i8 (n0)) rfl rfl (by kernel_rfl) (rv_load1 22 _ b3 0 _ _ (.int .i8 (n0)) rfl rfl L3 rfl (by kernel_rfl)) ?_
  simp only [p1, p2, p3, p4]
  refine sq_val (some 5) (.int .i64 (n0)) rfl rfl (by kernel_rfl) (RunV.int (x := IntKind.i64.wrap (n0)) (y := n0) (rvk (by kernel_rfl)) (by first | rfl | (rw [IntKind.wrap_i64]; omega))) ?_
  simp only [p1, p2, p3, p4]
  refine sq_val (some 6) (.pointer (some ⟨b3, 1, none⟩)) rfl rfl (by kernel_rfl) (rvk (by kernel_rfl)) ?_
  simp only [p1, p2, p3, p4]
  refine sq_val (some 7) (.int .i8 (n1)) rfl rfl (by kernel_rfl) (rv_load1 22 _ b3 1 _ _ (.int .i8 (n1)) rfl rfl L3 rfl (by kernel_rfl)) ?_
  simp only [p1, p2, p3, p4]
  refine sq_val (some 8) (.int .i64 (n1)) rfl rfl (by kernel_rfl) (RunV.int (x := IntKind.i64.wrap (n1)) (y := n1) (rvk (by kernel_rfl)) (by first | rfl | (rw [IntKind.wrap_i64]; omega))) ?_
  simp only [p1, p2, p3, p4]
  refine sq_val (some 9) (.pointer (some ⟨b3, 2, none⟩)) rfl rfl (by kernel_rfl) (rvk (by kernel_rfl)) ?_
  simp only [p1, p2, p3, p4]
  refine sq_val (some 10) (.int .i8 (n2)) rfl rfl (by kernel_rfl) (rv_load1 22 _ b3 2 _ _ (.int .i8 (n2)) rfl rfl L3 rfl (by kernel_rfl)) ?_
  simp only [p1, p2, p3, p4]
  refine sq_val (some 11) (.int .i64 (n2)) rfl rfl (by kernel_rfl) (RunV.int (x := IntKind.i64.wrap (n2)) (y := n2) (rvk (by kernel_rfl)) (by first | rfl | (rw [IntKind.wrap_i64]; omega))) ?_
  simp only [p1, p2, p3, p4]
  refine sq_val (some 12) (.agg #[(.int .i64 (n0)), (.int .i64 (n1)), (.int .i64 (n2))]) rfl rfl (by kernel_rfl) (rvk (by kernel_rfl)) ?_
  simp only [p1, p2, p3, p4]
  refine sq_eff rfl (by kernel_rfl) (fun K7 k7 => ?_)
  refine eff_call (some 13) rfl (by kernel_rfl) (vof_v (n0) (n1) (n2) (by omega) (by omega) (by omega) _) ?_
  rintro e8 w8 ⟨⟨t8_0, t8_1, t8_2, t8_3, t8_4, t8_5, t8_6, t8_7, t8_8, t8_9, t8_10, t8_11, rfl, h8a, h8b, h8c⟩, g8⟩
  refine ⟨_, rfl, ?_⟩
  replace hB := Gr.trans hB g8
  refine k7 _ _ ?_
  try clear k7 K7
  simp only [p1, p2, p3, p4]
  refine sq_eff rfl (by kernel_rfl) (fun K9 k9 => ?_)
  replace L5 := L5.gr g8
  refine eff_store 33 _ _ b5 0 (.agg #[t8_0, t8_1, t8_2, t8_3, t8_4, t8_5, t8_6, t8_7, t8_8, t8_9, t8_10, t8_11]) [t8_0, t8_1, t8_2, t8_3, t8_4, t8_5, t8_6, t8_7, t8_8, t8_9, t8_10, t8_11] _ #[t8_0, t8_1, t8_2, t8_3, t8_4, t8_5, t8_6, t8_7, t8_8, t8_9, t8_10, t8_11] _ rfl rfl rfl rfl rfl L5 (by kernel_rfl) (Nat.le_of_ble_eq_true rfl) ⟨h8a.one0, h8a.one1, h8a.one2, h8a.one3, h8b.one0, h8b.one1, h8b.one2, h8b.one3, h8c.one0, h8c.one1, h8c.one2, h8c.one3, trivial⟩ (by kernel_rfl) (fun w10 st10 N10 => ?_)
  have kp10 := st10.kp L5 (by decide)
  replace hB := st10.gr hB q5
  replace L5 := N10
  refine k9 _ _ ?_
  try clear k9 K9
  refine sq_nil ?_
  refine k6 _ _ ?_
  try clear k6 K6
  refine wp_ret ?_
  refine bodyPost_ret (v := (.agg #[t8_0, t8_1, t8_2, t8_3, t8_4, t8_5, t8_6, t8_7, t8_8, t8_9, t8_10, t8_11])) (ret_cell _ _ _ rfl rfl L5 (by kernel_rfl)) rfl ⟨?_, hB⟩
  replace h8a := h8a.kp kp10
  replace h8b := h8b.kp kp10
  replace h8c := h8c.kp kp10
  exact ⟨_, _, _, _, _, _, _, _, _, _, _, _, rfl, h8a, h8b, h8c⟩

set_option maxRecDepth 100000 in
set_option maxHeartbeats 4000000 in
theorem vec_0 (n0 n1 n2 n3 n4 n5 dd : Int) (_i0 : -128 ≤ n0 ∧ n0 ≤ 127) (_i1 : -128 ≤ n1 ∧ n1 ≤ 127) (_i2 : -128 ≤ n2 ∧ n2 ≤ 127) (_i3 : -128 ≤ n3 ∧ n3 ≤ 127) (_i4 : -128 ≤ n4 ∧ n4 ≤ 127) (_i5 : -128 ≤ n5 ∧ n5 ≤ 127) (_id : 0 ≤ dd ∧ dd ≤ 255) (w : World) :
    Calls Tryd.prog 26 #[(.agg #[(.int .i8 (n0)), (.int .i8 (n1)), (.int .i8 (n2)), (.int .i8 (n3)), (.int .i8 (n4)), (.int .i8 (n5)), (.int .u8 (dd))]), (.int .i64 0)] w fun e w' => (∃ t0 t1 t2 t3 t4 t5 t6 t7 t8 t9 t10 t11, e = .returned (.agg #[t0, t1, t2, t3, t4, t5, t6, t7, t8, t9, t10, t11]) ∧ IsRat w' (64 + 64) t0 t1 t2 t3 (((n0 : Int) : Rat) / ((1 + dd % 3 : Int) : Rat)) ∧ IsRat w' (64 + 64) t4 t5 t6 t7 (((n1 : Int) : Rat) / ((1 + dd % 3 : Int) : Rat)) ∧ IsRat w' (64 + 64) t8 t9 t10 t11 (((n2 : Int) : Rat) / ((1 + dd % 3 : Int) : Rat))) ∧ Gr w w' := by
  go_enter Tryd.func26, Tryd.ntmps26
  have hB := Gr.refl w
  refine wp_seq_k (fun K1 k1 => ?_)
  refine wp_region ?_
  simp only [List.size_toArray, List.length_cons, List.length_nil, Nat.reduceAdd, List.range, List.range.loop]
  refine sq_eff rfl (by kernel_rfl) (fun K2 k2 => ?_)
  refine eff_box 25 _ (.agg #[(.int .i8 (n0)), (.int .i8 (n1)), (.int .i8 (n2)), (.int .i8 (n3)), (.int .i8 (n4)), (.int .i8 (n5)), (.int .u8 (dd))]) #[(.int .i8 (n0)), (.int .i8 (n1)), (.int .i8 (n2)), (.int .i8 (n3)), (.int .i8 (n4)), (.int .i8 (n5)), (.int .u8 (dd))] (some 2) rfl rfl rfl rfl (fun b3 w3 g3 L3 q3 => ?_)
  replace q3 := Nat.le_trans (Below.size hB) q3
  replace hB := Gr.trans hB g3
  refine k2 _ _ ?_
  try clear k2 K2
  simp only [p1, p2, p3, p4]
  refine sq_eff rfl (by kernel_rfl) (fun K4 k4 => ?_)
  refine eff_alloc 33 (.agg #[(.bool false), (.slice none 0 0), (.bool false), (.slice none 0 0), (.bool false), (.slice none 0 0), (.bool false), (.slice none 0 0), (.bool false), (.slice none 0 0), (.bool false), (.slice none 0 0)]) #[(.bool false), (.slice none 0 0), (.bool false), (.slice none 0 0), (.bool false), (.slice none 0 0), (.bool false), (.slice none 0 0), (.bool false), (.slice none 0 0), (.bool false), (.slice none 0 0)] (some 4) rfl rfl (by kernel_rfl) rfl (fun b5 w5 g5 L5 q5 => ?_)
  have ne3_5 := L3.ne q5
  replace q5 := Nat.le_trans (Below.size hB) q5
  replace hB := Gr.trans hB g5
  refine k4 _ _ ?_
  try clear k4 K4
  simp only [p1, p2, p3, p4]
  refine sq_nil ?_
  refine k1 _ _ ?_
  try clear k1 K1
  refine wp_seq_k (fun K6 k6 => ?_)
  refine wp_region ?_
  simp only [List.size_toArray, List.length_cons, List.length_nil, Nat.reduceAdd, List.range, List.range.loop]
  refine sq_eff rfl (by kernel_rfl) (fun K7 k7 => ?_)
  refine eff_alloc 33 (.agg #[(.bool false), (.slice none 0 0), (.bool false), (.slice none 0 0), (.bool false), (.slice none 0 0), (.bool false), (.slice none 0 0), (.bool false), (.slice none 0 0), (.bool false), (.slice none 0 0)]) #[(.bool false), (.slice none 0 0), (.bool false), (.slice none 0 0), (.bool false), (.slice none 0 0), (.bool false), (.slice none 0 0), (.bool false), (.slice none 0 0), (.bool false), (.slice none 0 0)] (some 5) rfl rfl (by kernel_rfl) rfl (fun b8 w8 g8 L8 q8 => ?_)
  replace L3 := L3.gr g5
  have ne3_8 := L3.ne q8
  have ne5_8 := L5.ne q8
  replace q8 := Nat.le_trans (Below.size hB) q8
  replace hB := Gr.trans hB g8
  refine k7 _ _ ?_
  try clear k7 K7
  simp only [p1, p2, p3, p4]
  refine sq_nil ?_
  refine k6 _ _ ?_
  try clear k6 K6
  refine wp_seq_k (fun K9 k9 => ?_)
  refine wp_seq_k (fun K10 k10 => ?_)
  refine wp_region ?_
  simp only [List.size_toArray, List.length_cons, List.length_nil, Nat.reduceAdd, List.range, List.range.loop]
  refine sq_val (some 6) (.int .i64 0) rfl rfl (by kernel_rfl) (rvk (by kernel_rfl)) ?_
  simp only [p1, p2, p3, p4]
  refine sq_nil ?_
  refine k10 _ _ ?_
  try clear k10 K10
  refine wp_block ?_
  refine wp_loop_rounds 4 ?_
  show Code.wp _ _ _ _ _
  refine wp_seq_k (fun K11 k11 => ?_)
  refine wp_seq_k (fun K12 k12 => ?_)
  refine wp_region ?_
  simp only [List.size_toArray, List.length_cons, List.length_nil, Nat.reduceAdd, List.range, List.range.loop]
  refine sq_val (some 7) (.int .i64 0) rfl rfl (by kernel_rfl) (rvk (by kernel_rfl)) ?_
  simp only [p1, p2, p3, p4]
  refine sq_val (some 8) (.bool true) rfl rfl (by kernel_rfl) (rvk (by kernel_rfl)) ?_
  simp only [p1, p2, p3, p4]
  refine sq_nil ?_
  refine k12 _ _ ?_
  try clear k12 K12
  refine wp_cond_true rfl ?_
  refine wp_skip ?_
  refine k11 _ _ ?_
  try clear k11 K11
  refine wp_seq_k (fun K13 k13 => ?_)
  refine wp_block ?_
  have gd23 := Gr.drew w8
  replace hB := Gr.trans hB gd23
  replace L3 := L3.gr (g8.trans gd23)
  refine wp_region_ord (fun w' => Lc w' b3 #[(.int .i8 (n0)), (.int .i8 (n1)), (.int .i8 (n2)), (.int .i8 (n3)), (.int .i8 (n4)), (.int .i8 (n5)), (.int .u8 (dd))] 25) [(true, 0), (true, 1), (true, 2), (true, 3), (true, 4), (true, 5), (true, 6), (true, 7), (true, 9), (true, 10), (true, 11), (true, 12), (true, 13), (false, 8), (false, 14), (false, 15), (true, 16), (true, 17), (true, 18), (true, 19), (false, 20)] (by kernel_rfl) (by kernel_rfl) (by kernel_rfl) (by decide) (fun _ _ _ _ _ h => h) L3 ?_
  refine ord_pure (some 12) (.int .i64 0) rfl rfl rfl (fun w' hS => (rvk (by kernel_rfl))) ?_
  simp only [p1, p2, p3, p4]
  refine ord_pure (some 13) (.int .i64 0) rfl rfl rfl (fun w' hS => (rvk (by kernel_rfl))) ?_
  simp only [p1, p2, p3, p4]
  refine ord_pure (some 14) (.int .i64 0) rfl rfl rfl (fun w' hS => (rvk (by kernel_rfl))) ?_
  simp only [p1, p2, p3, p4]
  refine ord_pure (some 15) (.int .i64 0) rfl rfl rfl (fun w' hS => (rvk (by kernel_rfl))) ?_
  simp only [p1, p2, p3, p4]
  refine ord_pure (some 16) (.pointer (some ⟨b3, 0, none⟩)) rfl rfl rfl (fun w' hS => (rvk (by kernel_rfl))) ?_
  simp only [p1, p2, p3, p4]
  refine ord_pure (some 17) (.pointer (some ⟨b3, 0, none⟩)) rfl rfl rfl (fun w' hS => (rvk (by kernel_rfl))) ?_
  simp only [p1, p2, p3, p4]
  refine ord_pure (some 18) (.int .i8 (n0)) rfl rfl rfl (fun w' hS => (rv_load1 22 _ b3 0 _ _ (.int .i8 (n0)) rfl rfl hS rfl (by kernel_rfl))) ?_
  simp only [p1, p2, p3, p4]
  refine ord_pure (some 19) (.int .i64 (n0)) rfl rfl rfl (fun w' hS => (RunV.int (x := IntKind.i64.wrap (n0)) (y := n0) (rvk (by kernel_rfl)) (by first | rfl | (rw [IntKind.wrap_i64]; omega)))) ?_
  simp only [p1, p2, p3, p4]
  refine ord_pure (some 21) (.pointer (some ⟨b3, 6, none⟩)) rfl rfl rfl (fun w' hS => (rvk (by kernel_rfl))) ?_
  simp only [p1, p2, p3, p4]
  refine ord_pure (some 22) (.int .u8 (dd)) rfl rfl rfl (fun w' hS => (rv_load1 5 _ b3 6 _ _ (.int .u8 (dd)) rfl rfl hS rfl (by kernel_rfl))) ?_
  simp only [p1, p2, p3, p4]
  refine ord_pure (some 23) (.int .u8 ((dd % 3))) rfl rfl rfl (fun w' hS => (RunV.int (x := Int.tmod (dd) 3) (y := dd % 3) (rvk (by kernel_rfl)) (by rw [Int.tmod_eq_emod_of_nonneg (by omega)]))) ?_
  simp only [p1, p2, p3, p4]
  refine ord_pure (some 24) (.int .i64 ((dd % 3))) rfl rfl rfl (fun w' hS => (RunV.int (x := IntKind.i64.wrap ((dd % 3))) (y := (dd % 3)) (rvk (by kernel_rfl)) (by first | rfl | (rw [IntKind.wrap_i64]; omega)))) ?_
  simp only [p1, p2, p3, p4]
  refine ord_pure (some 25) (.int .i64 ((1 + (dd % 3)))) rfl rfl rfl (fun w' hS => (RunV.int (x := IntKind.i64.wrap ((1 + (dd % 3)))) (y := (1 + (dd % 3))) (rvk (by kernel_rfl)) (by first | rfl | (rw [IntKind.wrap_i64]; omega)))) ?_
  simp only [p1, p2, p3, p4]
  refine ord_eff rfl rfl (fun K24 k24 => ?_)
  refine eff_call (some 20) rfl (by kernel_rfl) (from_r (n0) (by omega) (by omega) _) ?_
  rintro e25 w25 ⟨⟨p25, q25, r25, s25, rfl, h25⟩, g25⟩
  refine ⟨_, rfl, ?_⟩
  replace hB := Gr.trans hB g25
  replace L3 := L3.gr g25
  refine k24 _ _ L3 ?_
  try clear k24 K24
  simp only [p1, p2, p3, p4]
  refine ord_eff rfl rfl (fun K26 k26 => ?_)
  refine eff_call (some 26) rfl (by kernel_rfl) (from_r ((1 + (dd % 3))) (by omega) (by omega) _) ?_
  rintro e27 w27 ⟨⟨p27, q27, r27, s27, rfl, h27⟩, g27⟩
  refine ⟨_, rfl, ?_⟩
  replace hB := Gr.trans hB g27
  replace L3 := L3.gr g27
  refine k26 _ _ L3 ?_
  try clear k26 K26
  simp only [p1, p2, p3, p4]
  refine ord_eff rfl rfl (fun K28 k28 => ?_)
  replace h25 := h25.kp g27.kp
  refine eff_call (some 27) rfl (by kernel_rfl) (div_r h25 h27 (by omega) (by rw [Rat.num_intCast]; omega)) ?_
  rintro e29 w29 ⟨⟨p29, q29, r29, s29, rfl, h29⟩, g29⟩
  refine ⟨_, rfl, ?_⟩
  replace hB := Gr.trans hB g29
  replace L3 := L3.gr g29
  refine k28 _ _ L3 ?_
  try clear k28 K28
  simp only [p1, p2, p3, p4]
  refine ord_pure (some 11) (.tuple #[(.agg #[p29, q29, r29, s29]), (.int .i64 0)]) rfl rfl rfl (fun w' hS => (rvk (by kernel_rfl))) ?_
  simp only [p1, p2, p3, p4]
  refine ord_pure (some 28) (.agg #[p29, q29, r29, s29]) rfl rfl rfl (fun w' hS => (rvk (by kernel_rfl))) ?_
  simp only [p1, p2, p3, p4]
  refine ord_pure (some 29) (.int .i64 0) rfl rfl rfl (fun w' hS => (rvk (by kernel_rfl))) ?_
  simp only [p1, p2, p3, p4]
  refine ord_pure (some 30) (.pointer (some ⟨b8, 0, none⟩)) rfl rfl rfl (fun w' hS => (rvk (by kernel_rfl))) ?_
  simp only [p1, p2, p3, p4]
  refine ord_eff rfl rfl (fun K30 k30 => ?_)
  replace L8 := L8.gr (gd23.trans (g25.trans (g27.trans g29)))
  refine eff_store 31 _ _ b8 0 (.agg #[p29, q29, r29, s29]) [p29, q29, r29, s29] _ #[p29, q29, r29, s29, (.bool false), (.slice none 0 0), (.bool false), (.slice none 0 0), (.bool false), (.slice none 0 0), (.bool false), (.slice none 0 0)] _ rfl rfl rfl rfl rfl L8 (by kernel_rfl) (Nat.le_of_ble_eq_true rfl) ⟨h29.one0, h29.one1, h29.one2, h29.one3, trivial⟩ (by kernel_rfl) (fun w31 st31 N31 => ?_)
  have kp31 := st31.kp L8 (by decide)
  replace hB := st31.gr hB q8
  replace L8 := N31
  replace L3 := st31.lc L3 ne3_8
  refine k30 _ _ L3 ?_
  try clear k30 K30
  refine ord_nil ?_
  refine k13 _ _ ?_
  try clear k13 K13
  refine wp_region ?_
  simp only [List.size_toArray, List.length_cons, List.length_nil, Nat.reduceAdd, List.range, List.range.loop]
  refine sq_val (some 9) (.int .i64 0) rfl rfl (by kernel_rfl) (rvk (by kernel_rfl)) ?_
  simp only [p1, p2, p3, p4]
  refine sq_val (some 10) (.int .i64 1) rfl rfl (by kernel_rfl) (rvk (by kernel_rfl)) ?_
  simp only [p1, p2, p3, p4]
  refine sq_val (some 6) (.int .i64 1) rfl rfl (by kernel_rfl) (rvk (by kernel_rfl)) ?_
  simp only [p1, p2, p3, p4]
  refine sq_nil ?_
  show Code.rounds _ _ _ _ _ _
  show Code.wp _ _ _ _ _
  refine wp_seq_k (fun K32 k32 => ?_)
  refine wp_seq_k (fun K33 k33 => ?_)
  refine wp_region ?_
  simp only [List.size_toArray, List.length_cons, List.length_nil, Nat.reduceAdd, List.range, List.range.loop]
  refine sq_val (some 7) (.int .i64 1) rfl rfl (by kernel_rfl) (rvk (by kernel_rfl)) ?_
  simp only [p1, p2, p3, p4]
  refine sq_val (some 8) (.bool true) rfl rfl (by kernel_rfl) (rvk (by kernel_rfl)) ?_
  simp only [p1, p2, p3, p4]
  refine sq_nil ?_
  refine k33 _ _ ?_
  try clear k33 K33
  refine wp_cond_true rfl ?_
  refine wp_skip ?_
  refine k32 _ _ ?_
  try clear k32 K32
  refine wp_seq_k (fun K34 k34 => ?_)
  refine wp_block ?_
  have gd44 := Gr.drew w31
  replace hB := Gr.trans hB gd44
  replace L3 := L3.gr gd44
  refine wp_region_ord (fun w' => Lc w' b3 #[(.int .i8 (n0)), (.int .i8 (n1)), (.int .i8 (n2)), (.int .i8 (n3)), (.int .i8 (n4)), (.int .i8 (n5)), (.int .u8 (dd))] 25) [(true, 0), (true, 1), (true, 2), (true, 3), (true, 4), (true, 5), (true, 6), (true, 7), (true, 9), (true, 10), (true, 11), (true, 12), (true, 13), (false, 8), (false, 14), (false, 15), (true, 16), (true, 17), (true, 18), (true, 19), (false, 20)] (by kernel_rfl) (by kernel_rfl) (by kernel_rfl) (by decide) (fun _ _ _ _ _ h => h) L3 ?_
  refine ord_pure (some 12) (.int .i64 1) rfl rfl rfl (fun w' hS => (rvk (by kernel_rfl))) ?_
  simp only [p1, p2, p3, p4]
  refine ord_pure (some 13) (.int .i64 0) rfl rfl rfl (fun w' hS => (rvk (by kernel_rfl))) ?_
  simp only [p1, p2, p3, p4]
  refine ord_pure (some 14) (.int .i64 1) rfl rfl rfl (fun w' hS => (rvk (by kernel_rfl))) ?_
  simp only [p1, p2, p3, p4]
  refine ord_pure (some 15) (.int .i64 1) rfl rfl rfl (fun w' hS => (rvk (by kernel_rfl))) ?_
  simp only [p1, p2, p3, p4]
  refine ord_pure (some 16) (.pointer (some ⟨b3, 0, none⟩)) rfl rfl rfl (fun w' hS => (rvk (by kernel_rfl))) ?_
  simp only [p1, p2, p3, p4]
  refine ord_pure (some 17) (.pointer (some ⟨b3, 1, none⟩)) rfl rfl rfl (fun w' hS => (rvk (by kernel_rfl))) ?_
  simp only [p1, p2, p3, p4]
  refine ord_pure (some 18) (.int .i8 (n1)) rfl rfl rfl (fun w' hS => (rv_load1 22 _ b3 1 _ _ (.int .i8 (n1)) rfl rfl hS rfl (by kernel_rfl))) ?_
  simp only [p1, p2, p3, p4]
  refine ord_pure (some 19) (.int .i64 (n1)) rfl rfl rfl (fun w' hS => (RunV.int (x := IntKind.i64.wrap (n1)) (y := n1) (rvk (by kernel_rfl)) (by first | rfl | (rw [IntKind.wrap_i64]; omega)))) ?_
  simp only [p1, p2, p3, p4]
  refine ord_pure (some 21) (.pointer (some ⟨b3, 6, none⟩)) rfl rfl rfl (fun w' hS => (rvk (by kernel_rfl))) ?_
  simp only [p1, p2, p3, p4]
  refine ord_pure (some 22) (.int .u8 (dd)) rfl rfl rfl (fun w' hS => (rv_load1 5 _ b3 6 _ _ (.int .u8 (dd)) rfl rfl hS rfl (by kernel_rfl))) ?_
  simp only [p1, p2, p3, p4]
  refine ord_pure (some 23) (.int .u8 ((dd % 3))) rfl rfl rfl (fun w' hS => (RunV.int (x := Int.tmod (dd) 3) (y := dd % 3) (rvk (by kernel_rfl)) (by rw [Int.tmod_eq_emod_of_nonneg (by omega)]))) ?_
  simp only [p1, p2, p3, p4]
  refine ord_pure (some 24) (.int .i64 ((dd % 3))) rfl rfl rfl (fun w' hS => (RunV.int (x := IntKind.i64.wrap ((dd % 3))) (y := (dd % 3)) (rvk (by kernel_rfl)) (by first | rfl | (rw [IntKind.wrap_i64]; omega)))) ?_
  simp only [p1, p2, p3, p4]
  refine ord_pure (some 25) (.int .i64 ((1 + (dd % 3)))) rfl rfl rfl (fun w' hS => (RunV.int (x := IntKind.i64.wrap ((1 + (dd % 3)))) (y := (1 + (dd % 3))) (rvk (by kernel_rfl)) (by first | rfl | (rw [IntKind.wrap_i64]; omega)))) ?_
  simp only [p1, p2, p3, p4]
  refine ord_eff rfl rfl (fun K45 k45 => ?_)
  refine eff_call (some 20) rfl (by kernel_rfl) (from_r (n1) (by omega) (by omega) _) ?_
  rintro e46 w46 ⟨⟨p46, q46, r46, s46, rfl, h46⟩, g46⟩
  refine ⟨_, rfl, ?_⟩
  replace hB := Gr.trans hB g46
  replace L3 := L3.gr g46
  refine k45 _ _ L3 ?_
  try clear k45 K45
  simp only [p1, p2, p3, p4]
  refine ord_eff rfl rfl (fun K47 k47 => ?_)
  refine eff_call (some 26) rfl (by kernel_rfl) (from_r ((1 + (dd % 3))) (by omega) (by omega) _) ?_
  rintro e48 w48 ⟨⟨p48, q48, r48, s48, rfl, h48⟩, g48⟩
  refine ⟨_, rfl, ?_⟩
  replace hB := Gr.trans hB g48
  replace L3 := L3.gr g48
  refine k47 _ _ L3 ?_
  try clear k47 K47
  simp only [p1, p2, p3, p4]
  refine ord_eff rfl rfl (fun K49 k49 => ?_)
  replace h46 := h46.kp g48.kp
  refine eff_call (some 27) rfl (by kernel_rfl) (div_r h46 h48 (by omega) (by rw [Rat.num_intCast]; omega)) ?_
  rintro e50 w50 ⟨⟨p50, q50, r50, s50, rfl, h50⟩, g50⟩
  refine ⟨_, rfl, ?_⟩
  replace hB := Gr.trans hB g50
  replace L3 := L3.gr g50
  refine k49 _ _ L3 ?_
  try clear k49 K49
  simp only [p1, p2, p3, p4]
  refine ord_pure (some 11) (.tuple #[(.agg #[p50, q50, r50, s50]), (.int .i64 0)]) rfl rfl rfl (fun w' hS => (rvk (by kernel_rfl))) ?_
  simp only [p1, p2, p3, p4]
  refine ord_pure (some 28) (.agg #[p50, q50, r50, s50]) rfl rfl rfl (fun w' hS => (rvk (by kernel_rfl))) ?_
  simp only [p1, p2, p3, p4]
  refine ord_pure (some 29) (.int .i64 0) rfl rfl rfl (fun w' hS => (rvk (by kernel_rfl))) ?_
  simp only [p1, p2, p3, p4]
  refine ord_pure (some 30) (.pointer (some ⟨b8, 4, none⟩)) rfl rfl rfl (fun w' hS => (rvk (by kernel_rfl))) ?_
  simp only [p1, p2, p3, p4]
  refine ord_eff rfl rfl (fun K51 k51 => ?_)
  replace L8 := L8.gr (gd44.trans (g46.trans (g48.trans g50)))
  refine eff_store 31 _ _ b8 4 (.agg #[p50, q50, r50, s50]) [p50, q50, r50, s50] _ #[p29, q29, r29, s29, p50, q50, r50, s50, (.bool false), (.slice none 0 0), (.bool false), (.slice none 0 0)] _ rfl rfl rfl rfl rfl L8 (by kernel_rfl) (Nat.le_of_ble_eq_true rfl) ⟨h50.one0, h50.one1, h50.one2, h50.one3, trivial⟩ (by kernel_rfl) (fun w52 st52 N52 => ?_)
  have kp52 := st52.kp L8 (by decide)
  replace hB := st52.gr hB q8
  replace L8 := N52
  replace L3 := st52.lc L3 ne3_8
  refine k51 _ _ L3 ?_
  try clear k51 K51
  refine ord_nil ?_
  refine k34 _ _ ?_
  try clear k34 K34
  refine wp_region ?_
  simp only [List.size_toArray, List.length_cons, List.length_nil, Nat.reduceAdd, List.range, List.range.loop]
  refine sq_val (some 9) (.int .i64 1) rfl rfl (by kernel_rfl) (rvk (by kernel_rfl)) ?_
  simp only [p1, p2, p3, p4]
  refine sq_val (some 10) (.int .i64 2) rfl rfl (by kernel_rfl) (rvk (by kernel_rfl)) ?_
  simp only [p1, p2, p3, p4]
  refine sq_val (some 6) (.int .i64 2) rfl rfl (by kernel_rfl) (rvk (by kernel_rfl)) ?_
  simp only [p1, p2, p3, p4]
  refine sq_nil ?_
  show Code.rounds _ _ _ _ _ _
  show Code.wp _ _ _ _ _
  refine wp_seq_k (fun K53 k53 => ?_)
  refine wp_seq_k (fun K54 k54 => ?_)
  refine wp_region ?_
  simp only [List.size_toArray, List.length_cons, List.length_nil, Nat.reduceAdd, List.range, List.range.loop]
  refine sq_val (some 7) (.int .i64 2) rfl rfl (by kernel_rfl) (rvk (by kernel_rfl)) ?_
  simp only [p1, p2, p3, p4]
  refine sq_val (some 8) (.bool true) rfl rfl (by kernel_rfl) (rvk (by kernel_rfl)) ?_
  simp only [p1, p2, p3, p4]
  refine sq_nil ?_
  refine k54 _ _ ?_
  try clear k54 K54
  refine wp_cond_true rfl ?_
  refine wp_skip ?_
  refine k53 _ _ ?_
  try clear k53 K53
  refine wp_seq_k (fun K55 k55 => ?_)
  refine wp_block ?_
  have gd65 := Gr.drew w52
  replace hB := Gr.trans hB gd65
  replace L3 := L3.gr gd65
  refine wp_region_ord (fun w' => Lc w' b3 #[(.int .i8 (n0)), (.int .i8 (n1)), (.int .i8 (n2)), (.int .i8 (n3)), (.int .i8 (n4)), (.int .i8 (n5)), (.int .u8 (dd))] 25) [(true, 0), (true, 1), (true, 2), (true, 3), (true, 4), (true, 5), (true, 6), (true, 7), (true, 9), (true, 10), (true, 11), (true, 12), (true, 13), (false, 8), (false, 14), (false, 15), (true, 16), (true, 17), (true, 18), (true, 19), (false, 20)] (by kernel_rfl) (by kernel_rfl) (by kernel_rfl) (by decide) (fun _ _ _ _ _ h => h) L3 ?_
  refine ord_pure (some 12) (.int .i64 2) rfl rfl rfl (fun w' hS => (rvk (by kernel_rfl))) ?_
  simp only [p1, p2, p3, p4]
  refine ord_pure (some 13) (.int .i64 0) rfl rfl rfl (fun w' hS => (rvk (by kernel_rfl))) ?_
  simp only [p1, p2, p3, p4]
  refine ord_pure (some 14) (.int .i64 2) rfl rfl rfl (fun w' hS => (rvk (by kernel_rfl))) ?_
  simp only [p1, p2, p3, p4]
  refine ord_pure (some 15) (.int .i64 2) rfl rfl rfl (fun w' hS => (rvk (by kernel_rfl))) ?_
  simp only [p1, p2, p3, p4]
  refine ord_pure (some 16) (.pointer (some ⟨b3, 0, none⟩)) rfl rfl rfl (fun w' hS => (rvk (by kernel_rfl))) ?_
  simp only [p1, p2, p3, p4]
  refine ord_pure (some 17) (.pointer (some ⟨b3, 2, none⟩)) rfl rfl rfl (fun w' hS => (rvk (by kernel_rfl))) ?_
  simp only [p1, p2, p3, p4]
  refine ord_pure (some 18) (.int .i8 (n2)) rfl rfl rfl (fun w' hS => (rv_load1 22 _ b3 2 _ _ (.int .i8 (n2)) rfl rfl hS rfl (by kernel_rfl))) ?_
  simp only [p1, p2, p3, p4]
  refine ord_pure (some 19) (.int .i64 (n2)) rfl rfl rfl (fun w' hS => (RunV.int (x := IntKind.i64.wrap (n2)) (y := n2) (rvk (by kernel_rfl)) (by first | rfl | (rw [IntKind.wrap_i64]; omega)))) ?_
  simp only [p1, p2, p3, p4]
  refine ord_pure (some 21) (.pointer (some ⟨b3, 6, none⟩)) rfl rfl rfl (fun w' hS => (rvk (by kernel_rfl))) ?_
  simp only [p1, p2, p3, p4]
  refine ord_pure (some 22) (.int .u8 (dd)) rfl rfl rfl (fun w' hS => (rv_load1 5 _ b3 6 _ _ (.int .u8 (dd)) rfl rfl hS rfl (by kernel_rfl))) ?_
  simp only [p1, p2, p3, p4]
  refine ord_pure (some 23) (.int .u8 ((dd % 3))) rfl rfl rfl (fun w' hS => (RunV.int (x := Int.tmod (dd) 3) (y := dd % 3) (rvk (by kernel_rfl)) (by rw [Int.tmod_eq_emod_of_nonneg (by omega)]))) ?_
  simp only [p1, p2, p3, p4]
  refine ord_pure (some 24) (.int .i64 ((dd % 3))) rfl rfl rfl (fun w' hS => (RunV.int (x := IntKind.i64.wrap ((dd % 3))) (y := (dd % 3)) (rvk (by kernel_rfl)) (by first | rfl | (rw [IntKind.wrap_i64]; omega)))) ?_
  simp only [p1, p2, p3, p4]
  refine ord_pure (some 25) (.int .i64 ((1 + (dd % 3)))) rfl rfl rfl (fun w' hS => (RunV.int (x := IntKind.i64.wrap ((1 + (dd % 3)))) (y := (1 + (dd % 3))) (rvk (by kernel_rfl)) (by first | rfl | (rw [IntKind.wrap_i64]; omega)))) ?_
  simp only [p1, p2, p3, p4]
  refine ord_eff rfl rfl (fun K66 k66 => ?_)
  refine eff_call (some 20) rfl (by kernel_rfl) (from_r (n2) (by omega) (by omega) _) ?_
  rintro e67 w67 ⟨⟨p67, q67, r67, s67, rfl, h67⟩, g67⟩
  refine ⟨_, rfl, ?_⟩
  replace hB := Gr.trans hB g67
  replace L3 := L3.gr g67
  refine k66 _ _ L3 ?_
  try clear k66 K66
  simp only [p1, p2, p3, p4]
  refine ord_eff rfl rfl (fun K68 k68 => ?_)
  refine eff_call (some 26) rfl (by kernel_rfl) (from_r ((1 + (dd % 3))) (by omega) (by omega) _) ?_
  rintro e69 w69 ⟨⟨p69, q69, r69, s69, rfl, h69⟩, g69⟩
  refine ⟨_, rfl, ?_⟩
  replace hB := Gr.trans hB g69
  replace L3 := L3.gr g69
  refine k68 _ _ L3 ?_
  try clear k68 K68
  simp only [p1, p2, p3, p4]
  refine ord_eff rfl rfl (fun K70 k70 => ?_)
  replace h67 := h67.kp g69.kp
  refine eff_call (some 27) rfl (by kernel_rfl) (div_r h67 h69 (by omega) (by rw [Rat.num_intCast]; omega)) ?_
  rintro e71 w71 ⟨⟨p71, q71, r71, s71, rfl, h71⟩, g71⟩
  refine ⟨_, rfl, ?_⟩
  replace hB := Gr.trans hB g71
  replace L3 := L3.gr g71
  refine k70 _ _ L3 ?_
  try clear k70 K70
  simp only [p1, p2, p3, p4]
  refine ord_pure (some 11) (.tuple #[(.agg #[p71, q71, r71, s71]), (.int .i64 0)]) rfl rfl rfl (fun w' hS => (rvk (by kernel_rfl))) ?_
  simp only [p1, p2, p3, p4]
  refine ord_pure (some 28) (.agg #[p71, q71, r71, s71]) rfl rfl rfl (fun w' hS => (rvk (by kernel_rfl))) ?_
  simp only [p1, p2, p3, p4]
  refine ord_pure (some 29) (.int .i64 0) rfl rfl rfl (fun w' hS => (rvk (by kernel_rfl))) ?_
  simp only [p1, p2, p3, p4]
  refine ord_pure (some 30) (.pointer (some ⟨b8, 8, none⟩)) rfl rfl rfl (fun w' hS => (rvk (by kernel_rfl))) ?_
  simp only [p1, p2, p3, p4]
  refine ord_eff rfl rfl (fun K72 k72 => ?_)
  replace L8 := L8.gr (gd65.trans (g67.trans (g69.trans g71)))
  refine eff_store 31 _ _ b8 8 (.agg #[p71, q71, r71, s71]) [p71, q71, r71, s71] _ #[p29, q29, r29, s29, p50, q50, r50, s50, p71, q71, r71, s71] _ rfl rfl rfl rfl rfl L8 (by kernel_rfl) (Nat.le_of_ble_eq_true rfl) ⟨h71.one0, h71.one1, h71.one2, h71.one3, trivial⟩ (by kernel_rfl) (fun w73 st73 N73 => ?_)
  have kp73 := st73.kp L8 (by decide)
  replace hB := st73.gr hB q8
  replace L8 := N73
  replace L3 := st73.lc L3 ne3_8
  refine k72 _ _ L3 ?_
  try clear k72 K72
  refine ord_nil ?_
  refine k55 _ _ ?_
  try clear k55 K55
  refine wp_region ?_
  simp only [List.size_toArray, List.length_cons, List.length_nil, Nat.reduceAdd, List.range, List.range.loop]
  refine sq_val (some 9) (.int .i64 2) rfl rfl (by kernel_rfl) (rvk (by kernel_rfl)) ?_
  simp only [p1, p2, p3, p4]
  refine sq_val (some 10) (.int .i64 3) rfl rfl (by kernel_rfl) (rvk (by kernel_rfl)) ?_
  simp only [p1, p2, p3, p4]
  refine sq_val (some 6) (.int .i64 3) rfl rfl (by kernel_rfl) (rvk (by kernel_rfl)) ?_
  simp only [p1, p2, p3, p4]
  refine sq_nil ?_
  show Code.rounds _ _ _ _ _ _
  show Code.wp _ _ _ _ _
  refine wp_seq_k (fun K74 k74 => ?_)
  refine wp_seq_k (fun K75 k75 => ?_)
  refine wp_region ?_
  simp only [List.size_toArray, List.length_cons, List.length_nil, Nat.reduceAdd, List.range, List.range.loop]
  refine sq_val (some 7) (.int .i64 3) rfl rfl (by kernel_rfl) (rvk (by kernel_rfl)) ?_
  simp only [p1, p2, p3, p4]
  refine sq_val (some 8) (.bool false) rfl rfl (by kernel_rfl) (rvk (by kernel_rfl)) ?_
  simp only [p1, p2, p3, p4]
  refine sq_nil ?_
  refine k75 _ _ ?_
  try clear k75 K75
  refine wp_cond_false rfl ?_
  refine wp_exit ?_
  simp only [Exit.then, Exit.inBlock, ↓reduceIte]
  refine k9 _ _ ?_
  try clear k9 K9
  refine wp_seq_k (fun K76 k76 => ?_)
  refine wp_region ?_
  simp only [List.size_toArray, List.length_cons, List.length_nil, Nat.reduceAdd, List.range, List.range.loop]
  refine sq_val (some 31) (.agg #[p29, q29, r29, s29, p50, q50, r50, s50, p71, q71, r71, s71]) rfl rfl (by kernel_rfl) (rv_load 33 _ b8 0 _ _ [p29, q29, r29, s29, p50, q50, r50, s50, p71, q71, r71, s71] rfl rfl L8 rfl (by kernel_rfl)) ?_
  simp only [p1, p2, p3, p4]
  refine sq_eff rfl (by kernel_rfl) (fun K77 k77 => ?_)
  replace L5 := st73.lc ((st52.lc ((st31.lc (L5.gr (g8.trans (gd23.trans (g25.trans (g27.trans g29))))) ne5_8).gr (gd44.trans (g46.trans (g48.trans g50)))) ne5_8).gr (gd65.trans (g67.trans (g69.trans g71)))) ne5_8
  refine eff_store 33 _ _ b5 0 (.agg #[p29, q29, r29, s29, p50, q50, r50, s50, p71, q71, r71, s71]) [p29, q29, r29, s29, p50, q50, r50, s50, p71, q71, r71, s71] _ #[p29, q29, r29, s29, p50, q50, r50, s50, p71, q71, r71, s71] _ rfl rfl rfl rfl rfl L5 (by kernel_rfl) (Nat.le_of_ble_eq_true rfl) ⟨h29.one0, h29.one1, h29.one2, h29.one3, h50.one0, h50.one1, h50.one2, h50.one3, h71.one0, h71.one1, h71.one2, h71.one3, trivial⟩ (by kernel_rfl) (fun w78 st78 N78 => ?_)
  have kp78 := st78.kp L5 (by decide)
  replace hB := st78.gr hB q5
  replace L5 := N78
  refine k77 _ _ ?_
  try clear k77 K77
  refine sq_nil ?_
  refine k76 _ _ ?_
  try clear k76 K76
  refine wp_ret ?_
  refine bodyPost_ret (v := (.agg #[p29, q29, r29, s29, p50, q50, r50, s50, p71, q71, r71, s71])) (ret_cell _ _ _ rfl rfl L5 (by kernel_rfl)) rfl ⟨?_, hB⟩
  have kq79 := kp31.trans (gd44.kp.trans (g46.kp.trans (g48.kp.trans (g50.kp.trans (kp52.trans (gd65.kp.trans (g67.kp.trans (g69.kp.trans (g71.kp.trans (kp73.trans kp78))))))))))
  replace h29 := h29.kp kq79
  have kq80 := kp52.trans (gd65.kp.trans (g67.kp.trans (g69.kp.trans (g71.kp.trans (kp73.trans kp78)))))
  replace h50 := h50.kp kq80
  have kq81 := kp73.trans kp78
  replace h71 := h71.kp kq81
  exact ⟨_, _, _, _, _, _, _, _, _, _, _, _, rfl, h29, h50, h71⟩

set_option maxRecDepth 100000 in
set_option maxHeartbeats 4000000 in
theorem vec_3 (n0 n1 n2 n3 n4 n5 dd : Int) (_i0 : -128 ≤ n0 ∧ n0 ≤ 127) (_i1 : -128 ≤ n1 ∧ n1 ≤ 127) (_i2 : -128 ≤ n2 ∧ n2 ≤ 127) (_i3 : -128 ≤ n3 ∧ n3 ≤ 127) (_i4 : -128 ≤ n4 ∧ n4 ≤ 127) (_i5 : -128 ≤ n5 ∧ n5 ≤ 127) (_id : 0 ≤ dd ∧ dd ≤ 255) (w : World) :
    Calls Tryd.prog 26 #[(.agg #[(.int .i8 (n0)), (.int .i8 (n1)), (.int .i8 (n2)), (.int .i8 (n3)), (.int .i8 (n4)), (.int .i8 (n5)), (.int .u8 (dd))]), (.int .i64 3)] w fun e w' => (∃ t0 t1 t2 t3 t4 t5 t6 t7 t8 t9 t10 t11, e = .returned (.agg #[t0, t1, t2, t3, t4, t5, t6, t7, t8, t9, t10, t11]) ∧ IsRat w' (64 + 64) t0 t1 t2 t3 (((n3 : Int) : Rat) / ((1 + dd % 3 : Int) : Rat)) ∧ IsRat w' (64 + 64) t4 t5 t6 t7 (((n4 : Int) : Rat) / ((1 + dd % 3 : Int) : Rat)) ∧ IsRat w' (64 + 64) t8 t9 t10 t11 (((n5 : Int) : Rat) / ((1 + dd % 3 : Int) : Rat))) ∧ Gr w w' := by
  go_enter Tryd.func26, Tryd.ntmps26
  have hB := Gr.refl w
  refine wp_seq_k (fun K1 k1 => ?_)
  refine wp_region ?_
  simp only [List.size_toArray, List.length_cons, List.length_nil, Nat.reduceAdd, List.range, List.range.loop]
  refine sq_eff rfl (by kernel_rfl) (fun K2 k2 => ?_)
  refine eff_box 25 _ (.agg #[(.int .i8 (n0)), (.int .i8 (n1)), (.int .i8 (n2)), (.int .i8 (n3)), (.int .i8 (n4)), (.int .i8 (n5)), (.int .u8 (dd))]) #[(.int .i8 (n0)), (.int .i8 (n1)), (.int .i8 (n2)), (.int .i8 (n3)), (.int .i8 (n4)), (.int .i8 (n5)), (.int .u8 (dd))] (some 2) rfl rfl rfl rfl (fun b3 w3 g3 L3 q3 => ?_)
  replace q3 := Nat.le_trans (Below.size hB) q3
  replace hB := Gr.trans hB g3
  refine k2 _ _ ?_
  try clear k2 K2
  simp only [p1, p2, p3, p4]
  refine sq_eff rfl (by kernel_rfl) (fun K4 k4 => ?_)
  refine eff_alloc 33 (.agg #[(.bool false), (.slice none 0 0), (.bool false), (.slice none 0 0), (.bool false), (.slice none 0 0), (.bool false), (.slice none 0 0), (.bool false), (.slice none 0 0), (.bool false), (.slice none 0 0)]) #[(.bool false), (.slice none 0 0), (.bool false), (.slice none 0 0), (.bool false), (.slice none 0 0), (.bool false), (.slice none 0 0), (.bool false), (.slice none 0 0), (.bool false), (.slice none 0 0)] (some 4) rfl rfl (by kernel_rfl) rfl (fun b5 w5 g5 L5 q5 => ?_)
  have ne3_5 := L3.ne q5
  replace q5 := Nat.le_trans (Below.size hB) q5
  replace hB := Gr.trans hB g5
  refine k4 _ _ ?_
  try clear k4 K4
  simp only [p1, p2, p3, p4]
  refine sq_nil ?_
  refine k1 _ _ ?_
  try clear k1 K1
  refine wp_seq_k (fun K6 k6 => ?_)
  refine wp_region ?_
  simp only [List.size_toArray, List.length_cons, List.length_nil, Nat.reduceAdd, List.range, List.range.loop]
  refine sq_eff rfl (by kernel_rfl) (fun K7 k7 => ?_)
  refine eff_alloc 33 (.agg #[(.bool false), (.slice none 0 0), (.bool false), (.slice none 0 0), (.bool false), (.slice none 0 0), (.bool false), (.slice none 0 0), (.bool false), (.slice none 0 0), (.bool false), (.slice none 0 0)]) #[(.bool false), (.slice none 0 0), (.bool false), (.slice none 0 0), (.bool false), (.slice none 0 0), (.bool false), (.slice none 0 0), (.bool false), (.slice none 0 0), (.bool false), (.slice none 0 0)] (some 5) rfl rfl (by kernel_rfl) rfl (fun b8 w8 g8 L8 q8 => ?_)
  replace L3 := L3.gr g5
  have ne3_8 := L3.ne q8
  have ne5_8 := L5.ne q8
  replace q8 := Nat.le_trans (Below.size hB) q8
  replace hB := Gr.trans hB g8
  refine k7 _ _ ?_
  try clear k7 K7
  simp only [p1, p2, p3, p4]
  refine sq_nil ?_
  refine k6 _ _ ?_
  try clear k6 K6
  refine wp_seq_k (fun K9 k9 => ?_)
  refine wp_seq_k (fun K10 k10 => ?_)
  refine wp_region ?_
  simp only [List.size_toArray, List.length_cons, List.length_nil, Nat.reduceAdd, List.range, List.range.loop]
  refine sq_val (some 6) (.int .i64 0) rfl rfl (by kernel_rfl) (rvk (by kernel_rfl)) ?_
  simp only [p1, p2, p3, p4]
  refine sq_nil ?_
  refine k10 _ _ ?_
  try clear k10 K10
  refine wp_block ?_
  refine wp_loop_rounds 4 ?_
  show Code.wp _ _ _ _ _
  refine wp_seq_k (fun K11 k11 => ?_)
  refine wp_seq_k (fun K12 k12 => ?_)
  refine wp_region ?_
  simp only [List.size_toArray, List.length_cons, List.length_nil, Nat.reduceAdd, List.range, List.range.loop]
  refine sq_val (some 7) (.int .i64 0) rfl rfl (by kernel_rfl) (rvk (by kernel_rfl)) ?_
  simp only [p1, p2, p3, p4]
  refine sq_val (some 8) (.bool true) rfl rfl (by kernel_rfl) (rvk (by kernel_rfl)) ?_
  simp only [p1, p2, p3, p4]
  refine sq_nil ?_
  refine k12 _ _ ?_
  try clear k12 K12
  refine wp_cond_true rfl ?_
  refine wp_skip ?_
  refine k11 _ _ ?_
  try clear k11 K11
  refine wp_seq_k (fun K13 k13 => ?_)
  refine wp_block ?_
  have gd23 := Gr.drew w8
  replace hB := Gr.trans hB gd23
  replace L3 := L3.gr (g8.trans gd23)
  refine wp_region_ord (fun w' => Lc w' b3 #[(.int .i8 (n0)), (.int .i8 (n1)), (.int .i8 (n2)), (.int .i8 (n3)), (.int .i8 (n4)), (.int .i8 (n5)), (.int .u8 (dd))] 25) [(true, 0), (true, 1), (true, 2), (true, 3), (true, 4), (true, 5), (true, 6), (true, 7), (true, 9), (true, 10), (true, 11), (true, 12), (true, 13), (false, 8), (false, 14), (false, 15), (true, 16), (true, 17), (true, 18), (true, 19), (false, 20)] (by kernel_rfl) (by kernel_rfl) (by kernel_rfl) (by decide) (fun _ _ _ _ _ h => h) L3 ?_
  refine ord_pure (some 12) (.int .i64 0) rfl rfl rfl (fun w' hS => (rvk (by kernel_rfl))) ?_
  simp only [p1, p2, p3, p4]
  refine ord_pure (some 13) (.int .i64 3) rfl rfl rfl (fun w' hS => (rvk (by kernel_rfl))) ?_
  simp only [p1, p2, p3, p4]
  refine ord_pure (some 14) (.int .i64 0) rfl rfl rfl (fun w' hS => (rvk (by kernel_rfl))) ?_
  simp only [p1, p2, p3, p4]
  refine ord_pure (some 15) (.int .i64 3) rfl rfl rfl (fun w' hS => (rvk (by kernel_rfl))) ?_
  simp only [p1, p2, p3, p4]
  refine ord_pure (some 16) (.pointer (some ⟨b3, 0, none⟩)) rfl rfl rfl (fun w' hS => (rvk (by kernel_rfl))) ?_
  simp only [p1, p2, p3, p4]
  refine ord_pure (some 17) (.pointer (some ⟨b3, 3, none⟩)) rfl rfl rfl (fun w' hS => (rvk (by kernel_rfl))) ?_
  simp only [p1, p2, p3, p4]
  refine ord_pure (some 18) (.int .i8 (n3)) rfl rfl rfl (fun w' hS => (rv_load1 22 _ b3 3 _ _ (.int .i8 (n3)) rfl rfl hS rfl (by kernel_rfl))) ?_
  simp only [p1, p2, p3, p4]
  refine ord_pure (some 19) (.int .i64 (n3)) rfl rfl rfl (fun w' hS => (RunV.int (x := IntKind.i64.wrap (n3)) (y := n3) (rvk (by kernel_rfl)) (by first | rfl | (rw [IntKind.wrap_i64]; omega)))) ?_
  simp only [p1, p2, p3, p4]
  refine ord_pure (some 21) (.pointer (some ⟨b3, 6, none⟩)) rfl rfl rfl (fun w' hS => (rvk (by kernel_rfl))) ?_
  simp only [p1, p2, p3, p4]
  refine ord_pure (some 22) (.int .u8 (dd)) rfl rfl rfl (fun w' hS => (rv_load1 5 _ b3 6 _ _ (.int .u8 (dd)) rfl rfl hS rfl (by kernel_rfl))) ?_
  simp only [p1, p2, p3, p4]
  refine ord_pure (some 23) (.int .u8 ((dd % 3))) rfl rfl rfl (fun w' hS => (RunV.int (x := Int.tmod (dd) 3) (y := dd % 3) (rvk (by kernel_rfl)) (by rw [Int.tmod_eq_emod_of_nonneg (by omega)]))) ?_
  simp only [p1, p2, p3, p4]
  refine ord_pure (some 24) (.int .i64 ((dd % 3))) rfl rfl rfl (fun w' hS => (RunV.int (x := IntKind.i64.wrap ((dd % 3))) (y := (dd % 3)) (rvk (by kernel_rfl)) (by first | rfl | (rw [IntKind.wrap_i64]; omega)))) ?_
  simp only [p1, p2, p3, p4]
  refine ord_pure (some 25) (.int .i64 ((1 + (dd % 3)))) rfl rfl rfl (fun w' hS => (RunV.int (x := IntKind.i64.wrap ((1 + (dd % 3)))) (y := (1 + (dd % 3))) (rvk (by kernel_rfl)) (by first | rfl | (rw [IntKind.wrap_i64]; omega)))) ?_
  simp only [p1, p2, p3, p4]
  refine ord_eff rfl rfl (fun K24 k24 => ?_)
  refine eff_call (some 20) rfl (by kernel_rfl) (from_r (n3) (by omega) (by omega) _) ?_
  rintro e25 w25 ⟨⟨p25, q25, r25, s25, rfl, h25⟩, g25⟩
  refine ⟨_, rfl, ?_⟩
  replace hB := Gr.trans hB g25
  replace L3 := L3.gr g25
  refine k24 _ _ L3 ?_
  try clear k24 K24
  simp only [p1, p2, p3, p4]
  refine ord_eff rfl rfl (fun K26 k26 => ?_)
  refine eff_call (some 26) rfl (by kernel_rfl) (from_r ((1 + (dd % 3))) (by omega) (by omega) _) ?_
  rintro e27 w27 ⟨⟨p27, q27, r27, s27, rfl, h27⟩, g27⟩
  refine ⟨_, rfl, ?_⟩
  replace hB := Gr.trans hB g27
  replace L3 := L3.gr g27
  refine k26 _ _ L3 ?_
  try clear k26 K26
  simp only [p1, p2, p3, p4]
  refine ord_eff rfl rfl (fun K28 k28 => ?_)
  replace h25 := h25.kp g27.kp
  refine eff_call (some 27) rfl (by kernel_rfl) (div_r h25 h27 (by omega) (by rw [Rat.num_intCast]; omega)) ?_
  rintro e29 w29 ⟨⟨p29, q29, r29, s29, rfl, h29⟩, g29⟩
  refine ⟨_, rfl, ?_⟩
  replace hB := Gr.trans hB g29
  replace L3 := L3.gr g29
  refine k28 _ _ L3 ?_
  try clear k28 K28
  simp only [p1, p2, p3, p4]
  refine ord_pure (some 11) (.tuple #[(.agg #[p29, q29, r29, s29]), (.int .i64 0)]) rfl rfl rfl (fun w' hS => (rvk (by kernel_rfl))) ?_
  simp only [p1, p2, p3, p4]
  refine ord_pure (some 28) (.agg #[p29, q29, r29, s29]) rfl rfl rfl (fun w' hS => (rvk (by kernel_rfl))) ?_
  simp only [p1, p2, p3, p4]
  refine ord_pure (some 29) (.int .i64 0) rfl rfl rfl (fun w' hS => (rvk (by kernel_rfl))) ?_
  simp only [p1, p2, p3, p4]
  refine ord_pure (some 30) (.pointer (some ⟨b8, 0, none⟩)) rfl rfl rfl (fun w' hS => (rvk (by kernel_rfl))) ?_
  simp only [p1, p2, p3, p4]
  refine ord_eff rfl rfl (fun K30 k30 => ?_)
  replace L8 := L8.gr (gd23.trans (g25.trans (g27.trans g29)))
  refine eff_store 31 _ _ b8 0 (.agg #[p29, q29, r29, s29]) [p29, q29, r29, s29] _ #[p29, q29, r29, s29, (.bool false), (.slice none 0 0), (.bool false), (.slice none 0 0), (.bool false), (.slice none 0 0), (.bool false), (.slice none 0 0)] _ rfl rfl rfl rfl rfl L8 (by kernel_rfl) (Nat.le_of_ble_eq_true rfl) ⟨h29.one0, h29.one1, h29.one2, h29.one3, trivial⟩ (by kernel_rfl) (fun w31 st31 N31 => ?_)
  have kp31 := st31.kp L8 (by decide)
  replace hB := st31.gr hB q8
  replace L8 := N31
  replace L3 := st31.lc L3 ne3_8
  refine k30 _ _ L3 ?_
  try clear k30 K30
  refine ord_nil ?_
  refine k13 _ _ ?_
  try clear k13 K13
  refine wp_region ?_
  simp only [List.size_toArray, List.length_cons, List.length_nil, Nat.reduceAdd, List.range, List.range.loop]
  refine sq_val (some 9) (.int .i64 0) rfl rfl (by kernel_rfl) (rvk (by kernel_rfl)) ?_
  simp only [p1, p2, p3, p4]
  refine sq_val (some 10) (.int .i64 1) rfl rfl (by kernel_rfl) (rvk (by kernel_rfl)) ?_
  simp only [p1, p2, p3, p4]
  refine sq_val (some 6) (.int .i64 1) rfl rfl (by kernel_rfl) (rvk (by kernel_rfl)) ?_
  simp only [p1, p2, p3, p4]
  refine sq_nil ?_
  show Code.rounds _ _ _ _ _ _
  show Code.wp _ _ _ _ _
  refine wp_seq_k (fun K32 k32 => ?_)
  refine wp_seq_k (fun K33 k33 => ?_)
  refine wp_region ?_
  simp only [List.size_toArray, List.length_cons, List.length_nil, Nat.reduceAdd, List.range, List.range.loop]
  refine sq_val (some 7) (.int .i64 1) rfl rfl (by kernel_rfl) (rvk (by kernel_rfl)) ?_
  simp only [p1, p2, p3, p4]
  refine sq_val (some 8) (.bool true) rfl rfl (by kernel_rfl) (rvk (by kernel_rfl)) ?_
  simp only [p1, p2, p3, p4]
  refine sq_nil ?_
  refine k33 _ _ ?_
  try clear k33 K33
  refine wp_cond_true rfl ?_
  refine wp_skip ?_
  refine k32 _ _ ?_
  try clear k32 K32
  refine wp_seq_k (fun K34 k34 => ?_)
  refine wp_block ?_
  have gd44 := Gr.drew w31
  replace hB := Gr.trans hB gd44
  replace L3 := L3.gr gd44
  refine wp_region_ord (fun w' => Lc w' b3 #[(.int .i8 (n0)), (.int .i8 (n1)), (.int .i8 (n2)), (.int .i8 (n3)), (.int .i8 (n4)), (.int .i8 (n5)), (.int .u8 (dd))] 25) [(true, 0), (true, 1), (true, 2), (true, 3), (true, 4), (true, 5), (true, 6), (true, 7), (true, 9), (true, 10), (true, 11), (true, 12), (true, 13), (false, 8), (false, 14), (false, 15), (true, 16), (true, 17), (true, 18), (true, 19), (false, 20)] (by kernel_rfl) (by kernel_rfl) (by kernel_rfl) (by decide) (fun _ _ _ _ _ h => h) L3 ?_
  refine ord_pure (some 12) (.int .i64 1) rfl rfl rfl (fun w' hS => (rvk (by kernel_rfl))) ?_
  simp only [p1, p2, p3, p4]
  refine ord_pure (some 13) (.int .i64 3) rfl rfl rfl (fun w' hS => (rvk (by kernel_rfl))) ?_
  simp only [p1, p2, p3, p4]
  refine ord_pure (some 14) (.int .i64 1) rfl rfl rfl (fun w' hS => (rvk (by kernel_rfl))) ?_
  simp only [p1, p2, p3, p4]
  refine ord_pure (some 15) (.int .i64 4) rfl rfl rfl (fun w' hS => (rvk (by kernel_rfl))) ?_
  simp only [p1, p2, p3, p4]
  refine ord_pure (some 16) (.pointer (some ⟨b3, 0, none⟩)) rfl rfl rfl (fun w' hS => (rvk (by kernel_rfl))) ?_
  simp only [p1, p2, p3, p4]
  refine ord_pure (some 17) (.pointer (some ⟨b3, 4, none⟩)) rfl rfl rfl (fun w' hS => (rvk (by kernel_rfl))) ?_
  simp only [p1, p2, p3, p4]
  refine ord_pure (some 18) (.int .i8 (n4)) rfl rfl rfl (fun w' hS => (rv_load1 22 _ b3 4 _ _ (.int .i8 (n4)) rfl rfl hS rfl (by kernel_rfl))) ?_
  simp only [p1, p2, p3, p4]
  refine ord_pure (some 19) (.int .i64 (n4)) rfl rfl rfl (fun w' hS => (RunV.int (x := IntKind.i64.wrap (n4)) (y := n4) (rvk (by kernel_rfl)) (by first | rfl | (rw [IntKind.wrap_i64]; omega)))) ?_
  simp only [p1, p2, p3, p4]
  refine ord_pure (some 21) (.pointer (some ⟨b3, 6, none⟩)) rfl rfl rfl (fun w' hS => (rvk (by kernel_rfl))) ?_
  simp only [p1, p2, p3, p4]
  refine ord_pure (some 22) (.int .u8 (dd)) rfl rfl rfl (fun w' hS => (rv_load1 5 _ b3 6 _ _ (.int .u8 (dd)) rfl rfl hS rfl (by kernel_rfl))) ?_
  simp only [p1, p2, p3, p4]
  refine ord_pure (some 23) (.int .u8 ((dd % 3))) rfl rfl rfl (fun w' hS => (RunV.int (x := Int.tmod (dd) 3) (y := dd % 3) (rvk (by kernel_rfl)) (by rw [Int.tmod_eq_emod_of_nonneg (by omega)]))) ?_
  simp only [p1, p2, p3, p4]
  refine ord_pure (some 24) (.int .i64 ((dd % 3))) rfl rfl rfl (fun w' hS => (RunV.int (x := IntKind.i64.wrap ((dd % 3))) (y := (dd % 3)) (rvk (by kernel_rfl)) (by first | rfl | (rw [IntKind.wrap_i64]; omega)))) ?_
  simp only [p1, p2, p3, p4]
  refine ord_pure (some 25) (.int .i64 ((1 + (dd % 3)))) rfl rfl rfl (fun w' hS => (RunV.int (x := IntKind.i64.wrap ((1 + (dd % 3)))) (y := (1 + (dd % 3))) (rvk (by kernel_rfl)) (by first | rfl | (rw [IntKind.wrap_i64]; omega)))) ?_
  simp only [p1, p2, p3, p4]
  refine ord_eff rfl rfl (fun K45 k45 => ?_)
  refine eff_call (some 20) rfl (by kernel_rfl) (from_r (n4) (by omega) (by omega) _) ?_
  rintro e46 w46 ⟨⟨p46, q46, r46, s46, rfl, h46⟩, g46⟩
  refine ⟨_, rfl, ?_⟩
  replace hB := Gr.trans hB g46
  replace L3 := L3.gr g46
  refine k45 _ _ L3 ?_
  try clear k45 K45
  simp only [p1, p2, p3, p4]
  refine ord_eff rfl rfl (fun K47 k47 => ?_)
  refine eff_call (some 26) rfl (by kernel_rfl) (from_r ((1 + (dd % 3))) (by omega) (by omega) _) ?_
  rintro e48 w48 ⟨⟨p48, q48, r48, s48, rfl, h48⟩, g48⟩
  refine ⟨_, rfl, ?_⟩
  replace hB := Gr.trans hB g48
  replace L3 := L3.gr g48
  refine k47 _ _ L3 ?_
  try clear k47 K47
  simp only [p1, p2, p3, p4]
  refine ord_eff rfl rfl (fun K49 k49 => ?_)
  replace h46 := h46.kp g48.kp
  refine eff_call (some 27) rfl (by kernel_rfl) (div_r h46 h48 (by omega) (by rw [Rat.num_intCast]; omega)) ?_
  rintro e50 w50 ⟨⟨p50, q50, r50, s50, rfl, h50⟩, g50⟩
  refine ⟨_, rfl, ?_⟩
  replace hB := Gr.trans hB g50
  replace L3 := L3.gr g50
  refine k49 _ _ L3 ?_
  try clear k49 K49
  simp only [p1, p2, p3, p4]
  refine ord_pure (some 11) (.tuple #[(.agg #[p50, q50, r50, s50]), (.int .i64 0)]) rfl rfl rfl (fun w' hS => (rvk (by kernel_rfl))) ?_
  simp only [p1, p2, p3, p4]
  refine ord_pure (some 28) (.agg #[p50, q50, r50, s50]) rfl rfl rfl (fun w' hS => (rvk (by kernel_rfl))) ?_
  simp only [p1, p2, p3, p4]
  refine ord_pure (some 29) (.int .i64 0) rfl rfl rfl (fun w' hS => (rvk (by kernel_rfl))) ?_
  simp only [p1, p2, p3, p4]
  refine ord_pure (some 30) (.pointer (some ⟨b8, 4, none⟩)) rfl rfl rfl (fun w' hS => (rvk (by kernel_rfl))) ?_
  simp only [p1, p2, p3, p4]
  refine ord_eff rfl rfl (fun K51 k51 => ?_)
  replace L8 := L8.gr (gd44.trans (g46.trans (g48.trans g50)))
  refine eff_store 31 _ _ b8 4 (.agg #[p50, q50, r50, s50]) [p50, q50, r50, s50] _ #[p29, q29, r29, s29, p50, q50, r50, s50, (.bool false), (.slice none 0 0), (.bool false), (.slice none 0 0)] _ rfl rfl rfl rfl rfl L8 (by kernel_rfl) (Nat.le_of_ble_eq_true rfl) ⟨h50.one0, h50.one1, h50.one2, h50.one3, trivial⟩ (by kernel_rfl) (fun w52 st52 N52 => ?_)
  have kp52 := st52.kp L8 (by decide)
  replace hB := st52.gr hB q8
  replace L8 := N52
  replace L3 := st52.lc L3 ne3_8
  refine k51 _ _ L3 ?_
  try clear k51 K51
  refine ord_nil ?_
  refine k34 _ _ ?_
  try clear k34 K34
  refine wp_region ?_
  simp only [List.size_toArray, List.length_cons, List.length_nil, Nat.reduceAdd, List.range, List.range.loop]
  refine sq_val (some 9) (.int .i64 1) rfl rfl (by kernel_rfl) (rvk (by kernel_rfl)) ?_
  simp only [p1, p2, p3, p4]
  refine sq_val (some 10) (.int .i64 2) rfl rfl (by kernel_rfl) (rvk (by kernel_rfl)) ?_
  simp only [p1, p2, p3, p4]
  refine sq_val (some 6) (.int .i64 2) rfl rfl (by kernel_rfl) (rvk (by kernel_rfl)) ?_
  simp only [p1, p2, p3, p4]
  refine sq_nil ?_
  show Code.rounds _ _ _ _ _ _
  show Code.wp _ _ _ _ _
  refine wp_seq_k (fun K53 k53 => ?_)
  refine wp_seq_k (fun K54 k54 => ?_)
  refine wp_region ?_
  simp only [List.size_toArray, List.length_cons, List.length_nil, Nat.reduceAdd, List.range, List.range.loop]
  refine sq_val (some 7) (.int .i64 2) rfl rfl (by kernel_rfl) (rvk (by kernel_rfl)) ?_
  simp only [p1, p2, p3, p4]
  refine sq_val (some 8) (.bool true) rfl rfl (by kernel_rfl) (rvk (by kernel_rfl)) ?_
  simp only [p1, p2, p3, p4]
  refine sq_nil ?_
  refine k54 _ _ ?_
  try clear k54 K54
  refine wp_cond_true rfl ?_
  refine wp_skip ?_
  refine k53 _ _ ?_
  try clear k53 K53
  refine wp_seq_k (fun K55 k55 => ?_)
  refine wp_block ?_
  have gd65 := Gr.drew w52
  replace hB := Gr.trans hB gd65
  replace L3 := L3.gr gd65
  refine wp_region_ord (fun w' => Lc w' b3 #[(.int .i8 (n0)), (.int .i8 (n1)), (.int .i8 (n2)), (.int .i8 (n3)), (.int .i8 (n4)), (.int .i8 (n5)), (.int .u8 (dd))] 25) [(true, 0), (true, 1), (true, 2), (true, 3), (true, 4), (true, 5), (true, 6), (true, 7), (true, 9), (true, 10), (true, 11), (true, 12), (true, 13), (false, 8), (false, 14), (false, 15), (true, 16), (true, 17), (true, 18), (true, 19), (false, 20)] (by kernel_rfl) (by kernel_rfl) (by kernel_rfl) (by decide) (fun _ _ _ _ _ h => h) L3 ?_
  refine ord_pure (some 12) (.int .i64 2) rfl rfl rfl (fun w' hS => (rvk (by kernel_rfl))) ?_
  simp only [p1, p2, p3, p4]
  refine ord_pure (some 13) (.int .i64 3) rfl rfl rfl (fun w' hS => (rvk (by kernel_rfl))) ?_
  simp only [p1, p2, p3, p4]
  refine ord_pure (some 14) (.int .i64 2) rfl rfl rfl (fun w' hS => (rvk (by kernel_rfl))) ?_
  simp only [p1, p2, p3, p4]
  refine ord_pure (some 15) (.int .i64 5) rfl rfl rfl (fun w' hS => (rvk (by kernel_rfl))) ?_
  simp only [p1, p2, p3, p4]
  refine ord_pure (some 16) (.pointer (some ⟨b3, 0, none⟩)) rfl rfl rfl (fun w' hS => (rvk (by kernel_rfl))) ?_
  simp only [p1, p2, p3, p4]
  refine ord_pure (some 17) (.pointer (some ⟨b3, 5, none⟩)) rfl rfl rfl (fun w' hS => (rvk (by kernel_rfl))) ?_
  simp only [p1, p2, p3, p4]
  refine ord_pure (some 18) (.int .i8 (n5)) rfl rfl rfl (fun w' hS => (rv_load1 22 _ b3 5 _ _ (.int .i8 (n5)) rfl rfl hS rfl (by kernel_rfl))) ?_
  simp only [p1, p2, p3, p4]
  refine ord_pure (some 19) (.int .i64 (n5)) rfl rfl rfl (fun w' hS => (RunV.int (x := IntKind.i64.wrap (n5)) (y := n5) (rvk (by kernel_rfl)) (by first | rfl | (rw [IntKind.wrap_i64]; omega)))) ?_
  simp only [p1, p2, p3, p4]
  refine ord_pure (some 21) (.pointer (some ⟨b3, 6, none⟩)) rfl rfl rfl (fun w' hS => (rvk (by kernel_rfl))) ?_
  simp only [p1, p2, p3, p4]
  refine ord_pure (some 22) (.int .u8 (dd)) rfl rfl rfl (fun w' hS => (rv_load1 5 _ b3 6 _ _ (.int .u8 (dd)) rfl rfl hS rfl (by kernel_rfl))) ?_
  simp only [p1, p2, p3, p4]
  refine ord_pure (some 23) (.int .u8 ((dd % 3))) rfl rfl rfl (fun w' hS => (RunV.int (x := Int.tmod (dd) 3) (y := dd % 3) (rvk (by kernel_rfl)) (by rw [Int.tmod_eq_emod_of_nonneg (by omega)]))) ?_
  simp only [p1, p2, p3, p4]
  refine ord_pure (some 24) (.int .i64 ((dd % 3))) rfl rfl rfl (fun w' hS => (RunV.int (x := IntKind.i64.wrap ((dd % 3))) (y := (dd % 3)) (rvk (by kernel_rfl)) (by first | rfl | (rw [IntKind.wrap_i64]; omega)))) ?_
  simp only [p1, p2, p3, p4]
  refine ord_pure (some 25) (.int .i64 ((1 + (dd % 3)))) rfl rfl rfl (fun w' hS => (RunV.int (x := IntKind.i64.wrap ((1 + (dd % 3)))) (y := (1 + (dd % 3))) (rvk (by kernel_rfl)) (by first | rfl | (rw [IntKind.wrap_i64]; omega)))) ?_
  simp only [p1, p2, p3, p4]
  refine ord_eff rfl rfl (fun K66 k66 => ?_)
  refine eff_call (some 20) rfl (by kernel_rfl) (from_r (n5) (by omega) (by omega) _) ?_
  rintro e67 w67 ⟨⟨p67, q67, r67, s67, rfl, h67⟩, g67⟩
  refine ⟨_, rfl, ?_⟩
  replace hB := Gr.trans hB g67
  replace L3 := L3.gr g67
  refine k66 _ _ L3 ?_
  try clear k66 K66
  simp only [p1, p2, p3, p4]
  refine ord_eff rfl rfl (fun K68 k68 => ?_)
  refine eff_call (some 26) rfl (by kernel_rfl) (from_r ((1 + (dd % 3))) (by omega) (by omega) _) ?_
  rintro e69 w69 ⟨⟨p69, q69, r69, s69, rfl, h69⟩, g69⟩
  refine ⟨_, rfl, ?_⟩
  replace hB := Gr.trans hB g69
  replace L3 := L3.gr g69
  refine k68 _ _ L3 ?_
  try clear k68 K68
  simp only [p1, p2, p3, p4]
  refine ord_eff rfl rfl (fun K70 k70 => ?_)
  replace h67 := h67.kp g69.kp
  refine eff_call (some 27) rfl (by kernel_rfl) (div_r h67 h69 (by omega) (by rw [Rat.num_intCast]; omega)) ?_
  rintro e71 w71 ⟨⟨p71, q71, r71, s71, rfl, h71⟩, g71⟩
  refine ⟨_, rfl, ?_⟩
  replace hB := Gr.trans hB g71
  replace L3 := L3.gr g71
  refine k70 _ _ L3 ?_
  try clear k70 K70
  simp only [p1, p2, p3, p4]
  refine ord_pure (some 11) (.tuple #[(.agg #[p71, q71, r71, s71]), (.int .i64 0)]) rfl rfl rfl (fun w' hS => (rvk (by kernel_rfl))) ?_
  simp only [p1, p2, p3, p4]
  refine ord_pure (some 28) (.agg #[p71, q71, r71, s71]) rfl rfl rfl (fun w' hS => (rvk (by kernel_rfl))) ?_
  simp only [p1, p2, p3, p4]
  refine ord_pure (some 29) (.int .i64 0) rfl rfl rfl (fun w' hS => (rvk (by kernel_rfl))) ?_
  simp only [p1, p2, p3, p4]
  refine ord_pure (some 30) (.pointer (some ⟨b8, 8, none⟩)) rfl rfl rfl (fun w' hS => (rvk (by kernel_rfl))) ?_
  simp only [p1, p2, p3, p4]
  refine ord_eff rfl rfl (fun K72 k72 => ?_)
  replace L8 := L8.gr (gd65.trans (g67.trans (g69.trans g71)))
  refine eff_store 31 _ _ b8 8 (.agg #[p71, q71, r71, s71]) [p71, q71, r71, s71] _ #[p29, q29, r29, s29, p50, q50, r50, s50, p71, q71, r71, s71] _ rfl rfl rfl rfl rfl L8 (by kernel_rfl) (Nat.le_of_ble_eq_true rfl) ⟨h71.one0, h71.one1, h71.one2, h71.one3, trivial⟩ (by kernel_rfl) (fun w73 st73 N73 => ?_)
  have kp73 := st73.kp L8 (by decide)
  replace hB := st73.gr hB q8
  replace L8 := N73
  replace L3 := st73.lc L3 ne3_8
  refine k72 _ _ L3 ?_
  try clear k72 K72
  refine ord_nil ?_
  refine k55 _ _ ?_
  try clear k55 K55
  refine wp_region ?_
  simp only [List.size_toArray, List.length_cons, List.length_nil, Nat.reduceAdd, List.range, List.range.loop]
  refine sq_val (some 9) (.int .i64 2) rfl rfl (by kernel_rfl) (rvk (by kernel_rfl)) ?_
  simp only [p1, p2, p3, p4]
  refine sq_val (some 10) (.int .i64 3) rfl rfl (by kernel_rfl) (rvk (by kernel_rfl)) ?_
  simp only [p1, p2, p3, p4]
  refine sq_val (some 6) (.int .i64 3) rfl rfl (by kernel_rfl) (rvk (by kernel_rfl)) ?_
  simp only [p1, p2, p3, p4]
  refine sq_nil ?_
  show Code.rounds _ _ _ _ _ _
  show Code.wp _ _ _ _ _
  refine wp_seq_k (fun K74 k74 => ?_)
  refine wp_seq_k (fun K75 k75 => ?_)
  refine wp_region ?_
  simp only [List.size_toArray, List.length_cons, List.length_nil, Nat.reduceAdd, List.range, List.range.loop]
  refine sq_val (some 7) (.int .i64 3) rfl rfl (by kernel_rfl) (rvk (by kernel_rfl)) ?_
  simp only [p1, p2, p3, p4]
  refine sq_val (some 8) (.bool false) rfl rfl (by kernel_rfl) (rvk (by kernel_rfl)) ?_
  simp only [p1, p2, p3, p4]
  refine sq_nil ?_
  refine k75 _ _ ?_
  try clear k75 K75
  refine wp_cond_false rfl ?_
  refine wp_exit ?_
  simp only [Exit.then, Exit.inBlock, ↓reduceIte]
  refine k9 _ _ ?_
  try clear k9 K9
  refine wp_seq_k (fun K76 k76 => ?_)
  refine wp_region ?_
  simp only [List.size_toArray, List.length_cons, List.length_nil, Nat.reduceAdd, List.range, List.range.loop]
  refine sq_val (some 31) (.agg #[p29, q29, r29, s29, p50, q50, r50, s50, p71, q71, r71, s71]) rfl rfl (by kernel_rfl) (rv_load 33 _ b8 0 _ _ [p29, q29, r29, s29, p50, q50, r50, s50, p71, q71, r71, s71] rfl rfl L8 rfl (by kernel_rfl)) ?_
  simp only [p1, p2, p3, p4]
  refine sq_eff rfl (by kernel_rfl) (fun K77 k77 => ?_)
  replace L5 := st73.lc ((st52.lc ((st31.lc (L5.gr (g8.trans (gd23.trans (g25.trans (g27.trans g29))))) ne5_8).gr (gd44.trans (g46.trans (g48.trans g50)))) ne5_8).gr (gd65.trans (g67.trans (g69.trans g71)))) ne5_8
  refine eff_store 33 _ _ b5 0 (.agg #[p29, q29, r29, s29, p50, q50, r50, s50, p71, q71, r71, s71]) [p29, q29, r29, s29, p50, q50, r50, s50, p71, q71, r71, s71] _ #[p29, q29, r29, s29, p50, q50, r50, s50, p71, q71, r71, s71] _ rfl rfl rfl rfl rfl L5 (by kernel_rfl) (Nat.le_of_ble_eq_true rfl) ⟨h29.one0, h29.one1, h29.one2, h29.one3, h50.one0, h50.one1, h50.one2, h50.one3, h71.one0, h71.one1, h71.one2, h71.one3, trivial⟩ (by kernel_rfl) (fun w78 st78 N78 => ?_)
  have kp78 := st78.kp L5 (by decide)
  replace hB := st78.gr hB q5
  replace L5 := N78
  refine k77 _ _ ?_
  try clear k77 K77
  refine sq_nil ?_
  refine k76 _ _ ?_
  try clear k76 K76
  refine wp_ret ?_
  refine bodyPost_ret (v := (.agg #[p29, q29, r29, s29, p50, q50, r50, s50, p71, q71, r71, s71])) (ret_cell _ _ _ rfl rfl L5 (by kernel_rfl)) rfl ⟨?_, hB⟩
  have kq79 := kp31.trans (gd44.kp.trans (g46.kp.trans (g48.kp.trans (g50.kp.trans (kp52.trans (gd65.kp.trans (g67.kp.trans (g69.kp.trans (g71.kp.trans (kp73.trans kp78))))))))))
  replace h29 := h29.kp kq79
  have kq80 := kp52.trans (gd65.kp.trans (g67.kp.trans (g69.kp.trans (g71.kp.trans (kp73.trans kp78)))))
  replace h50 := h50.kp kq80
  have kq81 := kp73.trans kp78
  replace h71 := h71.kp kq81
  exact ⟨_, _, _, _, _, _, _, _, _, _, _, _, rfl, h29, h50, h71⟩

set_option maxRecDepth 100000 in
set_option maxHeartbeats 1000000 in
theorem of_v (n0 n1 n2 n3 n4 n5 dd : Int) (_i0 : -128 ≤ n0 ∧ n0 ≤ 127) (_i1 : -128 ≤ n1 ∧ n1 ≤ 127) (_i2 : -128 ≤ n2 ∧ n2 ≤ 127) (_i3 : -128 ≤ n3 ∧ n3 ≤ 127) (_i4 : -128 ≤ n4 ∧ n4 ≤ 127) (_i5 : -128 ≤ n5 ∧ n5 ≤ 127) (_id : 0 ≤ dd ∧ dd ≤ 255) (w : World) :
    Calls Tryd.prog 10 #[(.agg #[(.int .i8 (n0)), (.int .i8 (n1)), (.int .i8 (n2)), (.int .i8 (n3)), (.int .i8 (n4)), (.int .i8 (n5)), (.int .u8 (dd))])] w fun e w' => (∃ t0 t1 t2 t3 t4 t5 t6 t7 t8 t9 t10 t11 t12 t13 t14 t15 t16 t17 t18 t19 t20 t21 t22 t23, e = .returned (.agg #[t0, t1, t2, t3, t4, t5, t6, t7, t8, t9, t10, t11, t12, t13, t14, t15, t16, t17, t18, t19, t20, t21, t22, t23]) ∧ IsRat w' (64 + 64) t0 t1 t2 t3 (((n0 : Int) : Rat) / ((1 + dd % 3 : Int) : Rat)) ∧ IsRat w' (64 + 64) t4 t5 t6 t7 (((n1 : Int) : Rat) / ((1 + dd % 3 : Int) : Rat)) ∧ IsRat w' (64 + 64) t8 t9 t10 t11 (((n2 : Int) : Rat) / ((1 + dd % 3 : Int) : Rat)) ∧ IsRat w' (64 + 64) t12 t13 t14 t15 (((n3 : Int) : Rat) / ((1 + dd % 3 : Int) : Rat)) ∧ IsRat w' (64 + 64) t16 t17 t18 t19 (((n4 : Int) : Rat) / ((1 + dd % 3 : Int) : Rat)) ∧ IsRat w' (64 + 64) t20 t21 t22 t23 (((n5 : Int) : Rat) / ((1 + dd % 3 : Int) : Rat))) ∧ Gr w w' := by
  go_enter Tryd.func10, Tryd.ntmps10
  have hB := Gr.refl w
  refine wp_seq_k (fun K1 k1 => ?_)
  refine wp_region ?_
  simp only [List.size_toArray, List.length_cons, List.length_nil, Nat.reduceAdd, List.range, List.range.loop]
  refine sq_eff rfl (by kernel_rfl) (fun K2 k2 => ?_)
  refine eff_box 25 _ (.agg #[(.int .i8 (n0)), (.int .i8 (n1)), (.int .i8 (n2)), (.int .i8 (n3)), (.int .i8 (n4)), (.int .i8 (n5)), (.int .u8 (dd))]) #[(.int .i8 (n0)), (.int .i8 (n1)), (.int .i8 (n2)), (.int .i8 (n3)), (.int .i8 (n4)), (.int .i8 (n5)), (.int .u8 (dd))] (some 1) rfl rfl rfl rfl (fun b3 w3 g3 L3 q3 => ?_)
  replace q3 := Nat.le_trans (Below.size hB) q3
  replace hB := Gr.trans hB g3
  refine k2 _ _ ?_
  try clear k2 K2
  simp only [p1, p2, p3, p4]
  refine sq_eff rfl (by kernel_rfl) (fun K4 k4 => ?_)
  refine eff_alloc 35 (.agg #[(.bool false), (.slice none 0 0), (.bool false), (.slice none 0 0), (.bool false), (.slice none 0 0), (.bool false), (.slice none 0 0), (.bool false), (.slice none 0 0), (.bool false), (.slice none 0 0), (.bool false), (.slice none 0 0), (.bool false), (.slice none 0 0), (.bool false), (.slice none 0 0), (.bool false), (.slice none 0 0), (.bool false), (.slice none 0 0), (.bool false), (.slice none 0 0)]) #[(.bool false), (.slice none 0 0), (.bool false), (.slice none 0 0), (.bool false), (.slice none 0 0), (.bool false), (.slice none 0 0), (.bool false), (.slice none 0 0), (.bool false), (.slice none 0 0), (.bool false), (.slice none 0 0), (.bool false), (.slice none 0 0), (.bool false), (.slice none 0 0), (.bool false), (.slice none 0 0), (.bool false), (.slice none 0 0), (.bool false), (.slice none 0 0)] (some 2) rfl rfl (by kernel_rfl) rfl (fun b5 w5 g5 L5 q5 => ?_)
  have ne3_5 := L3.ne q5
  replace q5 := Nat.le_trans (Below.size hB) q5
  replace hB := Gr.trans hB g5
  refine k4 _ _ ?_
  try clear k4 K4
  simp only [p1, p2, p3, p4]
  refine sq_nil ?_
  refine k1 _ _ ?_
  try clear k1 K1
  refine wp_seq_k (fun K6 k6 => ?_)
  have gd14 := Gr.drew w5
  replace hB := Gr.trans hB gd14
  replace L3 := L3.gr (g5.trans gd14)
  refine wp_region_ord (fun w' => Lc w' b3 #[(.int .i8 (n0)), (.int .i8 (n1)), (.int .i8 (n2)), (.int .i8 (n3)), (.int .i8 (n4)), (.int .i8 (n5)), (.int .u8 (dd))] 25) [(true, 0), (true, 2), (false, 1), (false, 3), (true, 4), (false, 5)] (by kernel_rfl) (by kernel_rfl) (by kernel_rfl) (by decide) (fun _ _ _ _ _ h => h) L3 ?_
  refine ord_pure (some 3) (.agg #[(.int .i8 (n0)), (.int .i8 (n1)), (.int .i8 (n2)), (.int .i8 (n3)), (.int .i8 (n4)), (.int .i8 (n5)), (.int .u8 (dd))]) rfl rfl rfl (fun w' hS => (rv_load 25 _ b3 0 _ _ [(.int .i8 (n0)), (.int .i8 (n1)), (.int .i8 (n2)), (.int .i8 (n3)), (.int .i8 (n4)), (.int .i8 (n5)), (.int .u8 (dd))] rfl rfl hS rfl (by kernel_rfl))) ?_
  simp only [p1, p2, p3, p4]
  refine ord_pure (some 5) (.agg #[(.int .i8 (n0)), (.int .i8 (n1)), (.int .i8 (n2)), (.int .i8 (n3)), (.int .i8 (n4)), (.int .i8 (n5)), (.int .u8 (dd))]) rfl rfl rfl (fun w' hS => (rv_load 25 _ b3 0 _ _ [(.int .i8 (n0)), (.int .i8 (n1)), (.int .i8 (n2)), (.int .i8 (n3)), (.int .i8 (n4)), (.int .i8 (n5)), (.int .u8 (dd))] rfl rfl hS rfl (by kernel_rfl))) ?_
  simp only [p1, p2, p3, p4]
  refine ord_eff rfl rfl (fun K15 k15 => ?_)
  refine eff_call (some 4) rfl (by kernel_rfl) (vec_0 (n0) (n1) (n2) (n3) (n4) (n5) (dd) (by omega) (by omega) (by omega) (by omega) (by omega) (by omega) (by omega) _) ?_
  rintro e16 w16 ⟨⟨t16_0, t16_1, t16_2, t16_3, t16_4, t16_5, t16_6, t16_7, t16_8, t16_9, t16_10, t16_11, rfl, h16a, h16b, h16c⟩, g16⟩
  refine ⟨_, rfl, ?_⟩
  replace hB := Gr.trans hB g16
  replace L3 := L3.gr g16
  refine k15 _ _ L3 ?_
  try clear k15 K15
  simp only [p1, p2, p3, p4]
  refine ord_eff rfl rfl (fun K17 k17 => ?_)
  refine eff_call (some 6) rfl (by kernel_rfl) (vec_3 (n0) (n1) (n2) (n3) (n4) (n5) (dd) (by omega) (by omega) (by omega) (by omega) (by omega) (by omega) (by omega) _) ?_
  rintro e18 w18 ⟨⟨t18_0, t18_1, t18_2, t18_3, t18_4, t18_5, t18_6, t18_7, t18_8, t18_9, t18_10, t18_11, rfl, h18a, h18b, h18c⟩, g18⟩
  refine ⟨_, rfl, ?_⟩
  replace hB := Gr.trans hB g18
  replace L3 := L3.gr g18
  refine k17 _ _ L3 ?_
  try clear k17 K17
  simp only [p1, p2, p3, p4]
  refine ord_pure (some 7) (.agg #[t16_0, t16_1, t16_2, t16_3, t16_4, t16_5, t16_6, t16_7, t16_8, t16_9, t16_10, t16_11, t18_0, t18_1, t18_2, t18_3, t18_4, t18_5, t18_6, t18_7, t18_8, t18_9, t18_10, t18_11]) rfl rfl rfl (fun w' hS => (rvk (by kernel_rfl))) ?_
  simp only [p1, p2, p3, p4]
  refine ord_eff rfl rfl (fun K19 k19 => ?_)
  replace L5 := L5.gr (gd14.trans (g16.trans g18))
  refine eff_store 35 _ _ b5 0 (.agg #[t16_0, t16_1, t16_2, t16_3, t16_4, t16_5, t16_6, t16_7, t16_8, t16_9, t16_10, t16_11, t18_0, t18_1, t18_2, t18_3, t18_4, t18_5, t18_6, t18_7, t18_8, t18_9, t18_10, t18_11]) [t16_0, t16_1, t16_2, t16_3, t16_4, t16_5, t16_6, t16_7, t16_8, t16_9, t16_10, t16_11, t18_0, t18_1, t18_2, t18_3, t18_4, t18_5, t18_6, t18_7, t18_8, t18_9, t18_10, t18_11] _ #[t16_0, t16_1, t16_2, t16_3, t16_4, t16_5, t16_6, t16_7, t16_8, t16_9, t16_10, t16_11, t18_0, t18_1, t18_2, t18_3, t18_4, t18_5, t18_6, t18_7, t18_8, t18_9, t18_10, t18_11] _ rfl rfl rfl rfl rfl L5 (by kernel_rfl) (Nat.le_of_ble_eq_true rfl) ⟨h16a.one0, h16a.one1, h16a.one2, h16a.one3, h16b.one0, h16b.one1, h16b.one2, h16b.one3, h16c.one0, h16c.one1, h16c.one2, h16c.one3, h18a.one0, h18a.one1, h18a.one2, h18a.one3, h18b.one0, h18b.one1, h18b.one2, h18b.one3, h18c.one0, h18c.one1, h18c.one2, h18c.one3, trivial⟩ (by kernel_rfl) (fun w20 st20 N20 => ?_)
  have kp20 := st20.kp L5 (by decide)
  replace hB := st20.gr hB q5
  replace L5 := N20
  replace L3 := st20.lc L3 ne3_5
  refine k19 _ _ L3 ?_
  try clear k19 K19
  refine ord_nil ?_
  refine k6 _ _ ?_
  try clear k6 K6
  refine wp_ret ?_
  refine bodyPost_ret (v := (.agg #[t16_0, t16_1, t16_2, t16_3, t16_4, t16_5, t16_6, t16_7, t16_8, t16_9, t16_10, t16_11, t18_0, t18_1, t18_2, t18_3, t18_4, t18_5, t18_6, t18_7, t18_8, t18_9, t18_10, t18_11])) (ret_cell _ _ _ rfl rfl L5 (by kernel_rfl)) rfl ⟨?_, hB⟩
  have kq21 := g18.kp.trans kp20
  replace h16a := h16a.kp kq21
  replace h16b := h16b.kp kq21
  replace h16c := h16c.kp kq21
  replace h18a := h18a.kp kp20
  replace h18b := h18b.kp kp20
  replace h18c := h18c.kp kp20
  exact ⟨_, _, _, _, _, _, _, _, _, _, _, _, _, _, _, _, _, _, _, _, _, _, _, _, rfl, h16a, h16b, h16c, h18a, h18b, h18c⟩

theorem vequal_b {k m : Nat} {uaa0 uaa1 uaa2 uaa3 uab0 uab1 uab2 uab3 uac0 uac1 uac2 uac3 : Value} {a1 a2 a3 : Rat} {vaa0 vaa1 vaa2 vaa3 vab0 vab1 vab2 vab3 vac0 vac1 vac2 vac3 : Value} {c1 c2 c3 : Rat} {w : World} (hua1 : IsRat w k uaa0 uaa1 uaa2 uaa3 a1) (hua2 : IsRat w k uab0 uab1 uab2 uab3 a2) (hua3 : IsRat w k uac0 uac1 uac2 uac3 a3) (hva1 : IsRat w m vaa0 vaa1 vaa2 vaa3 c1) (hva2 : IsRat w m vab0 vab1 vab2 vab3 c2) (hva3 : IsRat w m vac0 vac1 vac2 vac3 c3) (hk : k + m ≤ 100000) (b : Bool) (eb : (vcmp a1 a2 a3 c1 c2 c3 == (0 : Int)) = b) :
    Calls Tryd.prog 15 #[(.agg #[uaa0, uaa1, uaa2, uaa3, uab0, uab1, uab2, uab3, uac0, uac1, uac2, uac3]), (.agg #[vaa0, vaa1, vaa2, vaa3, vab0, vab1, vab2, vab3, vac0, vac1, vac2, vac3])] w fun e w' => e = .returned (.bool b) ∧ Gr w w' := by
  have := vequal_v hua1 hua2 hua3 hva1 hva2 hva3 hk
  rw [eb] at this
  exact this

theorem vzero_b {k : Nat} {uaa0 uaa1 uaa2 uaa3 uab0 uab1 uab2 uab3 uac0 uac1 uac2 uac3 : Value} {a1 a2 a3 : Rat} {w : World} (hua1 : IsRat w k uaa0 uaa1 uaa2 uaa3 a1) (hua2 : IsRat w k uab0 uab1 uab2 uab3 a2) (hua3 : IsRat w k uac0 uac1 uac2 uac3 a3) (hk : k ≤ 25000) (b : Bool) (eb : (vcmp a1 a2 a3 0 0 0 == (0 : Int)) = b) :
    Calls Tryd.prog 12 #[(.agg #[uaa0, uaa1, uaa2, uaa3, uab0, uab1, uab2, uab3, uac0, uac1, uac2, uac3])] w fun e w' => e = .returned (.bool b) ∧ Gr w w' := by
  have := vzero_v hua1 hua2 hua3 hk
  rw [eb] at this
  exact this

set_option maxRecDepth 100000 in
set_option maxHeartbeats 1000000 in
theorem tzero_t {k : Nat} {uaa0 uaa1 uaa2 uaa3 uab0 uab1 uab2 uab3 uac0 uac1 uac2 uac3 : Value} {a1 a2 a3 : Rat} {uba0 uba1 uba2 uba3 ubb0 ubb1 ubb2 ubb3 ubc0 ubc1 ubc2 ubc3 : Value} {d1 d2 d3 : Rat} {w : World} (hua1 : IsRat w k uaa0 uaa1 uaa2 uaa3 a1) (hua2 : IsRat w k uab0 uab1 uab2 uab3 a2) (hua3 : IsRat w k uac0 uac1 uac2 uac3 a3) (hub1 : IsRat w k uba0 uba1 uba2 uba3 d1) (hub2 : IsRat w k ubb0 ubb1 ubb2 ubb3 d2) (hub3 : IsRat w k ubc0 ubc1 ubc2 ubc3 d3) (_hk : k ≤ 25000) (e1 : (vcmp a1 a2 a3 0 0 0 == (0 : Int)) = true) :
    Calls Tryd.prog 27 #[(.agg #[uaa0, uaa1, uaa2, uaa3, uab0, uab1, uab2, uab3, uac0, uac1, uac2, uac3, uba0, uba1, uba2, uba3, ubb0, ubb1, ubb2, ubb3, ubc0, ubc1, ubc2, ubc3])] w fun e w' => e = .returned (.bool (vcmp d1 d2 d3 0 0 0 == (0 : Int))) ∧ Gr w w' := by
  go_enter Tryd.func27, Tryd.ntmps27
  have hB := Gr.refl w
  refine wp_seq_k (fun K1 k1 => ?_)
  refine wp_region ?_
  simp only [List.size_toArray, List.length_cons, List.length_nil, Nat.reduceAdd, List.range, List.range.loop]
  refine sq_eff rfl (by kernel_rfl) (fun K2 k2 => ?_)
  refine eff_box 35 _ (.agg #[uaa0, uaa1, uaa2, uaa3, uab0, uab1, uab2, uab3, uac0, uac1, uac2, uac3, uba0, uba1, uba2, uba3, ubb0, ubb1, ubb2, ubb3, ubc0, ubc1, ubc2, ubc3]) #[uaa0, uaa1, uaa2, uaa3, uab0, uab1, uab2, uab3, uac0, uac1, uac2, uac3, uba0, uba1, uba2, uba3, ubb0, ubb1, ubb2, ubb3, ubc0, ubc1, ubc2, ubc3] (some 1) rfl rfl rfl rfl (fun b3 w3 g3 L3 q3 => ?_)
  replace q3 := Nat.le_trans (Below.size hB) q3
  replace hB := Gr.trans hB g3
  refine k2 _ _ ?_
  try clear k2 K2
  simp only [p1, p2, p3, p4]
  refine sq_val (some 2) (.bool false) rfl rfl (by kernel_rfl) (rvk (by kernel_rfl)) ?_
  simp only [p1, p2, p3, p4]
  refine sq_nil ?_
  refine k1 _ _ ?_
  try clear k1 K1
  refine wp_seq_k (fun K4 k4 => ?_)
  refine wp_region ?_
  simp only [List.size_toArray, List.length_cons, List.length_nil, Nat.reduceAdd, List.range, List.range.loop]
  refine sq_val (some 3) (.pointer (some ⟨b3, 0, none⟩)) rfl rfl (by kernel_rfl) (rvk (by kernel_rfl)) ?_
  simp only [p1, p2, p3, p4]
  refine sq_val (some 4) (.agg #[uaa0, uaa1, uaa2, uaa3, uab0, uab1, uab2, uab3, uac0, uac1, uac2, uac3]) rfl rfl (by kernel_rfl) (rv_load 33 _ b3 0 _ _ [uaa0, uaa1, uaa2, uaa3, uab0, uab1, uab2, uab3, uac0, uac1, uac2, uac3] rfl rfl L3 rfl (by kernel_rfl)) ?_
  simp only [p1, p2, p3, p4]
  refine sq_eff rfl (by kernel_rfl) (fun K5 k5 => ?_)
  replace hua1 := hua1.kp g3.kp
  replace hua2 := hua2.kp g3.kp
  replace hua3 := hua3.kp g3.kp
  refine eff_call (some 5) rfl (by kernel_rfl) (vzero_b hua1 hua2 hua3 (by omega) true e1) ?_
  rintro e6 w6 ⟨rfl, g6⟩
  refine ⟨_, rfl, ?_⟩
  replace hB := Gr.trans hB g6
  refine k5 _ _ ?_
  try clear k5 K5
  simp only [p1, p2, p3, p4]
  refine sq_val (some 6) (.bool true) rfl rfl (by kernel_rfl) (rvk (by kernel_rfl)) ?_
  simp only [p1, p2, p3, p4]
  refine sq_val (some 7) (.pointer (some ⟨b3, 12, none⟩)) rfl rfl (by kernel_rfl) (rvk (by kernel_rfl)) ?_
  simp only [p1, p2, p3, p4]
  replace L3 := L3.gr g6
  refine sq_val (some 8) (.agg #[uba0, uba1, uba2, uba3, ubb0, ubb1, ubb2, ubb3, ubc0, ubc1, ubc2, ubc3]) rfl rfl (by kernel_rfl) (rv_load 33 _ b3 12 _ _ [uba0, uba1, uba2, uba3, ubb0, ubb1, ubb2, ubb3, ubc0, ubc1, ubc2, ubc3] rfl rfl L3 rfl (by kernel_rfl)) ?_
  simp only [p1, p2, p3, p4]
  refine sq_eff rfl (by kernel_rfl) (fun K7 k7 => ?_)
  have kq9 := g3.kp.trans g6.kp
  replace hub1 := hub1.kp kq9
  replace hub2 := hub2.kp kq9
  replace hub3 := hub3.kp kq9
  refine eff_call (some 9) rfl (by kernel_rfl) (vzero_v hub1 hub2 hub3 (by omega)) ?_
  rintro e8 w8 ⟨rfl, g8⟩
  refine ⟨_, rfl, ?_⟩
  replace hB := Gr.trans hB g8
  refine k7 _ _ ?_
  try clear k7 K7
  simp only [p1, p2, p3, p4]
  refine sq_val (some 10) (.bool (vcmp d1 d2 d3 0 0 0 == (0 : Int))) rfl rfl (by kernel_rfl) (rvk (by kernel_rfl)) ?_
  simp only [p1, p2, p3, p4]
  refine sq_val (some 2) (.bool (vcmp d1 d2 d3 0 0 0 == (0 : Int))) rfl rfl (by kernel_rfl) (rvk (by kernel_rfl)) ?_
  simp only [p1, p2, p3, p4]
  refine sq_nil ?_
  refine k4 _ _ ?_
  try clear k4 K4
  refine wp_ret ?_
  refine bodyPost_ret (v := (.bool (vcmp d1 d2 d3 0 0 0 == (0 : Int)))) (ret_tmp rfl rfl) rfl ⟨?_, hB⟩
  exact rfl

set_option maxRecDepth 100000 in
set_option maxHeartbeats 1000000 in
theorem tequal_t {k m : Nat} {uaa0 uaa1 uaa2 uaa3 uab0 uab1 uab2 uab3 uac0 uac1 uac2 uac3 : Value} {a1 a2 a3 : Rat} {uba0 uba1 uba2 uba3 ubb0 ubb1 ubb2 ubb3 ubc0 ubc1 ubc2 ubc3 : Value} {d1 d2 d3 : Rat} {vaa0 vaa1 vaa2 vaa3 vab0 vab1 vab2 vab3 vac0 vac1 vac2 vac3 : Value} {c1 c2 c3 : Rat} {vba0 vba1 vba2 vba3 vbb0 vbb1 vbb2 vbb3 vbc0 vbc1 vbc2 vbc3 : Value} {f1 f2 f3 : Rat} {w : World} (hua1 : IsRat w k uaa0 uaa1 uaa2 uaa3 a1) (hua2 : IsRat w k uab0 uab1 uab2 uab3 a2) (hua3 : IsRat w k uac0 uac1 uac2 uac3 a3) (hub1 : IsRat w k uba0 uba1 uba2 uba3 d1) (hub2 : IsRat w k ubb0 ubb1 ubb2 ubb3 d2) (hub3 : IsRat w k ubc0 ubc1 ubc2 ubc3 d3) (hva1 : IsRat w m vaa0 vaa1 vaa2 vaa3 c1) (hva2 : IsRat w m vab0 vab1 vab2 vab3 c2) (hva3 : IsRat w m vac0 vac1 vac2 vac3 c3) (hvb1 : IsRat w m vba0 vba1 vba2 vba3 f1) (hvb2 : IsRat w m vbb0 vbb1 vbb2 vbb3 f2) (hvb3 : IsRat w m vbc0 vbc1 vbc2 vbc3 f3) (_hk : k + m ≤ 20000) (e1 : (vcmp a1 a2 a3 c1 c2 c3 == (0 : Int)) = true) :
    Calls Tryd.prog 36 #[(.agg #[uaa0, uaa1, uaa2, uaa3, uab0, uab1, uab2, uab3, uac0, uac1, uac2, uac3, uba0, uba1, uba2, uba3, ubb0, ubb1, ubb2, ubb3, ubc0, ubc1, ubc2, ubc3]), (.agg #[vaa0, vaa1, vaa2, vaa3, vab0, vab1, vab2, vab3, vac0, vac1, vac2, vac3, vba0, vba1, vba2, vba3, vbb0, vbb1, vbb2, vbb3, vbc0, vbc1, vbc2, vbc3])] w fun e w' => e = .returned (.bool (vcmp d1 d2 d3 f1 f2 f3 == (0 : Int))) ∧ Gr w w' := by
  go_enter Tryd.func36, Tryd.ntmps36
  have hB := Gr.refl w
  refine wp_seq_k (fun K1 k1 => ?_)
  refine wp_region ?_
  simp only [List.size_toArray, List.length_cons, List.length_nil, Nat.reduceAdd, List.range, List.range.loop]
  refine sq_eff rfl (by kernel_rfl) (fun K2 k2 => ?_)
  refine eff_box 35 _ (.agg #[uaa0, uaa1, uaa2, uaa3, uab0, uab1, uab2, uab3, uac0, uac1, uac2, uac3, uba0, uba1, uba2, uba3, ubb0, ubb1, ubb2, ubb3, ubc0, ubc1, ubc2, ubc3]) #[uaa0, uaa1, uaa2, uaa3, uab0, uab1, uab2, uab3, uac0, uac1, uac2, uac3, uba0, uba1, uba2, uba3, ubb0, ubb1, ubb2, ubb3, ubc0, ubc1, ubc2, ubc3] (some 2) rfl rfl rfl rfl (fun b3 w3 g3 L3 q3 => ?_)
  replace q3 := Nat.le_trans (Below.size hB) q3
  replace hB := Gr.trans hB g3
  refine k2 _ _ ?_
  try clear k2 K2
  simp only [p1, p2, p3, p4]
  refine sq_eff rfl (by kernel_rfl) (fun K4 k4 => ?_)
  refine eff_box 35 _ (.agg #[vaa0, vaa1, vaa2, vaa3, vab0, vab1, vab2, vab3, vac0, vac1, vac2, vac3, vba0, vba1, vba2, vba3, vbb0, vbb1, vbb2, vbb3, vbc0, vbc1, vbc2, vbc3]) #[vaa0, vaa1, vaa2, vaa3, vab0, vab1, vab2, vab3, vac0, vac1, vac2, vac3, vba0, vba1, vba2, vba3, vbb0, vbb1, vbb2, vbb3, vbc0, vbc1, vbc2, vbc3] (some 3) rfl rfl rfl rfl (fun b5 w5 g5 L5 q5 => ?_)
  have ne3_5 := L3.ne q5
  replace q5 := Nat.le_trans (Below.size hB) q5
  replace hB := Gr.trans hB g5
  refine k4 _ _ ?_
  try clear k4 K4
  simp only [p1, p2, p3, p4]
  refine sq_val (some 4) (.bool false) rfl rfl (by kernel_rfl) (rvk (by kernel_rfl)) ?_
  simp only [p1, p2, p3, p4]
  refine sq_nil ?_
  refine k1 _ _ ?_
  try clear k1 K1
  refine wp_seq_k (fun K6 k6 => ?_)
  refine wp_region ?_
  simp only [List.size_toArray, List.length_cons, List.length_nil, Nat.reduceAdd, List.range, List.range.loop]
  refine sq_val (some 5) (.pointer (some ⟨b3, 0, none⟩)) rfl rfl (by kernel_rfl) (rvk (by kernel_rfl)) ?_
  simp only [p1, p2, p3, p4]
  replace L3 := L3.gr g5
  refine sq_val (some 6) (.agg #[uaa0, uaa1, uaa2, uaa3, uab0, uab1, uab2, uab3, uac0, uac1, uac2, uac3]) rfl rfl (by kernel_rfl) (rv_load 33 _ b3 0 _ _ [uaa0, uaa1, uaa2, uaa3, uab0, uab1, uab2, uab3, uac0, uac1, uac2, uac3] rfl rfl L3 rfl (by kernel_rfl)) ?_
  simp only [p1, p2, p3, p4]
  refine sq_val (some 7) (.pointer (some ⟨b5, 0, none⟩)) rfl rfl (by kernel_rfl) (rvk (by kernel_rfl)) ?_
  simp only [p1, p2, p3, p4]
  refine sq_val (some 8) (.agg #[vaa0, vaa1, vaa2, vaa3, vab0, vab1, vab2, vab3, vac0, vac1, vac2, vac3]) rfl rfl (by kernel_rfl) (rv_load 33 _ b5 0 _ _ [vaa0, vaa1, vaa2, vaa3, vab0, vab1, vab2, vab3, vac0, vac1, vac2, vac3] rfl rfl L5 rfl (by kernel_rfl)) ?_
  simp only [p1, p2, p3, p4]
  refine sq_eff rfl (by kernel_rfl) (fun K7 k7 => ?_)
  have kq9 := g3.kp.trans g5.kp
  replace hua1 := hua1.kp kq9
  replace hua2 := hua2.kp kq9
  replace hua3 := hua3.kp kq9
  replace hva1 := hva1.kp kq9
  replace hva2 := hva2.kp kq9
  replace hva3 := hva3.kp kq9
  refine eff_call (some 9) rfl (by kernel_rfl) (vequal_b hua1 hua2 hua3 hva1 hva2 hva3 (by omega) true e1) ?_
  rintro e8 w8 ⟨rfl, g8⟩
  refine ⟨_, rfl, ?_⟩
  replace hB := Gr.trans hB g8
  refine k7 _ _ ?_
  try clear k7 K7
  simp only [p1, p2, p3, p4]
  refine sq_val (some 10) (.bool true) rfl rfl (by kernel_rfl) (rvk (by kernel_rfl)) ?_
  simp only [p1, p2, p3, p4]
  refine sq_val (some 11) (.pointer (some ⟨b3, 12, none⟩)) rfl rfl (by kernel_rfl) (rvk (by kernel_rfl)) ?_
  simp only [p1, p2, p3, p4]
  replace L3 := L3.gr g8
  refine sq_val (some 12) (.agg #[uba0, uba1, uba2, uba3, ubb0, ubb1, ubb2, ubb3, ubc0, ubc1, ubc2, ubc3]) rfl rfl (by kernel_rfl) (rv_load 33 _ b3 12 _ _ [uba0, uba1, uba2, uba3, ubb0, ubb1, ubb2, ubb3, ubc0, ubc1, ubc2, ubc3] rfl rfl L3 rfl (by kernel_rfl)) ?_
  simp only [p1, p2, p3, p4]
  refine sq_val (some 13) (.pointer (some ⟨b5, 12, none⟩)) rfl rfl (by kernel_rfl) (rvk (by kernel_rfl)) ?_
  simp only [p1, p2, p3, p4]
  replace L5 := L5.gr g8
  refine sq_val (some 14) (.agg #[vba0, vba1, vba2, vba3, vbb0, vbb1, vbb2, vbb3, vbc0, vbc1, vbc2, vbc3]) rfl rfl (by kernel_rfl) (rv_load 33 _ b5 12 _ _ [vba0, vba1, vba2, vba3, vbb0, vbb1, vbb2, vbb3, vbc0, vbc1, vbc2, vbc3] rfl rfl L5 rfl (by kernel_rfl)) ?_
  simp only [p1, p2, p3, p4]
  refine sq_eff rfl (by kernel_rfl) (fun K10 k10 => ?_)
  have kq12 := g3.kp.trans (g5.kp.trans g8.kp)
  replace hub1 := hub1.kp kq12
  replace hub2 := hub2.kp kq12
  replace hub3 := hub3.kp kq12
  replace hvb1 := hvb1.kp kq12
  replace hvb2 := hvb2.kp kq12
  replace hvb3 := hvb3.kp kq12
  refine eff_call (some 15) rfl (by kernel_rfl) (vequal_v hub1 hub2 hub3 hvb1 hvb2 hvb3 (by omega)) ?_
  rintro e11 w11 ⟨rfl, g11⟩
  refine ⟨_, rfl, ?_⟩
  replace hB := Gr.trans hB g11
  refine k10 _ _ ?_
  try clear k10 K10
  simp only [p1, p2, p3, p4]
  refine sq_val (some 16) (.bool (vcmp d1 d2 d3 f1 f2 f3 == (0 : Int))) rfl rfl (by kernel_rfl) (rvk (by kernel_rfl)) ?_
  simp only [p1, p2, p3, p4]
  refine sq_val (some 4) (.bool (vcmp d1 d2 d3 f1 f2 f3 == (0 : Int))) rfl rfl (by kernel_rfl) (rvk (by kernel_rfl)) ?_
  simp only [p1, p2, p3, p4]
  refine sq_nil ?_
  refine k6 _ _ ?_
  try clear k6 K6
  refine wp_ret ?_
  refine bodyPost_ret (v := (.bool (vcmp d1 d2 d3 f1 f2 f3 == (0 : Int)))) (ret_tmp rfl rfl) rfl ⟨?_, hB⟩
  exact rfl

set_option maxRecDepth 100000 in
set_option maxHeartbeats 1000000 in
theorem tzero_f {k : Nat} {uaa0 uaa1 uaa2 uaa3 uab0 uab1 uab2 uab3 uac0 uac1 uac2 uac3 : Value} {a1 a2 a3 : Rat} {uba0 uba1 uba2 uba3 ubb0 ubb1 ubb2 ubb3 ubc0 ubc1 ubc2 ubc3 : Value} {d1 d2 d3 : Rat} {w : World} (hua1 : IsRat w k uaa0 uaa1 uaa2 uaa3 a1) (hua2 : IsRat w k uab0 uab1 uab2 uab3 a2) (hua3 : IsRat w k uac0 uac1 uac2 uac3 a3) (_hub1 : IsRat w k uba0 uba1 uba2 uba3 d1) (_hub2 : IsRat w k ubb0 ubb1 ubb2 ubb3 d2) (_hub3 : IsRat w k ubc0 ubc1 ubc2 ubc3 d3) (_hk : k ≤ 25000) (e1 : (vcmp a1 a2 a3 0 0 0 == (0 : Int)) = false) :
    Calls Tryd.prog 27 #[(.agg #[uaa0, uaa1, uaa2, uaa3, uab0, uab1, uab2, uab3, uac0, uac1, uac2, uac3, uba0, uba1, uba2, uba3, ubb0, ubb1, ubb2, ubb3, ubc0, ubc1, ubc2, ubc3])] w fun e w' => e = .returned (.bool (false)) ∧ Gr w w' := by
  go_enter Tryd.func27, Tryd.ntmps27
  have hB := Gr.refl w
  refine wp_seq_k (fun K1 k1 => ?_)
  refine wp_region ?_
  simp only [List.size_toArray, List.length_cons, List.length_nil, Nat.reduceAdd, List.range, List.range.loop]
  refine sq_eff rfl (by kernel_rfl) (fun K2 k2 => ?_)
  refine eff_box 35 _ (.agg #[uaa0, uaa1, uaa2, uaa3, uab0, uab1, uab2, uab3, uac0, uac1, uac2, uac3, uba0, uba1, uba2, uba3, ubb0, ubb1, ubb2, ubb3, ubc0, ubc1, ubc2, ubc3]) #[uaa0, uaa1, uaa2, uaa3, uab0, uab1, uab2, uab3, uac0, uac1, uac2, uac3, uba0, uba1, uba2, uba3, ubb0, ubb1, ubb2, ubb3, ubc0, ubc1, ubc2, ubc3] (some 1) rfl rfl rfl rfl (fun b3 w3 g3 L3 q3 => ?_)
  replace q3 := Nat.le_trans (Below.size hB) q3
  replace hB := Gr.trans hB g3
  refine k2 _ _ ?_
  try clear k2 K2
  simp only [p1, p2, p3, p4]
  refine sq_val (some 2) (.bool false) rfl rfl (by kernel_rfl) (rvk (by kernel_rfl)) ?_
  simp only [p1, p2, p3, p4]
  refine sq_nil ?_
  refine k1 _ _ ?_
  try clear k1 K1
  refine wp_seq_k (fun K4 k4 => ?_)
  refine wp_region ?_
  simp only [List.size_toArray, List.length_cons, List.length_nil, Nat.reduceAdd, List.range, List.range.loop]
  refine sq_val (some 3) (.pointer (some ⟨b3, 0, none⟩)) rfl rfl (by kernel_rfl) (rvk (by kernel_rfl)) ?_
  simp only [p1, p2, p3, p4]
  refine sq_val (some 4) (.agg #[uaa0, uaa1, uaa2, uaa3, uab0, uab1, uab2, uab3, uac0, uac1, uac2, uac3]) rfl rfl (by kernel_rfl) (rv_load 33 _ b3 0 _ _ [uaa0, uaa1, uaa2, uaa3, uab0, uab1, uab2, uab3, uac0, uac1, uac2, uac3] rfl rfl L3 rfl (by kernel_rfl)) ?_
  simp only [p1, p2, p3, p4]
  refine sq_eff rfl (by kernel_rfl) (fun K5 k5 => ?_)
  replace hua1 := hua1.kp g3.kp
  replace hua2 := hua2.kp g3.kp
  replace hua3 := hua3.kp g3.kp
  refine eff_call (some 5) rfl (by kernel_rfl) (vzero_b hua1 hua2 hua3 (by omega) false e1) ?_
  rintro e6 w6 ⟨rfl, g6⟩
  refine ⟨_, rfl, ?_⟩
  replace hB := Gr.trans hB g6
  refine k5 _ _ ?_
  try clear k5 K5
  simp only [p1, p2, p3, p4]
  refine sq_val (some 6) (.bool false) rfl rfl (by kernel_rfl) (rvk (by kernel_rfl)) ?_
  simp only [p1, p2, p3, p4]
  refine sq_skip (some 7) rfl rfl (by kernel_rfl) ?_
  simp only [p1, p2, p3, p4]
  refine sq_skip (some 8) rfl rfl (by kernel_rfl) ?_
  simp only [p1, p2, p3, p4]
  refine sq_skip (some 9) rfl rfl (by kernel_rfl) ?_
  simp only [p1, p2, p3, p4]
  refine sq_val (some 10) (.bool false) rfl rfl (by kernel_rfl) (rvk (by kernel_rfl)) ?_
  simp only [p1, p2, p3, p4]
  refine sq_val (some 2) (.bool false) rfl rfl (by kernel_rfl) (rvk (by kernel_rfl)) ?_
  simp only [p1, p2, p3, p4]
  refine sq_nil ?_
  refine k4 _ _ ?_
  try clear k4 K4
  refine wp_ret ?_
  refine bodyPost_ret (v := (.bool false)) (ret_tmp rfl rfl) rfl ⟨?_, hB⟩
  exact rfl

set_option maxRecDepth 100000 in
set_option maxHeartbeats 1000000 in
theorem tequal_f {k m : Nat} {uaa0 uaa1 uaa2 uaa3 uab0 uab1 uab2 uab3 uac0 uac1 uac2 uac3 : Value} {a1 a2 a3 : Rat} {uba0 uba1 uba2 uba3 ubb0 ubb1 ubb2 ubb3 ubc0 ubc1 ubc2 ubc3 : Value} {d1 d2 d3 : Rat} {vaa0 vaa1 vaa2 vaa3 vab0 vab1 vab2 vab3 vac0 vac1 vac2 vac3 : Value} {c1 c2 c3 : Rat} {vba0 vba1 vba2 vba3 vbb0 vbb1 vbb2 vbb3 vbc0 vbc1 vbc2 vbc3 : Value} {f1 f2 f3 : Rat} {w : World} (hua1 : IsRat w k uaa0 uaa1 uaa2 uaa3 a1) (hua2 : IsRat w k uab0 uab1 uab2 uab3 a2) (hua3 : IsRat w k uac0 uac1 uac2 uac3 a3) (_hub1 : IsRat w k uba0 uba1 uba2 uba3 d1) (_hub2 : IsRat w k ubb0 ubb1 ubb2 ubb3 d2) (_hub3 : IsRat w k ubc0 ubc1 ubc2 ubc3 d3) (hva1 : IsRat w m vaa0 vaa1 vaa2 vaa3 c1) (hva2 : IsRat w m vab0 vab1 vab2 vab3 c2) (hva3 : IsRat w m vac0 vac1 vac2 vac3 c3) (_hvb1 : IsRat w m vba0 vba1 vba2 vba3 f1) (_hvb2 : IsRat w m vbb0 vbb1 vbb2 vbb3 f2) (_hvb3 : IsRat w m vbc0 vbc1 vbc2 vbc3 f3) (_hk : k + m ≤ 20000) (e1 : (vcmp a1 a2 a3 c1 c2 c3 == (0 : Int)) = false) :
    Calls Tryd.prog 36 #[(.agg #[uaa0, uaa1, uaa2, uaa3, uab0, uab1, uab2, uab3, uac0, uac1, uac2, uac3, uba0, uba1, uba2, uba3, ubb0, ubb1, ubb2, ubb3, ubc0, ubc1, ubc2, ubc3]), (.agg #[vaa0, vaa1, vaa2, vaa3, vab0, vab1, vab2, vab3, vac0, vac1, vac2, vac3, vba0, vba1, vba2, vba3, vbb0, vbb1, vbb2, vbb3, vbc0, vbc1, vbc2, vbc3])] w fun e w' => e = .returned (.bool (false)) ∧ Gr w w' := by
  go_enter Tryd.func36, Tryd.ntmps36
  have hB := Gr.refl w
  refine wp_seq_k (fun K1 k1 => ?_)
  refine wp_region ?_
  simp only [List.size_toArray, List.length_cons, List.length_nil, Nat.reduceAdd, List.range, List.range.loop]
  refine sq_eff rfl (by kernel_rfl) (fun K2 k2 => ?_)
  refine eff_box 35 _ (.agg #[uaa0, uaa1, uaa2, uaa3, uab0, uab1, uab2, uab3, uac0, uac1, uac2, uac3, uba0, uba1, uba2, uba3, ubb0, ubb1, ubb2, ubb3, ubc0, ubc1, ubc2, ubc3]) #[uaa0, uaa1, uaa2, uaa3, uab0, uab1, uab2, uab3, uac0, uac1, uac2, uac3, uba0, uba1, uba2, uba3, ubb0, ubb1, ubb2, ubb3, ubc0, ubc1, ubc2, ubc3] (some 2) rfl rfl rfl rfl (fun b3 w3 g3 L3 q3 => ?_)
  replace q3 := Nat.le_trans (Below.size hB) q3
  replace hB := Gr.trans hB g3
  refine k2 _ _ ?_
  try clear k2 K2
  simp only [p1, p2, p3, p4]
  refine sq_eff rfl (by kernel_rfl) (fun K4 k4 => ?_)
  refine eff_box 35 _ (.agg #[vaa0, vaa1, vaa2, vaa3, vab0, vab1, vab2, vab3, vac0, vac1, vac2, vac3, vba0, vba1, vba2, vba3, vbb0, vbb1, vbb2, vbb3, vbc0, vbc1, vbc2, vbc3]) #[vaa0, vaa1, vaa2, vaa3, vab0, vab1, vab2, vab3, vac0, vac1, vac2, vac3, vba0, vba1, vba2, vba3, vbb0, vbb1, vbb2, vbb3, vbc0, vbc1, vbc2, vbc3] (some 3) rfl rfl rfl rfl (fun b5 w5 g5 L5 q5 => ?_)
  have ne3_5 := L3.ne q5
  replace q5 := Nat.le_trans (Below.size hB) q5
  replace hB := Gr.trans hB g5
  refine k4 _ _ ?_
  try clear k4 K4
  simp only [p1, p2, p3, p4]
  refine sq_val (some 4) (.bool false) rfl rfl (by kernel_rfl) (rvk (by kernel_rfl)) ?_
  simp only [p1, p2, p3, p4]
  refine sq_nil ?_
  refine k1 _ _ ?_
  try clear k1 K1
  refine wp_seq_k (fun K6 k6 => ?_)
  refine wp_region ?_
  simp only [List.size_toArray, List.length_cons, List.length_nil, Nat.reduceAdd, List.range, List.range.loop]
  refine sq_val (some 5) (.pointer (some ⟨b3, 0, none⟩)) rfl rfl (by kernel_rfl) (rvk (by kernel_rfl)) ?_
  simp only [p1, p2, p3, p4]
  replace L3 := L3.gr g5
  refine sq_val (some 6) (.agg #[uaa0, uaa1, uaa2, uaa3, uab0, uab1, uab2, uab3, uac0, uac1, uac2, uac3]) rfl rfl (by kernel_rfl) (rv_load 33 _ b3 0 _ _ [uaa0, uaa1, uaa2, uaa3, uab0, uab1, uab2, uab3, uac0, uac1, uac2, uac3] rfl rfl L3 rfl (by kernel_rfl)) ?_
  simp only [p1, p2, p3, p4]
  refine sq_val (some 7) (.pointer (some ⟨b5, 0, none⟩)) rfl rfl (by kernel_rfl) (rvk (by kernel_rfl)) ?_
  simp only [p1, p2, p3, p4]
  refine sq_val (some 8) (.agg #[vaa0, vaa1, vaa2, vaa3, vab0, vab1, vab2, vab3, vac0, vac1, vac2, vac3]) rfl rfl (by kernel_rfl) (rv_load 33 _ b5 0 _ _ [vaa0, vaa1, vaa2, vaa3, vab0, vab1, vab2, vab3, vac0, vac1, vac2, vac3] rfl rfl L5 rfl (by kernel_rfl)) ?_
  simp only [p1, p2, p3, p4]
  refine sq_eff rfl (by kernel_rfl) (fun K7 k7 => ?_)
  have kq9 := g3.kp.trans g5.kp
  replace hua1 := hua1.kp kq9
  replace hua2 := hua2.kp kq9
  replace hua3 := hua3.kp kq9
  replace hva1 := hva1.kp kq9
  replace hva2 := hva2.kp kq9
  replace hva3 := hva3.kp kq9
  refine eff_call (some 9) rfl (by kernel_rfl) (vequal_b hua1 hua2 hua3 hva1 hva2 hva3 (by omega) false e1) ?_
  rintro e8 w8 ⟨rfl, g8⟩
  refine ⟨_, rfl, ?_⟩
  replace hB := Gr.trans hB g8
  refine k7 _ _ ?_
  try clear k7 K7
  simp only [p1, p2, p3, p4]
  refine sq_val (some 10) (.bool false) rfl rfl (by kernel_rfl) (rvk (by kernel_rfl)) ?_
  simp only [p1, p2, p3, p4]
  refine sq_skip (some 11) rfl rfl (by kernel_rfl) ?_
  simp only [p1, p2, p3, p4]
  refine sq_skip (some 12) rfl rfl (by kernel_rfl) ?_
  simp only [p1, p2, p3, p4]
  refine sq_skip (some 13) rfl rfl (by kernel_rfl) ?_
  simp only [p1, p2, p3, p4]
  refine sq_skip (some 14) rfl rfl (by kernel_rfl) ?_
  simp only [p1, p2, p3, p4]
  refine sq_skip (some 15) rfl rfl (by kernel_rfl) ?_
  simp only [p1, p2, p3, p4]
  refine sq_val (some 16) (.bool false) rfl rfl (by kernel_rfl) (rvk (by kernel_rfl)) ?_
  simp only [p1, p2, p3, p4]
  refine sq_val (some 4) (.bool false) rfl rfl (by kernel_rfl) (rvk (by kernel_rfl)) ?_
  simp only [p1, p2, p3, p4]
  refine sq_nil ?_
  refine k6 _ _ ?_
  try clear k6 K6
  refine wp_ret ?_
  refine bodyPost_ret (v := (.bool false)) (ret_tmp rfl rfl) rfl ⟨?_, hB⟩
  exact rfl

end Go.Proofs.YtgopfikljndklaaDoor
