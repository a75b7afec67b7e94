/- Printed by a program of the prover's: the operations on twists. -/
import Derived.Test.YtgopfikljndklaaDoorGen6
namespace Go.Proofs.YtgopfikljndklaaDoor
open Go.RowKit

set_option maxRecDepth 100000 in
set_option maxHeartbeats 1000000 in
theorem vof_v (n1 n2 n3 : Int) (_j1 : -9223372036854775808 ≤ n1 ∧ n1 ≤ 9223372036854775807) (_j2 : -9223372036854775808 ≤ n2 ∧ n2 ≤ 9223372036854775807) (_j3 : -9223372036854775808 ≤ n3 ∧ n3 ≤ 9223372036854775807) (w : World) :
    Calls Tryd.prog 40 #[(.agg #[(.int .i64 (n1)), (.int .i64 (n2)), (.int .i64 (n3))])] w fun e w' => (∃ t0 t1 t2 t3 t4 t5 t6 t7 t8 t9 t10 t11, e = .returned (.agg #[t0, t1, t2, t3, t4, t5, t6, t7, t8, t9, t10, t11]) ∧ IsRat w' 64 t0 t1 t2 t3 ((n1 : Int) : Rat) ∧ IsRat w' 64 t4 t5 t6 t7 ((n2 : Int) : Rat) ∧ IsRat w' 64 t8 t9 t10 t11 ((n3 : Int) : Rat)) ∧ Gr w w' := by
  go_enter Tryd.func40, Tryd.ntmps40
  have hB := Gr.refl w
  refine wp_seq_k (fun K1 k1 => ?_)
  refine wp_region ?_
  simp only [List.size_toArray, List.length_cons, List.length_nil, Nat.reduceAdd, List.range, List.range.loop]
  refine sq_eff rfl (by kernel_rfl) (fun K2 k2 => ?_)
  refine eff_box 83 _ (.agg #[(.int .i64 (n1)), (.int .i64 (n2)), (.int .i64 (n3))]) #[(.int .i64 (n1)), (.int .i64 (n2)), (.int .i64 (n3))] (some 1) rfl rfl rfl rfl (fun b3 w3 g3 L3 q3 => ?_)
  replace q3 := Nat.le_trans (Below.size hB) q3
  replace hB := Gr.trans hB g3
  refine k2 _ _ ?_
  try clear k2 K2
  simp only [p1, p2, p3, p4]
  refine sq_eff rfl (by kernel_rfl) (fun K4 k4 => ?_)
  refine eff_alloc 33 (.agg #[(.bool false), (.slice none 0 0), (.bool false), (.slice none 0 0), (.bool false), (.slice none 0 0), (.bool false), (.slice none 0 0), (.bool false), (.slice none 0 0), (.bool false), (.slice none 0 0)]) #[(.bool false), (.slice none 0 0), (.bool false), (.slice none 0 0), (.bool false), (.slice none 0 0), (.bool false), (.slice none 0 0), (.bool false), (.slice none 0 0), (.bool false), (.slice none 0 0)] (some 2) rfl rfl (by kernel_rfl) rfl (fun b5 w5 g5 L5 q5 => ?_)
  have ne3_5 := L3.ne q5
  replace q5 := Nat.le_trans (Below.size hB) q5
  replace hB := Gr.trans hB g5
  refine k4 _ _ ?_
  try clear k4 K4
  simp only [p1, p2, p3, p4]
  refine sq_nil ?_
  refine k1 _ _ ?_
  try clear k1 K1
  refine wp_seq_k (fun K6 k6 => ?_)
  refine wp_region ?_
  simp only [List.size_toArray, List.length_cons, List.length_nil, Nat.reduceAdd, List.range, List.range.loop]
  refine sq_eff rfl (by kernel_rfl) (fun K7 k7 => ?_)
  refine eff_alloc 33 (.agg #[(.bool false), (.slice none 0 0), (.bool false), (.slice none 0 0), (.bool false), (.slice none 0 0), (.bool false), (.slice none 0 0), (.bool false), (.slice none 0 0), (.bool false), (.slice none 0 0)]) #[(.bool false), (.slice none 0 0), (.bool false), (.slice none 0 0), (.bool false), (.slice none 0 0), (.bool false), (.slice none 0 0), (.bool false), (.slice none 0 0), (.bool false), (.slice none 0 0)] (some 3) rfl rfl (by kernel_rfl) rfl (fun b8 w8 g8 L8 q8 => ?_)
  replace L3 := L3.gr g5
  have ne3_8 := L3.ne q8
  have ne5_8 := L5.ne q8
  replace q8 := Nat.le_trans (Below.size hB) q8
  replace hB := Gr.trans hB g8
  refine k7 _ _ ?_
  try clear k7 K7
  simp only [p1, p2, p3, p4]
  refine sq_nil ?_
  refine k6 _ _ ?_
  try clear k6 K6
  refine wp_seq_k (fun K9 k9 => ?_)
  refine wp_seq_k (fun K10 k10 => ?_)
  refine wp_region ?_
  simp only [List.size_toArray, List.length_cons, List.length_nil, Nat.reduceAdd, List.range, List.range.loop]
  replace L3 := L3.gr g8
  refine sq_val (some 6) (.agg #[(.int .i64 (n1)), (.int .i64 (n2)), (.int .i64 (n3))]) rfl rfl (by kernel_rfl) (rv_load 83 _ b3 0 _ _ [(.int .i64 (n1)), (.int .i64 (n2)), (.int .i64 (n3))] rfl rfl L3 rfl (by kernel_rfl)) ?_
  simp only [p1, p2, p3, p4]
  refine sq_val (some 7) (.int .i64 0) rfl rfl (by kernel_rfl) (rvk (by kernel_rfl)) ?_
  simp only [p1, p2, p3, p4]
  refine sq_nil ?_
  refine k10 _ _ ?_
  try clear k10 K10
  refine wp_block ?_
  refine wp_loop_rounds 4 ?_
  show Code.wp _ _ _ _ _
  refine wp_seq_k (fun K11 k11 => ?_)
  refine wp_region ?_
  simp only [List.size_toArray, List.length_cons, List.length_nil, Nat.reduceAdd, List.range, List.range.loop]
  refine sq_val (some 8) (.bool true) rfl rfl (by kernel_rfl) (rvk (by kernel_rfl)) ?_
  simp only [p1, p2, p3, p4]
  refine sq_nil ?_
  refine k11 _ _ ?_
  try clear k11 K11
  refine wp_seq_k (fun K12 k12 => ?_)
  refine wp_cond_true rfl ?_
  refine wp_skip ?_
  refine k12 _ _ ?_
  try clear k12 K12
  refine wp_seq_k (fun K13 k13 => ?_)
  refine wp_block ?_
  refine wp_seq_k (fun K14 k14 => ?_)
  refine wp_region ?_
  simp only [List.size_toArray, List.length_cons, List.length_nil, Nat.reduceAdd, List.range, List.range.loop]
  refine sq_val (some 9) (.int .i64 0) rfl rfl (by kernel_rfl) (rvk (by kernel_rfl)) ?_
  simp only [p1, p2, p3, p4]
  refine sq_val (some 10) (.int .i64 (n1)) rfl rfl (by kernel_rfl) (rvk (by kernel_rfl)) ?_
  simp only [p1, p2, p3, p4]
  refine sq_val (some 4) (.int .i64 0) rfl rfl (by kernel_rfl) (rvk (by kernel_rfl)) ?_
  simp only [p1, p2, p3, p4]
  refine sq_val (some 5) (.int .i64 (n1)) rfl rfl (by kernel_rfl) (rvk (by kernel_rfl)) ?_
  simp only [p1, p2, p3, p4]
  refine sq_nil ?_
  refine k14 _ _ ?_
  try clear k14 K14
  refine wp_region ?_
  simp only [List.size_toArray, List.length_cons, List.length_nil, Nat.reduceAdd, List.range, List.range.loop]
  refine sq_val (some 11) (.int .i64 0) rfl rfl (by kernel_rfl) (rvk (by kernel_rfl)) ?_
  simp only [p1, p2, p3, p4]
  refine sq_val (some 12) (.int .i64 (n1)) rfl rfl (by kernel_rfl) (rvk (by kernel_rfl)) ?_
  simp only [p1, p2, p3, p4]
  refine sq_eff rfl (by kernel_rfl) (fun K15 k15 => ?_)
  refine eff_call (some 13) rfl (by kernel_rfl) (from_r (n1) (by omega) (by omega) _) ?_
  rintro e16 w16 ⟨⟨p16, q16, r16, s16, rfl, h16⟩, g16⟩
  refine ⟨_, rfl, ?_⟩
  replace hB := Gr.trans hB g16
  refine k15 _ _ ?_
  try clear k15 K15
  simp only [p1, p2, p3, p4]
  refine sq_val (some 14) (.pointer (some ⟨b8, 0, none⟩)) rfl rfl (by kernel_rfl) (rvk (by kernel_rfl)) ?_
  simp only [p1, p2, p3, p4]
  refine sq_eff rfl (by kernel_rfl) (fun K17 k17 => ?_)
  replace L8 := L8.gr g16
  refine eff_store 31 _ _ b8 0 (.agg #[p16, q16, r16, s16]) [p16, q16, r16, s16] _ #[p16, q16, r16, s16, (.bool false), (.slice none 0 0), (.bool false), (.slice none 0 0), (.bool false), (.slice none 0 0), (.bool false), (.slice none 0 0)] _ rfl rfl rfl rfl rfl L8 (by kernel_rfl) (Nat.le_of_ble_eq_true rfl) ⟨h16.one0, h16.one1, h16.one2, h16.one3, trivial⟩ (by kernel_rfl) (fun w18 st18 N18 => ?_)
  have kp18 := st18.kp L8 (by decide)
  replace hB := st18.gr hB q8
  replace L8 := N18
  refine k17 _ _ ?_
  try clear k17 K17
  refine sq_nil ?_
  refine k13 _ _ ?_
  try clear k13 K13
  refine wp_region ?_
  simp only [List.size_toArray, List.length_cons, List.length_nil, Nat.reduceAdd, List.range, List.range.loop]
  refine sq_val (some 15) (.int .i64 1) rfl rfl (by kernel_rfl) (rvk (by kernel_rfl)) ?_
  simp only [p1, p2, p3, p4]
  refine sq_val (some 7) (.int .i64 1) rfl rfl (by kernel_rfl) (rvk (by kernel_rfl)) ?_
  simp only [p1, p2, p3, p4]
  refine sq_nil ?_
  show Code.rounds _ _ _ _ _ _
  show Code.wp _ _ _ _ _
  refine wp_seq_k (fun K19 k19 => ?_)
  refine wp_region ?_
  simp only [List.size_toArray, List.length_cons, List.length_nil, Nat.reduceAdd, List.range, List.range.loop]
  refine sq_val (some 8) (.bool true) rfl rfl (by kernel_rfl) (rvk (by kernel_rfl)) ?_
  simp only [p1, p2, p3, p4]
  refine sq_nil ?_
  refine k19 _ _ ?_
  try clear k19 K19
  refine wp_seq_k (fun K20 k20 => ?_)
  refine wp_cond_true rfl ?_
  refine wp_skip ?_
  refine k20 _ _ ?_
  try clear k20 K20
  refine wp_seq_k (fun K21 k21 => ?_)
  refine wp_block ?_
  refine wp_seq_k (fun K22 k22 => ?_)
  refine wp_region ?_
  simp only [List.size_toArray, List.length_cons, List.length_nil, Nat.reduceAdd, List.range, List.range.loop]
  refine sq_val (some 9) (.int .i64 1) rfl rfl (by kernel_rfl) (rvk (by kernel_rfl)) ?_
  simp only [p1, p2, p3, p4]
  refine sq_val (some 10) (.int .i64 (n2)) rfl rfl (by kernel_rfl) (rvk (by kernel_rfl)) ?_
  simp only [p1, p2, p3, p4]
  refine sq_val (some 4) (.int .i64 1) rfl rfl (by kernel_rfl) (rvk (by kernel_rfl)) ?_
  simp only [p1, p2, p3, p4]
  refine sq_val (some 5) (.int .i64 (n2)) rfl rfl (by kernel_rfl) (rvk (by kernel_rfl)) ?_
  simp only [p1, p2, p3, p4]
  refine sq_nil ?_
  refine k22 _ _ ?_
  try clear k22 K22
  refine wp_region ?_
  simp only [List.size_toArray, List.length_cons, List.length_nil, Nat.reduceAdd, List.range, List.range.loop]
  refine sq_val (some 11) (.int .i64 1) rfl rfl (by kernel_rfl) (rvk (by kernel_rfl)) ?_
  simp only [p1, p2, p3, p4]
  refine sq_val (some 12) (.int .i64 (n2)) rfl rfl (by kernel_rfl) (rvk (by kernel_rfl)) ?_
  simp only [p1, p2, p3, p4]
  refine sq_eff rfl (by kernel_rfl) (fun K23 k23 => ?_)
  refine eff_call (some 13) rfl (by kernel_rfl) (from_r (n2) (by omega) (by omega) _) ?_
  rintro e24 w24 ⟨⟨p24, q24, r24, s24, rfl, h24⟩, g24⟩
  refine ⟨_, rfl, ?_⟩
  replace hB := Gr.trans hB g24
  refine k23 _ _ ?_
  try clear k23 K23
  simp only [p1, p2, p3, p4]
  refine sq_val (some 14) (.pointer (some ⟨b8, 4, none⟩)) rfl rfl (by kernel_rfl) (rvk (by kernel_rfl)) ?_
  simp only [p1, p2, p3, p4]
  refine sq_eff rfl (by kernel_rfl) (fun K25 k25 => ?_)
  replace L8 := L8.gr g24
  refine eff_store 31 _ _ b8 4 (.agg #[p24, q24, r24, s24]) [p24, q24, r24, s24] _ #[p16, q16, r16, s16, p24, q24, r24, s24, (.bool false), (.slice none 0 0), (.bool false), (.slice none 0 0)] _ rfl rfl rfl rfl rfl L8 (by kernel_rfl) (Nat.le_of_ble_eq_true rfl) ⟨h24.one0, h24.one1, h24.one2, h24.one3, trivial⟩ (by kernel_rfl) (fun w26 st26 N26 => ?_)
  have kp26 := st26.kp L8 (by decide)
  replace hB := st26.gr hB q8
  replace L8 := N26
  refine k25 _ _ ?_
  try clear k25 K25
  refine sq_nil ?_
  refine k21 _ _ ?_
  try clear k21 K21
  refine wp_region ?_
  simp only [List.size_toArray, List.length_cons, List.length_nil, Nat.reduceAdd, List.range, List.range.loop]
  refine sq_val (some 15) (.int .i64 2) rfl rfl (by kernel_rfl) (rvk (by kernel_rfl)) ?_
  simp only [p1, p2, p3, p4]
  refine sq_val (some 7) (.int .i64 2) rfl rfl (by kernel_rfl) (rvk (by kernel_rfl)) ?_
  simp only [p1, p2, p3, p4]
  refine sq_nil ?_
  show Code.rounds _ _ _ _ _ _
  show Code.wp _ _ _ _ _
  refine wp_seq_k (fun K27 k27 => ?_)
  refine wp_region ?_
  simp only [List.size_toArray, List.length_cons, List.length_nil, Nat.reduceAdd, List.range, List.range.loop]
  refine sq_val (some 8) (.bool true) rfl rfl (by kernel_rfl) (rvk (by kernel_rfl)) ?_
  simp only [p1, p2, p3, p4]
  refine sq_nil ?_
  refine k27 _ _ ?_
  try clear k27 K27
  refine wp_seq_k (fun K28 k28 => ?_)
  refine wp_cond_true rfl ?_
  refine wp_skip ?_
  refine k28 _ _ ?_
  try clear k28 K28
  refine wp_seq_k (fun K29 k29 => ?_)
  refine wp_block ?_
  refine wp_seq_k (fun K30 k30 => ?_)
  refine wp_region ?_
  simp only [List.size_toArray, List.length_cons, List.length_nil, Nat.reduceAdd, List.range, List.range.loop]
  refine sq_val (some 9) (.int .i64 2) rfl rfl (by kernel_rfl) (rvk (by kernel_rfl)) ?_
  simp only [p1, p2, p3, p4]
  refine sq_val (some 10) (.int .i64 (n3)) rfl rfl (by kernel_rfl) (rvk (by kernel_rfl)) ?_
  simp only [p1, p2, p3, p4]
  refine sq_val (some 4) (.int .i64 2) rfl rfl (by kernel_rfl) (rvk (by kernel_rfl)) ?_
  simp only [p1, p2, p3, p4]
  refine sq_val (some 5) (.int .i64 (n3)) rfl rfl (by kernel_rfl) (rvk (by kernel_rfl)) ?_
  simp only [p1, p2, p3, p4]
  refine sq_nil ?_
  refine k30 _ _ ?_
  try clear k30 K30
  refine wp_region ?_
  simp only [List.size_toArray, List.length_cons, List.length_nil, Nat.reduceAdd, List.range, List.range.loop]
  refine sq_val (some 11) (.int .i64 2) rfl rfl (by kernel_rfl) (rvk (by kernel_rfl)) ?_
  simp only [p1, p2, p3, p4]
  refine sq_val (some 12) (.int .i64 (n3)) rfl rfl (by kernel_rfl) (rvk (by kernel_rfl)) ?_
  simp only [p1, p2, p3, p4]
  refine sq_eff rfl (by kernel_rfl) (fun K31 k31 => ?_)
  refine eff_call (some 13) rfl (by kernel_rfl) (from_r (n3) (by omega) (by omega) _) ?_
  rintro e32 w32 ⟨⟨p32, q32, r32, s32, rfl, h32⟩, g32⟩
  refine ⟨_, rfl, ?_⟩
  replace hB := Gr.trans hB g32
  refine k31 _ _ ?_
  try clear k31 K31
  simp only [p1, p2, p3, p4]
  refine sq_val (some 14) (.pointer (some ⟨b8, 8, none⟩)) rfl rfl (by kernel_rfl) (rvk (by kernel_rfl)) ?_
  simp only [p1, p2, p3, p4]
  refine sq_eff rfl (by kernel_rfl) (fun K33 k33 => ?_)
  replace L8 := L8.gr g32
  refine eff_store 31 _ _ b8 8 (.agg #[p32, q32, r32, s32]) [p32, q32, r32, s32] _ #[p16, q16, r16, s16, p24, q24, r24, s24, p32, q32, r32, s32] _ rfl rfl rfl rfl rfl L8 (by kernel_rfl) (Nat.le_of_ble_eq_true rfl) ⟨h32.one0, h32.one1, h32.one2, h32.one3, trivial⟩ (by kernel_rfl) (fun w34 st34 N34 => ?_)
  have kp34 := st34.kp L8 (by decide)
  replace hB := st34.gr hB q8
  replace L8 := N34
  refine k33 _ _ ?_
  try clear k33 K33
  refine sq_nil ?_
  refine k29 _ _ ?_
  try clear k29 K29
  refine wp_region ?_
  simp only [List.size_toArray, List.length_cons, List.length_nil, Nat.reduceAdd, List.range, List.range.loop]
  refine sq_val (some 15) (.int .i64 3) rfl rfl (by kernel_rfl) (rvk (by kernel_rfl)) ?_
  simp only [p1, p2, p3, p4]
  refine sq_val (some 7) (.int .i64 3) rfl rfl (by kernel_rfl) (rvk (by kernel_rfl)) ?_
  simp only [p1, p2, p3, p4]
  refine sq_nil ?_
  show Code.rounds _ _ _ _ _ _
  show Code.wp _ _ _ _ _
  refine wp_seq_k (fun K35 k35 => ?_)
  refine wp_region ?_
  simp only [List.size_toArray, List.length_cons, List.length_nil, Nat.reduceAdd, List.range, List.range.loop]
  refine sq_val (some 8) (.bool false) rfl rfl (by kernel_rfl) (rvk (by kernel_rfl)) ?_
  simp only [p1, p2, p3, p4]
  refine sq_nil ?_
  refine k35 _ _ ?_
  try clear k35 K35
  refine wp_seq_k (fun K36 k36 => ?_)
  refine wp_cond_false rfl ?_
  refine wp_exit ?_
  simp only [Exit.then, Exit.inBlock, ↓reduceIte]
  refine k9 _ _ ?_
  try clear k9 K9
  refine wp_seq_k (fun K37 k37 => ?_)
  refine wp_region ?_
  simp only [List.size_toArray, List.length_cons, List.length_nil, Nat.reduceAdd, List.range, List.range.loop]
  refine sq_val (some 16) (.agg #[p16, q16, r16, s16, p24, q24, r24, s24, p32, q32, r32, s32]) rfl rfl (by kernel_rfl) (rv_load 33 _ b8 0 _ _ [p16, q16, r16, s16, p24, q24, r24, s24, p32, q32, r32, s32] rfl rfl L8 rfl (by kernel_rfl)) ?_
  simp only [p1, p2, p3, p4]
  refine sq_eff rfl (by kernel_rfl) (fun K38 k38 => ?_)
  replace L5 := st34.lc ((st26.lc ((st18.lc (L5.gr (g8.trans g16)) ne5_8).gr g24) ne5_8).gr g32) ne5_8
  refine eff_store 33 _ _ b5 0 (.agg #[p16, q16, r16, s16, p24, q24, r24, s24, p32, q32, r32, s32]) [p16, q16, r16, s16, p24, q24, r24, s24, p32, q32, r32, s32] _ #[p16, q16, r16, s16, p24, q24, r24, s24, p32, q32, r32, s32] _ rfl rfl rfl rfl rfl L5 (by kernel_rfl) (Nat.le_of_ble_eq_true rfl) ⟨h16.one0, h16.one1, h16.one2, h16.one3, h24.one0, h24.one1, h24.one2, h24.one3, h32.one0, h32.one1, h32.one2, h32.one3, trivial⟩ (by kernel_rfl) (fun w39 st39 N39 => ?_)
  have kp39 := st39.kp L5 (by decide)
  replace hB := st39.gr hB q5
  replace L5 := N39
  refine k38 _ _ ?_
  try clear k38 K38
  refine sq_nil ?_
  refine k37 _ _ ?_
  try clear k37 K37
  refine wp_ret ?_
  refine bodyPost_ret (v := (.agg #[p16, q16, r16, s16, p24, q24, r24, s24, p32, q32, r32, s32])) (ret_cell _ _ _ rfl rfl L5 (by kernel_rfl)) rfl ⟨?_, hB⟩
  have kq40 := kp18.trans (g24.kp.trans (kp26.trans (g32.kp.trans (kp34.trans kp39))))
  replace h16 := h16.kp kq40
  have kq41 := kp26.trans (g32.kp.trans (kp34.trans kp39))
  replace h24 := h24.kp kq41
  have kq42 := kp34.trans kp39
  replace h32 := h32.kp kq42
  exact ⟨_, _, _, _, _, _, _, _, _, _, _, _, rfl, h16, h24, h32⟩

set_option maxRecDepth 100000 in
set_option maxHeartbeats 1000000 in
theorem tvel_v {k m : Nat} {uaa0 uaa1 uaa2 uaa3 uab0 uab1 uab2 uab3 uac0 uac1 uac2 uac3 : Value} {a1 a2 a3 : Rat} {uba0 uba1 uba2 uba3 ubb0 ubb1 ubb2 ubb3 ubc0 ubc1 ubc2 ubc3 : Value} {d1 d2 d3 : Rat} {vaa0 vaa1 vaa2 vaa3 vab0 vab1 vab2 vab3 vac0 vac1 vac2 vac3 : Value} {c1 c2 c3 : Rat} {w : World} (hua1 : IsRat w k uaa0 uaa1 uaa2 uaa3 a1) (hua2 : IsRat w k uab0 uab1 uab2 uab3 a2) (hua3 : IsRat w k uac0 uac1 uac2 uac3 a3) (hub1 : IsRat w k uba0 uba1 uba2 uba3 d1) (hub2 : IsRat w k ubb0 ubb1 ubb2 ubb3 d2) (hub3 : IsRat w k ubc0 ubc1 ubc2 ubc3 d3) (hva1 : IsRat w m vaa0 vaa1 vaa2 vaa3 c1) (hva2 : IsRat w m vab0 vab1 vab2 vab3 c2) (hva3 : IsRat w m vac0 vac1 vac2 vac3 c3) (_hk : k + m ≤ 20000) :
    Calls Tryd.prog 23 #[(.agg #[uaa0, uaa1, uaa2, uaa3, uab0, uab1, uab2, uab3, uac0, uac1, uac2, uac3, uba0, uba1, uba2, uba3, ubb0, ubb1, ubb2, ubb3, ubc0, ubc1, ubc2, ubc3]), (.agg #[vaa0, vaa1, vaa2, vaa3, vab0, vab1, vab2, vab3, vac0, vac1, vac2, vac3])] w fun e w' => (∃ t0 t1 t2 t3 t4 t5 t6 t7 t8 t9 t10 t11, e = .returned (.agg #[t0, t1, t2, t3, t4, t5, t6, t7, t8, t9, t10, t11]) ∧ IsRat w' (k + (k + m + (k + m) + 1) + 1) t0 t1 t2 t3 (d1 + (a2 * c3 - a3 * c2)) ∧ IsRat w' (k + (k + m + (k + m) + 1) + 1) t4 t5 t6 t7 (d2 + (a3 * c1 - a1 * c3)) ∧ IsRat w' (k + (k + m + (k + m) + 1) + 1) t8 t9 t10 t11 (d3 + (a1 * c2 - a2 * c1))) ∧ Gr w w' := by
  have hb1 := hua1.big
  have hb2 := hva1.big
  go_enter Tryd.func23, Tryd.ntmps23
  have hB := Gr.refl w
  refine wp_seq_k (fun K1 k1 => ?_)
  refine wp_region ?_
  simp only [List.size_toArray, List.length_cons, List.length_nil, Nat.reduceAdd, List.range, List.range.loop]
  refine sq_eff rfl (by kernel_rfl) (fun K2 k2 => ?_)
  refine eff_box 35 _ (.agg #[uaa0, uaa1, uaa2, uaa3, uab0, uab1, uab2, uab3, uac0, uac1, uac2, uac3, uba0, uba1, uba2, uba3, ubb0, ubb1, ubb2, ubb3, ubc0, ubc1, ubc2, ubc3]) #[uaa0, uaa1, uaa2, uaa3, uab0, uab1, uab2, uab3, uac0, uac1, uac2, uac3, uba0, uba1, uba2, uba3, ubb0, ubb1, ubb2, ubb3, ubc0, ubc1, ubc2, ubc3] (some 2) rfl rfl rfl rfl (fun b3 w3 g3 L3 q3 => ?_)
  replace q3 := Nat.le_trans (Below.size hB) q3
  replace hB := Gr.trans hB g3
  refine k2 _ _ ?_
  try clear k2 K2
  simp only [p1, p2, p3, p4]
  refine sq_eff rfl (by kernel_rfl) (fun K4 k4 => ?_)
  refine eff_box 33 _ (.agg #[vaa0, vaa1, vaa2, vaa3, vab0, vab1, vab2, vab3, vac0, vac1, vac2, vac3]) #[vaa0, vaa1, vaa2, vaa3, vab0, vab1, vab2, vab3, vac0, vac1, vac2, vac3] (some 3) rfl rfl rfl rfl (fun b5 w5 g5 L5 q5 => ?_)
  have ne3_5 := L3.ne q5
  replace q5 := Nat.le_trans (Below.size hB) q5
  replace hB := Gr.trans hB g5
  refine k4 _ _ ?_
  try clear k4 K4
  simp only [p1, p2, p3, p4]
  refine sq_eff rfl (by kernel_rfl) (fun K6 k6 => ?_)
  refine eff_alloc 33 (.agg #[(.bool false), (.slice none 0 0), (.bool false), (.slice none 0 0), (.bool false), (.slice none 0 0), (.bool false), (.slice none 0 0), (.bool false), (.slice none 0 0), (.bool false), (.slice none 0 0)]) #[(.bool false), (.slice none 0 0), (.bool false), (.slice none 0 0), (.bool false), (.slice none 0 0), (.bool false), (.slice none 0 0), (.bool false), (.slice none 0 0), (.bool false), (.slice none 0 0)] (some 4) rfl rfl (by kernel_rfl) rfl (fun b7 w7 g7 L7 q7 => ?_)
  replace L3 := L3.gr g5
  have ne3_7 := L3.ne q7
  have ne5_7 := L5.ne q7
  replace q7 := Nat.le_trans (Below.size hB) q7
  replace hB := Gr.trans hB g7
  refine k6 _ _ ?_
  try clear k6 K6
  simp only [p1, p2, p3, p4]
  refine sq_nil ?_
  refine k1 _ _ ?_
  try clear k1 K1
  refine wp_seq_k (fun K8 k8 => ?_)
  have gd18 := Gr.drew w7
  replace hB := Gr.trans hB gd18
  replace L3 := L3.gr (g7.trans gd18)
  replace L5 := L5.gr (g7.trans gd18)
  refine wp_region_ord (fun w' => Lc w' b3 #[uaa0, uaa1, uaa2, uaa3, uab0, uab1, uab2, uab3, uac0, uac1, uac2, uac3, uba0, uba1, uba2, uba3, ubb0, ubb1, ubb2, ubb3, ubc0, ubc1, ubc2, ubc3] 35 ∧ Lc w' b5 #[vaa0, vaa1, vaa2, vaa3, vab0, vab1, vab2, vab3, vac0, vac1, vac2, vac3] 33) [(true, 0), (true, 1), (true, 2), (true, 3), (true, 4), (false, 5), (false, 6), (false, 7)] (by kernel_rfl) (by kernel_rfl) (by kernel_rfl) (by decide) (fun _ _ _ _ _ h => h) ⟨L3, L5⟩ ?_
  refine ord_pure (some 5) (.pointer (some ⟨b3, 12, none⟩)) rfl rfl rfl (fun w' hS => (rvk (by kernel_rfl))) ?_
  simp only [p1, p2, p3, p4]
  refine ord_pure (some 6) (.agg #[uba0, uba1, uba2, uba3, ubb0, ubb1, ubb2, ubb3, ubc0, ubc1, ubc2, ubc3]) rfl rfl rfl (fun w' hS => (rv_load 33 _ b3 12 _ _ [uba0, uba1, uba2, uba3, ubb0, ubb1, ubb2, ubb3, ubc0, ubc1, ubc2, ubc3] rfl rfl hS.1 rfl (by kernel_rfl))) ?_
  simp only [p1, p2, p3, p4]
  refine ord_pure (some 7) (.pointer (some ⟨b3, 0, none⟩)) rfl rfl rfl (fun w' hS => (rvk (by kernel_rfl))) ?_
  simp only [p1, p2, p3, p4]
  refine ord_pure (some 8) (.agg #[uaa0, uaa1, uaa2, uaa3, uab0, uab1, uab2, uab3, uac0, uac1, uac2, uac3]) rfl rfl rfl (fun w' hS => (rv_load 33 _ b3 0 _ _ [uaa0, uaa1, uaa2, uaa3, uab0, uab1, uab2, uab3, uac0, uac1, uac2, uac3] rfl rfl hS.1 rfl (by kernel_rfl))) ?_
  simp only [p1, p2, p3, p4]
  refine ord_pure (some 9) (.agg #[vaa0, vaa1, vaa2, vaa3, vab0, vab1, vab2, vab3, vac0, vac1, vac2, vac3]) rfl rfl rfl (fun w' hS => (rv_load 33 _ b5 0 _ _ [vaa0, vaa1, vaa2, vaa3, vab0, vab1, vab2, vab3, vac0, vac1, vac2, vac3] rfl rfl hS.2 rfl (by kernel_rfl))) ?_
  simp only [p1, p2, p3, p4]
  refine ord_eff rfl rfl (fun K19 k19 => ?_)
  have kq21 := g3.kp.trans (g5.kp.trans (g7.kp.trans gd18.kp))
  replace hua1 := hua1.kp kq21
  replace hua2 := hua2.kp kq21
  replace hua3 := hua3.kp kq21
  replace hva1 := hva1.kp kq21
  replace hva2 := hva2.kp kq21
  replace hva3 := hva3.kp kq21
  refine eff_call (some 10) rfl (by kernel_rfl) (cross_v hua1 hua2 hua3 hva1 hva2 hva3 (by omega)) ?_
  rintro e20 w20 ⟨⟨t20_0, t20_1, t20_2, t20_3, t20_4, t20_5, t20_6, t20_7, t20_8, t20_9, t20_10, t20_11, rfl, h20a, h20b, h20c⟩, g20⟩
  refine ⟨_, rfl, ?_⟩
  replace hB := Gr.trans hB g20
  replace L3 := L3.gr g20
  replace L5 := L5.gr g20
  refine k19 _ _ ⟨L3, L5⟩ ?_
  try clear k19 K19
  simp only [p1, p2, p3, p4]
  refine ord_eff rfl rfl (fun K22 k22 => ?_)
  have kq24 := g3.kp.trans (g5.kp.trans (g7.kp.trans (gd18.kp.trans g20.kp)))
  replace hub1 := hub1.kp kq24
  replace hub2 := hub2.kp kq24
  replace hub3 := hub3.kp kq24
  refine eff_call (some 11) rfl (by kernel_rfl) (vadd_v hub1 hub2 hub3 h20a h20b h20c (by omega)) ?_
  rintro e23 w23 ⟨⟨t23_0, t23_1, t23_2, t23_3, t23_4, t23_5, t23_6, t23_7, t23_8, t23_9, t23_10, t23_11, rfl, h23a, h23b, h23c⟩, g23⟩
  refine ⟨_, rfl, ?_⟩
  replace hB := Gr.trans hB g23
  replace L3 := L3.gr g23
  replace L5 := L5.gr g23
  refine k22 _ _ ⟨L3, L5⟩ ?_
  try clear k22 K22
  simp only [p1, p2, p3, p4]
  refine ord_eff rfl rfl (fun K25 k25 => ?_)
  replace L7 := L7.gr (gd18.trans (g20.trans g23))
  refine eff_store 33 _ _ b7 0 (.agg #[t23_0, t23_1, t23_2, t23_3, t23_4, t23_5, t23_6, t23_7, t23_8, t23_9, t23_10, t23_11]) [t23_0, t23_1, t23_2, t23_3, t23_4, t23_5, t23_6, t23_7, t23_8, t23_9, t23_10, t23_11] _ #[t23_0, t23_1, t23_2, t23_3, t23_4, t23_5, t23_6, t23_7, t23_8, t23_9, t23_10, t23_11] _ rfl rfl rfl rfl rfl L7 (by kernel_rfl) (Nat.le_of_ble_eq_true rfl) ⟨h23a.one0, h23a.one1, h23a.one2, h23a.one3, h23b.one0, h23b.one1, h23b.one2, h23b.one3, h23c.one0, h23c.one1, h23c.one2, h23c.one3, trivial⟩ (by kernel_rfl) (fun w26 st26 N26 => ?_)
  have kp26 := st26.kp L7 (by decide)
  replace hB := st26.gr hB q7
  replace L7 := N26
  replace L3 := st26.lc L3 ne3_7
  replace L5 := st26.lc L5 ne5_7
  refine k25 _ _ ⟨L3, L5⟩ ?_
  try clear k25 K25
  refine ord_nil ?_
  refine k8 _ _ ?_
  try clear k8 K8
  refine wp_ret ?_
  refine bodyPost_ret (v := (.agg #[t23_0, t23_1, t23_2, t23_3, t23_4, t23_5, t23_6, t23_7, t23_8, t23_9, t23_10, t23_11])) (ret_cell _ _ _ rfl rfl L7 (by kernel_rfl)) rfl ⟨?_, hB⟩
  replace h23a := h23a.kp kp26
  replace h23b := h23b.kp kp26
  replace h23c := h23c.kp kp26
  exact ⟨_, _, _, _, _, _, _, _, _, _, _, _, rfl, h23a, h23b, h23c⟩

set_option maxRecDepth 100000 in
set_option maxHeartbeats 1000000 in
theorem lvel_v {k m : Nat} {uaa0 uaa1 uaa2 uaa3 uab0 uab1 uab2 uab3 uac0 uac1 uac2 uac3 : Value} {a1 a2 a3 : Rat} {uba0 uba1 uba2 uba3 ubb0 ubb1 ubb2 ubb3 ubc0 ubc1 ubc2 ubc3 : Value} {d1 d2 d3 : Rat} {vaa0 vaa1 vaa2 vaa3 vab0 vab1 vab2 vab3 vac0 vac1 vac2 vac3 : Value} {c1 c2 c3 : Rat} {w : World} (hua1 : IsRat w k uaa0 uaa1 uaa2 uaa3 a1) (hua2 : IsRat w k uab0 uab1 uab2 uab3 a2) (hua3 : IsRat w k uac0 uac1 uac2 uac3 a3) (hub1 : IsRat w k uba0 uba1 uba2 uba3 d1) (hub2 : IsRat w k ubb0 ubb1 ubb2 ubb3 d2) (hub3 : IsRat w k ubc0 ubc1 ubc2 ubc3 d3) (hva1 : IsRat w m vaa0 vaa1 vaa2 vaa3 c1) (hva2 : IsRat w m vab0 vab1 vab2 vab3 c2) (hva3 : IsRat w m vac0 vac1 vac2 vac3 c3) (_hk : k + m ≤ 20000) :
    Calls Tryd.prog 24 #[(.agg #[uaa0, uaa1, uaa2, uaa3, uab0, uab1, uab2, uab3, uac0, uac1, uac2, uac3, uba0, uba1, uba2, uba3, ubb0, ubb1, ubb2, ubb3, ubc0, ubc1, ubc2, ubc3]), (.agg #[vaa0, vaa1, vaa2, vaa3, vab0, vab1, vab2, vab3, vac0, vac1, vac2, vac3])] w fun e w' => (∃ t0 t1 t2 t3 t4 t5 t6 t7 t8 t9 t10 t11, e = .returned (.agg #[t0, t1, t2, t3, t4, t5, t6, t7, t8, t9, t10, t11]) ∧ IsRat w' (k + (k + m + (k + m) + 1) + 1) t0 t1 t2 t3 (d1 + (a2 * c3 - a3 * c2)) ∧ IsRat w' (k + (k + m + (k + m) + 1) + 1) t4 t5 t6 t7 (d2 + (a3 * c1 - a1 * c3)) ∧ IsRat w' (k + (k + m + (k + m) + 1) + 1) t8 t9 t10 t11 (d3 + (a1 * c2 - a2 * c1))) ∧ Gr w w' := by
  have hb1 := hua1.big
  have hb2 := hva1.big
  go_enter Tryd.func24, Tryd.ntmps24
  have hB := Gr.refl w
  refine wp_seq_k (fun K1 k1 => ?_)
  refine wp_region ?_
  simp only [List.size_toArray, List.length_cons, List.length_nil, Nat.reduceAdd, List.range, List.range.loop]
  refine sq_eff rfl (by kernel_rfl) (fun K2 k2 => ?_)
  refine eff_box 35 _ (.agg #[uaa0, uaa1, uaa2, uaa3, uab0, uab1, uab2, uab3, uac0, uac1, uac2, uac3, uba0, uba1, uba2, uba3, ubb0, ubb1, ubb2, ubb3, ubc0, ubc1, ubc2, ubc3]) #[uaa0, uaa1, uaa2, uaa3, uab0, uab1, uab2, uab3, uac0, uac1, uac2, uac3, uba0, uba1, uba2, uba3, ubb0, ubb1, ubb2, ubb3, ubc0, ubc1, ubc2, ubc3] (some 2) rfl rfl rfl rfl (fun b3 w3 g3 L3 q3 => ?_)
  replace q3 := Nat.le_trans (Below.size hB) q3
  replace hB := Gr.trans hB g3
  refine k2 _ _ ?_
  try clear k2 K2
  simp only [p1, p2, p3, p4]
  refine sq_eff rfl (by kernel_rfl) (fun K4 k4 => ?_)
  refine eff_box 33 _ (.agg #[vaa0, vaa1, vaa2, vaa3, vab0, vab1, vab2, vab3, vac0, vac1, vac2, vac3]) #[vaa0, vaa1, vaa2, vaa3, vab0, vab1, vab2, vab3, vac0, vac1, vac2, vac3] (some 3) rfl rfl rfl rfl (fun b5 w5 g5 L5 q5 => ?_)
  have ne3_5 := L3.ne q5
  replace q5 := Nat.le_trans (Below.size hB) q5
  replace hB := Gr.trans hB g5
  refine k4 _ _ ?_
  try clear k4 K4
  simp only [p1, p2, p3, p4]
  refine sq_eff rfl (by kernel_rfl) (fun K6 k6 => ?_)
  refine eff_alloc 33 (.agg #[(.bool false), (.slice none 0 0), (.bool false), (.slice none 0 0), (.bool false), (.slice none 0 0), (.bool false), (.slice none 0 0), (.bool false), (.slice none 0 0), (.bool false), (.slice none 0 0)]) #[(.bool false), (.slice none 0 0), (.bool false), (.slice none 0 0), (.bool false), (.slice none 0 0), (.bool false), (.slice none 0 0), (.bool false), (.slice none 0 0), (.bool false), (.slice none 0 0)] (some 4) rfl rfl (by kernel_rfl) rfl (fun b7 w7 g7 L7 q7 => ?_)
  replace L3 := L3.gr g5
  have ne3_7 := L3.ne q7
  have ne5_7 := L5.ne q7
  replace q7 := Nat.le_trans (Below.size hB) q7
  replace hB := Gr.trans hB g7
  refine k6 _ _ ?_
  try clear k6 K6
  simp only [p1, p2, p3, p4]
  refine sq_nil ?_
  refine k1 _ _ ?_
  try clear k1 K1
  refine wp_seq_k (fun K8 k8 => ?_)
  have gd18 := Gr.drew w7
  replace hB := Gr.trans hB gd18
  replace L3 := L3.gr (g7.trans gd18)
  replace L5 := L5.gr (g7.trans gd18)
  refine wp_region_ord (fun w' => Lc w' b3 #[uaa0, uaa1, uaa2, uaa3, uab0, uab1, uab2, uab3, uac0, uac1, uac2, uac3, uba0, uba1, uba2, uba3, ubb0, ubb1, ubb2, ubb3, ubc0, ubc1, ubc2, ubc3] 35 ∧ Lc w' b5 #[vaa0, vaa1, vaa2, vaa3, vab0, vab1, vab2, vab3, vac0, vac1, vac2, vac3] 33) [(true, 0), (true, 1), (true, 2), (true, 3), (true, 4), (false, 5), (false, 6), (false, 7)] (by kernel_rfl) (by kernel_rfl) (by kernel_rfl) (by decide) (fun _ _ _ _ _ h => h) ⟨L3, L5⟩ ?_
  refine ord_pure (some 5) (.pointer (some ⟨b3, 12, none⟩)) rfl rfl rfl (fun w' hS => (rvk (by kernel_rfl))) ?_
  simp only [p1, p2, p3, p4]
  refine ord_pure (some 6) (.agg #[uba0, uba1, uba2, uba3, ubb0, ubb1, ubb2, ubb3, ubc0, ubc1, ubc2, ubc3]) rfl rfl rfl (fun w' hS => (rv_load 33 _ b3 12 _ _ [uba0, uba1, uba2, uba3, ubb0, ubb1, ubb2, ubb3, ubc0, ubc1, ubc2, ubc3] rfl rfl hS.1 rfl (by kernel_rfl))) ?_
  simp only [p1, p2, p3, p4]
  refine ord_pure (some 7) (.pointer (some ⟨b3, 0, none⟩)) rfl rfl rfl (fun w' hS => (rvk (by kernel_rfl))) ?_
  simp only [p1, p2, p3, p4]
  refine ord_pure (some 8) (.agg #[uaa0, uaa1, uaa2, uaa3, uab0, uab1, uab2, uab3, uac0, uac1, uac2, uac3]) rfl rfl rfl (fun w' hS => (rv_load 33 _ b3 0 _ _ [uaa0, uaa1, uaa2, uaa3, uab0, uab1, uab2, uab3, uac0, uac1, uac2, uac3] rfl rfl hS.1 rfl (by kernel_rfl))) ?_
  simp only [p1, p2, p3, p4]
  refine ord_pure (some 9) (.agg #[vaa0, vaa1, vaa2, vaa3, vab0, vab1, vab2, vab3, vac0, vac1, vac2, vac3]) rfl rfl rfl (fun w' hS => (rv_load 33 _ b5 0 _ _ [vaa0, vaa1, vaa2, vaa3, vab0, vab1, vab2, vab3, vac0, vac1, vac2, vac3] rfl rfl hS.2 rfl (by kernel_rfl))) ?_
  simp only [p1, p2, p3, p4]
  refine ord_eff rfl rfl (fun K19 k19 => ?_)
  have kq21 := g3.kp.trans (g5.kp.trans (g7.kp.trans gd18.kp))
  replace hua1 := hua1.kp kq21
  replace hua2 := hua2.kp kq21
  replace hua3 := hua3.kp kq21
  replace hva1 := hva1.kp kq21
  replace hva2 := hva2.kp kq21
  replace hva3 := hva3.kp kq21
  refine eff_call (some 10) rfl (by kernel_rfl) (cross_v hua1 hua2 hua3 hva1 hva2 hva3 (by omega)) ?_
  rintro e20 w20 ⟨⟨t20_0, t20_1, t20_2, t20_3, t20_4, t20_5, t20_6, t20_7, t20_8, t20_9, t20_10, t20_11, rfl, h20a, h20b, h20c⟩, g20⟩
  refine ⟨_, rfl, ?_⟩
  replace hB := Gr.trans hB g20
  replace L3 := L3.gr g20
  replace L5 := L5.gr g20
  refine k19 _ _ ⟨L3, L5⟩ ?_
  try clear k19 K19
  simp only [p1, p2, p3, p4]
  refine ord_eff rfl rfl (fun K22 k22 => ?_)
  have kq24 := g3.kp.trans (g5.kp.trans (g7.kp.trans (gd18.kp.trans g20.kp)))
  replace hub1 := hub1.kp kq24
  replace hub2 := hub2.kp kq24
  replace hub3 := hub3.kp kq24
  refine eff_call (some 11) rfl (by kernel_rfl) (vadd_v hub1 hub2 hub3 h20a h20b h20c (by omega)) ?_
  rintro e23 w23 ⟨⟨t23_0, t23_1, t23_2, t23_3, t23_4, t23_5, t23_6, t23_7, t23_8, t23_9, t23_10, t23_11, rfl, h23a, h23b, h23c⟩, g23⟩
  refine ⟨_, rfl, ?_⟩
  replace hB := Gr.trans hB g23
  replace L3 := L3.gr g23
  replace L5 := L5.gr g23
  refine k22 _ _ ⟨L3, L5⟩ ?_
  try clear k22 K22
  simp only [p1, p2, p3, p4]
  refine ord_eff rfl rfl (fun K25 k25 => ?_)
  replace L7 := L7.gr (gd18.trans (g20.trans g23))
  refine eff_store 33 _ _ b7 0 (.agg #[t23_0, t23_1, t23_2, t23_3, t23_4, t23_5, t23_6, t23_7, t23_8, t23_9, t23_10, t23_11]) [t23_0, t23_1, t23_2, t23_3, t23_4, t23_5, t23_6, t23_7, t23_8, t23_9, t23_10, t23_11] _ #[t23_0, t23_1, t23_2, t23_3, t23_4, t23_5, t23_6, t23_7, t23_8, t23_9, t23_10, t23_11] _ rfl rfl rfl rfl rfl L7 (by kernel_rfl) (Nat.le_of_ble_eq_true rfl) ⟨h23a.one0, h23a.one1, h23a.one2, h23a.one3, h23b.one0, h23b.one1, h23b.one2, h23b.one3, h23c.one0, h23c.one1, h23c.one2, h23c.one3, trivial⟩ (by kernel_rfl) (fun w26 st26 N26 => ?_)
  have kp26 := st26.kp L7 (by decide)
  replace hB := st26.gr hB q7
  replace L7 := N26
  replace L3 := st26.lc L3 ne3_7
  replace L5 := st26.lc L5 ne5_7
  refine k25 _ _ ⟨L3, L5⟩ ?_
  try clear k25 K25
  refine ord_nil ?_
  refine k8 _ _ ?_
  try clear k8 K8
  refine wp_ret ?_
  refine bodyPost_ret (v := (.agg #[t23_0, t23_1, t23_2, t23_3, t23_4, t23_5, t23_6, t23_7, t23_8, t23_9, t23_10, t23_11])) (ret_cell _ _ _ rfl rfl L7 (by kernel_rfl)) rfl ⟨?_, hB⟩
  replace h23a := h23a.kp kp26
  replace h23b := h23b.kp kp26
  replace h23c := h23c.kp kp26
  exact ⟨_, _, _, _, _, _, _, _, _, _, _, _, rfl, h23a, h23b, h23c⟩

set_option maxRecDepth 100000 in
set_option maxHeartbeats 1000000 in
theorem ttrans_v {k : Nat} {uaa0 uaa1 uaa2 uaa3 uab0 uab1 uab2 uab3 uac0 uac1 uac2 uac3 : Value} {a1 a2 a3 : Rat} {w : World} (hua1 : IsRat w k uaa0 uaa1 uaa2 uaa3 a1) (hua2 : IsRat w k uab0 uab1 uab2 uab3 a2) (hua3 : IsRat w k uac0 uac1 uac2 uac3 a3) (_hk : k ≤ 25000) :
    Calls Tryd.prog 25 #[(.agg #[uaa0, uaa1, uaa2, uaa3, uab0, uab1, uab2, uab3, uac0, uac1, uac2, uac3])] w fun e w' => (∃ t0 t1 t2 t3 t4 t5 t6 t7 t8 t9 t10 t11 t12 t13 t14 t15 t16 t17 t18 t19 t20 t21 t22 t23, e = .returned (.agg #[t0, t1, t2, t3, t4, t5, t6, t7, t8, t9, t10, t11, t12, t13, t14, t15, t16, t17, t18, t19, t20, t21, t22, t23]) ∧ IsRat w' 64 t0 t1 t2 t3 (0) ∧ IsRat w' 64 t4 t5 t6 t7 (0) ∧ IsRat w' 64 t8 t9 t10 t11 (0) ∧ IsRat w' k t12 t13 t14 t15 (a1) ∧ IsRat w' k t16 t17 t18 t19 (a2) ∧ IsRat w' k t20 t21 t22 t23 (a3)) ∧ Gr w w' := by
  go_enter Tryd.func25, Tryd.ntmps25
  have hB := Gr.refl w
  refine wp_seq_k (fun K1 k1 => ?_)
  refine wp_region ?_
  simp only [List.size_toArray, List.length_cons, List.length_nil, Nat.reduceAdd, List.range, List.range.loop]
  refine sq_eff rfl (by kernel_rfl) (fun K2 k2 => ?_)
  refine eff_box 33 _ (.agg #[uaa0, uaa1, uaa2, uaa3, uab0, uab1, uab2, uab3, uac0, uac1, uac2, uac3]) #[uaa0, uaa1, uaa2, uaa3, uab0, uab1, uab2, uab3, uac0, uac1, uac2, uac3] (some 1) rfl rfl rfl rfl (fun b3 w3 g3 L3 q3 => ?_)
  replace q3 := Nat.le_trans (Below.size hB) q3
  replace hB := Gr.trans hB g3
  refine k2 _ _ ?_
  try clear k2 K2
  simp only [p1, p2, p3, p4]
  refine sq_eff rfl (by kernel_rfl) (fun K4 k4 => ?_)
  refine eff_alloc 35 (.agg #[(.bool false), (.slice none 0 0), (.bool false), (.slice none 0 0), (.bool false), (.slice none 0 0), (.bool false), (.slice none 0 0), (.bool false), (.slice none 0 0), (.bool false), (.slice none 0 0), (.bool false), (.slice none 0 0), (.bool false), (.slice none 0 0), (.bool false), (.slice none 0 0), (.bool false), (.slice none 0 0), (.bool false), (.slice none 0 0), (.bool false), (.slice none 0 0)]) #[(.bool false), (.slice none 0 0), (.bool false), (.slice none 0 0), (.bool false), (.slice none 0 0), (.bool false), (.slice none 0 0), (.bool false), (.slice none 0 0), (.bool false), (.slice none 0 0), (.bool false), (.slice none 0 0), (.bool false), (.slice none 0 0), (.bool false), (.slice none 0 0), (.bool false), (.slice none 0 0), (.bool false), (.slice none 0 0), (.bool false), (.slice none 0 0)] (some 2) rfl rfl (by kernel_rfl) rfl (fun b5 w5 g5 L5 q5 => ?_)
  have ne3_5 := L3.ne q5
  replace q5 := Nat.le_trans (Below.size hB) q5
  replace hB := Gr.trans hB g5
  refine k4 _ _ ?_
  try clear k4 K4
  simp only [p1, p2, p3, p4]
  refine sq_nil ?_
  refine k1 _ _ ?_
  try clear k1 K1
  refine wp_seq_k (fun K6 k6 => ?_)
  refine wp_region ?_
  simp only [List.size_toArray, List.length_cons, List.length_nil, Nat.reduceAdd, List.range, List.range.loop]
  replace L3 := L3.gr g5
  refine sq_val (some 3) (.agg #[uaa0, uaa1, uaa2, uaa3, uab0, uab1, uab2, uab3, uac0, uac1, uac2, uac3]) rfl rfl (by kernel_rfl) (rv_load 33 _ b3 0 _ _ [uaa0, uaa1, uaa2, uaa3, uab0, uab1, uab2, uab3, uac0, uac1, uac2, uac3] rfl rfl L3 rfl (by kernel_rfl)) ?_
  simp only [p1, p2, p3, p4]
  refine sq_val (some 4) (.agg #[(.bool false), (.slice none 0 0), (.bool false), (.slice none 0 0), (.bool false), (.slice none 0 0), (.bool false), (.slice none 0 0), (.bool false), (.slice none 0 0), (.bool false), (.slice none 0 0), uaa0, uaa1, uaa2, uaa3, uab0, uab1, uab2, uab3, uac0, uac1, uac2, uac3]) rfl rfl (by kernel_rfl) (rvk (by kernel_rfl)) ?_
  simp only [p1, p2, p3, p4]
  refine sq_eff rfl (by kernel_rfl) (fun K7 k7 => ?_)
  refine eff_store 35 _ _ b5 0 (.agg #[(.bool false), (.slice none 0 0), (.bool false), (.slice none 0 0), (.bool false), (.slice none 0 0), (.bool false), (.slice none 0 0), (.bool false), (.slice none 0 0), (.bool false), (.slice none 0 0), uaa0, uaa1, uaa2, uaa3, uab0, uab1, uab2, uab3, uac0, uac1, uac2, uac3]) [(.bool false), (.slice none 0 0), (.bool false), (.slice none 0 0), (.bool false), (.slice none 0 0), (.bool false), (.slice none 0 0), (.bool false), (.slice none 0 0), (.bool false), (.slice none 0 0), uaa0, uaa1, uaa2, uaa3, uab0, uab1, uab2, uab3, uac0, uac1, uac2, uac3] _ #[(.bool false), (.slice none 0 0), (.bool false), (.slice none 0 0), (.bool false), (.slice none 0 0), (.bool false), (.slice none 0 0), (.bool false), (.slice none 0 0), (.bool false), (.slice none 0 0), uaa0, uaa1, uaa2, uaa3, uab0, uab1, uab2, uab3, uac0, uac1, uac2, uac3] _ rfl rfl rfl rfl rfl L5 (by kernel_rfl) (Nat.le_of_ble_eq_true rfl) ⟨rfl, rfl, rfl, rfl, rfl, rfl, rfl, rfl, rfl, rfl, rfl, rfl, hua1.one0, hua1.one1, hua1.one2, hua1.one3, hua2.one0, hua2.one1, hua2.one2, hua2.one3, hua3.one0, hua3.one1, hua3.one2, hua3.one3, trivial⟩ (by kernel_rfl) (fun w8 st8 N8 => ?_)
  have kp8 := st8.kp L5 (by decide)
  replace hB := st8.gr hB q5
  replace L5 := N8
  refine k7 _ _ ?_
  try clear k7 K7
  refine sq_nil ?_
  refine k6 _ _ ?_
  try clear k6 K6
  refine wp_ret ?_
  refine bodyPost_ret (v := (.agg #[(.bool false), (.slice none 0 0), (.bool false), (.slice none 0 0), (.bool false), (.slice none 0 0), (.bool false), (.slice none 0 0), (.bool false), (.slice none 0 0), (.bool false), (.slice none 0 0), uaa0, uaa1, uaa2, uaa3, uab0, uab1, uab2, uab3, uac0, uac1, uac2, uac3])) (ret_cell _ _ _ rfl rfl L5 (by kernel_rfl)) rfl ⟨?_, hB⟩
  have kq9 := g3.kp.trans (g5.kp.trans kp8)
  replace hua1 := hua1.kp kq9
  replace hua2 := hua2.kp kq9
  replace hua3 := hua3.kp kq9
  exact ⟨_, _, _, _, _, _, _, _, _, _, _, _, _, _, _, _, _, _, _, _, _, _, _, _, rfl, (IsRat.zero _ (k := 64) (Nat.le_refl _)), (IsRat.zero _ (k := 64) (Nat.le_refl _)), (IsRat.zero _ (k := 64) (Nat.le_refl _)), hua1, hua2, hua3⟩

set_option maxRecDepth 100000 in
set_option maxHeartbeats 1000000 in
theorem trot_v {k m : Nat} {uaa0 uaa1 uaa2 uaa3 uab0 uab1 uab2 uab3 uac0 uac1 uac2 uac3 : Value} {a1 a2 a3 : Rat} {vaa0 vaa1 vaa2 vaa3 vab0 vab1 vab2 vab3 vac0 vac1 vac2 vac3 : Value} {c1 c2 c3 : Rat} {w : World} (hua1 : IsRat w k uaa0 uaa1 uaa2 uaa3 a1) (hua2 : IsRat w k uab0 uab1 uab2 uab3 a2) (hua3 : IsRat w k uac0 uac1 uac2 uac3 a3) (hva1 : IsRat w m vaa0 vaa1 vaa2 vaa3 c1) (hva2 : IsRat w m vab0 vab1 vab2 vab3 c2) (hva3 : IsRat w m vac0 vac1 vac2 vac3 c3) (_hk : k + m ≤ 20000) :
    Calls Tryd.prog 28 #[(.agg #[uaa0, uaa1, uaa2, uaa3, uab0, uab1, uab2, uab3, uac0, uac1, uac2, uac3]), (.agg #[vaa0, vaa1, vaa2, vaa3, vab0, vab1, vab2, vab3, vac0, vac1, vac2, vac3])] w fun e w' => (∃ t0 t1 t2 t3 t4 t5 t6 t7 t8 t9 t10 t11 t12 t13 t14 t15 t16 t17 t18 t19 t20 t21 t22 t23, e = .returned (.agg #[t0, t1, t2, t3, t4, t5, t6, t7, t8, t9, t10, t11, t12, t13, t14, t15, t16, t17, t18, t19, t20, t21, t22, t23]) ∧ IsRat w' k t0 t1 t2 t3 (a1) ∧ IsRat w' k t4 t5 t6 t7 (a2) ∧ IsRat w' k t8 t9 t10 t11 (a3) ∧ IsRat w' (m + k + (m + k) + 1) t12 t13 t14 t15 (c2 * a3 - c3 * a2) ∧ IsRat w' (m + k + (m + k) + 1) t16 t17 t18 t19 (c3 * a1 - c1 * a3) ∧ IsRat w' (m + k + (m + k) + 1) t20 t21 t22 t23 (c1 * a2 - c2 * a1)) ∧ Gr w w' := by
  go_enter Tryd.func28, Tryd.ntmps28
  have hB := Gr.refl w
  refine wp_seq_k (fun K1 k1 => ?_)
  refine wp_region ?_
  simp only [List.size_toArray, List.length_cons, List.length_nil, Nat.reduceAdd, List.range, List.range.loop]
  refine sq_eff rfl (by kernel_rfl) (fun K2 k2 => ?_)
  refine eff_box 33 _ (.agg #[uaa0, uaa1, uaa2, uaa3, uab0, uab1, uab2, uab3, uac0, uac1, uac2, uac3]) #[uaa0, uaa1, uaa2, uaa3, uab0, uab1, uab2, uab3, uac0, uac1, uac2, uac3] (some 2) rfl rfl rfl rfl (fun b3 w3 g3 L3 q3 => ?_)
  replace q3 := Nat.le_trans (Below.size hB) q3
  replace hB := Gr.trans hB g3
  refine k2 _ _ ?_
  try clear k2 K2
  simp only [p1, p2, p3, p4]
  refine sq_eff rfl (by kernel_rfl) (fun K4 k4 => ?_)
  refine eff_box 33 _ (.agg #[vaa0, vaa1, vaa2, vaa3, vab0, vab1, vab2, vab3, vac0, vac1, vac2, vac3]) #[vaa0, vaa1, vaa2, vaa3, vab0, vab1, vab2, vab3, vac0, vac1, vac2, vac3] (some 3) rfl rfl rfl rfl (fun b5 w5 g5 L5 q5 => ?_)
  have ne3_5 := L3.ne q5
  replace q5 := Nat.le_trans (Below.size hB) q5
  replace hB := Gr.trans hB g5
  refine k4 _ _ ?_
  try clear k4 K4
  simp only [p1, p2, p3, p4]
  refine sq_eff rfl (by kernel_rfl) (fun K6 k6 => ?_)
  refine eff_alloc 35 (.agg #[(.bool false), (.slice none 0 0), (.bool false), (.slice none 0 0), (.bool false), (.slice none 0 0), (.bool false), (.slice none 0 0), (.bool false), (.slice none 0 0), (.bool false), (.slice none 0 0), (.bool false), (.slice none 0 0), (.bool false), (.slice none 0 0), (.bool false), (.slice none 0 0), (.bool false), (.slice none 0 0), (.bool false), (.slice none 0 0), (.bool false), (.slice none 0 0)]) #[(.bool false), (.slice none 0 0), (.bool false), (.slice none 0 0), (.bool false), (.slice none 0 0), (.bool false), (.slice none 0 0), (.bool false), (.slice none 0 0), (.bool false), (.slice none 0 0), (.bool false), (.slice none 0 0), (.bool false), (.slice none 0 0), (.bool false), (.slice none 0 0), (.bool false), (.slice none 0 0), (.bool false), (.slice none 0 0), (.bool false), (.slice none 0 0)] (some 4) rfl rfl (by kernel_rfl) rfl (fun b7 w7 g7 L7 q7 => ?_)
  replace L3 := L3.gr g5
  have ne3_7 := L3.ne q7
  have ne5_7 := L5.ne q7
  replace q7 := Nat.le_trans (Below.size hB) q7
  replace hB := Gr.trans hB g7
  refine k6 _ _ ?_
  try clear k6 K6
  simp only [p1, p2, p3, p4]
  refine sq_nil ?_
  refine k1 _ _ ?_
  try clear k1 K1
  refine wp_seq_k (fun K8 k8 => ?_)
  have gd15 := Gr.drew w7
  replace hB := Gr.trans hB gd15
  replace L3 := L3.gr (g7.trans gd15)
  replace L5 := L5.gr (g7.trans gd15)
  refine wp_region_ord (fun w' => Lc w' b3 #[uaa0, uaa1, uaa2, uaa3, uab0, uab1, uab2, uab3, uac0, uac1, uac2, uac3] 33 ∧ Lc w' b5 #[vaa0, vaa1, vaa2, vaa3, vab0, vab1, vab2, vab3, vac0, vac1, vac2, vac3] 33) [(true, 0), (true, 1), (true, 2), (false, 3), (true, 4), (false, 5)] (by kernel_rfl) (by kernel_rfl) (by kernel_rfl) (by decide) (fun _ _ _ _ _ h => h) ⟨L3, L5⟩ ?_
  refine ord_pure (some 5) (.agg #[uaa0, uaa1, uaa2, uaa3, uab0, uab1, uab2, uab3, uac0, uac1, uac2, uac3]) rfl rfl rfl (fun w' hS => (rv_load 33 _ b3 0 _ _ [uaa0, uaa1, uaa2, uaa3, uab0, uab1, uab2, uab3, uac0, uac1, uac2, uac3] rfl rfl hS.1 rfl (by kernel_rfl))) ?_
  simp only [p1, p2, p3, p4]
  refine ord_pure (some 6) (.agg #[vaa0, vaa1, vaa2, vaa3, vab0, vab1, vab2, vab3, vac0, vac1, vac2, vac3]) rfl rfl rfl (fun w' hS => (rv_load 33 _ b5 0 _ _ [vaa0, vaa1, vaa2, vaa3, vab0, vab1, vab2, vab3, vac0, vac1, vac2, vac3] rfl rfl hS.2 rfl (by kernel_rfl))) ?_
  simp only [p1, p2, p3, p4]
  refine ord_pure (some 7) (.agg #[uaa0, uaa1, uaa2, uaa3, uab0, uab1, uab2, uab3, uac0, uac1, uac2, uac3]) rfl rfl rfl (fun w' hS => (rv_load 33 _ b3 0 _ _ [uaa0, uaa1, uaa2, uaa3, uab0, uab1, uab2, uab3, uac0, uac1, uac2, uac3] rfl rfl hS.1 rfl (by kernel_rfl))) ?_
  simp only [p1, p2, p3, p4]
  refine ord_eff rfl rfl (fun K16 k16 => ?_)
  have kq18 := g3.kp.trans (g5.kp.trans (g7.kp.trans gd15.kp))
  replace hva1 := hva1.kp kq18
  replace hva2 := hva2.kp kq18
  replace hva3 := hva3.kp kq18
  replace hua1 := hua1.kp kq18
  replace hua2 := hua2.kp kq18
  replace hua3 := hua3.kp kq18
  refine eff_call (some 8) rfl (by kernel_rfl) (cross_v hva1 hva2 hva3 hua1 hua2 hua3 (by omega)) ?_
  rintro e17 w17 ⟨⟨t17_0, t17_1, t17_2, t17_3, t17_4, t17_5, t17_6, t17_7, t17_8, t17_9, t17_10, t17_11, rfl, h17a, h17b, h17c⟩, g17⟩
  refine ⟨_, rfl, ?_⟩
  replace hB := Gr.trans hB g17
  replace L3 := L3.gr g17
  replace L5 := L5.gr g17
  refine k16 _ _ ⟨L3, L5⟩ ?_
  try clear k16 K16
  simp only [p1, p2, p3, p4]
  refine ord_pure (some 9) (.agg #[uaa0, uaa1, uaa2, uaa3, uab0, uab1, uab2, uab3, uac0, uac1, uac2, uac3, t17_0, t17_1, t17_2, t17_3, t17_4, t17_5, t17_6, t17_7, t17_8, t17_9, t17_10, t17_11]) rfl rfl rfl (fun w' hS => (rvk (by kernel_rfl))) ?_
  simp only [p1, p2, p3, p4]
  refine ord_eff rfl rfl (fun K19 k19 => ?_)
  replace L7 := L7.gr (gd15.trans g17)
  refine eff_store 35 _ _ b7 0 (.agg #[uaa0, uaa1, uaa2, uaa3, uab0, uab1, uab2, uab3, uac0, uac1, uac2, uac3, t17_0, t17_1, t17_2, t17_3, t17_4, t17_5, t17_6, t17_7, t17_8, t17_9, t17_10, t17_11]) [uaa0, uaa1, uaa2, uaa3, uab0, uab1, uab2, uab3, uac0, uac1, uac2, uac3, t17_0, t17_1, t17_2, t17_3, t17_4, t17_5, t17_6, t17_7, t17_8, t17_9, t17_10, t17_11] _ #[uaa0, uaa1, uaa2, uaa3, uab0, uab1, uab2, uab3, uac0, uac1, uac2, uac3, t17_0, t17_1, t17_2, t17_3, t17_4, t17_5, t17_6, t17_7, t17_8, t17_9, t17_10, t17_11] _ rfl rfl rfl rfl rfl L7 (by kernel_rfl) (Nat.le_of_ble_eq_true rfl) ⟨hua1.one0, hua1.one1, hua1.one2, hua1.one3, hua2.one0, hua2.one1, hua2.one2, hua2.one3, hua3.one0, hua3.one1, hua3.one2, hua3.one3, h17a.one0, h17a.one1, h17a.one2, h17a.one3, h17b.one0, h17b.one1, h17b.one2, h17b.one3, h17c.one0, h17c.one1, h17c.one2, h17c.one3, trivial⟩ (by kernel_rfl) (fun w20 st20 N20 => ?_)
  have kp20 := st20.kp L7 (by decide)
  replace hB := st20.gr hB q7
  replace L7 := N20
  replace L3 := st20.lc L3 ne3_7
  replace L5 := st20.lc L5 ne5_7
  refine k19 _ _ ⟨L3, L5⟩ ?_
  try clear k19 K19
  refine ord_nil ?_
  refine k8 _ _ ?_
  try clear k8 K8
  refine wp_ret ?_
  refine bodyPost_ret (v := (.agg #[uaa0, uaa1, uaa2, uaa3, uab0, uab1, uab2, uab3, uac0, uac1, uac2, uac3, t17_0, t17_1, t17_2, t17_3, t17_4, t17_5, t17_6, t17_7, t17_8, t17_9, t17_10, t17_11])) (ret_cell _ _ _ rfl rfl L7 (by kernel_rfl)) rfl ⟨?_, hB⟩
  have kq21 := g17.kp.trans kp20
  replace hua1 := hua1.kp kq21
  replace hua2 := hua2.kp kq21
  replace hua3 := hua3.kp kq21
  replace h17a := h17a.kp kp20
  replace h17b := h17b.kp kp20
  replace h17c := h17c.kp kp20
  exact ⟨_, _, _, _, _, _, _, _, _, _, _, _, _, _, _, _, _, _, _, _, _, _, _, _, rfl, hua1, hua2, hua3, h17a, h17b, h17c⟩

set_option maxRecDepth 100000 in
set_option maxHeartbeats 1000000 in
theorem tadd_v {k m : Nat} {uaa0 uaa1 uaa2 uaa3 uab0 uab1 uab2 uab3 uac0 uac1 uac2 uac3 : Value} {a1 a2 a3 : Rat} {uba0 uba1 uba2 uba3 ubb0 ubb1 ubb2 ubb3 ubc0 ubc1 ubc2 ubc3 : Value} {d1 d2 d3 : Rat} {vaa0 vaa1 vaa2 vaa3 vab0 vab1 vab2 vab3 vac0 vac1 vac2 vac3 : Value} {c1 c2 c3 : Rat} {vba0 vba1 vba2 vba3 vbb0 vbb1 vbb2 vbb3 vbc0 vbc1 vbc2 vbc3 : Value} {f1 f2 f3 : Rat} {w : World} (hua1 : IsRat w k uaa0 uaa1 uaa2 uaa3 a1) (hua2 : IsRat w k uab0 uab1 uab2 uab3 a2) (hua3 : IsRat w k uac0 uac1 uac2 uac3 a3) (hub1 : IsRat w k uba0 uba1 uba2 uba3 d1) (hub2 : IsRat w k ubb0 ubb1 ubb2 ubb3 d2) (hub3 : IsRat w k ubc0 ubc1 ubc2 ubc3 d3) (hva1 : IsRat w m vaa0 vaa1 vaa2 vaa3 c1) (hva2 : IsRat w m vab0 vab1 vab2 vab3 c2) (hva3 : IsRat w m vac0 vac1 vac2 vac3 c3) (hvb1 : IsRat w m vba0 vba1 vba2 vba3 f1) (hvb2 : IsRat w m vbb0 vbb1 vbb2 vbb3 f2) (hvb3 : IsRat w m vbc0 vbc1 vbc2 vbc3 f3) (_hk : k + m ≤ 20000) :
    Calls Tryd.prog 34 #[(.agg #[uaa0, uaa1, uaa2, uaa3, uab0, uab1, uab2, uab3, uac0, uac1, uac2, uac3, uba0, uba1, uba2, uba3, ubb0, ubb1, ubb2, ubb3, ubc0, ubc1, ubc2, ubc3]), (.agg #[vaa0, vaa1, vaa2, vaa3, vab0, vab1, vab2, vab3, vac0, vac1, vac2, vac3, vba0, vba1, vba2, vba3, vbb0, vbb1, vbb2, vbb3, vbc0, vbc1, vbc2, vbc3])] w fun e w' => (∃ t0 t1 t2 t3 t4 t5 t6 t7 t8 t9 t10 t11 t12 t13 t14 t15 t16 t17 t18 t19 t20 t21 t22 t23, e = .returned (.agg #[t0, t1, t2, t3, t4, t5, t6, t7, t8, t9, t10, t11, t12, t13, t14, t15, t16, t17, t18, t19, t20, t21, t22, t23]) ∧ IsRat w' (k + m + 1) t0 t1 t2 t3 (a1 + c1) ∧ IsRat w' (k + m + 1) t4 t5 t6 t7 (a2 + c2) ∧ IsRat w' (k + m + 1) t8 t9 t10 t11 (a3 + c3) ∧ IsRat w' (k + m + 1) t12 t13 t14 t15 (d1 + f1) ∧ IsRat w' (k + m + 1) t16 t17 t18 t19 (d2 + f2) ∧ IsRat w' (k + m + 1) t20 t21 t22 t23 (d3 + f3)) ∧ Gr w w' := by
  go_enter Tryd.func34, Tryd.ntmps34
  have hB := Gr.refl w
  refine wp_seq_k (fun K1 k1 => ?_)
  refine wp_region ?_
  simp only [List.size_toArray, List.length_cons, List.length_nil, Nat.reduceAdd, List.range, List.range.loop]
  refine sq_eff rfl (by kernel_rfl) (fun K2 k2 => ?_)
  refine eff_box 35 _ (.agg #[uaa0, uaa1, uaa2, uaa3, uab0, uab1, uab2, uab3, uac0, uac1, uac2, uac3, uba0, uba1, uba2, uba3, ubb0, ubb1, ubb2, ubb3, ubc0, ubc1, ubc2, ubc3]) #[uaa0, uaa1, uaa2, uaa3, uab0, uab1, uab2, uab3, uac0, uac1, uac2, uac3, uba0, uba1, uba2, uba3, ubb0, ubb1, ubb2, ubb3, ubc0, ubc1, ubc2, ubc3] (some 2) rfl rfl rfl rfl (fun b3 w3 g3 L3 q3 => ?_)
  replace q3 := Nat.le_trans (Below.size hB) q3
  replace hB := Gr.trans hB g3
  refine k2 _ _ ?_
  try clear k2 K2
  simp only [p1, p2, p3, p4]
  refine sq_eff rfl (by kernel_rfl) (fun K4 k4 => ?_)
  refine eff_box 35 _ (.agg #[vaa0, vaa1, vaa2, vaa3, vab0, vab1, vab2, vab3, vac0, vac1, vac2, vac3, vba0, vba1, vba2, vba3, vbb0, vbb1, vbb2, vbb3, vbc0, vbc1, vbc2, vbc3]) #[vaa0, vaa1, vaa2, vaa3, vab0, vab1, vab2, vab3, vac0, vac1, vac2, vac3, vba0, vba1, vba2, vba3, vbb0, vbb1, vbb2, vbb3, vbc0, vbc1, vbc2, vbc3] (some 3) rfl rfl rfl rfl (fun b5 w5 g5 L5 q5 => ?_)
  have ne3_5 := L3.ne q5
  replace q5 := Nat.le_trans (Below.size hB) q5
  replace hB := Gr.trans hB g5
  refine k4 _ _ ?_
  try clear k4 K4
  simp only [p1, p2, p3, p4]
  refine sq_eff rfl (by kernel_rfl) (fun K6 k6 => ?_)
  refine eff_alloc 35 (.agg #[(.bool false), (.slice none 0 0), (.bool false), (.slice none 0 0), (.bool false), (.slice none 0 0), (.bool false), (.slice none 0 0), (.bool false), (.slice none 0 0), (.bool false), (.slice none 0 0), (.bool false), (.slice none 0 0), (.bool false), (.slice none 0 0), (.bool false), (.slice none 0 0), (.bool false), (.slice none 0 0), (.bool false), (.slice none 0 0), (.bool false), (.slice none 0 0)]) #[(.bool false), (.slice none 0 0), (.bool false), (.slice none 0 0), (.bool false), (.slice none 0 0), (.bool false), (.slice none 0 0), (.bool false), (.slice none 0 0), (.bool false), (.slice none 0 0), (.bool false), (.slice none 0 0), (.bool false), (.slice none 0 0), (.bool false), (.slice none 0 0), (.bool false), (.slice none 0 0), (.bool false), (.slice none 0 0), (.bool false), (.slice none 0 0)] (some 4) rfl rfl (by kernel_rfl) rfl (fun b7 w7 g7 L7 q7 => ?_)
  replace L3 := L3.gr g5
  have ne3_7 := L3.ne q7
  have ne5_7 := L5.ne q7
  replace q7 := Nat.le_trans (Below.size hB) q7
  replace hB := Gr.trans hB g7
  refine k6 _ _ ?_
  try clear k6 K6
  simp only [p1, p2, p3, p4]
  refine sq_nil ?_
  refine k1 _ _ ?_
  try clear k1 K1
  refine wp_seq_k (fun K8 k8 => ?_)
  have gd18 := Gr.drew w7
  replace hB := Gr.trans hB gd18
  replace L3 := L3.gr (g7.trans gd18)
  replace L5 := L5.gr (g7.trans gd18)
  refine wp_region_ord (fun w' => Lc w' b3 #[uaa0, uaa1, uaa2, uaa3, uab0, uab1, uab2, uab3, uac0, uac1, uac2, uac3, uba0, uba1, uba2, uba3, ubb0, ubb1, ubb2, ubb3, ubc0, ubc1, ubc2, ubc3] 35 ∧ Lc w' b5 #[vaa0, vaa1, vaa2, vaa3, vab0, vab1, vab2, vab3, vac0, vac1, vac2, vac3, vba0, vba1, vba2, vba3, vbb0, vbb1, vbb2, vbb3, vbc0, vbc1, vbc2, vbc3] 35) [(true, 0), (true, 1), (true, 2), (true, 3), (true, 5), (true, 6), (true, 7), (true, 8), (false, 4), (false, 9), (true, 10), (false, 11)] (by kernel_rfl) (by kernel_rfl) (by kernel_rfl) (by decide) (fun _ _ _ _ _ h => h) ⟨L3, L5⟩ ?_
  refine ord_pure (some 5) (.pointer (some ⟨b3, 0, none⟩)) rfl rfl rfl (fun w' hS => (rvk (by kernel_rfl))) ?_
  simp only [p1, p2, p3, p4]
  refine ord_pure (some 6) (.agg #[uaa0, uaa1, uaa2, uaa3, uab0, uab1, uab2, uab3, uac0, uac1, uac2, uac3]) rfl rfl rfl (fun w' hS => (rv_load 33 _ b3 0 _ _ [uaa0, uaa1, uaa2, uaa3, uab0, uab1, uab2, uab3, uac0, uac1, uac2, uac3] rfl rfl hS.1 rfl (by kernel_rfl))) ?_
  simp only [p1, p2, p3, p4]
  refine ord_pure (some 7) (.pointer (some ⟨b5, 0, none⟩)) rfl rfl rfl (fun w' hS => (rvk (by kernel_rfl))) ?_
  simp only [p1, p2, p3, p4]
  refine ord_pure (some 8) (.agg #[vaa0, vaa1, vaa2, vaa3, vab0, vab1, vab2, vab3, vac0, vac1, vac2, vac3]) rfl rfl rfl (fun w' hS => (rv_load 33 _ b5 0 _ _ [vaa0, vaa1, vaa2, vaa3, vab0, vab1, vab2, vab3, vac0, vac1, vac2, vac3] rfl rfl hS.2 rfl (by kernel_rfl))) ?_
  simp only [p1, p2, p3, p4]
  refine ord_pure (some 10) (.pointer (some ⟨b3, 12, none⟩)) rfl rfl rfl (fun w' hS => (rvk (by kernel_rfl))) ?_
  simp only [p1, p2, p3, p4]
  refine ord_pure (some 11) (.agg #[uba0, uba1, uba2, uba3, ubb0, ubb1, ubb2, ubb3, ubc0, ubc1, ubc2, ubc3]) rfl rfl rfl (fun w' hS => (rv_load 33 _ b3 12 _ _ [uba0, uba1, uba2, uba3, ubb0, ubb1, ubb2, ubb3, ubc0, ubc1, ubc2, ubc3] rfl rfl hS.1 rfl (by kernel_rfl))) ?_
  simp only [p1, p2, p3, p4]
  refine ord_pure (some 12) (.pointer (some ⟨b5, 12, none⟩)) rfl rfl rfl (fun w' hS => (rvk (by kernel_rfl))) ?_
  simp only [p1, p2, p3, p4]
  refine ord_pure (some 13) (.agg #[vba0, vba1, vba2, vba3, vbb0, vbb1, vbb2, vbb3, vbc0, vbc1, vbc2, vbc3]) rfl rfl rfl (fun w' hS => (rv_load 33 _ b5 12 _ _ [vba0, vba1, vba2, vba3, vbb0, vbb1, vbb2, vbb3, vbc0, vbc1, vbc2, vbc3] rfl rfl hS.2 rfl (by kernel_rfl))) ?_
  simp only [p1, p2, p3, p4]
  refine ord_eff rfl rfl (fun K19 k19 => ?_)
  have kq21 := g3.kp.trans (g5.kp.trans (g7.kp.trans gd18.kp))
  replace hua1 := hua1.kp kq21
  replace hua2 := hua2.kp kq21
  replace hua3 := hua3.kp kq21
  replace hva1 := hva1.kp kq21
  replace hva2 := hva2.kp kq21
  replace hva3 := hva3.kp kq21
  refine eff_call (some 9) rfl (by kernel_rfl) (vadd_v hua1 hua2 hua3 hva1 hva2 hva3 (by omega)) ?_
  rintro e20 w20 ⟨⟨t20_0, t20_1, t20_2, t20_3, t20_4, t20_5, t20_6, t20_7, t20_8, t20_9, t20_10, t20_11, rfl, h20a, h20b, h20c⟩, g20⟩
  refine ⟨_, rfl, ?_⟩
  replace hB := Gr.trans hB g20
  replace L3 := L3.gr g20
  replace L5 := L5.gr g20
  refine k19 _ _ ⟨L3, L5⟩ ?_
  try clear k19 K19
  simp only [p1, p2, p3, p4]
  refine ord_eff rfl rfl (fun K22 k22 => ?_)
  have kq24 := g3.kp.trans (g5.kp.trans (g7.kp.trans (gd18.kp.trans g20.kp)))
  replace hub1 := hub1.kp kq24
  replace hub2 := hub2.kp kq24
  replace hub3 := hub3.kp kq24
  replace hvb1 := hvb1.kp kq24
  replace hvb2 := hvb2.kp kq24
  replace hvb3 := hvb3.kp kq24
  refine eff_call (some 14) rfl (by kernel_rfl) (vadd_v hub1 hub2 hub3 hvb1 hvb2 hvb3 (by omega)) ?_
  rintro e23 w23 ⟨⟨t23_0, t23_1, t23_2, t23_3, t23_4, t23_5, t23_6, t23_7, t23_8, t23_9, t23_10, t23_11, rfl, h23a, h23b, h23c⟩, g23⟩
  refine ⟨_, rfl, ?_⟩
  replace hB := Gr.trans hB g23
  replace L3 := L3.gr g23
  replace L5 := L5.gr g23
  refine k22 _ _ ⟨L3, L5⟩ ?_
  try clear k22 K22
  simp only [p1, p2, p3, p4]
  refine ord_pure (some 15) (.agg #[t20_0, t20_1, t20_2, t20_3, t20_4, t20_5, t20_6, t20_7, t20_8, t20_9, t20_10, t20_11, t23_0, t23_1, t23_2, t23_3, t23_4, t23_5, t23_6, t23_7, t23_8, t23_9, t23_10, t23_11]) rfl rfl rfl (fun w' hS => (rvk (by kernel_rfl))) ?_
  simp only [p1, p2, p3, p4]
  refine ord_eff rfl rfl (fun K25 k25 => ?_)
  replace L7 := L7.gr (gd18.trans (g20.trans g23))
  refine eff_store 35 _ _ b7 0 (.agg #[t20_0, t20_1, t20_2, t20_3, t20_4, t20_5, t20_6, t20_7, t20_8, t20_9, t20_10, t20_11, t23_0, t23_1, t23_2, t23_3, t23_4, t23_5, t23_6, t23_7, t23_8, t23_9, t23_10, t23_11]) [t20_0, t20_1, t20_2, t20_3, t20_4, t20_5, t20_6, t20_7, t20_8, t20_9, t20_10, t20_11, t23_0, t23_1, t23_2, t23_3, t23_4, t23_5, t23_6, t23_7, t23_8, t23_9, t23_10, t23_11] _ #[t20_0, t20_1, t20_2, t20_3, t20_4, t20_5, t20_6, t20_7, t20_8, t20_9, t20_10, t20_11, t23_0, t23_1, t23_2, t23_3, t23_4, t23_5, t23_6, t23_7, t23_8, t23_9, t23_10, t23_11] _ rfl rfl rfl rfl rfl L7 (by kernel_rfl) (Nat.le_of_ble_eq_true rfl) ⟨h20a.one0, h20a.one1, h20a.one2, h20a.one3, h20b.one0, h20b.one1, h20b.one2, h20b.one3, h20c.one0, h20c.one1, h20c.one2, h20c.one3, h23a.one0, h23a.one1, h23a.one2, h23a.one3, h23b.one0, h23b.one1, h23b.one2, h23b.one3, h23c.one0, h23c.one1, h23c.one2, h23c.one3, trivial⟩ (by kernel_rfl) (fun w26 st26 N26 => ?_)
  have kp26 := st26.kp L7 (by decide)
  replace hB := st26.gr hB q7
  replace L7 := N26
  replace L3 := st26.lc L3 ne3_7
  replace L5 := st26.lc L5 ne5_7
  refine k25 _ _ ⟨L3, L5⟩ ?_
  try clear k25 K25
  refine ord_nil ?_
  refine k8 _ _ ?_
  try clear k8 K8
  refine wp_ret ?_
  refine bodyPost_ret (v := (.agg #[t20_0, t20_1, t20_2, t20_3, t20_4, t20_5, t20_6, t20_7, t20_8, t20_9, t20_10, t20_11, t23_0, t23_1, t23_2, t23_3, t23_4, t23_5, t23_6, t23_7, t23_8, t23_9, t23_10, t23_11])) (ret_cell _ _ _ rfl rfl L7 (by kernel_rfl)) rfl ⟨?_, hB⟩
  have kq27 := g23.kp.trans kp26
  replace h20a := h20a.kp kq27
  replace h20b := h20b.kp kq27
  replace h20c := h20c.kp kq27
  replace h23a := h23a.kp kp26
  replace h23b := h23b.kp kp26
  replace h23c := h23c.kp kp26
  exact ⟨_, _, _, _, _, _, _, _, _, _, _, _, _, _, _, _, _, _, _, _, _, _, _, _, rfl, h20a, h20b, h20c, h23a, h23b, h23c⟩

set_option maxRecDepth 100000 in
set_option maxHeartbeats 1000000 in
theorem tscale_v {k m : Nat} {s0 s1 s2 s3 : Value} {sq : Rat} {uaa0 uaa1 uaa2 uaa3 uab0 uab1 uab2 uab3 uac0 uac1 uac2 uac3 : Value} {a1 a2 a3 : Rat} {uba0 uba1 uba2 uba3 ubb0 ubb1 ubb2 ubb3 ubc0 ubc1 ubc2 ubc3 : Value} {d1 d2 d3 : Rat} {w : World} (hua1 : IsRat w k uaa0 uaa1 uaa2 uaa3 a1) (hua2 : IsRat w k uab0 uab1 uab2 uab3 a2) (hua3 : IsRat w k uac0 uac1 uac2 uac3 a3) (hub1 : IsRat w k uba0 uba1 uba2 uba3 d1) (hub2 : IsRat w k ubb0 ubb1 ubb2 ubb3 d2) (hub3 : IsRat w k ubc0 ubc1 ubc2 ubc3 d3) (hs : IsRat w m s0 s1 s2 s3 sq) (_hk : k + m ≤ 100000) :
    Calls Tryd.prog 35 #[(.agg #[uaa0, uaa1, uaa2, uaa3, uab0, uab1, uab2, uab3, uac0, uac1, uac2, uac3, uba0, uba1, uba2, uba3, ubb0, ubb1, ubb2, ubb3, ubc0, ubc1, ubc2, ubc3]), (.agg #[s0, s1, s2, s3])] w fun e w' => (∃ t0 t1 t2 t3 t4 t5 t6 t7 t8 t9 t10 t11 t12 t13 t14 t15 t16 t17 t18 t19 t20 t21 t22 t23, e = .returned (.agg #[t0, t1, t2, t3, t4, t5, t6, t7, t8, t9, t10, t11, t12, t13, t14, t15, t16, t17, t18, t19, t20, t21, t22, t23]) ∧ IsRat w' (m + k) t0 t1 t2 t3 (sq * a1) ∧ IsRat w' (m + k) t4 t5 t6 t7 (sq * a2) ∧ IsRat w' (m + k) t8 t9 t10 t11 (sq * a3) ∧ IsRat w' (m + k) t12 t13 t14 t15 (sq * d1) ∧ IsRat w' (m + k) t16 t17 t18 t19 (sq * d2) ∧ IsRat w' (m + k) t20 t21 t22 t23 (sq * d3)) ∧ Gr w w' := by
  go_enter Tryd.func35, Tryd.ntmps35
  have hB := Gr.refl w
  refine wp_seq_k (fun K1 k1 => ?_)
  refine wp_region ?_
  simp only [List.size_toArray, List.length_cons, List.length_nil, Nat.reduceAdd, List.range, List.range.loop]
  refine sq_eff rfl (by kernel_rfl) (fun K2 k2 => ?_)
  refine eff_box 35 _ (.agg #[uaa0, uaa1, uaa2, uaa3, uab0, uab1, uab2, uab3, uac0, uac1, uac2, uac3, uba0, uba1, uba2, uba3, ubb0, ubb1, ubb2, ubb3, ubc0, ubc1, ubc2, ubc3]) #[uaa0, uaa1, uaa2, uaa3, uab0, uab1, uab2, uab3, uac0, uac1, uac2, uac3, uba0, uba1, uba2, uba3, ubb0, ubb1, ubb2, ubb3, ubc0, ubc1, ubc2, ubc3] (some 2) rfl rfl rfl rfl (fun b3 w3 g3 L3 q3 => ?_)
  replace q3 := Nat.le_trans (Below.size hB) q3
  replace hB := Gr.trans hB g3
  refine k2 _ _ ?_
  try clear k2 K2
  simp only [p1, p2, p3, p4]
  refine sq_eff rfl (by kernel_rfl) (fun K4 k4 => ?_)
  refine eff_box 31 _ (.agg #[s0, s1, s2, s3]) #[s0, s1, s2, s3] (some 3) rfl rfl rfl rfl (fun b5 w5 g5 L5 q5 => ?_)
  have ne3_5 := L3.ne q5
  replace q5 := Nat.le_trans (Below.size hB) q5
  replace hB := Gr.trans hB g5
  refine k4 _ _ ?_
  try clear k4 K4
  simp only [p1, p2, p3, p4]
  refine sq_eff rfl (by kernel_rfl) (fun K6 k6 => ?_)
  refine eff_alloc 35 (.agg #[(.bool false), (.slice none 0 0), (.bool false), (.slice none 0 0), (.bool false), (.slice none 0 0), (.bool false), (.slice none 0 0), (.bool false), (.slice none 0 0), (.bool false), (.slice none 0 0), (.bool false), (.slice none 0 0), (.bool false), (.slice none 0 0), (.bool false), (.slice none 0 0), (.bool false), (.slice none 0 0), (.bool false), (.slice none 0 0), (.bool false), (.slice none 0 0)]) #[(.bool false), (.slice none 0 0), (.bool false), (.slice none 0 0), (.bool false), (.slice none 0 0), (.bool false), (.slice none 0 0), (.bool false), (.slice none 0 0), (.bool false), (.slice none 0 0), (.bool false), (.slice none 0 0), (.bool false), (.slice none 0 0), (.bool false), (.slice none 0 0), (.bool false), (.slice none 0 0), (.bool false), (.slice none 0 0), (.bool false), (.slice none 0 0)] (some 4) rfl rfl (by kernel_rfl) rfl (fun b7 w7 g7 L7 q7 => ?_)
  replace L3 := L3.gr g5
  have ne3_7 := L3.ne q7
  have ne5_7 := L5.ne q7
  replace q7 := Nat.le_trans (Below.size hB) q7
  replace hB := Gr.trans hB g7
  refine k6 _ _ ?_
  try clear k6 K6
  simp only [p1, p2, p3, p4]
  refine sq_nil ?_
  refine k1 _ _ ?_
  try clear k1 K1
  refine wp_seq_k (fun K8 k8 => ?_)
  have gd18 := Gr.drew w7
  replace hB := Gr.trans hB gd18
  replace L3 := L3.gr (g7.trans gd18)
  replace L5 := L5.gr (g7.trans gd18)
  refine wp_region_ord (fun w' => Lc w' b3 #[uaa0, uaa1, uaa2, uaa3, uab0, uab1, uab2, uab3, uac0, uac1, uac2, uac3, uba0, uba1, uba2, uba3, ubb0, ubb1, ubb2, ubb3, ubc0, ubc1, ubc2, ubc3] 35 ∧ Lc w' b5 #[s0, s1, s2, s3] 31) [(true, 0), (true, 1), (true, 2), (true, 4), (true, 5), (true, 6), (false, 3), (false, 7), (true, 8), (false, 9)] (by kernel_rfl) (by kernel_rfl) (by kernel_rfl) (by decide) (fun _ _ _ _ _ h => h) ⟨L3, L5⟩ ?_
  refine ord_pure (some 5) (.pointer (some ⟨b3, 0, none⟩)) rfl rfl rfl (fun w' hS => (rvk (by kernel_rfl))) ?_
  simp only [p1, p2, p3, p4]
  refine ord_pure (some 6) (.agg #[uaa0, uaa1, uaa2, uaa3, uab0, uab1, uab2, uab3, uac0, uac1, uac2, uac3]) rfl rfl rfl (fun w' hS => (rv_load 33 _ b3 0 _ _ [uaa0, uaa1, uaa2, uaa3, uab0, uab1, uab2, uab3, uac0, uac1, uac2, uac3] rfl rfl hS.1 rfl (by kernel_rfl))) ?_
  simp only [p1, p2, p3, p4]
  refine ord_pure (some 7) (.agg #[s0, s1, s2, s3]) rfl rfl rfl (fun w' hS => (rv_load 31 _ b5 0 _ _ [s0, s1, s2, s3] rfl rfl hS.2 rfl (by kernel_rfl))) ?_
  simp only [p1, p2, p3, p4]
  refine ord_pure (some 9) (.pointer (some ⟨b3, 12, none⟩)) rfl rfl rfl (fun w' hS => (rvk (by kernel_rfl))) ?_
  simp only [p1, p2, p3, p4]
  refine ord_pure (some 10) (.agg #[uba0, uba1, uba2, uba3, ubb0, ubb1, ubb2, ubb3, ubc0, ubc1, ubc2, ubc3]) rfl rfl rfl (fun w' hS => (rv_load 33 _ b3 12 _ _ [uba0, uba1, uba2, uba3, ubb0, ubb1, ubb2, ubb3, ubc0, ubc1, ubc2, ubc3] rfl rfl hS.1 rfl (by kernel_rfl))) ?_
  simp only [p1, p2, p3, p4]
  refine ord_pure (some 11) (.agg #[s0, s1, s2, s3]) rfl rfl rfl (fun w' hS => (rv_load 31 _ b5 0 _ _ [s0, s1, s2, s3] rfl rfl hS.2 rfl (by kernel_rfl))) ?_
  simp only [p1, p2, p3, p4]
  refine ord_eff rfl rfl (fun K19 k19 => ?_)
  have kq21 := g3.kp.trans (g5.kp.trans (g7.kp.trans gd18.kp))
  replace hua1 := hua1.kp kq21
  replace hua2 := hua2.kp kq21
  replace hua3 := hua3.kp kq21
  replace hs := hs.kp kq21
  refine eff_call (some 8) rfl (by kernel_rfl) (vscale_v hua1 hua2 hua3 hs (by omega)) ?_
  rintro e20 w20 ⟨⟨t20_0, t20_1, t20_2, t20_3, t20_4, t20_5, t20_6, t20_7, t20_8, t20_9, t20_10, t20_11, rfl, h20a, h20b, h20c⟩, g20⟩
  refine ⟨_, rfl, ?_⟩
  replace hB := Gr.trans hB g20
  replace L3 := L3.gr g20
  replace L5 := L5.gr g20
  refine k19 _ _ ⟨L3, L5⟩ ?_
  try clear k19 K19
  simp only [p1, p2, p3, p4]
  refine ord_eff rfl rfl (fun K22 k22 => ?_)
  have kq24 := g3.kp.trans (g5.kp.trans (g7.kp.trans (gd18.kp.trans g20.kp)))
  replace hub1 := hub1.kp kq24
  replace hub2 := hub2.kp kq24
  replace hub3 := hub3.kp kq24
  replace hs := hs.kp g20.kp
  refine eff_call (some 12) rfl (by kernel_rfl) (vscale_v hub1 hub2 hub3 hs (by omega)) ?_
  rintro e23 w23 ⟨⟨t23_0, t23_1, t23_2, t23_3, t23_4, t23_5, t23_6, t23_7, t23_8, t23_9, t23_10, t23_11, rfl, h23a, h23b, h23c⟩, g23⟩
  refine ⟨_, rfl, ?_⟩
  replace hB := Gr.trans hB g23
  replace L3 := L3.gr g23
  replace L5 := L5.gr g23
  refine k22 _ _ ⟨L3, L5⟩ ?_
  try clear k22 K22
  simp only [p1, p2, p3, p4]
  refine ord_pure (some 13) (.agg #[t20_0, t20_1, t20_2, t20_3, t20_4, t20_5, t20_6, t20_7, t20_8, t20_9, t20_10, t20_11, t23_0, t23_1, t23_2, t23_3, t23_4, t23_5, t23_6, t23_7, t23_8, t23_9, t23_10, t23_11]) rfl rfl rfl (fun w' hS => (rvk (by kernel_rfl))) ?_
  simp only [p1, p2, p3, p4]
  refine ord_eff rfl rfl (fun K25 k25 => ?_)
  replace L7 := L7.gr (gd18.trans (g20.trans g23))
  refine eff_store 35 _ _ b7 0 (.agg #[t20_0, t20_1, t20_2, t20_3, t20_4, t20_5, t20_6, t20_7, t20_8, t20_9, t20_10, t20_11, t23_0, t23_1, t23_2, t23_3, t23_4, t23_5, t23_6, t23_7, t23_8, t23_9, t23_10, t23_11]) [t20_0, t20_1, t20_2, t20_3, t20_4, t20_5, t20_6, t20_7, t20_8, t20_9, t20_10, t20_11, t23_0, t23_1, t23_2, t23_3, t23_4, t23_5, t23_6, t23_7, t23_8, t23_9, t23_10, t23_11] _ #[t20_0, t20_1, t20_2, t20_3, t20_4, t20_5, t20_6, t20_7, t20_8, t20_9, t20_10, t20_11, t23_0, t23_1, t23_2, t23_3, t23_4, t23_5, t23_6, t23_7, t23_8, t23_9, t23_10, t23_11] _ rfl rfl rfl rfl rfl L7 (by kernel_rfl) (Nat.le_of_ble_eq_true rfl) ⟨h20a.one0, h20a.one1, h20a.one2, h20a.one3, h20b.one0, h20b.one1, h20b.one2, h20b.one3, h20c.one0, h20c.one1, h20c.one2, h20c.one3, h23a.one0, h23a.one1, h23a.one2, h23a.one3, h23b.one0, h23b.one1, h23b.one2, h23b.one3, h23c.one0, h23c.one1, h23c.one2, h23c.one3, trivial⟩ (by kernel_rfl) (fun w26 st26 N26 => ?_)
  have kp26 := st26.kp L7 (by decide)
  replace hB := st26.gr hB q7
  replace L7 := N26
  replace L3 := st26.lc L3 ne3_7
  replace L5 := st26.lc L5 ne5_7
  refine k25 _ _ ⟨L3, L5⟩ ?_
  try clear k25 K25
  refine ord_nil ?_
  refine k8 _ _ ?_
  try clear k8 K8
  refine wp_ret ?_
  refine bodyPost_ret (v := (.agg #[t20_0, t20_1, t20_2, t20_3, t20_4, t20_5, t20_6, t20_7, t20_8, t20_9, t20_10, t20_11, t23_0, t23_1, t23_2, t23_3, t23_4, t23_5, t23_6, t23_7, t23_8, t23_9, t23_10, t23_11])) (ret_cell _ _ _ rfl rfl L7 (by kernel_rfl)) rfl ⟨?_, hB⟩
  have kq27 := g23.kp.trans kp26
  replace h20a := h20a.kp kq27
  replace h20b := h20b.kp kq27
  replace h20c := h20c.kp kq27
  replace h23a := h23a.kp kp26
  replace h23b := h23b.kp kp26
  replace h23c := h23c.kp kp26
  exact ⟨_, _, _, _, _, _, _, _, _, _, _, _, _, _, _, _, _, _, _, _, _, _, _, _, rfl, h20a, h20b, h20c, h23a, h23b, h23c⟩

end Go.Proofs.YtgopfikljndklaaDoor
