/- Printed by a program of the prover's: joined, Row, AxisOf. -/
import Derived.Test.YtgopfikljndklaaDoorGen9
namespace Go.Proofs.YtgopfikljndklaaDoor
open Go.RowKit

set_option maxRecDepth 100000 in
set_option maxHeartbeats 4000000 in
theorem joined_v {k m : Nat} {uaa0 uaa1 uaa2 uaa3 uab0 uab1 uab2 uab3 uac0 uac1 uac2 uac3 : Value} {a1 a2 a3 : Rat} {vaa0 vaa1 vaa2 vaa3 vab0 vab1 vab2 vab3 vac0 vac1 vac2 vac3 : Value} {c1 c2 c3 : Rat} {w : World} (hua1 : IsRat w k uaa0 uaa1 uaa2 uaa3 a1) (hua2 : IsRat w k uab0 uab1 uab2 uab3 a2) (hua3 : IsRat w k uac0 uac1 uac2 uac3 a3) (hva1 : IsRat w m vaa0 vaa1 vaa2 vaa3 c1) (hva2 : IsRat w m vab0 vab1 vab2 vab3 c2) (hva3 : IsRat w m vac0 vac1 vac2 vac3 c3) (_hk : k + m ≤ 25000) :
    Calls Tryd.prog 58 #[(.agg #[uaa0, uaa1, uaa2, uaa3, uab0, uab1, uab2, uab3, uac0, uac1, uac2, uac3]), (.agg #[vaa0, vaa1, vaa2, vaa3, vab0, vab1, vab2, vab3, vac0, vac1, vac2, vac3])] w fun e w' => (∃ b t0 t1 t2 t3 t4 t5 t6 t7 t8 t9 t10 t11 t12 t13 t14 t15 t16 t17 t18 t19 t20 t21 t22 t23, e = .returned (.slice (some ⟨b, 0, none⟩) 6 6) ∧ Lc w' b #[t0, t1, t2, t3, t4, t5, t6, t7, t8, t9, t10, t11, t12, t13, t14, t15, t16, t17, t18, t19, t20, t21, t22, t23] 31 ∧ w.heap.size ≤ b ∧ IsRat w' k t0 t1 t2 t3 (a1) ∧ IsRat w' k t4 t5 t6 t7 (a2) ∧ IsRat w' k t8 t9 t10 t11 (a3) ∧ IsRat w' m t12 t13 t14 t15 (c1) ∧ IsRat w' m t16 t17 t18 t19 (c2) ∧ IsRat w' m t20 t21 t22 t23 (c3)) ∧ Gr w w' := by
  go_enter Tryd.func58, Tryd.ntmps58
  have hB := Gr.refl w
  refine wp_seq_k (fun K1 k1 => ?_)
  refine wp_region ?_
  simp only [List.size_toArray, List.length_cons, List.length_nil, Nat.reduceAdd, List.range, List.range.loop]
  refine sq_eff rfl (by kernel_rfl) (fun K2 k2 => ?_)
  refine eff_box 33 _ (.agg #[uaa0, uaa1, uaa2, uaa3, uab0, uab1, uab2, uab3, uac0, uac1, uac2, uac3]) #[uaa0, uaa1, uaa2, uaa3, uab0, uab1, uab2, uab3, uac0, uac1, uac2, uac3] (some 2) rfl rfl rfl rfl (fun b3 w3 g3 L3 q3 => ?_)
  replace q3 := Nat.le_trans (Below.size hB) q3
  replace hB := Gr.trans hB g3
  refine k2 _ _ ?_
  try clear k2 K2
  simp only [p1, p2, p3, p4]
  refine sq_eff rfl (by kernel_rfl) (fun K4 k4 => ?_)
  refine eff_box 33 _ (.agg #[vaa0, vaa1, vaa2, vaa3, vab0, vab1, vab2, vab3, vac0, vac1, vac2, vac3]) #[vaa0, vaa1, vaa2, vaa3, vab0, vab1, vab2, vab3, vac0, vac1, vac2, vac3] (some 3) rfl rfl rfl rfl (fun b5 w5 g5 L5 q5 => ?_)
  have ne3_5 := L3.ne q5
  replace q5 := Nat.le_trans (Below.size hB) q5
  replace hB := Gr.trans hB g5
  refine k4 _ _ ?_
  try clear k4 K4
  simp only [p1, p2, p3, p4]
  refine sq_val (some 4) (.slice none 0 0) rfl rfl (by kernel_rfl) (rvk (by kernel_rfl)) ?_
  simp only [p1, p2, p3, p4]
  refine sq_nil ?_
  refine k1 _ _ ?_
  try clear k1 K1
  refine wp_seq_k (fun K6 k6 => ?_)
  refine wp_region ?_
  simp only [List.size_toArray, List.length_cons, List.length_nil, Nat.reduceAdd, List.range, List.range.loop]
  refine sq_eff rfl (by kernel_rfl) (fun K7 k7 => ?_)
  refine eff_make 64 31 (.agg #[(.bool false), (.slice none 0 0), (.bool false), (.slice none 0 0)]) 6 6 4 #[(.bool false), (.slice none 0 0), (.bool false), (.slice none 0 0), (.bool false), (.slice none 0 0), (.bool false), (.slice none 0 0), (.bool false), (.slice none 0 0), (.bool false), (.slice none 0 0), (.bool false), (.slice none 0 0), (.bool false), (.slice none 0 0), (.bool false), (.slice none 0 0), (.bool false), (.slice none 0 0), (.bool false), (.slice none 0 0), (.bool false), (.slice none 0 0)] (some 7) rfl rfl rfl rfl (by kernel_rfl) (by kernel_rfl) (by kernel_rfl) (by kernel_rfl) (fun b8 w8 g8 L8 q8 => ?_)
  replace L3 := L3.gr g5
  have ne3_8 := L3.ne q8
  have ne5_8 := L5.ne q8
  replace q8 := Nat.le_trans (Below.size hB) q8
  replace hB := Gr.trans hB g8
  refine k7 _ _ ?_
  try clear k7 K7
  simp only [p1, p2, p3, p4]
  refine sq_val (some 5) (.slice (some ⟨b8, 0, none⟩) 6 6) rfl rfl (by kernel_rfl) (rvk (by kernel_rfl)) ?_
  simp only [p1, p2, p3, p4]
  refine sq_nil ?_
  refine k6 _ _ ?_
  try clear k6 K6
  refine wp_seq_k (fun K9 k9 => ?_)
  refine wp_seq_k (fun K10 k10 => ?_)
  refine wp_region ?_
  simp only [List.size_toArray, List.length_cons, List.length_nil, Nat.reduceAdd, List.range, List.range.loop]
  refine sq_val (some 8) (.int .i64 0) rfl rfl (by kernel_rfl) (rvk (by kernel_rfl)) ?_
  simp only [p1, p2, p3, p4]
  refine sq_nil ?_
  refine k10 _ _ ?_
  try clear k10 K10
  refine wp_block ?_
  refine wp_loop_rounds 4 ?_
  show Code.wp _ _ _ _ _
  refine wp_seq_k (fun K11 k11 => ?_)
  refine wp_region ?_
  simp only [List.size_toArray, List.length_cons, List.length_nil, Nat.reduceAdd, List.range, List.range.loop]
  refine sq_val (some 9) (.bool true) rfl rfl (by kernel_rfl) (rvk (by kernel_rfl)) ?_
  simp only [p1, p2, p3, p4]
  refine sq_nil ?_
  refine k11 _ _ ?_
  try clear k11 K11
  refine wp_seq_k (fun K12 k12 => ?_)
  refine wp_cond_true rfl ?_
  refine wp_skip ?_
  refine k12 _ _ ?_
  try clear k12 K12
  refine wp_seq_k (fun K13 k13 => ?_)
  refine wp_block ?_
  refine wp_seq_k (fun K14 k14 => ?_)
  refine wp_region ?_
  simp only [List.size_toArray, List.length_cons, List.length_nil, Nat.reduceAdd, List.range, List.range.loop]
  refine sq_val (some 10) (.int .i64 0) rfl rfl (by kernel_rfl) (rvk (by kernel_rfl)) ?_
  simp only [p1, p2, p3, p4]
  refine sq_val (some 6) (.int .i64 0) rfl rfl (by kernel_rfl) (rvk (by kernel_rfl)) ?_
  simp only [p1, p2, p3, p4]
  refine sq_nil ?_
  refine k14 _ _ ?_
  try clear k14 K14
  have gd20 := Gr.drew w8
  replace hB := Gr.trans hB gd20
  replace L3 := L3.gr (g8.trans gd20)
  replace L5 := L5.gr (g8.trans gd20)
  refine wp_region_ord (fun w' => Lc w' b3 #[uaa0, uaa1, uaa2, uaa3, uab0, uab1, uab2, uab3, uac0, uac1, uac2, uac3] 33 ∧ Lc w' b5 #[vaa0, vaa1, vaa2, vaa3, vab0, vab1, vab2, vab3, vac0, vac1, vac2, vac3] 33) [(true, 0), (true, 1), (true, 2), (true, 3), (true, 4), (true, 5), (true, 6), (true, 7), (true, 8), (true, 9), (true, 10), (true, 11), (false, 12), (true, 13), (false, 14)] (by kernel_rfl) (by kernel_rfl) (by kernel_rfl) (by decide) (fun _ _ _ _ _ h => h) ⟨L3, L5⟩ ?_
  refine ord_pure (some 11) (.slice (some ⟨b8, 0, none⟩) 6 6) rfl rfl rfl (fun w' hS => (rvk (by kernel_rfl))) ?_
  simp only [p1, p2, p3, p4]
  refine ord_pure (some 12) (.int .i64 0) rfl rfl rfl (fun w' hS => (rvk (by kernel_rfl))) ?_
  simp only [p1, p2, p3, p4]
  refine ord_pure (some 13) (.slice (some ⟨b8, 0, none⟩) 6 6) rfl rfl rfl (fun w' hS => (rvk (by kernel_rfl))) ?_
  simp only [p1, p2, p3, p4]
  refine ord_pure (some 14) (.int .i64 0) rfl rfl rfl (fun w' hS => (rvk (by kernel_rfl))) ?_
  simp only [p1, p2, p3, p4]
  refine ord_pure (some 15) (.int .i64 3) rfl rfl rfl (fun w' hS => (rvk (by kernel_rfl))) ?_
  simp only [p1, p2, p3, p4]
  refine ord_pure (some 16) (.int .i64 0) rfl rfl rfl (fun w' hS => (rvk (by kernel_rfl))) ?_
  simp only [p1, p2, p3, p4]
  refine ord_pure (some 17) (.pointer (some ⟨b3, 0, none⟩)) rfl rfl rfl (fun w' hS => (rvk (by kernel_rfl))) ?_
  simp only [p1, p2, p3, p4]
  refine ord_pure (some 18) (.agg #[uaa0, uaa1, uaa2, uaa3]) rfl rfl rfl (fun w' hS => (rv_load 31 _ b3 0 _ _ [uaa0, uaa1, uaa2, uaa3] rfl rfl hS.1 rfl (by kernel_rfl))) ?_
  simp only [p1, p2, p3, p4]
  refine ord_pure (some 19) (.int .i64 0) rfl rfl rfl (fun w' hS => (rvk (by kernel_rfl))) ?_
  simp only [p1, p2, p3, p4]
  refine ord_pure (some 20) (.pointer (some ⟨b5, 0, none⟩)) rfl rfl rfl (fun w' hS => (rvk (by kernel_rfl))) ?_
  simp only [p1, p2, p3, p4]
  refine ord_pure (some 21) (.agg #[vaa0, vaa1, vaa2, vaa3]) rfl rfl rfl (fun w' hS => (rv_load 31 _ b5 0 _ _ [vaa0, vaa1, vaa2, vaa3] rfl rfl hS.2 rfl (by kernel_rfl))) ?_
  simp only [p1, p2, p3, p4]
  refine ord_pure (some 22) (.pointer (some ⟨b8, 0, none⟩)) rfl rfl rfl (fun w' hS => (rvk (by kernel_rfl))) ?_
  simp only [p1, p2, p3, p4]
  refine ord_eff rfl rfl (fun K21 k21 => ?_)
  replace L8 := L8.gr gd20
  refine eff_store 31 _ _ b8 0 (.agg #[uaa0, uaa1, uaa2, uaa3]) [uaa0, uaa1, uaa2, uaa3] _ #[uaa0, uaa1, uaa2, uaa3, (.bool false), (.slice none 0 0), (.bool false), (.slice none 0 0), (.bool false), (.slice none 0 0), (.bool false), (.slice none 0 0), (.bool false), (.slice none 0 0), (.bool false), (.slice none 0 0), (.bool false), (.slice none 0 0), (.bool false), (.slice none 0 0), (.bool false), (.slice none 0 0), (.bool false), (.slice none 0 0)] _ rfl rfl rfl rfl rfl L8 (by kernel_rfl) (Nat.le_of_ble_eq_true rfl) ⟨hua1.one0, hua1.one1, hua1.one2, hua1.one3, trivial⟩ (by kernel_rfl) (fun w22 st22 N22 => ?_)
  have kp22 := st22.kp L8 (by decide)
  replace hB := st22.gr hB q8
  replace L8 := N22
  replace L3 := st22.lc L3 ne3_8
  replace L5 := st22.lc L5 ne5_8
  refine k21 _ _ ⟨L3, L5⟩ ?_
  try clear k21 K21
  refine ord_pure (some 23) (.pointer (some ⟨b8, 12, none⟩)) rfl rfl rfl (fun w' hS => (rvk (by kernel_rfl))) ?_
  simp only [p1, p2, p3, p4]
  refine ord_eff rfl rfl (fun K23 k23 => ?_)
  refine eff_store 31 _ _ b8 12 (.agg #[vaa0, vaa1, vaa2, vaa3]) [vaa0, vaa1, vaa2, vaa3] _ #[uaa0, uaa1, uaa2, uaa3, (.bool false), (.slice none 0 0), (.bool false), (.slice none 0 0), (.bool false), (.slice none 0 0), (.bool false), (.slice none 0 0), vaa0, vaa1, vaa2, vaa3, (.bool false), (.slice none 0 0), (.bool false), (.slice none 0 0), (.bool false), (.slice none 0 0), (.bool false), (.slice none 0 0)] _ rfl rfl rfl rfl rfl L8 (by kernel_rfl) (Nat.le_of_ble_eq_true rfl) ⟨hva1.one0, hva1.one1, hva1.one2, hva1.one3, trivial⟩ (by kernel_rfl) (fun w24 st24 N24 => ?_)
  have kp24 := st24.kp L8 (by decide)
  replace hB := st24.gr hB q8
  replace L8 := N24
  replace L3 := st24.lc L3 ne3_8
  replace L5 := st24.lc L5 ne5_8
  refine k23 _ _ ⟨L3, L5⟩ ?_
  try clear k23 K23
  refine ord_nil ?_
  refine k13 _ _ ?_
  try clear k13 K13
  refine wp_region ?_
  simp only [List.size_toArray, List.length_cons, List.length_nil, Nat.reduceAdd, List.range, List.range.loop]
  refine sq_val (some 24) (.int .i64 1) rfl rfl (by kernel_rfl) (rvk (by kernel_rfl)) ?_
  simp only [p1, p2, p3, p4]
  refine sq_val (some 8) (.int .i64 1) rfl rfl (by kernel_rfl) (rvk (by kernel_rfl)) ?_
  simp only [p1, p2, p3, p4]
  refine sq_nil ?_
  show Code.rounds _ _ _ _ _ _
  show Code.wp _ _ _ _ _
  refine wp_seq_k (fun K25 k25 => ?_)
  refine wp_region ?_
  simp only [List.size_toArray, List.length_cons, List.length_nil, Nat.reduceAdd, List.range, List.range.loop]
  refine sq_val (some 9) (.bool true) rfl rfl (by kernel_rfl) (rvk (by kernel_rfl)) ?_
  simp only [p1, p2, p3, p4]
  refine sq_nil ?_
  refine k25 _ _ ?_
  try clear k25 K25
  refine wp_seq_k (fun K26 k26 => ?_)
  refine wp_cond_true rfl ?_
  refine wp_skip ?_
  refine k26 _ _ ?_
  try clear k26 K26
  refine wp_seq_k (fun K27 k27 => ?_)
  refine wp_block ?_
  refine wp_seq_k (fun K28 k28 => ?_)
  refine wp_region ?_
  simp only [List.size_toArray, List.length_cons, List.length_nil, Nat.reduceAdd, List.range, List.range.loop]
  refine sq_val (some 10) (.int .i64 1) rfl rfl (by kernel_rfl) (rvk (by kernel_rfl)) ?_
  simp only [p1, p2, p3, p4]
  refine sq_val (some 6) (.int .i64 1) rfl rfl (by kernel_rfl) (rvk (by kernel_rfl)) ?_
  simp only [p1, p2, p3, p4]
  refine sq_nil ?_
  refine k28 _ _ ?_
  try clear k28 K28
  have gd34 := Gr.drew w24
  replace hB := Gr.trans hB gd34
  replace L3 := L3.gr gd34
  replace L5 := L5.gr gd34
  refine wp_region_ord (fun w' => Lc w' b3 #[uaa0, uaa1, uaa2, uaa3, uab0, uab1, uab2, uab3, uac0, uac1, uac2, uac3] 33 ∧ Lc w' b5 #[vaa0, vaa1, vaa2, vaa3, vab0, vab1, vab2, vab3, vac0, vac1, vac2, vac3] 33) [(true, 0), (true, 1), (true, 2), (true, 3), (true, 4), (true, 5), (true, 6), (true, 7), (true, 8), (true, 9), (true, 10), (true, 11), (false, 12), (true, 13), (false, 14)] (by kernel_rfl) (by kernel_rfl) (by kernel_rfl) (by decide) (fun _ _ _ _ _ h => h) ⟨L3, L5⟩ ?_
  refine ord_pure (some 11) (.slice (some ⟨b8, 0, none⟩) 6 6) rfl rfl rfl (fun w' hS => (rvk (by kernel_rfl))) ?_
  simp only [p1, p2, p3, p4]
  refine ord_pure (some 12) (.int .i64 1) rfl rfl rfl (fun w' hS => (rvk (by kernel_rfl))) ?_
  simp only [p1, p2, p3, p4]
  refine ord_pure (some 13) (.slice (some ⟨b8, 0, none⟩) 6 6) rfl rfl rfl (fun w' hS => (rvk (by kernel_rfl))) ?_
  simp only [p1, p2, p3, p4]
  refine ord_pure (some 14) (.int .i64 1) rfl rfl rfl (fun w' hS => (rvk (by kernel_rfl))) ?_
  simp only [p1, p2, p3, p4]
  refine ord_pure (some 15) (.int .i64 4) rfl rfl rfl (fun w' hS => (rvk (by kernel_rfl))) ?_
  simp only [p1, p2, p3, p4]
  refine ord_pure (some 16) (.int .i64 1) rfl rfl rfl (fun w' hS => (rvk (by kernel_rfl))) ?_
  simp only [p1, p2, p3, p4]
  refine ord_pure (some 17) (.pointer (some ⟨b3, 4, none⟩)) rfl rfl rfl (fun w' hS => (rvk (by kernel_rfl))) ?_
  simp only [p1, p2, p3, p4]
  refine ord_pure (some 18) (.agg #[uab0, uab1, uab2, uab3]) rfl rfl rfl (fun w' hS => (rv_load 31 _ b3 4 _ _ [uab0, uab1, uab2, uab3] rfl rfl hS.1 rfl (by kernel_rfl))) ?_
  simp only [p1, p2, p3, p4]
  refine ord_pure (some 19) (.int .i64 1) rfl rfl rfl (fun w' hS => (rvk (by kernel_rfl))) ?_
  simp only [p1, p2, p3, p4]
  refine ord_pure (some 20) (.pointer (some ⟨b5, 4, none⟩)) rfl rfl rfl (fun w' hS => (rvk (by kernel_rfl))) ?_
  simp only [p1, p2, p3, p4]
  refine ord_pure (some 21) (.agg #[vab0, vab1, vab2, vab3]) rfl rfl rfl (fun w' hS => (rv_load 31 _ b5 4 _ _ [vab0, vab1, vab2, vab3] rfl rfl hS.2 rfl (by kernel_rfl))) ?_
  simp only [p1, p2, p3, p4]
  refine ord_pure (some 22) (.pointer (some ⟨b8, 4, none⟩)) rfl rfl rfl (fun w' hS => (rvk (by kernel_rfl))) ?_
  simp only [p1, p2, p3, p4]
  refine ord_eff rfl rfl (fun K35 k35 => ?_)
  replace L8 := L8.gr gd34
  refine eff_store 31 _ _ b8 4 (.agg #[uab0, uab1, uab2, uab3]) [uab0, uab1, uab2, uab3] _ #[uaa0, uaa1, uaa2, uaa3, uab0, uab1, uab2, uab3, (.bool false), (.slice none 0 0), (.bool false), (.slice none 0 0), vaa0, vaa1, vaa2, vaa3, (.bool false), (.slice none 0 0), (.bool false), (.slice none 0 0), (.bool false), (.slice none 0 0), (.bool false), (.slice none 0 0)] _ rfl rfl rfl rfl rfl L8 (by kernel_rfl) (Nat.le_of_ble_eq_true rfl) ⟨hua2.one0, hua2.one1, hua2.one2, hua2.one3, trivial⟩ (by kernel_rfl) (fun w36 st36 N36 => ?_)
  have kp36 := st36.kp L8 (by decide)
  replace hB := st36.gr hB q8
  replace L8 := N36
  replace L3 := st36.lc L3 ne3_8
  replace L5 := st36.lc L5 ne5_8
  refine k35 _ _ ⟨L3, L5⟩ ?_
  try clear k35 K35
  refine ord_pure (some 23) (.pointer (some ⟨b8, 16, none⟩)) rfl rfl rfl (fun w' hS => (rvk (by kernel_rfl))) ?_
  simp only [p1, p2, p3, p4]
  refine ord_eff rfl rfl (fun K37 k37 => ?_)
  refine eff_store 31 _ _ b8 16 (.agg #[vab0, vab1, vab2, vab3]) [vab0, vab1, vab2, vab3] _ #[uaa0, uaa1, uaa2, uaa3, uab0, uab1, uab2, uab3, (.bool false), (.slice none 0 0), (.bool false), (.slice none 0 0), vaa0, vaa1, vaa2, vaa3, vab0, vab1, vab2, vab3, (.bool false), (.slice none 0 0), (.bool false), (.slice none 0 0)] _ rfl rfl rfl rfl rfl L8 (by kernel_rfl) (Nat.le_of_ble_eq_true rfl) ⟨hva2.one0, hva2.one1, hva2.one2, hva2.one3, trivial⟩ (by kernel_rfl) (fun w38 st38 N38 => ?_)
  have kp38 := st38.kp L8 (by decide)
  replace hB := st38.gr hB q8
  replace L8 := N38
  replace L3 := st38.lc L3 ne3_8
  replace L5 := st38.lc L5 ne5_8
  refine k37 _ _ ⟨L3, L5⟩ ?_
  try clear k37 K37
  refine ord_nil ?_
  refine k27 _ _ ?_
  try clear k27 K27
  refine wp_region ?_
  simp only [List.size_toArray, List.length_cons, List.length_nil, Nat.reduceAdd, List.range, List.range.loop]
  refine sq_val (some 24) (.int .i64 2) rfl rfl (by kernel_rfl) (rvk (by kernel_rfl)) ?_
  simp only [p1, p2, p3, p4]
  refine sq_val (some 8) (.int .i64 2) rfl rfl (by kernel_rfl) (rvk (by kernel_rfl)) ?_
  simp only [p1, p2, p3, p4]
  refine sq_nil ?_
  show Code.rounds _ _ _ _ _ _
  show Code.wp _ _ _ _ _
  refine wp_seq_k (fun K39 k39 => ?_)
  refine wp_region ?_
  simp only [List.size_toArray, List.length_cons, List.length_nil, Nat.reduceAdd, List.range, List.range.loop]
  refine sq_val (some 9) (.bool true) rfl rfl (by kernel_rfl) (rvk (by kernel_rfl)) ?_
  simp only [p1, p2, p3, p4]
  refine sq_nil ?_
  refine k39 _ _ ?_
  try clear k39 K39
  refine wp_seq_k (fun K40 k40 => ?_)
  refine wp_cond_true rfl ?_
  refine wp_skip ?_
  refine k40 _ _ ?_
  try clear k40 K40
  refine wp_seq_k (fun K41 k41 => ?_)
  refine wp_block ?_
  refine wp_seq_k (fun K42 k42 => ?_)
  refine wp_region ?_
  simp only [List.size_toArray, List.length_cons, List.length_nil, Nat.reduceAdd, List.range, List.range.loop]
  refine sq_val (some 10) (.int .i64 2) rfl rfl (by kernel_rfl) (rvk (by kernel_rfl)) ?_
  simp only [p1, p2, p3, p4]
  refine sq_val (some 6) (.int .i64 2) rfl rfl (by kernel_rfl) (rvk (by kernel_rfl)) ?_
  simp only [p1, p2, p3, p4]
  refine sq_nil ?_
  refine k42 _ _ ?_
  try clear k42 K42
  have gd48 := Gr.drew w38
  replace hB := Gr.trans hB gd48
  replace L3 := L3.gr gd48
  replace L5 := L5.gr gd48
  refine wp_region_ord (fun w' => Lc w' b3 #[uaa0, uaa1, uaa2, uaa3, uab0, uab1, uab2, uab3, uac0, uac1, uac2, uac3] 33 ∧ Lc w' b5 #[vaa0, vaa1, vaa2, vaa3, vab0, vab1, vab2, vab3, vac0, vac1, vac2, vac3] 33) [(true, 0), (true, 1), (true, 2), (true, 3), (true, 4), (true, 5), (true, 6), (true, 7), (true, 8), (true, 9), (true, 10), (true, 11), (false, 12), (true, 13), (false, 14)] (by kernel_rfl) (by kernel_rfl) (by kernel_rfl) (by decide) (fun _ _ _ _ _ h => h) ⟨L3, L5⟩ ?_
  refine ord_pure (some 11) (.slice (some ⟨b8, 0, none⟩) 6 6) rfl rfl rfl (fun w' hS => (rvk (by kernel_rfl))) ?_
  simp only [p1, p2, p3, p4]
  refine ord_pure (some 12) (.int .i64 2) rfl rfl rfl (fun w' hS => (rvk (by kernel_rfl))) ?_
  simp only [p1, p2, p3, p4]
  refine ord_pure (some 13) (.slice (some ⟨b8, 0, none⟩) 6 6) rfl rfl rfl (fun w' hS => (rvk (by kernel_rfl))) ?_
  simp only [p1, p2, p3, p4]
  refine ord_pure (some 14) (.int .i64 2) rfl rfl rfl (fun w' hS => (rvk (by kernel_rfl))) ?_
  simp only [p1, p2, p3, p4]
  refine ord_pure (some 15) (.int .i64 5) rfl rfl rfl (fun w' hS => (rvk (by kernel_rfl))) ?_
  simp only [p1, p2, p3, p4]
  refine ord_pure (some 16) (.int .i64 2) rfl rfl rfl (fun w' hS => (rvk (by kernel_rfl))) ?_
  simp only [p1, p2, p3, p4]
  refine ord_pure (some 17) (.pointer (some ⟨b3, 8, none⟩)) rfl rfl rfl (fun w' hS => (rvk (by kernel_rfl))) ?_
  simp only [p1, p2, p3, p4]
  refine ord_pure (some 18) (.agg #[uac0, uac1, uac2, uac3]) rfl rfl rfl (fun w' hS => (rv_load 31 _ b3 8 _ _ [uac0, uac1, uac2, uac3] rfl rfl hS.1 rfl (by kernel_rfl))) ?_
  simp only [p1, p2, p3, p4]
  refine ord_pure (some 19) (.int .i64 2) rfl rfl rfl (fun w' hS => (rvk (by kernel_rfl))) ?_
  simp only [p1, p2, p3, p4]
  refine ord_pure (some 20) (.pointer (some ⟨b5, 8, none⟩)) rfl rfl rfl (fun w' hS => (rvk (by kernel_rfl))) ?_
  simp only [p1, p2, p3, p4]
  refine ord_pure (some 21) (.agg #[vac0, vac1, vac2, vac3]) rfl rfl rfl (fun w' hS => (rv_load 31 _ b5 8 _ _ [vac0, vac1, vac2, vac3] rfl rfl hS.2 rfl (by kernel_rfl))) ?_
  simp only [p1, p2, p3, p4]
  refine ord_pure (some 22) (.pointer (some ⟨b8, 8, none⟩)) rfl rfl rfl (fun w' hS => (rvk (by kernel_rfl))) ?_
  simp only [p1, p2, p3, p4]
  refine ord_eff rfl rfl (fun K49 k49 => ?_)
  replace L8 := L8.gr gd48
  refine eff_store 31 _ _ b8 8 (.agg #[uac0, uac1, uac2, uac3]) [uac0, uac1, uac2, uac3] _ #[uaa0, uaa1, uaa2, uaa3, uab0, uab1, uab2, uab3, uac0, uac1, uac2, uac3, vaa0, vaa1, vaa2, vaa3, vab0, vab1, vab2, vab3, (.bool false), (.slice none 0 0), (.bool false), (.slice none 0 0)] _ rfl rfl rfl rfl rfl L8 (by kernel_rfl) (Nat.le_of_ble_eq_true rfl) ⟨hua3.one0, hua3.one1, hua3.one2, hua3.one3, trivial⟩ (by kernel_rfl) (fun w50 st50 N50 => ?_)
  have kp50 := st50.kp L8 (by decide)
  replace hB := st50.gr hB q8
  replace L8 := N50
  replace L3 := st50.lc L3 ne3_8
  replace L5 := st50.lc L5 ne5_8
  refine k49 _ _ ⟨L3, L5⟩ ?_
  try clear k49 K49
  refine ord_pure (some 23) (.pointer (some ⟨b8, 20, none⟩)) rfl rfl rfl (fun w' hS => (rvk (by kernel_rfl))) ?_
  simp only [p1, p2, p3, p4]
  refine ord_eff rfl rfl (fun K51 k51 => ?_)
  refine eff_store 31 _ _ b8 20 (.agg #[vac0, vac1, vac2, vac3]) [vac0, vac1, vac2, vac3] _ #[uaa0, uaa1, uaa2, uaa3, uab0, uab1, uab2, uab3, uac0, uac1, uac2, uac3, vaa0, vaa1, vaa2, vaa3, vab0, vab1, vab2, vab3, vac0, vac1, vac2, vac3] _ rfl rfl rfl rfl rfl L8 (by kernel_rfl) (Nat.le_of_ble_eq_true rfl) ⟨hva3.one0, hva3.one1, hva3.one2, hva3.one3, trivial⟩ (by kernel_rfl) (fun w52 st52 N52 => ?_)
  have kp52 := st52.kp L8 (by decide)
  replace hB := st52.gr hB q8
  replace L8 := N52
  replace L3 := st52.lc L3 ne3_8
  replace L5 := st52.lc L5 ne5_8
  refine k51 _ _ ⟨L3, L5⟩ ?_
  try clear k51 K51
  refine ord_nil ?_
  refine k41 _ _ ?_
  try clear k41 K41
  refine wp_region ?_
  simp only [List.size_toArray, List.length_cons, List.length_nil, Nat.reduceAdd, List.range, List.range.loop]
  refine sq_val (some 24) (.int .i64 3) rfl rfl (by kernel_rfl) (rvk (by kernel_rfl)) ?_
  simp only [p1, p2, p3, p4]
  refine sq_val (some 8) (.int .i64 3) rfl rfl (by kernel_rfl) (rvk (by kernel_rfl)) ?_
  simp only [p1, p2, p3, p4]
  refine sq_nil ?_
  show Code.rounds _ _ _ _ _ _
  show Code.wp _ _ _ _ _
  refine wp_seq_k (fun K53 k53 => ?_)
  refine wp_region ?_
  simp only [List.size_toArray, List.length_cons, List.length_nil, Nat.reduceAdd, List.range, List.range.loop]
  refine sq_val (some 9) (.bool false) rfl rfl (by kernel_rfl) (rvk (by kernel_rfl)) ?_
  simp only [p1, p2, p3, p4]
  refine sq_nil ?_
  refine k53 _ _ ?_
  try clear k53 K53
  refine wp_seq_k (fun K54 k54 => ?_)
  refine wp_cond_false rfl ?_
  refine wp_exit ?_
  simp only [Exit.then, Exit.inBlock, ↓reduceIte]
  refine k9 _ _ ?_
  try clear k9 K9
  refine wp_seq_k (fun K55 k55 => ?_)
  refine wp_region ?_
  simp only [List.size_toArray, List.length_cons, List.length_nil, Nat.reduceAdd, List.range, List.range.loop]
  refine sq_val (some 25) (.slice (some ⟨b8, 0, none⟩) 6 6) rfl rfl (by kernel_rfl) (rvk (by kernel_rfl)) ?_
  simp only [p1, p2, p3, p4]
  refine sq_val (some 4) (.slice (some ⟨b8, 0, none⟩) 6 6) rfl rfl (by kernel_rfl) (rvk (by kernel_rfl)) ?_
  simp only [p1, p2, p3, p4]
  refine sq_nil ?_
  refine k55 _ _ ?_
  try clear k55 K55
  refine wp_ret ?_
  refine bodyPost_ret (v := (.slice (some ⟨b8, 0, none⟩) 6 6)) (ret_tmp rfl rfl) rfl ⟨?_, hB⟩
  have kq56 := g3.kp.trans (g5.kp.trans (g8.kp.trans (gd20.kp.trans (kp22.trans (kp24.trans (gd34.kp.trans (kp36.trans (kp38.trans (gd48.kp.trans (kp50.trans kp52))))))))))
  replace hua1 := hua1.kp kq56
  replace hua2 := hua2.kp kq56
  replace hua3 := hua3.kp kq56
  replace hva1 := hva1.kp kq56
  replace hva2 := hva2.kp kq56
  replace hva3 := hva3.kp kq56
  exact ⟨_, _, _, _, _, _, _, _, _, _, _, _, _, _, _, _, _, _, _, _, _, _, _, _, _, rfl, L8, q8, hua1, hua2, hua3, hva1, hva2, hva3⟩

set_option maxRecDepth 100000 in
set_option maxHeartbeats 1000000 in
theorem clip_r (b : Nat) (w : World) :
    Calls Tryd.prog 57 #[(.slice (some ⟨b, 0, none⟩) 6 6)] w fun e w' => e = .returned (.slice (some ⟨b, 0, none⟩) 6 6) ∧ Gr w w' := by
  go_enter Tryd.func57, Tryd.ntmps57
  have hB := Gr.refl w
  refine wp_seq_k (fun K1 k1 => ?_)
  refine wp_region ?_
  simp only [List.size_toArray, List.length_cons, List.length_nil, Nat.reduceAdd, List.range, List.range.loop]
  refine sq_val (some 2) (.slice none 0 0) rfl rfl (by kernel_rfl) (rvk (by kernel_rfl)) ?_
  simp only [p1, p2, p3, p4]
  refine sq_nil ?_
  refine k1 _ _ ?_
  try clear k1 K1
  refine wp_seq_k (fun K2 k2 => ?_)
  refine wp_region ?_
  simp only [List.size_toArray, List.length_cons, List.length_nil, Nat.reduceAdd, List.range, List.range.loop]
  refine sq_val (some 3) (.slice (some ⟨b, 0, none⟩) 6 6) rfl rfl (by kernel_rfl) (rvk (by kernel_rfl)) ?_
  simp only [p1, p2, p3, p4]
  refine sq_val (some 4) (.slice (some ⟨b, 0, none⟩) 6 6) rfl rfl (by kernel_rfl) (rvk (by kernel_rfl)) ?_
  simp only [p1, p2, p3, p4]
  refine sq_val (some 5) (.int .i64 6) rfl rfl (by kernel_rfl) (rvk (by kernel_rfl)) ?_
  simp only [p1, p2, p3, p4]
  refine sq_val (some 6) (.slice (some ⟨b, 0, none⟩) 6 6) rfl rfl (by kernel_rfl) (rvk (by kernel_rfl)) ?_
  simp only [p1, p2, p3, p4]
  refine sq_val (some 7) (.int .i64 6) rfl rfl (by kernel_rfl) (rvk (by kernel_rfl)) ?_
  simp only [p1, p2, p3, p4]
  refine sq_val (some 8) (.slice (some ⟨b, 0, none⟩) 6 6) rfl rfl (by kernel_rfl) (rvk (by kernel_rfl)) ?_
  simp only [p1, p2, p3, p4]
  refine sq_val (some 2) (.slice (some ⟨b, 0, none⟩) 6 6) rfl rfl (by kernel_rfl) (rvk (by kernel_rfl)) ?_
  simp only [p1, p2, p3, p4]
  refine sq_nil ?_
  refine k2 _ _ ?_
  try clear k2 K2
  refine wp_ret ?_
  refine bodyPost_ret (v := (.slice (some ⟨b, 0, none⟩) 6 6)) (ret_tmp rfl rfl) rfl ⟨?_, hB⟩
  exact rfl

set_option maxRecDepth 100000 in
set_option maxHeartbeats 1000000 in
theorem row_v {k m : Nat} {uaa0 uaa1 uaa2 uaa3 uab0 uab1 uab2 uab3 uac0 uac1 uac2 uac3 : Value} {a1 a2 a3 : Rat} {vaa0 vaa1 vaa2 vaa3 vab0 vab1 vab2 vab3 vac0 vac1 vac2 vac3 : Value} {c1 c2 c3 : Rat} {w : World} (hua1 : IsRat w k uaa0 uaa1 uaa2 uaa3 a1) (hua2 : IsRat w k uab0 uab1 uab2 uab3 a2) (hua3 : IsRat w k uac0 uac1 uac2 uac3 a3) (hva1 : IsRat w m vaa0 vaa1 vaa2 vaa3 c1) (hva2 : IsRat w m vab0 vab1 vab2 vab3 c2) (hva3 : IsRat w m vac0 vac1 vac2 vac3 c3) (_hk : k + m ≤ 2500) :
    Calls Tryd.prog 31 #[(.agg #[uaa0, uaa1, uaa2, uaa3, uab0, uab1, uab2, uab3, uac0, uac1, uac2, uac3]), (.agg #[vaa0, vaa1, vaa2, vaa3, vab0, vab1, vab2, vab3, vac0, vac1, vac2, vac3])] w fun e w' => (∃ b t0 t1 t2 t3 t4 t5 t6 t7 t8 t9 t10 t11 t12 t13 t14 t15 t16 t17 t18 t19 t20 t21 t22 t23, e = .returned (.slice (some ⟨b, 0, none⟩) 6 6) ∧ Lc w' b #[t0, t1, t2, t3, t4, t5, t6, t7, t8, t9, t10, t11, t12, t13, t14, t15, t16, t17, t18, t19, t20, t21, t22, t23] 31 ∧ w.heap.size ≤ b ∧ IsRat w' (k + m + (k + m) + 1) t0 t1 t2 t3 (a2 * c3 - a3 * c2) ∧ IsRat w' (k + m + (k + m) + 1) t4 t5 t6 t7 (a3 * c1 - a1 * c3) ∧ IsRat w' (k + m + (k + m) + 1) t8 t9 t10 t11 (a1 * c2 - a2 * c1) ∧ IsRat w' m t12 t13 t14 t15 (c1) ∧ IsRat w' m t16 t17 t18 t19 (c2) ∧ IsRat w' m t20 t21 t22 t23 (c3)) ∧ Gr w w' := by
  go_enter Tryd.func31, Tryd.ntmps31
  have hB := Gr.refl w
  refine wp_seq_k (fun K1 k1 => ?_)
  refine wp_region ?_
  simp only [List.size_toArray, List.length_cons, List.length_nil, Nat.reduceAdd, List.range, List.range.loop]
  refine sq_eff rfl (by kernel_rfl) (fun K2 k2 => ?_)
  refine eff_box 33 _ (.agg #[uaa0, uaa1, uaa2, uaa3, uab0, uab1, uab2, uab3, uac0, uac1, uac2, uac3]) #[uaa0, uaa1, uaa2, uaa3, uab0, uab1, uab2, uab3, uac0, uac1, uac2, uac3] (some 2) rfl rfl rfl rfl (fun b3 w3 g3 L3 q3 => ?_)
  replace q3 := Nat.le_trans (Below.size hB) q3
  replace hB := Gr.trans hB g3
  refine k2 _ _ ?_
  try clear k2 K2
  simp only [p1, p2, p3, p4]
  refine sq_eff rfl (by kernel_rfl) (fun K4 k4 => ?_)
  refine eff_box 33 _ (.agg #[vaa0, vaa1, vaa2, vaa3, vab0, vab1, vab2, vab3, vac0, vac1, vac2, vac3]) #[vaa0, vaa1, vaa2, vaa3, vab0, vab1, vab2, vab3, vac0, vac1, vac2, vac3] (some 3) rfl rfl rfl rfl (fun b5 w5 g5 L5 q5 => ?_)
  have ne3_5 := L3.ne q5
  replace q5 := Nat.le_trans (Below.size hB) q5
  replace hB := Gr.trans hB g5
  refine k4 _ _ ?_
  try clear k4 K4
  simp only [p1, p2, p3, p4]
  refine sq_val (some 4) (.slice none 0 0) rfl rfl (by kernel_rfl) (rvk (by kernel_rfl)) ?_
  simp only [p1, p2, p3, p4]
  refine sq_nil ?_
  refine k1 _ _ ?_
  try clear k1 K1
  refine wp_seq_k (fun K6 k6 => ?_)
  have gd15 := Gr.drew w5
  replace hB := Gr.trans hB gd15
  replace L3 := L3.gr (g5.trans gd15)
  replace L5 := L5.gr gd15
  refine wp_region_ord (fun w' => Lc w' b3 #[uaa0, uaa1, uaa2, uaa3, uab0, uab1, uab2, uab3, uac0, uac1, uac2, uac3] 33 ∧ Lc w' b5 #[vaa0, vaa1, vaa2, vaa3, vab0, vab1, vab2, vab3, vac0, vac1, vac2, vac3] 33) [(true, 0), (true, 1), (true, 3), (false, 2), (false, 4), (false, 5), (true, 6)] (by kernel_rfl) (by kernel_rfl) (by kernel_rfl) (by decide) (fun _ _ _ _ _ h => h) ⟨L3, L5⟩ ?_
  refine ord_pure (some 5) (.agg #[uaa0, uaa1, uaa2, uaa3, uab0, uab1, uab2, uab3, uac0, uac1, uac2, uac3]) rfl rfl rfl (fun w' hS => (rv_load 33 _ b3 0 _ _ [uaa0, uaa1, uaa2, uaa3, uab0, uab1, uab2, uab3, uac0, uac1, uac2, uac3] rfl rfl hS.1 rfl (by kernel_rfl))) ?_
  simp only [p1, p2, p3, p4]
  refine ord_pure (some 6) (.agg #[vaa0, vaa1, vaa2, vaa3, vab0, vab1, vab2, vab3, vac0, vac1, vac2, vac3]) rfl rfl rfl (fun w' hS => (rv_load 33 _ b5 0 _ _ [vaa0, vaa1, vaa2, vaa3, vab0, vab1, vab2, vab3, vac0, vac1, vac2, vac3] rfl rfl hS.2 rfl (by kernel_rfl))) ?_
  simp only [p1, p2, p3, p4]
  refine ord_pure (some 8) (.agg #[vaa0, vaa1, vaa2, vaa3, vab0, vab1, vab2, vab3, vac0, vac1, vac2, vac3]) rfl rfl rfl (fun w' hS => (rv_load 33 _ b5 0 _ _ [vaa0, vaa1, vaa2, vaa3, vab0, vab1, vab2, vab3, vac0, vac1, vac2, vac3] rfl rfl hS.2 rfl (by kernel_rfl))) ?_
  simp only [p1, p2, p3, p4]
  refine ord_eff rfl rfl (fun K16 k16 => ?_)
  have kq18 := g3.kp.trans (g5.kp.trans gd15.kp)
  replace hua1 := hua1.kp kq18
  replace hua2 := hua2.kp kq18
  replace hua3 := hua3.kp kq18
  replace hva1 := hva1.kp kq18
  replace hva2 := hva2.kp kq18
  replace hva3 := hva3.kp kq18
  refine eff_call (some 7) rfl (by kernel_rfl) (cross_v hua1 hua2 hua3 hva1 hva2 hva3 (by omega)) ?_
  rintro e17 w17 ⟨⟨t17_0, t17_1, t17_2, t17_3, t17_4, t17_5, t17_6, t17_7, t17_8, t17_9, t17_10, t17_11, rfl, h17a, h17b, h17c⟩, g17⟩
  refine ⟨_, rfl, ?_⟩
  replace hB := Gr.trans hB g17
  replace L3 := L3.gr g17
  replace L5 := L5.gr g17
  refine k16 _ _ ⟨L3, L5⟩ ?_
  try clear k16 K16
  simp only [p1, p2, p3, p4]
  refine ord_eff rfl rfl (fun K19 k19 => ?_)
  replace hva1 := hva1.kp g17.kp
  replace hva2 := hva2.kp g17.kp
  replace hva3 := hva3.kp g17.kp
  refine eff_call (some 9) rfl (by kernel_rfl) (joined_v h17a h17b h17c hva1 hva2 hva3 (by omega)) ?_
  rintro e20 w20 ⟨⟨b20, t20_0, t20_1, t20_2, t20_3, t20_4, t20_5, t20_6, t20_7, t20_8, t20_9, t20_10, t20_11, t20_12, t20_13, t20_14, t20_15, t20_16, t20_17, t20_18, t20_19, t20_20, t20_21, t20_22, t20_23, rfl, L20, q20, h20a, h20b, h20c, h20d, h20e, h20f⟩, g20⟩
  refine ⟨_, rfl, ?_⟩
  have ne3_20 := L3.ne q20
  have ne5_20 := L5.ne q20
  replace q20 := Nat.le_trans (Below.size hB) q20
  replace hB := Gr.trans hB g20
  replace L3 := L3.gr g20
  replace L5 := L5.gr g20
  refine k19 _ _ ⟨L3, L5⟩ ?_
  try clear k19 K19
  simp only [p1, p2, p3, p4]
  refine ord_eff rfl rfl (fun K21 k21 => ?_)
  refine eff_call (some 10) rfl (by kernel_rfl) (clip_r b20 _) ?_
  rintro e22 w22 ⟨rfl, g22⟩
  refine ⟨_, rfl, ?_⟩
  replace hB := Gr.trans hB g22
  replace L3 := L3.gr g22
  replace L5 := L5.gr g22
  refine k21 _ _ ⟨L3, L5⟩ ?_
  try clear k21 K21
  simp only [p1, p2, p3, p4]
  refine ord_pure (some 4) (.slice (some ⟨b20, 0, none⟩) 6 6) rfl rfl rfl (fun w' hS => (rvk (by kernel_rfl))) ?_
  simp only [p1, p2, p3, p4]
  refine ord_nil ?_
  refine k6 _ _ ?_
  try clear k6 K6
  refine wp_ret ?_
  refine bodyPost_ret (v := (.slice (some ⟨b20, 0, none⟩) 6 6)) (ret_tmp rfl rfl) rfl ⟨?_, hB⟩
  replace L20 := L20.gr g22
  replace h20a := h20a.kp g22.kp
  replace h20b := h20b.kp g22.kp
  replace h20c := h20c.kp g22.kp
  replace h20d := h20d.kp g22.kp
  replace h20e := h20e.kp g22.kp
  replace h20f := h20f.kp g22.kp
  exact ⟨_, _, _, _, _, _, _, _, _, _, _, _, _, _, _, _, _, _, _, _, _, _, _, _, _, rfl, L20, q20, h20a, h20b, h20c, h20d, h20e, h20f⟩

end Go.Proofs.YtgopfikljndklaaDoor
