/- Printed by a program of the prover's: the operations on vectors. -/
import Derived.Test.YtgopfikljndklaaDoorGen4
namespace Go.Proofs.YtgopfikljndklaaDoor
open Go.RowKit

set_option maxRecDepth 100000 in
set_option maxHeartbeats 4000000 in
theorem each_add {k m : Nat} {uaa0 uaa1 uaa2 uaa3 uab0 uab1 uab2 uab3 uac0 uac1 uac2 uac3 : Value} {a1 a2 a3 : Rat} {vaa0 vaa1 vaa2 vaa3 vab0 vab1 vab2 vab3 vac0 vac1 vac2 vac3 : Value} {c1 c2 c3 : Rat} {w : World} (hua1 : IsRat w k uaa0 uaa1 uaa2 uaa3 a1) (hua2 : IsRat w k uab0 uab1 uab2 uab3 a2) (hua3 : IsRat w k uac0 uac1 uac2 uac3 a3) (hva1 : IsRat w m vaa0 vaa1 vaa2 vaa3 c1) (hva2 : IsRat w m vab0 vab1 vab2 vab3 c2) (hva3 : IsRat w m vac0 vac1 vac2 vac3 c3) (_hk : k + m ≤ 100000) :
    Calls Tryd.prog 51 #[(.agg #[uaa0, uaa1, uaa2, uaa3, uab0, uab1, uab2, uab3, uac0, uac1, uac2, uac3]), (.agg #[vaa0, vaa1, vaa2, vaa3, vab0, vab1, vab2, vab3, vac0, vac1, vac2, vac3]), (.func (.func 56) #[] #[])] w fun e w' => (∃ t0 t1 t2 t3 t4 t5 t6 t7 t8 t9 t10 t11, e = .returned (.agg #[t0, t1, t2, t3, t4, t5, t6, t7, t8, t9, t10, t11]) ∧ IsRat w' (k + m + 1) t0 t1 t2 t3 ((a1 + c1)) ∧ IsRat w' (k + m + 1) t4 t5 t6 t7 ((a2 + c2)) ∧ IsRat w' (k + m + 1) t8 t9 t10 t11 ((a3 + c3))) ∧ Gr w w' := by
  go_enter Tryd.func51, Tryd.ntmps51
  have hB := Gr.refl w
  refine wp_seq_k (fun K1 k1 => ?_)
  refine wp_region ?_
  simp only [List.size_toArray, List.length_cons, List.length_nil, Nat.reduceAdd, List.range, List.range.loop]
  refine sq_eff rfl (by kernel_rfl) (fun K2 k2 => ?_)
  refine eff_box 33 _ (.agg #[uaa0, uaa1, uaa2, uaa3, uab0, uab1, uab2, uab3, uac0, uac1, uac2, uac3]) #[uaa0, uaa1, uaa2, uaa3, uab0, uab1, uab2, uab3, uac0, uac1, uac2, uac3] (some 3) rfl rfl rfl rfl (fun b3 w3 g3 L3 q3 => ?_)
  replace q3 := Nat.le_trans (Below.size hB) q3
  replace hB := Gr.trans hB g3
  refine k2 _ _ ?_
  try clear k2 K2
  simp only [p1, p2, p3, p4]
  refine sq_eff rfl (by kernel_rfl) (fun K4 k4 => ?_)
  refine eff_box 33 _ (.agg #[vaa0, vaa1, vaa2, vaa3, vab0, vab1, vab2, vab3, vac0, vac1, vac2, vac3]) #[vaa0, vaa1, vaa2, vaa3, vab0, vab1, vab2, vab3, vac0, vac1, vac2, vac3] (some 4) rfl rfl rfl rfl (fun b5 w5 g5 L5 q5 => ?_)
  have ne3_5 := L3.ne q5
  replace q5 := Nat.le_trans (Below.size hB) q5
  replace hB := Gr.trans hB g5
  refine k4 _ _ ?_
  try clear k4 K4
  simp only [p1, p2, p3, p4]
  refine sq_eff rfl (by kernel_rfl) (fun K6 k6 => ?_)
  refine eff_alloc 33 (.agg #[(.bool false), (.slice none 0 0), (.bool false), (.slice none 0 0), (.bool false), (.slice none 0 0), (.bool false), (.slice none 0 0), (.bool false), (.slice none 0 0), (.bool false), (.slice none 0 0)]) #[(.bool false), (.slice none 0 0), (.bool false), (.slice none 0 0), (.bool false), (.slice none 0 0), (.bool false), (.slice none 0 0), (.bool false), (.slice none 0 0), (.bool false), (.slice none 0 0)] (some 6) rfl rfl (by kernel_rfl) rfl (fun b7 w7 g7 L7 q7 => ?_)
  replace L3 := L3.gr g5
  have ne3_7 := L3.ne q7
  have ne5_7 := L5.ne q7
  replace q7 := Nat.le_trans (Below.size hB) q7
  replace hB := Gr.trans hB g7
  refine k6 _ _ ?_
  try clear k6 K6
  simp only [p1, p2, p3, p4]
  refine sq_nil ?_
  refine k1 _ _ ?_
  try clear k1 K1
  refine wp_seq_k (fun K8 k8 => ?_)
  refine wp_region ?_
  simp only [List.size_toArray, List.length_cons, List.length_nil, Nat.reduceAdd, List.range, List.range.loop]
  refine sq_eff rfl (by kernel_rfl) (fun K9 k9 => ?_)
  refine eff_alloc 33 (.agg #[(.bool false), (.slice none 0 0), (.bool false), (.slice none 0 0), (.bool false), (.slice none 0 0), (.bool false), (.slice none 0 0), (.bool false), (.slice none 0 0), (.bool false), (.slice none 0 0)]) #[(.bool false), (.slice none 0 0), (.bool false), (.slice none 0 0), (.bool false), (.slice none 0 0), (.bool false), (.slice none 0 0), (.bool false), (.slice none 0 0), (.bool false), (.slice none 0 0)] (some 7) rfl rfl (by kernel_rfl) rfl (fun b10 w10 g10 L10 q10 => ?_)
  replace L3 := L3.gr g7
  have ne3_10 := L3.ne q10
  replace L5 := L5.gr g7
  have ne5_10 := L5.ne q10
  have ne7_10 := L7.ne q10
  replace q10 := Nat.le_trans (Below.size hB) q10
  replace hB := Gr.trans hB g10
  refine k9 _ _ ?_
  try clear k9 K9
  simp only [p1, p2, p3, p4]
  refine sq_nil ?_
  refine k8 _ _ ?_
  try clear k8 K8
  refine wp_seq_k (fun K11 k11 => ?_)
  refine wp_seq_k (fun K12 k12 => ?_)
  refine wp_region ?_
  simp only [List.size_toArray, List.length_cons, List.length_nil, Nat.reduceAdd, List.range, List.range.loop]
  refine sq_val (some 9) (.int .i64 0) rfl rfl (by kernel_rfl) (rvk (by kernel_rfl)) ?_
  simp only [p1, p2, p3, p4]
  refine sq_nil ?_
  refine k12 _ _ ?_
  try clear k12 K12
  refine wp_block ?_
  refine wp_loop_rounds 4 ?_
  show Code.wp _ _ _ _ _
  refine wp_seq_k (fun K13 k13 => ?_)
  refine wp_region ?_
  simp only [List.size_toArray, List.length_cons, List.length_nil, Nat.reduceAdd, List.range, List.range.loop]
  refine sq_val (some 10) (.bool true) rfl rfl (by kernel_rfl) (rvk (by kernel_rfl)) ?_
  simp only [p1, p2, p3, p4]
  refine sq_nil ?_
  refine k13 _ _ ?_
  try clear k13 K13
  refine wp_seq_k (fun K14 k14 => ?_)
  refine wp_cond_true rfl ?_
  refine wp_skip ?_
  refine k14 _ _ ?_
  try clear k14 K14
  refine wp_seq_k (fun K15 k15 => ?_)
  refine wp_block ?_
  refine wp_seq_k (fun K16 k16 => ?_)
  refine wp_region ?_
  simp only [List.size_toArray, List.length_cons, List.length_nil, Nat.reduceAdd, List.range, List.range.loop]
  refine sq_val (some 11) (.int .i64 0) rfl rfl (by kernel_rfl) (rvk (by kernel_rfl)) ?_
  simp only [p1, p2, p3, p4]
  refine sq_val (some 8) (.int .i64 0) rfl rfl (by kernel_rfl) (rvk (by kernel_rfl)) ?_
  simp only [p1, p2, p3, p4]
  refine sq_nil ?_
  refine k16 _ _ ?_
  try clear k16 K16
  have gd23 := Gr.drew w10
  replace hB := Gr.trans hB gd23
  replace L3 := L3.gr (g10.trans gd23)
  replace L5 := L5.gr (g10.trans gd23)
  refine wp_region_ord (fun w' => Lc w' b3 #[uaa0, uaa1, uaa2, uaa3, uab0, uab1, uab2, uab3, uac0, uac1, uac2, uac3] 33 ∧ Lc w' b5 #[vaa0, vaa1, vaa2, vaa3, vab0, vab1, vab2, vab3, vac0, vac1, vac2, vac3] 33) [(true, 0), (true, 1), (true, 2), (true, 3), (true, 4), (true, 5), (true, 6), (true, 7), (false, 8), (true, 9), (false, 10)] (by kernel_rfl) (by kernel_rfl) (by kernel_rfl) (by decide) (fun _ _ _ _ _ h => h) ⟨L3, L5⟩ ?_
  refine ord_pure (some 12) (.int .i64 0) rfl rfl rfl (fun w' hS => (rvk (by kernel_rfl))) ?_
  simp only [p1, p2, p3, p4]
  refine ord_pure (some 13) (.func (.func 56) #[] #[]) rfl rfl rfl (fun w' hS => (rvk (by kernel_rfl))) ?_
  simp only [p1, p2, p3, p4]
  refine ord_pure (some 14) (.int .i64 0) rfl rfl rfl (fun w' hS => (rvk (by kernel_rfl))) ?_
  simp only [p1, p2, p3, p4]
  refine ord_pure (some 15) (.pointer (some ⟨b3, 0, none⟩)) rfl rfl rfl (fun w' hS => (rvk (by kernel_rfl))) ?_
  simp only [p1, p2, p3, p4]
  refine ord_pure (some 16) (.agg #[uaa0, uaa1, uaa2, uaa3]) rfl rfl rfl (fun w' hS => (rv_load 31 _ b3 0 _ _ [uaa0, uaa1, uaa2, uaa3] rfl rfl hS.1 rfl (by kernel_rfl))) ?_
  simp only [p1, p2, p3, p4]
  refine ord_pure (some 17) (.int .i64 0) rfl rfl rfl (fun w' hS => (rvk (by kernel_rfl))) ?_
  simp only [p1, p2, p3, p4]
  refine ord_pure (some 18) (.pointer (some ⟨b5, 0, none⟩)) rfl rfl rfl (fun w' hS => (rvk (by kernel_rfl))) ?_
  simp only [p1, p2, p3, p4]
  refine ord_pure (some 19) (.agg #[vaa0, vaa1, vaa2, vaa3]) rfl rfl rfl (fun w' hS => (rv_load 31 _ b5 0 _ _ [vaa0, vaa1, vaa2, vaa3] rfl rfl hS.2 rfl (by kernel_rfl))) ?_
  simp only [p1, p2, p3, p4]
  refine ord_eff rfl rfl (fun K24 k24 => ?_)
  have kq26 := g3.kp.trans (g5.kp.trans (g7.kp.trans (g10.kp.trans gd23.kp)))
  replace hua1 := hua1.kp kq26
  replace hva1 := hva1.kp kq26
  refine eff_call (some 20) rfl (by kernel_rfl) (add_r hua1 hva1 (by omega)) ?_
  rintro e25 w25 ⟨⟨p25, q25, r25, s25, rfl, h25⟩, g25⟩
  refine ⟨_, rfl, ?_⟩
  replace hB := Gr.trans hB g25
  replace L3 := L3.gr g25
  replace L5 := L5.gr g25
  refine k24 _ _ ⟨L3, L5⟩ ?_
  try clear k24 K24
  simp only [p1, p2, p3, p4]
  refine ord_pure (some 21) (.pointer (some ⟨b10, 0, none⟩)) rfl rfl rfl (fun w' hS => (rvk (by kernel_rfl))) ?_
  simp only [p1, p2, p3, p4]
  refine ord_eff rfl rfl (fun K27 k27 => ?_)
  replace L10 := L10.gr (gd23.trans g25)
  refine eff_store 31 _ _ b10 0 (.agg #[p25, q25, r25, s25]) [p25, q25, r25, s25] _ #[p25, q25, r25, s25, (.bool false), (.slice none 0 0), (.bool false), (.slice none 0 0), (.bool false), (.slice none 0 0), (.bool false), (.slice none 0 0)] _ rfl rfl rfl rfl rfl L10 (by kernel_rfl) (Nat.le_of_ble_eq_true rfl) ⟨h25.one0, h25.one1, h25.one2, h25.one3, trivial⟩ (by kernel_rfl) (fun w28 st28 N28 => ?_)
  have kp28 := st28.kp L10 (by decide)
  replace hB := st28.gr hB q10
  replace L10 := N28
  replace L3 := st28.lc L3 ne3_10
  replace L5 := st28.lc L5 ne5_10
  refine k27 _ _ ⟨L3, L5⟩ ?_
  try clear k27 K27
  refine ord_nil ?_
  refine k15 _ _ ?_
  try clear k15 K15
  refine wp_region ?_
  simp only [List.size_toArray, List.length_cons, List.length_nil, Nat.reduceAdd, List.range, List.range.loop]
  refine sq_val (some 22) (.int .i64 1) rfl rfl (by kernel_rfl) (rvk (by kernel_rfl)) ?_
  simp only [p1, p2, p3, p4]
  refine sq_val (some 9) (.int .i64 1) rfl rfl (by kernel_rfl) (rvk (by kernel_rfl)) ?_
  simp only [p1, p2, p3, p4]
  refine sq_nil ?_
  show Code.rounds _ _ _ _ _ _
  show Code.wp _ _ _ _ _
  refine wp_seq_k (fun K29 k29 => ?_)
  refine wp_region ?_
  simp only [List.size_toArray, List.length_cons, List.length_nil, Nat.reduceAdd, List.range, List.range.loop]
  refine sq_val (some 10) (.bool true) rfl rfl (by kernel_rfl) (rvk (by kernel_rfl)) ?_
  simp only [p1, p2, p3, p4]
  refine sq_nil ?_
  refine k29 _ _ ?_
  try clear k29 K29
  refine wp_seq_k (fun K30 k30 => ?_)
  refine wp_cond_true rfl ?_
  refine wp_skip ?_
  refine k30 _ _ ?_
  try clear k30 K30
  refine wp_seq_k (fun K31 k31 => ?_)
  refine wp_block ?_
  refine wp_seq_k (fun K32 k32 => ?_)
  refine wp_region ?_
  simp only [List.size_toArray, List.length_cons, List.length_nil, Nat.reduceAdd, List.range, List.range.loop]
  refine sq_val (some 11) (.int .i64 1) rfl rfl (by kernel_rfl) (rvk (by kernel_rfl)) ?_
  simp only [p1, p2, p3, p4]
  refine sq_val (some 8) (.int .i64 1) rfl rfl (by kernel_rfl) (rvk (by kernel_rfl)) ?_
  simp only [p1, p2, p3, p4]
  refine sq_nil ?_
  refine k32 _ _ ?_
  try clear k32 K32
  have gd39 := Gr.drew w28
  replace hB := Gr.trans hB gd39
  replace L3 := L3.gr gd39
  replace L5 := L5.gr gd39
  refine wp_region_ord (fun w' => Lc w' b3 #[uaa0, uaa1, uaa2, uaa3, uab0, uab1, uab2, uab3, uac0, uac1, uac2, uac3] 33 ∧ Lc w' b5 #[vaa0, vaa1, vaa2, vaa3, vab0, vab1, vab2, vab3, vac0, vac1, vac2, vac3] 33) [(true, 0), (true, 1), (true, 2), (true, 3), (true, 4), (true, 5), (true, 6), (true, 7), (false, 8), (true, 9), (false, 10)] (by kernel_rfl) (by kernel_rfl) (by kernel_rfl) (by decide) (fun _ _ _ _ _ h => h) ⟨L3, L5⟩ ?_
  refine ord_pure (some 12) (.int .i64 1) rfl rfl rfl (fun w' hS => (rvk (by kernel_rfl))) ?_
  simp only [p1, p2, p3, p4]
  refine ord_pure (some 13) (.func (.func 56) #[] #[]) rfl rfl rfl (fun w' hS => (rvk (by kernel_rfl))) ?_
  simp only [p1, p2, p3, p4]
  refine ord_pure (some 14) (.int .i64 1) rfl rfl rfl (fun w' hS => (rvk (by kernel_rfl))) ?_
  simp only [p1, p2, p3, p4]
  refine ord_pure (some 15) (.pointer (some ⟨b3, 4, none⟩)) rfl rfl rfl (fun w' hS => (rvk (by kernel_rfl))) ?_
  simp only [p1, p2, p3, p4]
  refine ord_pure (some 16) (.agg #[uab0, uab1, uab2, uab3]) rfl rfl rfl (fun w' hS => (rv_load 31 _ b3 4 _ _ [uab0, uab1, uab2, uab3] rfl rfl hS.1 rfl (by kernel_rfl))) ?_
  simp only [p1, p2, p3, p4]
  refine ord_pure (some 17) (.int .i64 1) rfl rfl rfl (fun w' hS => (rvk (by kernel_rfl))) ?_
  simp only [p1, p2, p3, p4]
  refine ord_pure (some 18) (.pointer (some ⟨b5, 4, none⟩)) rfl rfl rfl (fun w' hS => (rvk (by kernel_rfl))) ?_
  simp only [p1, p2, p3, p4]
  refine ord_pure (some 19) (.agg #[vab0, vab1, vab2, vab3]) rfl rfl rfl (fun w' hS => (rv_load 31 _ b5 4 _ _ [vab0, vab1, vab2, vab3] rfl rfl hS.2 rfl (by kernel_rfl))) ?_
  simp only [p1, p2, p3, p4]
  refine ord_eff rfl rfl (fun K40 k40 => ?_)
  have kq42 := g3.kp.trans (g5.kp.trans (g7.kp.trans (g10.kp.trans (gd23.kp.trans (g25.kp.trans (kp28.trans gd39.kp))))))
  replace hua2 := hua2.kp kq42
  replace hva2 := hva2.kp kq42
  refine eff_call (some 20) rfl (by kernel_rfl) (add_r hua2 hva2 (by omega)) ?_
  rintro e41 w41 ⟨⟨p41, q41, r41, s41, rfl, h41⟩, g41⟩
  refine ⟨_, rfl, ?_⟩
  replace hB := Gr.trans hB g41
  replace L3 := L3.gr g41
  replace L5 := L5.gr g41
  refine k40 _ _ ⟨L3, L5⟩ ?_
  try clear k40 K40
  simp only [p1, p2, p3, p4]
  refine ord_pure (some 21) (.pointer (some ⟨b10, 4, none⟩)) rfl rfl rfl (fun w' hS => (rvk (by kernel_rfl))) ?_
  simp only [p1, p2, p3, p4]
  refine ord_eff rfl rfl (fun K43 k43 => ?_)
  replace L10 := L10.gr (gd39.trans g41)
  refine eff_store 31 _ _ b10 4 (.agg #[p41, q41, r41, s41]) [p41, q41, r41, s41] _ #[p25, q25, r25, s25, p41, q41, r41, s41, (.bool false), (.slice none 0 0), (.bool false), (.slice none 0 0)] _ rfl rfl rfl rfl rfl L10 (by kernel_rfl) (Nat.le_of_ble_eq_true rfl) ⟨h41.one0, h41.one1, h41.one2, h41.one3, trivial⟩ (by kernel_rfl) (fun w44 st44 N44 => ?_)
  have kp44 := st44.kp L10 (by decide)
  replace hB := st44.gr hB q10
  replace L10 := N44
  replace L3 := st44.lc L3 ne3_10
  replace L5 := st44.lc L5 ne5_10
  refine k43 _ _ ⟨L3, L5⟩ ?_
  try clear k43 K43
  refine ord_nil ?_
  refine k31 _ _ ?_
  try clear k31 K31
  refine wp_region ?_
  simp only [List.size_toArray, List.length_cons, List.length_nil, Nat.reduceAdd, List.range, List.range.loop]
  refine sq_val (some 22) (.int .i64 2) rfl rfl (by kernel_rfl) (rvk (by kernel_rfl)) ?_
  simp only [p1, p2, p3, p4]
  refine sq_val (some 9) (.int .i64 2) rfl rfl (by kernel_rfl) (rvk (by kernel_rfl)) ?_
  simp only [p1, p2, p3, p4]
  refine sq_nil ?_
  show Code.rounds _ _ _ _ _ _
  show Code.wp _ _ _ _ _
  refine wp_seq_k (fun K45 k45 => ?_)
  refine wp_region ?_
  simp only [List.size_toArray, List.length_cons, List.length_nil, Nat.reduceAdd, List.range, List.range.loop]
  refine sq_val (some 10) (.bool true) rfl rfl (by kernel_rfl) (rvk (by kernel_rfl)) ?_
  simp only [p1, p2, p3, p4]
  refine sq_nil ?_
  refine k45 _ _ ?_
  try clear k45 K45
  refine wp_seq_k (fun K46 k46 => ?_)
  refine wp_cond_true rfl ?_
  refine wp_skip ?_
  refine k46 _ _ ?_
  try clear k46 K46
  refine wp_seq_k (fun K47 k47 => ?_)
  refine wp_block ?_
  refine wp_seq_k (fun K48 k48 => ?_)
  refine wp_region ?_
  simp only [List.size_toArray, List.length_cons, List.length_nil, Nat.reduceAdd, List.range, List.range.loop]
  refine sq_val (some 11) (.int .i64 2) rfl rfl (by kernel_rfl) (rvk (by kernel_rfl)) ?_
  simp only [p1, p2, p3, p4]
  refine sq_val (some 8) (.int .i64 2) rfl rfl (by kernel_rfl) (rvk (by kernel_rfl)) ?_
  simp only [p1, p2, p3, p4]
  refine sq_nil ?_
  refine k48 _ _ ?_
  try clear k48 K48
  have gd55 := Gr.drew w44
  replace hB := Gr.trans hB gd55
  replace L3 := L3.gr gd55
  replace L5 := L5.gr gd55
  refine wp_region_ord (fun w' => Lc w' b3 #[uaa0, uaa1, uaa2, uaa3, uab0, uab1, uab2, uab3, uac0, uac1, uac2, uac3] 33 ∧ Lc w' b5 #[vaa0, vaa1, vaa2, vaa3, vab0, vab1, vab2, vab3, vac0, vac1, vac2, vac3] 33) [(true, 0), (true, 1), (true, 2), (true, 3), (true, 4), (true, 5), (true, 6), (true, 7), (false, 8), (true, 9), (false, 10)] (by kernel_rfl) (by kernel_rfl) (by kernel_rfl) (by decide) (fun _ _ _ _ _ h => h) ⟨L3, L5⟩ ?_
  refine ord_pure (some 12) (.int .i64 2) rfl rfl rfl (fun w' hS => (rvk (by kernel_rfl))) ?_
  simp only [p1, p2, p3, p4]
  refine ord_pure (some 13) (.func (.func 56) #[] #[]) rfl rfl rfl (fun w' hS => (rvk (by kernel_rfl))) ?_
  simp only [p1, p2, p3, p4]
  refine ord_pure (some 14) (.int .i64 2) rfl rfl rfl (fun w' hS => (rvk (by kernel_rfl))) ?_
  simp only [p1, p2, p3, p4]
  refine ord_pure (some 15) (.pointer (some ⟨b3, 8, none⟩)) rfl rfl rfl (fun w' hS => (rvk (by kernel_rfl))) ?_
  simp only [p1, p2, p3, p4]
  refine ord_pure (some 16) (.agg #[uac0, uac1, uac2, uac3]) rfl rfl rfl (fun w' hS => (rv_load 31 _ b3 8 _ _ [uac0, uac1, uac2, uac3] rfl rfl hS.1 rfl (by kernel_rfl))) ?_
  simp only [p1, p2, p3, p4]
  refine ord_pure (some 17) (.int .i64 2) rfl rfl rfl (fun w' hS => (rvk (by kernel_rfl))) ?_
  simp only [p1, p2, p3, p4]
  refine ord_pure (some 18) (.pointer (some ⟨b5, 8, none⟩)) rfl rfl rfl (fun w' hS => (rvk (by kernel_rfl))) ?_
  simp only [p1, p2, p3, p4]
  refine ord_pure (some 19) (.agg #[vac0, vac1, vac2, vac3]) rfl rfl rfl (fun w' hS => (rv_load 31 _ b5 8 _ _ [vac0, vac1, vac2, vac3] rfl rfl hS.2 rfl (by kernel_rfl))) ?_
  simp only [p1, p2, p3, p4]
  refine ord_eff rfl rfl (fun K56 k56 => ?_)
  have kq58 := g3.kp.trans (g5.kp.trans (g7.kp.trans (g10.kp.trans (gd23.kp.trans (g25.kp.trans (kp28.trans (gd39.kp.trans (g41.kp.trans (kp44.trans gd55.kp)))))))))
  replace hua3 := hua3.kp kq58
  replace hva3 := hva3.kp kq58
  refine eff_call (some 20) rfl (by kernel_rfl) (add_r hua3 hva3 (by omega)) ?_
  rintro e57 w57 ⟨⟨p57, q57, r57, s57, rfl, h57⟩, g57⟩
  refine ⟨_, rfl, ?_⟩
  replace hB := Gr.trans hB g57
  replace L3 := L3.gr g57
  replace L5 := L5.gr g57
  refine k56 _ _ ⟨L3, L5⟩ ?_
  try clear k56 K56
  simp only [p1, p2, p3, p4]
  refine ord_pure (some 21) (.pointer (some ⟨b10, 8, none⟩)) rfl rfl rfl (fun w' hS => (rvk (by kernel_rfl))) ?_
  simp only [p1, p2, p3, p4]
  refine ord_eff rfl rfl (fun K59 k59 => ?_)
  replace L10 := L10.gr (gd55.trans g57)
  refine eff_store 31 _ _ b10 8 (.agg #[p57, q57, r57, s57]) [p57, q57, r57, s57] _ #[p25, q25, r25, s25, p41, q41, r41, s41, p57, q57, r57, s57] _ rfl rfl rfl rfl rfl L10 (by kernel_rfl) (Nat.le_of_ble_eq_true rfl) ⟨h57.one0, h57.one1, h57.one2, h57.one3, trivial⟩ (by kernel_rfl) (fun w60 st60 N60 => ?_)
  have kp60 := st60.kp L10 (by decide)
  replace hB := st60.gr hB q10
  replace L10 := N60
  replace L3 := st60.lc L3 ne3_10
  replace L5 := st60.lc L5 ne5_10
  refine k59 _ _ ⟨L3, L5⟩ ?_
  try clear k59 K59
  refine ord_nil ?_
  refine k47 _ _ ?_
  try clear k47 K47
  refine wp_region ?_
  simp only [List.size_toArray, List.length_cons, List.length_nil, Nat.reduceAdd, List.range, List.range.loop]
  refine sq_val (some 22) (.int .i64 3) rfl rfl (by kernel_rfl) (rvk (by kernel_rfl)) ?_
  simp only [p1, p2, p3, p4]
  refine sq_val (some 9) (.int .i64 3) rfl rfl (by kernel_rfl) (rvk (by kernel_rfl)) ?_
  simp only [p1, p2, p3, p4]
  refine sq_nil ?_
  show Code.rounds _ _ _ _ _ _
  show Code.wp _ _ _ _ _
  refine wp_seq_k (fun K61 k61 => ?_)
  refine wp_region ?_
  simp only [List.size_toArray, List.length_cons, List.length_nil, Nat.reduceAdd, List.range, List.range.loop]
  refine sq_val (some 10) (.bool false) rfl rfl (by kernel_rfl) (rvk (by kernel_rfl)) ?_
  simp only [p1, p2, p3, p4]
  refine sq_nil ?_
  refine k61 _ _ ?_
  try clear k61 K61
  refine wp_seq_k (fun K62 k62 => ?_)
  refine wp_cond_false rfl ?_
  refine wp_exit ?_
  simp only [Exit.then, Exit.inBlock, ↓reduceIte]
  refine k11 _ _ ?_
  try clear k11 K11
  refine wp_seq_k (fun K63 k63 => ?_)
  refine wp_region ?_
  simp only [List.size_toArray, List.length_cons, List.length_nil, Nat.reduceAdd, List.range, List.range.loop]
  refine sq_val (some 23) (.agg #[p25, q25, r25, s25, p41, q41, r41, s41, p57, q57, r57, s57]) rfl rfl (by kernel_rfl) (rv_load 33 _ b10 0 _ _ [p25, q25, r25, s25, p41, q41, r41, s41, p57, q57, r57, s57] rfl rfl L10 rfl (by kernel_rfl)) ?_
  simp only [p1, p2, p3, p4]
  refine sq_eff rfl (by kernel_rfl) (fun K64 k64 => ?_)
  replace L7 := st60.lc ((st44.lc ((st28.lc (L7.gr (g10.trans (gd23.trans g25))) ne7_10).gr (gd39.trans g41)) ne7_10).gr (gd55.trans g57)) ne7_10
  refine eff_store 33 _ _ b7 0 (.agg #[p25, q25, r25, s25, p41, q41, r41, s41, p57, q57, r57, s57]) [p25, q25, r25, s25, p41, q41, r41, s41, p57, q57, r57, s57] _ #[p25, q25, r25, s25, p41, q41, r41, s41, p57, q57, r57, s57] _ rfl rfl rfl rfl rfl L7 (by kernel_rfl) (Nat.le_of_ble_eq_true rfl) ⟨h25.one0, h25.one1, h25.one2, h25.one3, h41.one0, h41.one1, h41.one2, h41.one3, h57.one0, h57.one1, h57.one2, h57.one3, trivial⟩ (by kernel_rfl) (fun w65 st65 N65 => ?_)
  have kp65 := st65.kp L7 (by decide)
  replace hB := st65.gr hB q7
  replace L7 := N65
  refine k64 _ _ ?_
  try clear k64 K64
  refine sq_nil ?_
  refine k63 _ _ ?_
  try clear k63 K63
  refine wp_ret ?_
  refine bodyPost_ret (v := (.agg #[p25, q25, r25, s25, p41, q41, r41, s41, p57, q57, r57, s57])) (ret_cell _ _ _ rfl rfl L7 (by kernel_rfl)) rfl ⟨?_, hB⟩
  have kq66 := kp28.trans (gd39.kp.trans (g41.kp.trans (kp44.trans (gd55.kp.trans (g57.kp.trans (kp60.trans kp65))))))
  replace h25 := h25.kp kq66
  have kq67 := kp44.trans (gd55.kp.trans (g57.kp.trans (kp60.trans kp65)))
  replace h41 := h41.kp kq67
  have kq68 := kp60.trans kp65
  replace h57 := h57.kp kq68
  exact ⟨_, _, _, _, _, _, _, _, _, _, _, _, rfl, h25, h41, h57⟩

set_option maxRecDepth 100000 in
set_option maxHeartbeats 4000000 in
theorem each_sub {k m : Nat} {uaa0 uaa1 uaa2 uaa3 uab0 uab1 uab2 uab3 uac0 uac1 uac2 uac3 : Value} {a1 a2 a3 : Rat} {vaa0 vaa1 vaa2 vaa3 vab0 vab1 vab2 vab3 vac0 vac1 vac2 vac3 : Value} {c1 c2 c3 : Rat} {w : World} (hua1 : IsRat w k uaa0 uaa1 uaa2 uaa3 a1) (hua2 : IsRat w k uab0 uab1 uab2 uab3 a2) (hua3 : IsRat w k uac0 uac1 uac2 uac3 a3) (hva1 : IsRat w m vaa0 vaa1 vaa2 vaa3 c1) (hva2 : IsRat w m vab0 vab1 vab2 vab3 c2) (hva3 : IsRat w m vac0 vac1 vac2 vac3 c3) (_hk : k + m ≤ 100000) :
    Calls Tryd.prog 51 #[(.agg #[uaa0, uaa1, uaa2, uaa3, uab0, uab1, uab2, uab3, uac0, uac1, uac2, uac3]), (.agg #[vaa0, vaa1, vaa2, vaa3, vab0, vab1, vab2, vab3, vac0, vac1, vac2, vac3]), (.func (.func 55) #[] #[])] w fun e w' => (∃ t0 t1 t2 t3 t4 t5 t6 t7 t8 t9 t10 t11, e = .returned (.agg #[t0, t1, t2, t3, t4, t5, t6, t7, t8, t9, t10, t11]) ∧ IsRat w' (k + m + 1) t0 t1 t2 t3 ((a1 - c1)) ∧ IsRat w' (k + m + 1) t4 t5 t6 t7 ((a2 - c2)) ∧ IsRat w' (k + m + 1) t8 t9 t10 t11 ((a3 - c3))) ∧ Gr w w' := by
  go_enter Tryd.func51, Tryd.ntmps51
  have hB := Gr.refl w
  refine wp_seq_k (fun K1 k1 => ?_)
  refine wp_region ?_
  simp only [List.size_toArray, List.length_cons, List.length_nil, Nat.reduceAdd, List.range, List.range.loop]
  refine sq_eff rfl (by kernel_rfl) (fun K2 k2 => ?_)
  refine eff_box 33 _ (.agg #[uaa0, uaa1, uaa2, uaa3, uab0, uab1, uab2, uab3, uac0, uac1, uac2, uac3]) #[uaa0, uaa1, uaa2, uaa3, uab0, uab1, uab2, uab3, uac0, uac1, uac2, uac3] (some 3) rfl rfl rfl rfl (fun b3 w3 g3 L3 q3 => ?_)
  replace q3 := Nat.le_trans (Below.size hB) q3
  replace hB := Gr.trans hB g3
  refine k2 _ _ ?_
  try clear k2 K2
  simp only [p1, p2, p3, p4]
  refine sq_eff rfl (by kernel_rfl) (fun K4 k4 => ?_)
  refine eff_box 33 _ (.agg #[vaa0, vaa1, vaa2, vaa3, vab0, vab1, vab2, vab3, vac0, vac1, vac2, vac3]) #[vaa0, vaa1, vaa2, vaa3, vab0, vab1, vab2, vab3, vac0, vac1, vac2, vac3] (some 4) rfl rfl rfl rfl (fun b5 w5 g5 L5 q5 => ?_)
  have ne3_5 := L3.ne q5
  replace q5 := Nat.le_trans (Below.size hB) q5
  replace hB := Gr.trans hB g5
  refine k4 _ _ ?_
  try clear k4 K4
  simp only [p1, p2, p3, p4]
  refine sq_eff rfl (by kernel_rfl) (fun K6 k6 => ?_)
  refine eff_alloc 33 (.agg #[(.bool false), (.slice none 0 0), (.bool false), (.slice none 0 0), (.bool false), (.slice none 0 0), (.bool false), (.slice none 0 0), (.bool false), (.slice none 0 0), (.bool false), (.slice none 0 0)]) #[(.bool false), (.slice none 0 0), (.bool false), (.slice none 0 0), (.bool false), (.slice none 0 0), (.bool false), (.slice none 0 0), (.bool false), (.slice none 0 0), (.bool false), (.slice none 0 0)] (some 6) rfl rfl (by kernel_rfl) rfl (fun b7 w7 g7 L7 q7 => ?_)
  replace L3 := L3.gr g5
  have ne3_7 := L3.ne q7
  have ne5_7 := L5.ne q7
  replace q7 := Nat.le_trans (Below.size hB) q7
  replace hB := Gr.trans hB g7
  refine k6 _ _ ?_
  try clear k6 K6
  simp only [p1, p2, p3, p4]
  refine sq_nil ?_
  refine k1 _ _ ?_
  try clear k1 K1
  refine wp_seq_k (fun K8 k8 => ?_)
  refine wp_region ?_
  simp only [List.size_toArray, List.length_cons, List.length_nil, Nat.reduceAdd, List.range, List.range.loop]
  refine sq_eff rfl (by kernel_rfl) (fun K9 k9 => ?_)
  refine eff_alloc 33 (.agg #[(.bool false), (.slice none 0 0), (.bool false), (.slice none 0 0), (.bool false), (.slice none 0 0), (.bool false), (.slice none 0 0), (.bool false), (.slice none 0 0), (.bool false), (.slice none 0 0)]) #[(.bool false), (.slice none 0 0), (.bool false), (.slice none 0 0), (.bool false), (.slice none 0 0), (.bool false), (.slice none 0 0), (.bool false), (.slice none 0 0), (.bool false), (.slice none 0 0)] (some 7) rfl rfl (by kernel_rfl) rfl (fun b10 w10 g10 L10 q10 => ?_)
  replace L3 := L3.gr g7
  have ne3_10 := L3.ne q10
  replace L5 := L5.gr g7
  have ne5_10 := L5.ne q10
  have ne7_10 := L7.ne q10
  replace q10 := Nat.le_trans (Below.size hB) q10
  replace hB := Gr.trans hB g10
  refine k9 _ _ ?_
  try clear k9 K9
  simp only [p1, p2, p3, p4]
  refine sq_nil ?_
  refine k8 _ _ ?_
  try clear k8 K8
  refine wp_seq_k (fun K11 k11 => ?_)
  refine wp_seq_k (fun K12 k12 => ?_)
  refine wp_region ?_
  simp only [List.size_toArray, List.length_cons, List.length_nil, Nat.reduceAdd, List.range, List.range.loop]
  refine sq_val (some 9) (.int .i64 0) rfl rfl (by kernel_rfl) (rvk (by kernel_rfl)) ?_
  simp only [p1, p2, p3, p4]
  refine sq_nil ?_
  refine k12 _ _ ?_
  try clear k12 K12
  refine wp_block ?_
  refine wp_loop_rounds 4 ?_
  show Code.wp _ _ _ _ _
  refine wp_seq_k (fun K13 k13 => ?_)
  refine wp_region ?_
  simp only [List.size_toArray, List.length_cons, List.length_nil, Nat.reduceAdd, List.range, List.range.loop]
  refine sq_val (some 10) (.bool true) rfl rfl (by kernel_rfl) (rvk (by kernel_rfl)) ?_
  simp only [p1, p2, p3, p4]
  refine sq_nil ?_
  refine k13 _ _ ?_
  try clear k13 K13
  refine wp_seq_k (fun K14 k14 => ?_)
  refine wp_cond_true rfl ?_
  refine wp_skip ?_
  refine k14 _ _ ?_
  try clear k14 K14
  refine wp_seq_k (fun K15 k15 => ?_)
  refine wp_block ?_
  refine wp_seq_k (fun K16 k16 => ?_)
  refine wp_region ?_
  simp only [List.size_toArray, List.length_cons, List.length_nil, Nat.reduceAdd, List.range, List.range.loop]
  refine sq_val (some 11) (.int .i64 0) rfl rfl (by kernel_rfl) (rvk (by kernel_rfl)) ?_
  simp only [p1, p2, p3, p4]
  refine sq_val (some 8) (.int .i64 0) rfl rfl (by kernel_rfl) (rvk (by kernel_rfl)) ?_
  simp only [p1, p2, p3, p4]
  refine sq_nil ?_
  refine k16 _ _ ?_
  try clear k16 K16
  have gd23 := Gr.drew w10
  replace hB := Gr.trans hB gd23
  replace L3 := L3.gr (g10.trans gd23)
  replace L5 := L5.gr (g10.trans gd23)
  refine wp_region_ord (fun w' => Lc w' b3 #[uaa0, uaa1, uaa2, uaa3, uab0, uab1, uab2, uab3, uac0, uac1, uac2, uac3] 33 ∧ Lc w' b5 #[vaa0, vaa1, vaa2, vaa3, vab0, vab1, vab2, vab3, vac0, vac1, vac2, vac3] 33) [(true, 0), (true, 1), (true, 2), (true, 3), (true, 4), (true, 5), (true, 6), (true, 7), (false, 8), (true, 9), (false, 10)] (by kernel_rfl) (by kernel_rfl) (by kernel_rfl) (by decide) (fun _ _ _ _ _ h => h) ⟨L3, L5⟩ ?_
  refine ord_pure (some 12) (.int .i64 0) rfl rfl rfl (fun w' hS => (rvk (by kernel_rfl))) ?_
  simp only [p1, p2, p3, p4]
  refine ord_pure (some 13) (.func (.func 55) #[] #[]) rfl rfl rfl (fun w' hS => (rvk (by kernel_rfl))) ?_
  simp only [p1, p2, p3, p4]
  refine ord_pure (some 14) (.int .i64 0) rfl rfl rfl (fun w' hS => (rvk (by kernel_rfl))) ?_
  simp only [p1, p2, p3, p4]
  refine ord_pure (some 15) (.pointer (some ⟨b3, 0, none⟩)) rfl rfl rfl (fun w' hS => (rvk (by kernel_rfl))) ?_
  simp only [p1, p2, p3, p4]
  refine ord_pure (some 16) (.agg #[uaa0, uaa1, uaa2, uaa3]) rfl rfl rfl (fun w' hS => (rv_load 31 _ b3 0 _ _ [uaa0, uaa1, uaa2, uaa3] rfl rfl hS.1 rfl (by kernel_rfl))) ?_
  simp only [p1, p2, p3, p4]
  refine ord_pure (some 17) (.int .i64 0) rfl rfl rfl (fun w' hS => (rvk (by kernel_rfl))) ?_
  simp only [p1, p2, p3, p4]
  refine ord_pure (some 18) (.pointer (some ⟨b5, 0, none⟩)) rfl rfl rfl (fun w' hS => (rvk (by kernel_rfl))) ?_
  simp only [p1, p2, p3, p4]
  refine ord_pure (some 19) (.agg #[vaa0, vaa1, vaa2, vaa3]) rfl rfl rfl (fun w' hS => (rv_load 31 _ b5 0 _ _ [vaa0, vaa1, vaa2, vaa3] rfl rfl hS.2 rfl (by kernel_rfl))) ?_
  simp only [p1, p2, p3, p4]
  refine ord_eff rfl rfl (fun K24 k24 => ?_)
  have kq26 := g3.kp.trans (g5.kp.trans (g7.kp.trans (g10.kp.trans gd23.kp)))
  replace hua1 := hua1.kp kq26
  replace hva1 := hva1.kp kq26
  refine eff_call (some 20) rfl (by kernel_rfl) (sub_r hua1 hva1 (by omega)) ?_
  rintro e25 w25 ⟨⟨p25, q25, r25, s25, rfl, h25⟩, g25⟩
  refine ⟨_, rfl, ?_⟩
  replace hB := Gr.trans hB g25
  replace L3 := L3.gr g25
  replace L5 := L5.gr g25
  refine k24 _ _ ⟨L3, L5⟩ ?_
  try clear k24 K24
  simp only [p1, p2, p3, p4]
  refine ord_pure (some 21) (.pointer (some ⟨b10, 0, none⟩)) rfl rfl rfl (fun w' hS => (rvk (by kernel_rfl))) ?_
  simp only [p1, p2, p3, p4]
  refine ord_eff rfl rfl (fun K27 k27 => ?_)
  replace L10 := L10.gr (gd23.trans g25)
  refine eff_store 31 _ _ b10 0 (.agg #[p25, q25, r25, s25]) [p25, q25, r25, s25] _ #[p25, q25, r25, s25, (.bool false), (.slice none 0 0), (.bool false), (.slice none 0 0), (.bool false), (.slice none 0 0), (.bool false), (.slice none 0 0)] _ rfl rfl rfl rfl rfl L10 (by kernel_rfl) (Nat.le_of_ble_eq_true rfl) ⟨h25.one0, h25.one1, h25.one2, h25.one3, trivial⟩ (by kernel_rfl) (fun w28 st28 N28 => ?_)
  have kp28 := st28.kp L10 (by decide)
  replace hB := st28.gr hB q10
  replace L10 := N28
  replace L3 := st28.lc L3 ne3_10
  replace L5 := st28.lc L5 ne5_10
  refine k27 _ _ ⟨L3, L5⟩ ?_
  try clear k27 K27
  refine ord_nil ?_
  refine k15 _ _ ?_
  try clear k15 K15
  refine wp_region ?_
  simp only [List.size_toArray, List.length_cons, List.length_nil, Nat.reduceAdd, List.range, List.range.loop]
  refine sq_val (some 22) (.int .i64 1) rfl rfl (by kernel_rfl) (rvk (by kernel_rfl)) ?_
  simp only [p1, p2, p3, p4]
  refine sq_val (some 9) (.int .i64 1) rfl rfl (by kernel_rfl) (rvk (by kernel_rfl)) ?_
  simp only [p1, p2, p3, p4]
  refine sq_nil ?_
  show Code.rounds _ _ _ _ _ _
  show Code.wp _ _ _ _ _
  refine wp_seq_k (fun K29 k29 => ?_)
  refine wp_region ?_
  simp only [List.size_toArray, List.length_cons, List.length_nil, Nat.reduceAdd, List.range, List.range.loop]
  refine sq_val (some 10) (.bool true) rfl rfl (by kernel_rfl) (rvk (by kernel_rfl)) ?_
  simp only [p1, p2, p3, p4]
  refine sq_nil ?_
  refine k29 _ _ ?_
  try clear k29 K29
  refine wp_seq_k (fun K30 k30 => ?_)
  refine wp_cond_true rfl ?_
  refine wp_skip ?_
  refine k30 _ _ ?_
  try clear k30 K30
  refine wp_seq_k (fun K31 k31 => ?_)
  refine wp_block ?_
  refine wp_seq_k (fun K32 k32 => ?_)
  refine wp_region ?_
  simp only [List.size_toArray, List.length_cons, List.length_nil, Nat.reduceAdd, List.range, List.range.loop]
  refine sq_val (some 11) (.int .i64 1) rfl rfl (by kernel_rfl) (rvk (by kernel_rfl)) ?_
  simp only [p1, p2, p3, p4]
  refine sq_val (some 8) (.int .i64 1) rfl rfl (by kernel_rfl) (rvk (by kernel_rfl)) ?_
  simp only [p1, p2, p3, p4]
  refine sq_nil ?_
  refine k32 _ _ ?_
  try clear k32 K32
  have gd39 := Gr.drew w28
  replace hB := Gr.trans hB gd39
  replace L3 := L3.gr gd39
  replace L5 := L5.gr gd39
  refine wp_region_ord (fun w' => Lc w' b3 #[uaa0, uaa1, uaa2, uaa3, uab0, uab1, uab2, uab3, uac0, uac1, uac2, uac3] 33 ∧ Lc w' b5 #[vaa0, vaa1, vaa2, vaa3, vab0, vab1, vab2, vab3, vac0, vac1, vac2, vac3] 33) [(true, 0), (true, 1), (true, 2), (true, 3), (true, 4), (true, 5), (true, 6), (true, 7), (false, 8), (true, 9), (false, 10)] (by kernel_rfl) (by kernel_rfl) (by kernel_rfl) (by decide) (fun _ _ _ _ _ h => h) ⟨L3, L5⟩ ?_
  refine ord_pure (some 12) (.int .i64 1) rfl rfl rfl (fun w' hS => (rvk (by kernel_rfl))) ?_
  simp only [p1, p2, p3, p4]
  refine ord_pure (some 13) (.func (.func 55) #[] #[]) rfl rfl rfl (fun w' hS => (rvk (by kernel_rfl))) ?_
  simp only [p1, p2, p3, p4]
  refine ord_pure (some 14) (.int .i64 1) rfl rfl rfl (fun w' hS => (rvk (by kernel_rfl))) ?_
  simp only [p1, p2, p3, p4]
  refine ord_pure (some 15) (.pointer (some ⟨b3, 4, none⟩)) rfl rfl rfl (fun w' hS => (rvk (by kernel_rfl))) ?_
  simp only [p1, p2, p3, p4]
  refine ord_pure (some 16) (.agg #[uab0, uab1, uab2, uab3]) rfl rfl rfl (fun w' hS => (rv_load 31 _ b3 4 _ _ [uab0, uab1, uab2, uab3] rfl rfl hS.1 rfl (by kernel_rfl))) ?_
  simp only [p1, p2, p3, p4]
  refine ord_pure (some 17) (.int .i64 1) rfl rfl rfl (fun w' hS => (rvk (by kernel_rfl))) ?_
  simp only [p1, p2, p3, p4]
  refine ord_pure (some 18) (.pointer (some ⟨b5, 4, none⟩)) rfl rfl rfl (fun w' hS => (rvk (by kernel_rfl))) ?_
  simp only [p1, p2, p3, p4]
  refine ord_pure (some 19) (.agg #[vab0, vab1, vab2, vab3]) rfl rfl rfl (fun w' hS => (rv_load 31 _ b5 4 _ _ [vab0, vab1, vab2, vab3] rfl rfl hS.2 rfl (by kernel_rfl))) ?_
  simp only [p1, p2, p3, p4]
  refine ord_eff rfl rfl (fun K40 k40 => ?_)
  have kq42 := g3.kp.trans (g5.kp.trans (g7.kp.trans (g10.kp.trans (gd23.kp.trans (g25.kp.trans (kp28.trans gd39.kp))))))
  replace hua2 := hua2.kp kq42
  replace hva2 := hva2.kp kq42
  refine eff_call (some 20) rfl (by kernel_rfl) (sub_r hua2 hva2 (by omega)) ?_
  rintro e41 w41 ⟨⟨p41, q41, r41, s41, rfl, h41⟩, g41⟩
  refine ⟨_, rfl, ?_⟩
  replace hB := Gr.trans hB g41
  replace L3 := L3.gr g41
  replace L5 := L5.gr g41
  refine k40 _ _ ⟨L3, L5⟩ ?_
  try clear k40 K40
  simp only [p1, p2, p3, p4]
  refine ord_pure (some 21) (.pointer (some ⟨b10, 4, none⟩)) rfl rfl rfl (fun w' hS => (rvk (by kernel_rfl))) ?_
  simp only [p1, p2, p3, p4]
  refine ord_eff rfl rfl (fun K43 k43 => ?_)
  replace L10 := L10.gr (gd39.trans g41)
  refine eff_store 31 _ _ b10 4 (.agg #[p41, q41, r41, s41]) [p41, q41, r41, s41] _ #[p25, q25, r25, s25, p41, q41, r41, s41, (.bool false), (.slice none 0 0), (.bool false), (.slice none 0 0)] _ rfl rfl rfl rfl rfl L10 (by kernel_rfl) (Nat.le_of_ble_eq_true rfl) ⟨h41.one0, h41.one1, h41.one2, h41.one3, trivial⟩ (by kernel_rfl) (fun w44 st44 N44 => ?_)
  have kp44 := st44.kp L10 (by decide)
  replace hB := st44.gr hB q10
  replace L10 := N44
  replace L3 := st44.lc L3 ne3_10
  replace L5 := st44.lc L5 ne5_10
  refine k43 _ _ ⟨L3, L5⟩ ?_
  try clear k43 K43
  refine ord_nil ?_
  refine k31 _ _ ?_
  try clear k31 K31
  refine wp_region ?_
  simp only [List.size_toArray, List.length_cons, List.length_nil, Nat.reduceAdd, List.range, List.range.loop]
  refine sq_val (some 22) (.int .i64 2) rfl rfl (by kernel_rfl) (rvk (by kernel_rfl)) ?_
  simp only [p1, p2, p3, p4]
  refine sq_val (some 9) (.int .i64 2) rfl rfl (by kernel_rfl) (rvk (by kernel_rfl)) ?_
  simp only [p1, p2, p3, p4]
  refine sq_nil ?_
  show Code.rounds _ _ _ _ _ _
  show Code.wp _ _ _ _ _
  refine wp_seq_k (fun K45 k45 => ?_)
  refine wp_region ?_
  simp only [List.size_toArray, List.length_cons, List.length_nil, Nat.reduceAdd, List.range, List.range.loop]
  refine sq_val (some 10) (.bool true) rfl rfl (by kernel_rfl) (rvk (by kernel_rfl)) ?_
  simp only [p1, p2, p3, p4]
  refine sq_nil ?_
  refine k45 _ _ ?_
  try clear k45 K45
  refine wp_seq_k (fun K46 k46 => ?_)
  refine wp_cond_true rfl ?_
  refine wp_skip ?_
  refine k46 _ _ ?_
  try clear k46 K46
  refine wp_seq_k (fun K47 k47 => ?_)
  refine wp_block ?_
  refine wp_seq_k (fun K48 k48 => ?_)
  refine wp_region ?_
  simp only [List.size_toArray, List.length_cons, List.length_nil, Nat.reduceAdd, List.range, List.range.loop]
  refine sq_val (some 11) (.int .i64 2) rfl rfl (by kernel_rfl) (rvk (by kernel_rfl)) ?_
  simp only [p1, p2, p3, p4]
  refine sq_val (some 8) (.int .i64 2) rfl rfl (by kernel_rfl) (rvk (by kernel_rfl)) ?_
  simp only [p1, p2, p3, p4]
  refine sq_nil ?_
  refine k48 _ _ ?_
  try clear k48 K48
  have gd55 := Gr.drew w44
  replace hB := Gr.trans hB gd55
  replace L3 := L3.gr gd55
  replace L5 := L5.gr gd55
  refine wp_region_ord (fun w' => Lc w' b3 #[uaa0, uaa1, uaa2, uaa3, uab0, uab1, uab2, uab3, uac0, uac1, uac2, uac3] 33 ∧ Lc w' b5 #[vaa0, vaa1, vaa2, vaa3, vab0, vab1, vab2, vab3, vac0, vac1, vac2, vac3] 33) [(true, 0), (true, 1), (true, 2), (true, 3), (true, 4), (true, 5), (true, 6), (true, 7), (false, 8), (true, 9), (false, 10)] (by kernel_rfl) (by kernel_rfl) (by kernel_rfl) (by decide) (fun _ _ _ _ _ h => h) ⟨L3, L5⟩ ?_
  refine ord_pure (some 12) (.int .i64 2) rfl rfl rfl (fun w' hS => (rvk (by kernel_rfl))) ?_
  simp only [p1, p2, p3, p4]
  refine ord_pure (some 13) (.func (.func 55) #[] #[]) rfl rfl rfl (fun w' hS => (rvk (by kernel_rfl))) ?_
  simp only [p1, p2, p3, p4]
  refine ord_pure (some 14) (.int .i64 2) rfl rfl rfl (fun w' hS => (rvk (by kernel_rfl))) ?_
  simp only [p1, p2, p3, p4]
  refine ord_pure (some 15) (.pointer (some ⟨b3, 8, none⟩)) rfl rfl rfl (fun w' hS => (rvk (by kernel_rfl))) ?_
  simp only [p1, p2, p3, p4]
  refine ord_pure (some 16) (.agg #[uac0, uac1, uac2, uac3]) rfl rfl rfl (fun w' hS => (rv_load 31 _ b3 8 _ _ [uac0, uac1, uac2, uac3] rfl rfl hS.1 rfl (by kernel_rfl))) ?_
  simp only [p1, p2, p3, p4]
  refine ord_pure (some 17) (.int .i64 2) rfl rfl rfl (fun w' hS => (rvk (by kernel_rfl))) ?_
  simp only [p1, p2, p3, p4]
  refine ord_pure (some 18) (.pointer (some ⟨b5, 8, none⟩)) rfl rfl rfl (fun w' hS => (rvk (by kernel_rfl))) ?_
  simp only [p1, p2, p3, p4]
  refine ord_pure (some 19) (.agg #[vac0, vac1, vac2, vac3]) rfl rfl rfl (fun w' hS => (rv_load 31 _ b5 8 _ _ [vac0, vac1, vac2, vac3] rfl rfl hS.2 rfl (by kernel_rfl))) ?_
  simp only [p1, p2, p3, p4]
  refine ord_eff rfl rfl (fun K56 k56 => ?_)
  have kq58 := g3.kp.trans (g5.kp.trans (g7.kp.trans (g10.kp.trans (gd23.kp.trans (g25.kp.trans (kp28.trans (gd39.kp.trans (g41.kp.trans (kp44.trans gd55.kp)))))))))
  replace hua3 := hua3.kp kq58
  replace hva3 := hva3.kp kq58
  refine eff_call (some 20) rfl (by kernel_rfl) (sub_r hua3 hva3 (by omega)) ?_
  rintro e57 w57 ⟨⟨p57, q57, r57, s57, rfl, h57⟩, g57⟩
  refine ⟨_, rfl, ?_⟩
  replace hB := Gr.trans hB g57
  replace L3 := L3.gr g57
  replace L5 := L5.gr g57
  refine k56 _ _ ⟨L3, L5⟩ ?_
  try clear k56 K56
  simp only [p1, p2, p3, p4]
  refine ord_pure (some 21) (.pointer (some ⟨b10, 8, none⟩)) rfl rfl rfl (fun w' hS => (rvk (by kernel_rfl))) ?_
  simp only [p1, p2, p3, p4]
  refine ord_eff rfl rfl (fun K59 k59 => ?_)
  replace L10 := L10.gr (gd55.trans g57)
  refine eff_store 31 _ _ b10 8 (.agg #[p57, q57, r57, s57]) [p57, q57, r57, s57] _ #[p25, q25, r25, s25, p41, q41, r41, s41, p57, q57, r57, s57] _ rfl rfl rfl rfl rfl L10 (by kernel_rfl) (Nat.le_of_ble_eq_true rfl) ⟨h57.one0, h57.one1, h57.one2, h57.one3, trivial⟩ (by kernel_rfl) (fun w60 st60 N60 => ?_)
  have kp60 := st60.kp L10 (by decide)
  replace hB := st60.gr hB q10
  replace L10 := N60
  replace L3 := st60.lc L3 ne3_10
  replace L5 := st60.lc L5 ne5_10
  refine k59 _ _ ⟨L3, L5⟩ ?_
  try clear k59 K59
  refine ord_nil ?_
  refine k47 _ _ ?_
  try clear k47 K47
  refine wp_region ?_
  simp only [List.size_toArray, List.length_cons, List.length_nil, Nat.reduceAdd, List.range, List.range.loop]
  refine sq_val (some 22) (.int .i64 3) rfl rfl (by kernel_rfl) (rvk (by kernel_rfl)) ?_
  simp only [p1, p2, p3, p4]
  refine sq_val (some 9) (.int .i64 3) rfl rfl (by kernel_rfl) (rvk (by kernel_rfl)) ?_
  simp only [p1, p2, p3, p4]
  refine sq_nil ?_
  show Code.rounds _ _ _ _ _ _
  show Code.wp _ _ _ _ _
  refine wp_seq_k (fun K61 k61 => ?_)
  refine wp_region ?_
  simp only [List.size_toArray, List.length_cons, List.length_nil, Nat.reduceAdd, List.range, List.range.loop]
  refine sq_val (some 10) (.bool false) rfl rfl (by kernel_rfl) (rvk (by kernel_rfl)) ?_
  simp only [p1, p2, p3, p4]
  refine sq_nil ?_
  refine k61 _ _ ?_
  try clear k61 K61
  refine wp_seq_k (fun K62 k62 => ?_)
  refine wp_cond_false rfl ?_
  refine wp_exit ?_
  simp only [Exit.then, Exit.inBlock, ↓reduceIte]
  refine k11 _ _ ?_
  try clear k11 K11
  refine wp_seq_k (fun K63 k63 => ?_)
  refine wp_region ?_
  simp only [List.size_toArray, List.length_cons, List.length_nil, Nat.reduceAdd, List.range, List.range.loop]
  refine sq_val (some 23) (.agg #[p25, q25, r25, s25, p41, q41, r41, s41, p57, q57, r57, s57]) rfl rfl (by kernel_rfl) (rv_load 33 _ b10 0 _ _ [p25, q25, r25, s25, p41, q41, r41, s41, p57, q57, r57, s57] rfl rfl L10 rfl (by kernel_rfl)) ?_
  simp only [p1, p2, p3, p4]
  refine sq_eff rfl (by kernel_rfl) (fun K64 k64 => ?_)
  replace L7 := st60.lc ((st44.lc ((st28.lc (L7.gr (g10.trans (gd23.trans g25))) ne7_10).gr (gd39.trans g41)) ne7_10).gr (gd55.trans g57)) ne7_10
  refine eff_store 33 _ _ b7 0 (.agg #[p25, q25, r25, s25, p41, q41, r41, s41, p57, q57, r57, s57]) [p25, q25, r25, s25, p41, q41, r41, s41, p57, q57, r57, s57] _ #[p25, q25, r25, s25, p41, q41, r41, s41, p57, q57, r57, s57] _ rfl rfl rfl rfl rfl L7 (by kernel_rfl) (Nat.le_of_ble_eq_true rfl) ⟨h25.one0, h25.one1, h25.one2, h25.one3, h41.one0, h41.one1, h41.one2, h41.one3, h57.one0, h57.one1, h57.one2, h57.one3, trivial⟩ (by kernel_rfl) (fun w65 st65 N65 => ?_)
  have kp65 := st65.kp L7 (by decide)
  replace hB := st65.gr hB q7
  replace L7 := N65
  refine k64 _ _ ?_
  try clear k64 K64
  refine sq_nil ?_
  refine k63 _ _ ?_
  try clear k63 K63
  refine wp_ret ?_
  refine bodyPost_ret (v := (.agg #[p25, q25, r25, s25, p41, q41, r41, s41, p57, q57, r57, s57])) (ret_cell _ _ _ rfl rfl L7 (by kernel_rfl)) rfl ⟨?_, hB⟩
  have kq66 := kp28.trans (gd39.kp.trans (g41.kp.trans (kp44.trans (gd55.kp.trans (g57.kp.trans (kp60.trans kp65))))))
  replace h25 := h25.kp kq66
  have kq67 := kp44.trans (gd55.kp.trans (g57.kp.trans (kp60.trans kp65)))
  replace h41 := h41.kp kq67
  have kq68 := kp60.trans kp65
  replace h57 := h57.kp kq68
  exact ⟨_, _, _, _, _, _, _, _, _, _, _, _, rfl, h25, h41, h57⟩

set_option maxRecDepth 100000 in
set_option maxHeartbeats 4000000 in
theorem each_mul {k m : Nat} {uaa0 uaa1 uaa2 uaa3 uab0 uab1 uab2 uab3 uac0 uac1 uac2 uac3 : Value} {a1 a2 a3 : Rat} {vaa0 vaa1 vaa2 vaa3 vab0 vab1 vab2 vab3 vac0 vac1 vac2 vac3 : Value} {c1 c2 c3 : Rat} {w : World} (hua1 : IsRat w k uaa0 uaa1 uaa2 uaa3 a1) (hua2 : IsRat w k uab0 uab1 uab2 uab3 a2) (hua3 : IsRat w k uac0 uac1 uac2 uac3 a3) (hva1 : IsRat w m vaa0 vaa1 vaa2 vaa3 c1) (hva2 : IsRat w m vab0 vab1 vab2 vab3 c2) (hva3 : IsRat w m vac0 vac1 vac2 vac3 c3) (_hk : k + m ≤ 100000) :
    Calls Tryd.prog 51 #[(.agg #[uaa0, uaa1, uaa2, uaa3, uab0, uab1, uab2, uab3, uac0, uac1, uac2, uac3]), (.agg #[vaa0, vaa1, vaa2, vaa3, vab0, vab1, vab2, vab3, vac0, vac1, vac2, vac3]), (.func (.func 33) #[] #[])] w fun e w' => (∃ t0 t1 t2 t3 t4 t5 t6 t7 t8 t9 t10 t11, e = .returned (.agg #[t0, t1, t2, t3, t4, t5, t6, t7, t8, t9, t10, t11]) ∧ IsRat w' (k + m) t0 t1 t2 t3 ((a1 * c1)) ∧ IsRat w' (k + m) t4 t5 t6 t7 ((a2 * c2)) ∧ IsRat w' (k + m) t8 t9 t10 t11 ((a3 * c3))) ∧ Gr w w' := by
  go_enter Tryd.func51, Tryd.ntmps51
  have hB := Gr.refl w
  refine wp_seq_k (fun K1 k1 => ?_)
  refine wp_region ?_
  simp only [List.size_toArray, List.length_cons, List.length_nil, Nat.reduceAdd, List.range, List.range.loop]
  refine sq_eff rfl (by kernel_rfl) (fun K2 k2 => ?_)
  refine eff_box 33 _ (.agg #[uaa0, uaa1, uaa2, uaa3, uab0, uab1, uab2, uab3, uac0, uac1, uac2, uac3]) #[uaa0, uaa1, uaa2, uaa3, uab0, uab1, uab2, uab3, uac0, uac1, uac2, uac3] (some 3) rfl rfl rfl rfl (fun b3 w3 g3 L3 q3 => ?_)
  replace q3 := Nat.le_trans (Below.size hB) q3
  replace hB := Gr.trans hB g3
  refine k2 _ _ ?_
  try clear k2 K2
  simp only [p1, p2, p3, p4]
  refine sq_eff rfl (by kernel_rfl) (fun K4 k4 => ?_)
  refine eff_box 33 _ (.agg #[vaa0, vaa1, vaa2, vaa3, vab0, vab1, vab2, vab3, vac0, vac1, vac2, vac3]) #[vaa0, vaa1, vaa2, vaa3, vab0, vab1, vab2, vab3, vac0, vac1, vac2, vac3] (some 4) rfl rfl rfl rfl (fun b5 w5 g5 L5 q5 => ?_)
  have ne3_5 := L3.ne q5
  replace q5 := Nat.le_trans (Below.size hB) q5
  replace hB := Gr.trans hB g5
  refine k4 _ _ ?_
  try clear k4 K4
  simp only [p1, p2, p3, p4]
  refine sq_eff rfl (by kernel_rfl) (fun K6 k6 => ?_)
  refine eff_alloc 33 (.agg #[(.bool false), (.slice none 0 0), (.bool false), (.slice none 0 0), (.bool false), (.slice none 0 0), (.bool false), (.slice none 0 0), (.bool false), (.slice none 0 0), (.bool false), (.slice none 0 0)]) #[(.bool false), (.slice none 0 0), (.bool false), (.slice none 0 0), (.bool false), (.slice none 0 0), (.bool false), (.slice none 0 0), (.bool false), (.slice none 0 0), (.bool false), (.slice none 0 0)] (some 6) rfl rfl (by kernel_rfl) rfl (fun b7 w7 g7 L7 q7 => ?_)
  replace L3 := L3.gr g5
  have ne3_7 := L3.ne q7
  have ne5_7 := L5.ne q7
  replace q7 := Nat.le_trans (Below.size hB) q7
  replace hB := Gr.trans hB g7
  refine k6 _ _ ?_
  try clear k6 K6
  simp only [p1, p2, p3, p4]
  refine sq_nil ?_
  refine k1 _ _ ?_
  try clear k1 K1
  refine wp_seq_k (fun K8 k8 => ?_)
  refine wp_region ?_
  simp only [List.size_toArray, List.length_cons, List.length_nil, Nat.reduceAdd, List.range, List.range.loop]
  refine sq_eff rfl (by kernel_rfl) (fun K9 k9 => ?_)
  refine eff_alloc 33 (.agg #[(.bool false), (.slice none 0 0), (.bool false), (.slice none 0 0), (.bool false), (.slice none 0 0), (.bool false), (.slice none 0 0), (.bool false), (.slice none 0 0), (.bool false), (.slice none 0 0)]) #[(.bool false), (.slice none 0 0), (.bool false), (.slice none 0 0), (.bool false), (.slice none 0 0), (.bool false), (.slice none 0 0), (.bool false), (.slice none 0 0), (.bool false), (.slice none 0 0)] (some 7) rfl rfl (by kernel_rfl) rfl (fun b10 w10 g10 L10 q10 => ?_)
  replace L3 := L3.gr g7
  have ne3_10 := L3.ne q10
  replace L5 := L5.gr g7
  have ne5_10 := L5.ne q10
  have ne7_10 := L7.ne q10
  replace q10 := Nat.le_trans (Below.size hB) q10
  replace hB := Gr.trans hB g10
  refine k9 _ _ ?_
  try clear k9 K9
  simp only [p1, p2, p3, p4]
  refine sq_nil ?_
  refine k8 _ _ ?_
  try clear k8 K8
  refine wp_seq_k (fun K11 k11 => ?_)
  refine wp_seq_k (fun K12 k12 => ?_)
  refine wp_region ?_
  simp only [List.size_toArray, List.length_cons, List.length_nil, Nat.reduceAdd, List.range, List.range.loop]
  refine sq_val (some 9) (.int .i64 0) rfl rfl (by kernel_rfl) (rvk (by kernel_rfl)) ?_
  simp only [p1, p2, p3, p4]
  refine sq_nil ?_
  refine k12 _ _ ?_
  try clear k12 K12
  refine wp_block ?_
  refine wp_loop_rounds 4 ?_
  show Code.wp _ _ _ _ _
  refine wp_seq_k (fun K13 k13 => ?_)
  refine wp_region ?_
  simp only [List.size_toArray, List.length_cons, List.length_nil, Nat.reduceAdd, List.range, List.range.loop]
  refine sq_val (some 10) (.bool true) rfl rfl (by kernel_rfl) (rvk (by kernel_rfl)) ?_
  simp only [p1, p2, p3, p4]
  refine sq_nil ?_
  refine k13 _ _ ?_
  try clear k13 K13
  refine wp_seq_k (fun K14 k14 => ?_)
  refine wp_cond_true rfl ?_
  refine wp_skip ?_
  refine k14 _ _ ?_
  try clear k14 K14
  refine wp_seq_k (fun K15 k15 => ?_)
  refine wp_block ?_
  refine wp_seq_k (fun K16 k16 => ?_)
  refine wp_region ?_
  simp only [List.size_toArray, List.length_cons, List.length_nil, Nat.reduceAdd, List.range, List.range.loop]
  refine sq_val (some 11) (.int .i64 0) rfl rfl (by kernel_rfl) (rvk (by kernel_rfl)) ?_
  simp only [p1, p2, p3, p4]
  refine sq_val (some 8) (.int .i64 0) rfl rfl (by kernel_rfl) (rvk (by kernel_rfl)) ?_
  simp only [p1, p2, p3, p4]
  refine sq_nil ?_
  refine k16 _ _ ?_
  try clear k16 K16
  have gd23 := Gr.drew w10
  replace hB := Gr.trans hB gd23
  replace L3 := L3.gr (g10.trans gd23)
  replace L5 := L5.gr (g10.trans gd23)
  refine wp_region_ord (fun w' => Lc w' b3 #[uaa0, uaa1, uaa2, uaa3, uab0, uab1, uab2, uab3, uac0, uac1, uac2, uac3] 33 ∧ Lc w' b5 #[vaa0, vaa1, vaa2, vaa3, vab0, vab1, vab2, vab3, vac0, vac1, vac2, vac3] 33) [(true, 0), (true, 1), (true, 2), (true, 3), (true, 4), (true, 5), (true, 6), (true, 7), (false, 8), (true, 9), (false, 10)] (by kernel_rfl) (by kernel_rfl) (by kernel_rfl) (by decide) (fun _ _ _ _ _ h => h) ⟨L3, L5⟩ ?_
  refine ord_pure (some 12) (.int .i64 0) rfl rfl rfl (fun w' hS => (rvk (by kernel_rfl))) ?_
  simp only [p1, p2, p3, p4]
  refine ord_pure (some 13) (.func (.func 33) #[] #[]) rfl rfl rfl (fun w' hS => (rvk (by kernel_rfl))) ?_
  simp only [p1, p2, p3, p4]
  refine ord_pure (some 14) (.int .i64 0) rfl rfl rfl (fun w' hS => (rvk (by kernel_rfl))) ?_
  simp only [p1, p2, p3, p4]
  refine ord_pure (some 15) (.pointer (some ⟨b3, 0, none⟩)) rfl rfl rfl (fun w' hS => (rvk (by kernel_rfl))) ?_
  simp only [p1, p2, p3, p4]
  refine ord_pure (some 16) (.agg #[uaa0, uaa1, uaa2, uaa3]) rfl rfl rfl (fun w' hS => (rv_load 31 _ b3 0 _ _ [uaa0, uaa1, uaa2, uaa3] rfl rfl hS.1 rfl (by kernel_rfl))) ?_
  simp only [p1, p2, p3, p4]
  refine ord_pure (some 17) (.int .i64 0) rfl rfl rfl (fun w' hS => (rvk (by kernel_rfl))) ?_
  simp only [p1, p2, p3, p4]
  refine ord_pure (some 18) (.pointer (some ⟨b5, 0, none⟩)) rfl rfl rfl (fun w' hS => (rvk (by kernel_rfl))) ?_
  simp only [p1, p2, p3, p4]
  refine ord_pure (some 19) (.agg #[vaa0, vaa1, vaa2, vaa3]) rfl rfl rfl (fun w' hS => (rv_load 31 _ b5 0 _ _ [vaa0, vaa1, vaa2, vaa3] rfl rfl hS.2 rfl (by kernel_rfl))) ?_
  simp only [p1, p2, p3, p4]
  refine ord_eff rfl rfl (fun K24 k24 => ?_)
  have kq26 := g3.kp.trans (g5.kp.trans (g7.kp.trans (g10.kp.trans gd23.kp)))
  replace hua1 := hua1.kp kq26
  replace hva1 := hva1.kp kq26
  refine eff_call (some 20) rfl (by kernel_rfl) (mul_r hua1 hva1 (by omega)) ?_
  rintro e25 w25 ⟨⟨p25, q25, r25, s25, rfl, h25⟩, g25⟩
  refine ⟨_, rfl, ?_⟩
  replace hB := Gr.trans hB g25
  replace L3 := L3.gr g25
  replace L5 := L5.gr g25
  refine k24 _ _ ⟨L3, L5⟩ ?_
  try clear k24 K24
  simp only [p1, p2, p3, p4]
  refine ord_pure (some 21) (.pointer (some ⟨b10, 0, none⟩)) rfl rfl rfl (fun w' hS => (rvk (by kernel_rfl))) ?_
  simp only [p1, p2, p3, p4]
  refine ord_eff rfl rfl (fun K27 k27 => ?_)
  replace L10 := L10.gr (gd23.trans g25)
  refine eff_store 31 _ _ b10 0 (.agg #[p25, q25, r25, s25]) [p25, q25, r25, s25] _ #[p25, q25, r25, s25, (.bool false), (.slice none 0 0), (.bool false), (.slice none 0 0), (.bool false), (.slice none 0 0), (.bool false), (.slice none 0 0)] _ rfl rfl rfl rfl rfl L10 (by kernel_rfl) (Nat.le_of_ble_eq_true rfl) ⟨h25.one0, h25.one1, h25.one2, h25.one3, trivial⟩ (by kernel_rfl) (fun w28 st28 N28 => ?_)
  have kp28 := st28.kp L10 (by decide)
  replace hB := st28.gr hB q10
  replace L10 := N28
  replace L3 := st28.lc L3 ne3_10
  replace L5 := st28.lc L5 ne5_10
  refine k27 _ _ ⟨L3, L5⟩ ?_
  try clear k27 K27
  refine ord_nil ?_
  refine k15 _ _ ?_
  try clear k15 K15
  refine wp_region ?_
  simp only [List.size_toArray, List.length_cons, List.length_nil, Nat.reduceAdd, List.range, List.range.loop]
  refine sq_val (some 22) (.int .i64 1) rfl rfl (by kernel_rfl) (rvk (by kernel_rfl)) ?_
  simp only [p1, p2, p3, p4]
  refine sq_val (some 9) (.int .i64 1) rfl rfl (by kernel_rfl) (rvk (by kernel_rfl)) ?_
  simp only [p1, p2, p3, p4]
  refine sq_nil ?_
  show Code.rounds _ _ _ _ _ _
  show Code.wp _ _ _ _ _
  refine wp_seq_k (fun K29 k29 => ?_)
  refine wp_region ?_
  simp only [List.size_toArray, List.length_cons, List.length_nil, Nat.reduceAdd, List.range, List.range.loop]
  refine sq_val (some 10) (.bool true) rfl rfl (by kernel_rfl) (rvk (by kernel_rfl)) ?_
  simp only [p1, p2, p3, p4]
  refine sq_nil ?_
  refine k29 _ _ ?_
  try clear k29 K29
  refine wp_seq_k (fun K30 k30 => ?_)
  refine wp_cond_true rfl ?_
  refine wp_skip ?_
  refine k30 _ _ ?_
  try clear k30 K30
  refine wp_seq_k (fun K31 k31 => ?_)
  refine wp_block ?_
  refine wp_seq_k (fun K32 k32 => ?_)
  refine wp_region ?_
  simp only [List.size_toArray, List.length_cons, List.length_nil, Nat.reduceAdd, List.range, List.range.loop]
  refine sq_val (some 11) (.int .i64 1) rfl rfl (by kernel_rfl) (rvk (by kernel_rfl)) ?_
  simp only [p1, p2, p3, p4]
  refine sq_val (some 8) (.int .i64 1) rfl rfl (by kernel_rfl) (rvk (by kernel_rfl)) ?_
  simp only [p1, p2, p3, p4]
  refine sq_nil ?_
  refine k32 _ _ ?_
  try clear k32 K32
  have gd39 := Gr.drew w28
  replace hB := Gr.trans hB gd39
  replace L3 := L3.gr gd39
  replace L5 := L5.gr gd39
  refine wp_region_ord (fun w' => Lc w' b3 #[uaa0, uaa1, uaa2, uaa3, uab0, uab1, uab2, uab3, uac0, uac1, uac2, uac3] 33 ∧ Lc w' b5 #[vaa0, vaa1, vaa2, vaa3, vab0, vab1, vab2, vab3, vac0, vac1, vac2, vac3] 33) [(true, 0), (true, 1), (true, 2), (true, 3), (true, 4), (true, 5), (true, 6), (true, 7), (false, 8), (true, 9), (false, 10)] (by kernel_rfl) (by kernel_rfl) (by kernel_rfl) (by decide) (fun _ _ _ _ _ h => h) ⟨L3, L5⟩ ?_
  refine ord_pure (some 12) (.int .i64 1) rfl rfl rfl (fun w' hS => (rvk (by kernel_rfl))) ?_
  simp only [p1, p2, p3, p4]
  refine ord_pure (some 13) (.func (.func 33) #[] #[]) rfl rfl rfl (fun w' hS => (rvk (by kernel_rfl))) ?_
  simp only [p1, p2, p3, p4]
  refine ord_pure (some 14) (.int .i64 1) rfl rfl rfl (fun w' hS => (rvk (by kernel_rfl))) ?_
  simp only [p1, p2, p3, p4]
  refine ord_pure (some 15) (.pointer (some ⟨b3, 4, none⟩)) rfl rfl rfl (fun w' hS => (rvk (by kernel_rfl))) ?_
  simp only [p1, p2, p3, p4]
  refine ord_pure (some 16) (.agg #[uab0, uab1, uab2, uab3]) rfl rfl rfl (fun w' hS => (rv_load 31 _ b3 4 _ _ [uab0, uab1, uab2, uab3] rfl rfl hS.1 rfl (by kernel_rfl))) ?_
  simp only [p1, p2, p3, p4]
  refine ord_pure (some 17) (.int .i64 1) rfl rfl rfl (fun w' hS => (rvk (by kernel_rfl))) ?_
  simp only [p1, p2, p3, p4]
  refine ord_pure (some 18) (.pointer (some ⟨b5, 4, none⟩)) rfl rfl rfl (fun w' hS => (rvk (by kernel_rfl))) ?_
  simp only [p1, p2, p3, p4]
  refine ord_pure (some 19) (.agg #[vab0, vab1, vab2, vab3]) rfl rfl rfl (fun w' hS => (rv_load 31 _ b5 4 _ _ [vab0, vab1, vab2, vab3] rfl rfl hS.2 rfl (by kernel_rfl))) ?_
  simp only [p1, p2, p3, p4]
  refine ord_eff rfl rfl (fun K40 k40 => ?_)
  have kq42 := g3.kp.trans (g5.kp.trans (g7.kp.trans (g10.kp.trans (gd23.kp.trans (g25.kp.trans (kp28.trans gd39.kp))))))
  replace hua2 := hua2.kp kq42
  replace hva2 := hva2.kp kq42
  refine eff_call (some 20) rfl (by kernel_rfl) (mul_r hua2 hva2 (by omega)) ?_
  rintro e41 w41 ⟨⟨p41, q41, r41, s41, rfl, h41⟩, g41⟩
  refine ⟨_, rfl, ?_⟩
  replace hB := Gr.trans hB g41
  replace L3 := L3.gr g41
  replace L5 := L5.gr g41
  refine k40 _ _ ⟨L3, L5⟩ ?_
  try clear k40 K40
  simp only [p1, p2, p3, p4]
  refine ord_pure (some 21) (.pointer (some ⟨b10, 4, none⟩)) rfl rfl rfl (fun w' hS => (rvk (by kernel_rfl))) ?_
  simp only [p1, p2, p3, p4]
  refine ord_eff rfl rfl (fun K43 k43 => ?_)
  replace L10 := L10.gr (gd39.trans g41)
  refine eff_store 31 _ _ b10 4 (.agg #[p41, q41, r41, s41]) [p41, q41, r41, s41] _ #[p25, q25, r25, s25, p41, q41, r41, s41, (.bool false), (.slice none 0 0), (.bool false), (.slice none 0 0)] _ rfl rfl rfl rfl rfl L10 (by kernel_rfl) (Nat.le_of_ble_eq_true rfl) ⟨h41.one0, h41.one1, h41.one2, h41.one3, trivial⟩ (by kernel_rfl) (fun w44 st44 N44 => ?_)
  have kp44 := st44.kp L10 (by decide)
  replace hB := st44.gr hB q10
  replace L10 := N44
  replace L3 := st44.lc L3 ne3_10
  replace L5 := st44.lc L5 ne5_10
  refine k43 _ _ ⟨L3, L5⟩ ?_
  try clear k43 K43
  refine ord_nil ?_
  refine k31 _ _ ?_
  try clear k31 K31
  refine wp_region ?_
  simp only [List.size_toArray, List.length_cons, List.length_nil, Nat.reduceAdd, List.range, List.range.loop]
  refine sq_val (some 22) (.int .i64 2) rfl rfl (by kernel_rfl) (rvk (by kernel_rfl)) ?_
  simp only [p1, p2, p3, p4]
  refine sq_val (some 9) (.int .i64 2) rfl rfl (by kernel_rfl) (rvk (by kernel_rfl)) ?_
  simp only [p1, p2, p3, p4]
  refine sq_nil ?_
  show Code.rounds _ _ _ _ _ _
  show Code.wp _ _ _ _ _
  refine wp_seq_k (fun K45 k45 => ?_)
  refine wp_region ?_
  simp only [List.size_toArray, List.length_cons, List.length_nil, Nat.reduceAdd, List.range, List.range.loop]
  refine sq_val (some 10) (.bool true) rfl rfl (by kernel_rfl) (rvk (by kernel_rfl)) ?_
  simp only [p1, p2, p3, p4]
  refine sq_nil ?_
  refine k45 _ _ ?_
  try clear k45 K45
  refine wp_seq_k (fun K46 k46 => ?_)
  refine wp_cond_true rfl ?_
  refine wp_skip ?_
  refine k46 _ _ ?_
  try clear k46 K46
  refine wp_seq_k (fun K47 k47 => ?_)
  refine wp_block ?_
  refine wp_seq_k (fun K48 k48 => ?_)
  refine wp_region ?_
  simp only [List.size_toArray, List.length_cons, List.length_nil, Nat.reduceAdd, List.range, List.range.loop]
  refine sq_val (some 11) (.int .i64 2) rfl rfl (by kernel_rfl) (rvk (by kernel_rfl)) ?_
  simp only [p1, p2, p3, p4]
  refine sq_val (some 8) (.int .i64 2) rfl rfl (by kernel_rfl) (rvk (by kernel_rfl)) ?_
  simp only [p1, p2, p3, p4]
  refine sq_nil ?_
  refine k48 _ _ ?_
  try clear k48 K48
  have gd55 := Gr.drew w44
  replace hB := Gr.trans hB gd55
  replace L3 := L3.gr gd55
  replace L5 := L5.gr gd55
  refine wp_region_ord (fun w' => Lc w' b3 #[uaa0, uaa1, uaa2, uaa3, uab0, uab1, uab2, uab3, uac0, uac1, uac2, uac3] 33 ∧ Lc w' b5 #[vaa0, vaa1, vaa2, vaa3, vab0, vab1, vab2, vab3, vac0, vac1, vac2, vac3] 33) [(true, 0), (true, 1), (true, 2), (true, 3), (true, 4), (true, 5), (true, 6), (true, 7), (false, 8), (true, 9), (false, 10)] (by kernel_rfl) (by kernel_rfl) (by kernel_rfl) (by decide) (fun _ _ _ _ _ h => h) ⟨L3, L5⟩ ?_
  refine ord_pure (some 12) (.int .i64 2) rfl rfl rfl (fun w' hS => (rvk (by kernel_rfl))) ?_
  simp only [p1, p2, p3, p4]
  refine ord_pure (some 13) (.func (.func 33) #[] #[]) rfl rfl rfl (fun w' hS => (rvk (by kernel_rfl))) ?_
  simp only [p1, p2, p3, p4]
  refine ord_pure (some 14) (.int .i64 2) rfl rfl rfl (fun w' hS => (rvk (by kernel_rfl))) ?_
  simp only [p1, p2, p3, p4]
  refine ord_pure (some 15) (.pointer (some ⟨b3, 8, none⟩)) rfl rfl rfl (fun w' hS => (rvk (by kernel_rfl))) ?_
  simp only [p1, p2, p3, p4]
  refine ord_pure (some 16) (.agg #[uac0, uac1, uac2, uac3]) rfl rfl rfl (fun w' hS => (rv_load 31 _ b3 8 _ _ [uac0, uac1, uac2, uac3] rfl rfl hS.1 rfl (by kernel_rfl))) ?_
  simp only [p1, p2, p3, p4]
  refine ord_pure (some 17) (.int .i64 2) rfl rfl rfl (fun w' hS => (rvk (by kernel_rfl))) ?_
  simp only [p1, p2, p3, p4]
  refine ord_pure (some 18) (.pointer (some ⟨b5, 8, none⟩)) rfl rfl rfl (fun w' hS => (rvk (by kernel_rfl))) ?_
  simp only [p1, p2, p3, p4]
  refine ord_pure (some 19) (.agg #[vac0, vac1, vac2, vac3]) rfl rfl rfl (fun w' hS => (rv_load 31 _ b5 8 _ _ [vac0, vac1, vac2, vac3] rfl rfl hS.2 rfl (by kernel_rfl))) ?_
  simp only [p1, p2, p3, p4]
  refine ord_eff rfl rfl (fun K56 k56 => ?_)
  have kq58 := g3.kp.trans (g5.kp.trans (g7.kp.trans (g10.kp.trans (gd23.kp.trans (g25.kp.trans (kp28.trans (gd39.kp.trans (g41.kp.trans (kp44.trans gd55.kp)))))))))
  replace hua3 := hua3.kp kq58
  replace hva3 := hva3.kp kq58
  refine eff_call (some 20) rfl (by kernel_rfl) (mul_r hua3 hva3 (by omega)) ?_
  rintro e57 w57 ⟨⟨p57, q57, r57, s57, rfl, h57⟩, g57⟩
  refine ⟨_, rfl, ?_⟩
  replace hB := Gr.trans hB g57
  replace L3 := L3.gr g57
  replace L5 := L5.gr g57
  refine k56 _ _ ⟨L3, L5⟩ ?_
  try clear k56 K56
  simp only [p1, p2, p3, p4]
  refine ord_pure (some 21) (.pointer (some ⟨b10, 8, none⟩)) rfl rfl rfl (fun w' hS => (rvk (by kernel_rfl))) ?_
  simp only [p1, p2, p3, p4]
  refine ord_eff rfl rfl (fun K59 k59 => ?_)
  replace L10 := L10.gr (gd55.trans g57)
  refine eff_store 31 _ _ b10 8 (.agg #[p57, q57, r57, s57]) [p57, q57, r57, s57] _ #[p25, q25, r25, s25, p41, q41, r41, s41, p57, q57, r57, s57] _ rfl rfl rfl rfl rfl L10 (by kernel_rfl) (Nat.le_of_ble_eq_true rfl) ⟨h57.one0, h57.one1, h57.one2, h57.one3, trivial⟩ (by kernel_rfl) (fun w60 st60 N60 => ?_)
  have kp60 := st60.kp L10 (by decide)
  replace hB := st60.gr hB q10
  replace L10 := N60
  replace L3 := st60.lc L3 ne3_10
  replace L5 := st60.lc L5 ne5_10
  refine k59 _ _ ⟨L3, L5⟩ ?_
  try clear k59 K59
  refine ord_nil ?_
  refine k47 _ _ ?_
  try clear k47 K47
  refine wp_region ?_
  simp only [List.size_toArray, List.length_cons, List.length_nil, Nat.reduceAdd, List.range, List.range.loop]
  refine sq_val (some 22) (.int .i64 3) rfl rfl (by kernel_rfl) (rvk (by kernel_rfl)) ?_
  simp only [p1, p2, p3, p4]
  refine sq_val (some 9) (.int .i64 3) rfl rfl (by kernel_rfl) (rvk (by kernel_rfl)) ?_
  simp only [p1, p2, p3, p4]
  refine sq_nil ?_
  show Code.rounds _ _ _ _ _ _
  show Code.wp _ _ _ _ _
  refine wp_seq_k (fun K61 k61 => ?_)
  refine wp_region ?_
  simp only [List.size_toArray, List.length_cons, List.length_nil, Nat.reduceAdd, List.range, List.range.loop]
  refine sq_val (some 10) (.bool false) rfl rfl (by kernel_rfl) (rvk (by kernel_rfl)) ?_
  simp only [p1, p2, p3, p4]
  refine sq_nil ?_
  refine k61 _ _ ?_
  try clear k61 K61
  refine wp_seq_k (fun K62 k62 => ?_)
  refine wp_cond_false rfl ?_
  refine wp_exit ?_
  simp only [Exit.then, Exit.inBlock, ↓reduceIte]
  refine k11 _ _ ?_
  try clear k11 K11
  refine wp_seq_k (fun K63 k63 => ?_)
  refine wp_region ?_
  simp only [List.size_toArray, List.length_cons, List.length_nil, Nat.reduceAdd, List.range, List.range.loop]
  refine sq_val (some 23) (.agg #[p25, q25, r25, s25, p41, q41, r41, s41, p57, q57, r57, s57]) rfl rfl (by kernel_rfl) (rv_load 33 _ b10 0 _ _ [p25, q25, r25, s25, p41, q41, r41, s41, p57, q57, r57, s57] rfl rfl L10 rfl (by kernel_rfl)) ?_
  simp only [p1, p2, p3, p4]
  refine sq_eff rfl (by kernel_rfl) (fun K64 k64 => ?_)
  replace L7 := st60.lc ((st44.lc ((st28.lc (L7.gr (g10.trans (gd23.trans g25))) ne7_10).gr (gd39.trans g41)) ne7_10).gr (gd55.trans g57)) ne7_10
  refine eff_store 33 _ _ b7 0 (.agg #[p25, q25, r25, s25, p41, q41, r41, s41, p57, q57, r57, s57]) [p25, q25, r25, s25, p41, q41, r41, s41, p57, q57, r57, s57] _ #[p25, q25, r25, s25, p41, q41, r41, s41, p57, q57, r57, s57] _ rfl rfl rfl rfl rfl L7 (by kernel_rfl) (Nat.le_of_ble_eq_true rfl) ⟨h25.one0, h25.one1, h25.one2, h25.one3, h41.one0, h41.one1, h41.one2, h41.one3, h57.one0, h57.one1, h57.one2, h57.one3, trivial⟩ (by kernel_rfl) (fun w65 st65 N65 => ?_)
  have kp65 := st65.kp L7 (by decide)
  replace hB := st65.gr hB q7
  replace L7 := N65
  refine k64 _ _ ?_
  try clear k64 K64
  refine sq_nil ?_
  refine k63 _ _ ?_
  try clear k63 K63
  refine wp_ret ?_
  refine bodyPost_ret (v := (.agg #[p25, q25, r25, s25, p41, q41, r41, s41, p57, q57, r57, s57])) (ret_cell _ _ _ rfl rfl L7 (by kernel_rfl)) rfl ⟨?_, hB⟩
  have kq66 := kp28.trans (gd39.kp.trans (g41.kp.trans (kp44.trans (gd55.kp.trans (g57.kp.trans (kp60.trans kp65))))))
  replace h25 := h25.kp kq66
  have kq67 := kp44.trans (gd55.kp.trans (g57.kp.trans (kp60.trans kp65)))
  replace h41 := h41.kp kq67
  have kq68 := kp60.trans kp65
  replace h57 := h57.kp kq68
  exact ⟨_, _, _, _, _, _, _, _, _, _, _, _, rfl, h25, h41, h57⟩

set_option maxRecDepth 100000 in
set_option maxHeartbeats 1000000 in
theorem scale1_r {k m : Nat} {kb : Nat} {s0 s1 s2 s3 : Value} {sq : Rat} {u0 u1 u2 u3 v0 v1 v2 v3 : Value} {a : Rat} {w : World} (ha : IsRat w k u0 u1 u2 u3 a) (hL : Lc w kb #[s0, s1, s2, s3] 31) (hs : IsRat w m s0 s1 s2 s3 sq) (_hk : k + m ≤ 100000) :
    Calls Tryd.prog 54 #[(.agg #[u0, u1, u2, u3]), (.agg #[v0, v1, v2, v3]), (.pointer (some ⟨kb, 0, none⟩))] w fun e w' => (∃ z0 z1 z2 z3, e = .returned (.agg #[z0, z1, z2, z3]) ∧ IsRat w' (m + k) z0 z1 z2 z3 (sq * a)) ∧ Gr w w' := by
  go_enter Tryd.func54, Tryd.ntmps54
  have hB := Gr.refl w
  refine wp_seq_k (fun K1 k1 => ?_)
  refine wp_region ?_
  simp only [List.size_toArray, List.length_cons, List.length_nil, Nat.reduceAdd, List.range, List.range.loop]
  refine sq_eff rfl (by kernel_rfl) (fun K2 k2 => ?_)
  refine eff_box 31 _ (.agg #[u0, u1, u2, u3]) #[u0, u1, u2, u3] (some 3) rfl rfl rfl rfl (fun b3 w3 g3 L3 q3 => ?_)
  have ne0_3 := hL.ne q3
  replace q3 := Nat.le_trans (Below.size hB) q3
  replace hB := Gr.trans hB g3
  refine k2 _ _ ?_
  try clear k2 K2
  simp only [p1, p2, p3, p4]
  refine sq_eff rfl (by kernel_rfl) (fun K4 k4 => ?_)
  refine eff_box 31 _ (.agg #[v0, v1, v2, v3]) #[v0, v1, v2, v3] (some 4) rfl rfl rfl rfl (fun b5 w5 g5 L5 q5 => ?_)
  replace hL := hL.gr g3
  have ne0_5 := hL.ne q5
  have ne3_5 := L3.ne q5
  replace q5 := Nat.le_trans (Below.size hB) q5
  replace hB := Gr.trans hB g5
  refine k4 _ _ ?_
  try clear k4 K4
  simp only [p1, p2, p3, p4]
  refine sq_eff rfl (by kernel_rfl) (fun K6 k6 => ?_)
  refine eff_alloc 31 (.agg #[(.bool false), (.slice none 0 0), (.bool false), (.slice none 0 0)]) #[(.bool false), (.slice none 0 0), (.bool false), (.slice none 0 0)] (some 5) rfl rfl (by kernel_rfl) rfl (fun b7 w7 g7 L7 q7 => ?_)
  replace hL := hL.gr g5
  have ne0_7 := hL.ne q7
  replace L3 := L3.gr g5
  have ne3_7 := L3.ne q7
  have ne5_7 := L5.ne q7
  replace q7 := Nat.le_trans (Below.size hB) q7
  replace hB := Gr.trans hB g7
  refine k6 _ _ ?_
  try clear k6 K6
  simp only [p1, p2, p3, p4]
  refine sq_nil ?_
  refine k1 _ _ ?_
  try clear k1 K1
  refine wp_seq_k (fun K8 k8 => ?_)
  refine wp_region ?_
  simp only [List.size_toArray, List.length_cons, List.length_nil, Nat.reduceAdd, List.range, List.range.loop]
  replace hL := hL.gr g7
  refine sq_val (some 6) (.agg #[s0, s1, s2, s3]) rfl rfl (by kernel_rfl) (rv_load 31 _ kb 0 _ _ [s0, s1, s2, s3] rfl rfl hL rfl (by kernel_rfl)) ?_
  simp only [p1, p2, p3, p4]
  replace L3 := L3.gr g7
  refine sq_val (some 7) (.agg #[u0, u1, u2, u3]) rfl rfl (by kernel_rfl) (rv_load 31 _ b3 0 _ _ [u0, u1, u2, u3] rfl rfl L3 rfl (by kernel_rfl)) ?_
  simp only [p1, p2, p3, p4]
  refine sq_eff rfl (by kernel_rfl) (fun K9 k9 => ?_)
  have kq11 := g3.kp.trans (g5.kp.trans g7.kp)
  replace hs := hs.kp kq11
  replace ha := ha.kp kq11
  refine eff_call (some 8) rfl (by kernel_rfl) (mul_r hs ha (by omega)) ?_
  rintro e10 w10 ⟨⟨p10, q10, r10, s10, rfl, h10⟩, g10⟩
  refine ⟨_, rfl, ?_⟩
  replace hB := Gr.trans hB g10
  refine k9 _ _ ?_
  try clear k9 K9
  simp only [p1, p2, p3, p4]
  refine sq_eff rfl (by kernel_rfl) (fun K12 k12 => ?_)
  replace L7 := L7.gr g10
  refine eff_store 31 _ _ b7 0 (.agg #[p10, q10, r10, s10]) [p10, q10, r10, s10] _ #[p10, q10, r10, s10] _ rfl rfl rfl rfl rfl L7 (by kernel_rfl) (Nat.le_of_ble_eq_true rfl) ⟨h10.one0, h10.one1, h10.one2, h10.one3, trivial⟩ (by kernel_rfl) (fun w13 st13 N13 => ?_)
  have kp13 := st13.kp L7 (by decide)
  replace hB := st13.gr hB q7
  replace L7 := N13
  refine k12 _ _ ?_
  try clear k12 K12
  refine sq_nil ?_
  refine k8 _ _ ?_
  try clear k8 K8
  refine wp_ret ?_
  refine bodyPost_ret (v := (.agg #[p10, q10, r10, s10])) (ret_cell _ _ _ rfl rfl L7 (by kernel_rfl)) rfl ⟨?_, hB⟩
  replace h10 := h10.kp kp13
  exact ⟨_, _, _, _, rfl, h10⟩

set_option maxRecDepth 100000 in
set_option maxHeartbeats 4000000 in
theorem each_scale {k m : Nat} {kb : Nat} {s0 s1 s2 s3 : Value} {sq : Rat} {uaa0 uaa1 uaa2 uaa3 uab0 uab1 uab2 uab3 uac0 uac1 uac2 uac3 : Value} {a1 a2 a3 : Rat} {w : World} (hua1 : IsRat w k uaa0 uaa1 uaa2 uaa3 a1) (hua2 : IsRat w k uab0 uab1 uab2 uab3 a2) (hua3 : IsRat w k uac0 uac1 uac2 uac3 a3) (hL : Lc w kb #[s0, s1, s2, s3] 31) (hs : IsRat w m s0 s1 s2 s3 sq) (_hk : k + m ≤ 100000) :
    Calls Tryd.prog 51 #[(.agg #[uaa0, uaa1, uaa2, uaa3, uab0, uab1, uab2, uab3, uac0, uac1, uac2, uac3]), (.agg #[uaa0, uaa1, uaa2, uaa3, uab0, uab1, uab2, uab3, uac0, uac1, uac2, uac3]), (.func (.func 54) #[] #[(.pointer (some ⟨kb, 0, none⟩))])] w fun e w' => (∃ t0 t1 t2 t3 t4 t5 t6 t7 t8 t9 t10 t11, e = .returned (.agg #[t0, t1, t2, t3, t4, t5, t6, t7, t8, t9, t10, t11]) ∧ IsRat w' (m + k) t0 t1 t2 t3 (sq * a1) ∧ IsRat w' (m + k) t4 t5 t6 t7 (sq * a2) ∧ IsRat w' (m + k) t8 t9 t10 t11 (sq * a3)) ∧ Gr w w' := by
  go_enter Tryd.func51, Tryd.ntmps51
  have hB := Gr.refl w
  refine wp_seq_k (fun K1 k1 => ?_)
  refine wp_region ?_
  simp only [List.size_toArray, List.length_cons, List.length_nil, Nat.reduceAdd, List.range, List.range.loop]
  refine sq_eff rfl (by kernel_rfl) (fun K2 k2 => ?_)
  refine eff_box 33 _ (.agg #[uaa0, uaa1, uaa2, uaa3, uab0, uab1, uab2, uab3, uac0, uac1, uac2, uac3]) #[uaa0, uaa1, uaa2, uaa3, uab0, uab1, uab2, uab3, uac0, uac1, uac2, uac3] (some 3) rfl rfl rfl rfl (fun b3 w3 g3 L3 q3 => ?_)
  have ne0_3 := hL.ne q3
  replace q3 := Nat.le_trans (Below.size hB) q3
  replace hB := Gr.trans hB g3
  refine k2 _ _ ?_
  try clear k2 K2
  simp only [p1, p2, p3, p4]
  refine sq_eff rfl (by kernel_rfl) (fun K4 k4 => ?_)
  refine eff_box 33 _ (.agg #[uaa0, uaa1, uaa2, uaa3, uab0, uab1, uab2, uab3, uac0, uac1, uac2, uac3]) #[uaa0, uaa1, uaa2, uaa3, uab0, uab1, uab2, uab3, uac0, uac1, uac2, uac3] (some 4) rfl rfl rfl rfl (fun b5 w5 g5 L5 q5 => ?_)
  replace hL := hL.gr g3
  have ne0_5 := hL.ne q5
  have ne3_5 := L3.ne q5
  replace q5 := Nat.le_trans (Below.size hB) q5
  replace hB := Gr.trans hB g5
  refine k4 _ _ ?_
  try clear k4 K4
  simp only [p1, p2, p3, p4]
  refine sq_eff rfl (by kernel_rfl) (fun K6 k6 => ?_)
  refine eff_alloc 33 (.agg #[(.bool false), (.slice none 0 0), (.bool false), (.slice none 0 0), (.bool false), (.slice none 0 0), (.bool false), (.slice none 0 0), (.bool false), (.slice none 0 0), (.bool false), (.slice none 0 0)]) #[(.bool false), (.slice none 0 0), (.bool false), (.slice none 0 0), (.bool false), (.slice none 0 0), (.bool false), (.slice none 0 0), (.bool false), (.slice none 0 0), (.bool false), (.slice none 0 0)] (some 6) rfl rfl (by kernel_rfl) rfl (fun b7 w7 g7 L7 q7 => ?_)
  replace hL := hL.gr g5
  have ne0_7 := hL.ne q7
  replace L3 := L3.gr g5
  have ne3_7 := L3.ne q7
  have ne5_7 := L5.ne q7
  replace q7 := Nat.le_trans (Below.size hB) q7
  replace hB := Gr.trans hB g7
  refine k6 _ _ ?_
  try clear k6 K6
  simp only [p1, p2, p3, p4]
  refine sq_nil ?_
  refine k1 _ _ ?_
  try clear k1 K1
  refine wp_seq_k (fun K8 k8 => ?_)
  refine wp_region ?_
  simp only [List.size_toArray, List.length_cons, List.length_nil, Nat.reduceAdd, List.range, List.range.loop]
  refine sq_eff rfl (by kernel_rfl) (fun K9 k9 => ?_)
  refine eff_alloc 33 (.agg #[(.bool false), (.slice none 0 0), (.bool false), (.slice none 0 0), (.bool false), (.slice none 0 0), (.bool false), (.slice none 0 0), (.bool false), (.slice none 0 0), (.bool false), (.slice none 0 0)]) #[(.bool false), (.slice none 0 0), (.bool false), (.slice none 0 0), (.bool false), (.slice none 0 0), (.bool false), (.slice none 0 0), (.bool false), (.slice none 0 0), (.bool false), (.slice none 0 0)] (some 7) rfl rfl (by kernel_rfl) rfl (fun b10 w10 g10 L10 q10 => ?_)
  replace hL := hL.gr g7
  have ne0_10 := hL.ne q10
  replace L3 := L3.gr g7
  have ne3_10 := L3.ne q10
  replace L5 := L5.gr g7
  have ne5_10 := L5.ne q10
  have ne7_10 := L7.ne q10
  replace q10 := Nat.le_trans (Below.size hB) q10
  replace hB := Gr.trans hB g10
  refine k9 _ _ ?_
  try clear k9 K9
  simp only [p1, p2, p3, p4]
  refine sq_nil ?_
  refine k8 _ _ ?_
  try clear k8 K8
  refine wp_seq_k (fun K11 k11 => ?_)
  refine wp_seq_k (fun K12 k12 => ?_)
  refine wp_region ?_
  simp only [List.size_toArray, List.length_cons, List.length_nil, Nat.reduceAdd, List.range, List.range.loop]
  refine sq_val (some 9) (.int .i64 0) rfl rfl (by kernel_rfl) (rvk (by kernel_rfl)) ?_
  simp only [p1, p2, p3, p4]
  refine sq_nil ?_
  refine k12 _ _ ?_
  try clear k12 K12
  refine wp_block ?_
  refine wp_loop_rounds 4 ?_
  show Code.wp _ _ _ _ _
  refine wp_seq_k (fun K13 k13 => ?_)
  refine wp_region ?_
  simp only [List.size_toArray, List.length_cons, List.length_nil, Nat.reduceAdd, List.range, List.range.loop]
  refine sq_val (some 10) (.bool true) rfl rfl (by kernel_rfl) (rvk (by kernel_rfl)) ?_
  simp only [p1, p2, p3, p4]
  refine sq_nil ?_
  refine k13 _ _ ?_
  try clear k13 K13
  refine wp_seq_k (fun K14 k14 => ?_)
  refine wp_cond_true rfl ?_
  refine wp_skip ?_
  refine k14 _ _ ?_
  try clear k14 K14
  refine wp_seq_k (fun K15 k15 => ?_)
  refine wp_block ?_
  refine wp_seq_k (fun K16 k16 => ?_)
  refine wp_region ?_
  simp only [List.size_toArray, List.length_cons, List.length_nil, Nat.reduceAdd, List.range, List.range.loop]
  refine sq_val (some 11) (.int .i64 0) rfl rfl (by kernel_rfl) (rvk (by kernel_rfl)) ?_
  simp only [p1, p2, p3, p4]
  refine sq_val (some 8) (.int .i64 0) rfl rfl (by kernel_rfl) (rvk (by kernel_rfl)) ?_
  simp only [p1, p2, p3, p4]
  refine sq_nil ?_
  refine k16 _ _ ?_
  try clear k16 K16
  have gd23 := Gr.drew w10
  replace hB := Gr.trans hB gd23
  replace L3 := L3.gr (g10.trans gd23)
  replace L5 := L5.gr (g10.trans gd23)
  refine wp_region_ord (fun w' => Lc w' b3 #[uaa0, uaa1, uaa2, uaa3, uab0, uab1, uab2, uab3, uac0, uac1, uac2, uac3] 33 ∧ Lc w' b5 #[uaa0, uaa1, uaa2, uaa3, uab0, uab1, uab2, uab3, uac0, uac1, uac2, uac3] 33) [(true, 0), (true, 1), (true, 2), (true, 3), (true, 4), (true, 5), (true, 6), (true, 7), (false, 8), (true, 9), (false, 10)] (by kernel_rfl) (by kernel_rfl) (by kernel_rfl) (by decide) (fun _ _ _ _ _ h => h) ⟨L3, L5⟩ ?_
  refine ord_pure (some 12) (.int .i64 0) rfl rfl rfl (fun w' hS => (rvk (by kernel_rfl))) ?_
  simp only [p1, p2, p3, p4]
  refine ord_pure (some 13) (.func (.func 54) #[] #[(.pointer (some ⟨kb, 0, none⟩))]) rfl rfl rfl (fun w' hS => (rvk (by kernel_rfl))) ?_
  simp only [p1, p2, p3, p4]
  refine ord_pure (some 14) (.int .i64 0) rfl rfl rfl (fun w' hS => (rvk (by kernel_rfl))) ?_
  simp only [p1, p2, p3, p4]
  refine ord_pure (some 15) (.pointer (some ⟨b3, 0, none⟩)) rfl rfl rfl (fun w' hS => (rvk (by kernel_rfl))) ?_
  simp only [p1, p2, p3, p4]
  refine ord_pure (some 16) (.agg #[uaa0, uaa1, uaa2, uaa3]) rfl rfl rfl (fun w' hS => (rv_load 31 _ b3 0 _ _ [uaa0, uaa1, uaa2, uaa3] rfl rfl hS.1 rfl (by kernel_rfl))) ?_
  simp only [p1, p2, p3, p4]
  refine ord_pure (some 17) (.int .i64 0) rfl rfl rfl (fun w' hS => (rvk (by kernel_rfl))) ?_
  simp only [p1, p2, p3, p4]
  refine ord_pure (some 18) (.pointer (some ⟨b5, 0, none⟩)) rfl rfl rfl (fun w' hS => (rvk (by kernel_rfl))) ?_
  simp only [p1, p2, p3, p4]
  refine ord_pure (some 19) (.agg #[uaa0, uaa1, uaa2, uaa3]) rfl rfl rfl (fun w' hS => (rv_load 31 _ b5 0 _ _ [uaa0, uaa1, uaa2, uaa3] rfl rfl hS.2 rfl (by kernel_rfl))) ?_
  simp only [p1, p2, p3, p4]
  refine ord_eff rfl rfl (fun K24 k24 => ?_)
  have kq26 := g3.kp.trans (g5.kp.trans (g7.kp.trans (g10.kp.trans gd23.kp)))
  replace hua1 := hua1.kp kq26
  replace hs := hs.kp kq26
  replace hL := hL.gr (g10.trans gd23)
  refine eff_call (some 20) rfl (by kernel_rfl) (scale1_r (v0 := uaa0) (v1 := uaa1) (v2 := uaa2) (v3 := uaa3) hua1 hL hs (by omega)) ?_
  rintro e25 w25 ⟨⟨p25, q25, r25, s25, rfl, h25⟩, g25⟩
  refine ⟨_, rfl, ?_⟩
  replace hB := Gr.trans hB g25
  replace L3 := L3.gr g25
  replace L5 := L5.gr g25
  refine k24 _ _ ⟨L3, L5⟩ ?_
  try clear k24 K24
  simp only [p1, p2, p3, p4]
  refine ord_pure (some 21) (.pointer (some ⟨b10, 0, none⟩)) rfl rfl rfl (fun w' hS => (rvk (by kernel_rfl))) ?_
  simp only [p1, p2, p3, p4]
  refine ord_eff rfl rfl (fun K27 k27 => ?_)
  replace L10 := L10.gr (gd23.trans g25)
  refine eff_store 31 _ _ b10 0 (.agg #[p25, q25, r25, s25]) [p25, q25, r25, s25] _ #[p25, q25, r25, s25, (.bool false), (.slice none 0 0), (.bool false), (.slice none 0 0), (.bool false), (.slice none 0 0), (.bool false), (.slice none 0 0)] _ rfl rfl rfl rfl rfl L10 (by kernel_rfl) (Nat.le_of_ble_eq_true rfl) ⟨h25.one0, h25.one1, h25.one2, h25.one3, trivial⟩ (by kernel_rfl) (fun w28 st28 N28 => ?_)
  have kp28 := st28.kp L10 (by decide)
  replace hB := st28.gr hB q10
  replace L10 := N28
  replace L3 := st28.lc L3 ne3_10
  replace L5 := st28.lc L5 ne5_10
  refine k27 _ _ ⟨L3, L5⟩ ?_
  try clear k27 K27
  refine ord_nil ?_
  refine k15 _ _ ?_
  try clear k15 K15
  refine wp_region ?_
  simp only [List.size_toArray, List.length_cons, List.length_nil, Nat.reduceAdd, List.range, List.range.loop]
  refine sq_val (some 22) (.int .i64 1) rfl rfl (by kernel_rfl) (rvk (by kernel_rfl)) ?_
  simp only [p1, p2, p3, p4]
  refine sq_val (some 9) (.int .i64 1) rfl rfl (by kernel_rfl) (rvk (by kernel_rfl)) ?_
  simp only [p1, p2, p3, p4]
  refine sq_nil ?_
  show Code.rounds _ _ _ _ _ _
  show Code.wp _ _ _ _ _
  refine wp_seq_k (fun K29 k29 => ?_)
  refine wp_region ?_
  simp only [List.size_toArray, List.length_cons, List.length_nil, Nat.reduceAdd, List.range, List.range.loop]
  refine sq_val (some 10) (.bool true) rfl rfl (by kernel_rfl) (rvk (by kernel_rfl)) ?_
  simp only [p1, p2, p3, p4]
  refine sq_nil ?_
  refine k29 _ _ ?_
  try clear k29 K29
  refine wp_seq_k (fun K30 k30 => ?_)
  refine wp_cond_true rfl ?_
  refine wp_skip ?_
  refine k30 _ _ ?_
  try clear k30 K30
  refine wp_seq_k (fun K31 k31 => ?_)
  refine wp_block ?_
  refine wp_seq_k (fun K32 k32 => ?_)
  refine wp_region ?_
  simp only [List.size_toArray, List.length_cons, List.length_nil, Nat.reduceAdd, List.range, List.range.loop]
  refine sq_val (some 11) (.int .i64 1) rfl rfl (by kernel_rfl) (rvk (by kernel_rfl)) ?_
  simp only [p1, p2, p3, p4]
  refine sq_val (some 8) (.int .i64 1) rfl rfl (by kernel_rfl) (rvk (by kernel_rfl)) ?_
  simp only [p1, p2, p3, p4]
  refine sq_nil ?_
  refine k32 _ _ ?_
  try clear k32 K32
  have gd40 := Gr.drew w28
  replace hB := Gr.trans hB gd40
  replace L3 := L3.gr gd40
  replace L5 := L5.gr gd40
  refine wp_region_ord (fun w' => Lc w' b3 #[uaa0, uaa1, uaa2, uaa3, uab0, uab1, uab2, uab3, uac0, uac1, uac2, uac3] 33 ∧ Lc w' b5 #[uaa0, uaa1, uaa2, uaa3, uab0, uab1, uab2, uab3, uac0, uac1, uac2, uac3] 33) [(true, 0), (true, 1), (true, 2), (true, 3), (true, 4), (true, 5), (true, 6), (true, 7), (false, 8), (true, 9), (false, 10)] (by kernel_rfl) (by kernel_rfl) (by kernel_rfl) (by decide) (fun _ _ _ _ _ h => h) ⟨L3, L5⟩ ?_
  refine ord_pure (some 12) (.int .i64 1) rfl rfl rfl (fun w' hS => (rvk (by kernel_rfl))) ?_
  simp only [p1, p2, p3, p4]
  refine ord_pure (some 13) (.func (.func 54) #[] #[(.pointer (some ⟨kb, 0, none⟩))]) rfl rfl rfl (fun w' hS => (rvk (by kernel_rfl))) ?_
  simp only [p1, p2, p3, p4]
  refine ord_pure (some 14) (.int .i64 1) rfl rfl rfl (fun w' hS => (rvk (by kernel_rfl))) ?_
  simp only [p1, p2, p3, p4]
  refine ord_pure (some 15) (.pointer (some ⟨b3, 4, none⟩)) rfl rfl rfl (fun w' hS => (rvk (by kernel_rfl))) ?_
  simp only [p1, p2, p3, p4]
  refine ord_pure (some 16) (.agg #[uab0, uab1, uab2, uab3]) rfl rfl rfl (fun w' hS => (rv_load 31 _ b3 4 _ _ [uab0, uab1, uab2, uab3] rfl rfl hS.1 rfl (by kernel_rfl))) ?_
  simp only [p1, p2, p3, p4]
  refine ord_pure (some 17) (.int .i64 1) rfl rfl rfl (fun w' hS => (rvk (by kernel_rfl))) ?_
  simp only [p1, p2, p3, p4]
  refine ord_pure (some 18) (.pointer (some ⟨b5, 4, none⟩)) rfl rfl rfl (fun w' hS => (rvk (by kernel_rfl))) ?_
  simp only [p1, p2, p3, p4]
  refine ord_pure (some 19) (.agg #[uab0, uab1, uab2, uab3]) rfl rfl rfl (fun w' hS => (rv_load 31 _ b5 4 _ _ [uab0, uab1, uab2, uab3] rfl rfl hS.2 rfl (by kernel_rfl))) ?_
  simp only [p1, p2, p3, p4]
  refine ord_eff rfl rfl (fun K41 k41 => ?_)
  have kq43 := g3.kp.trans (g5.kp.trans (g7.kp.trans (g10.kp.trans (gd23.kp.trans (g25.kp.trans (kp28.trans gd40.kp))))))
  replace hua2 := hua2.kp kq43
  have kq44 := g25.kp.trans (kp28.trans gd40.kp)
  replace hs := hs.kp kq44
  replace hL := (st28.lc (hL.gr g25) ne0_10).gr gd40
  refine eff_call (some 20) rfl (by kernel_rfl) (scale1_r (v0 := uab0) (v1 := uab1) (v2 := uab2) (v3 := uab3) hua2 hL hs (by omega)) ?_
  rintro e42 w42 ⟨⟨p42, q42, r42, s42, rfl, h42⟩, g42⟩
  refine ⟨_, rfl, ?_⟩
  replace hB := Gr.trans hB g42
  replace L3 := L3.gr g42
  replace L5 := L5.gr g42
  refine k41 _ _ ⟨L3, L5⟩ ?_
  try clear k41 K41
  simp only [p1, p2, p3, p4]
  refine ord_pure (some 21) (.pointer (some ⟨b10, 4, none⟩)) rfl rfl rfl (fun w' hS => (rvk (by kernel_rfl))) ?_
  simp only [p1, p2, p3, p4]
  refine ord_eff rfl rfl (fun K45 k45 => ?_)
  replace L10 := L10.gr (gd40.trans g42)
  refine eff_store 31 _ _ b10 4 (.agg #[p42, q42, r42, s42]) [p42, q42, r42, s42] _ #[p25, q25, r25, s25, p42, q42, r42, s42, (.bool false), (.slice none 0 0), (.bool false), (.slice none 0 0)] _ rfl rfl rfl rfl rfl L10 (by kernel_rfl) (Nat.le_of_ble_eq_true rfl) ⟨h42.one0, h42.one1, h42.one2, h42.one3, trivial⟩ (by kernel_rfl) (fun w46 st46 N46 => ?_)
  have kp46 := st46.kp L10 (by decide)
  replace hB := st46.gr hB q10
  replace L10 := N46
  replace L3 := st46.lc L3 ne3_10
  replace L5 := st46.lc L5 ne5_10
  refine k45 _ _ ⟨L3, L5⟩ ?_
  try clear k45 K45
  refine ord_nil ?_
  refine k31 _ _ ?_
  try clear k31 K31
  refine wp_region ?_
  simp only [List.size_toArray, List.length_cons, List.length_nil, Nat.reduceAdd, List.range, List.range.loop]
  refine sq_val (some 22) (.int .i64 2) rfl rfl (by kernel_rfl) (rvk (by kernel_rfl)) ?_
  simp only [p1, p2, p3, p4]
  refine sq_val (some 9) (.int .i64 2) rfl rfl (by kernel_rfl) (rvk (by kernel_rfl)) ?_
  simp only [p1, p2, p3, p4]
  refine sq_nil ?_
  show Code.rounds _ _ _ _ _ _
  show Code.wp _ _ _ _ _
  refine wp_seq_k (fun K47 k47 => ?_)
  refine wp_region ?_
  simp only [List.size_toArray, List.length_cons, List.length_nil, Nat.reduceAdd, List.range, List.range.loop]
  refine sq_val (some 10) (.bool true) rfl rfl (by kernel_rfl) (rvk (by kernel_rfl)) ?_
  simp only [p1, p2, p3, p4]
  refine sq_nil ?_
  refine k47 _ _ ?_
  try clear k47 K47
  refine wp_seq_k (fun K48 k48 => ?_)
  refine wp_cond_true rfl ?_
  refine wp_skip ?_
  refine k48 _ _ ?_
  try clear k48 K48
  refine wp_seq_k (fun K49 k49 => ?_)
  refine wp_block ?_
  refine wp_seq_k (fun K50 k50 => ?_)
  refine wp_region ?_
  simp only [List.size_toArray, List.length_cons, List.length_nil, Nat.reduceAdd, List.range, List.range.loop]
  refine sq_val (some 11) (.int .i64 2) rfl rfl (by kernel_rfl) (rvk (by kernel_rfl)) ?_
  simp only [p1, p2, p3, p4]
  refine sq_val (some 8) (.int .i64 2) rfl rfl (by kernel_rfl) (rvk (by kernel_rfl)) ?_
  simp only [p1, p2, p3, p4]
  refine sq_nil ?_
  refine k50 _ _ ?_
  try clear k50 K50
  have gd58 := Gr.drew w46
  replace hB := Gr.trans hB gd58
  replace L3 := L3.gr gd58
  replace L5 := L5.gr gd58
  refine wp_region_ord (fun w' => Lc w' b3 #[uaa0, uaa1, uaa2, uaa3, uab0, uab1, uab2, uab3, uac0, uac1, uac2, uac3] 33 ∧ Lc w' b5 #[uaa0, uaa1, uaa2, uaa3, uab0, uab1, uab2, uab3, uac0, uac1, uac2, uac3] 33) [(true, 0), (true, 1), (true, 2), (true, 3), (true, 4), (true, 5), (true, 6), (true, 7), (false, 8), (true, 9), (false, 10)] (by kernel_rfl) (by kernel_rfl) (by kernel_rfl) (by decide) (fun _ _ _ _ _ h => h) ⟨L3, L5⟩ ?_
  refine ord_pure (some 12) (.int .i64 2) rfl rfl rfl (fun w' hS => (rvk (by kernel_rfl))) ?_
  simp only [p1, p2, p3, p4]
  refine ord_pure (some 13) (.func (.func 54) #[] #[(.pointer (some ⟨kb, 0, none⟩))]) rfl rfl rfl (fun w' hS => (rvk (by kernel_rfl))) ?_
  simp only [p1, p2, p3, p4]
  refine ord_pure (some 14) (.int .i64 2) rfl rfl rfl (fun w' hS => (rvk (by kernel_rfl))) ?_
  simp only [p1, p2, p3, p4]
  refine ord_pure (some 15) (.pointer (some ⟨b3, 8, none⟩)) rfl rfl rfl (fun w' hS => (rvk (by kernel_rfl))) ?_
  simp only [p1, p2, p3, p4]
  refine ord_pure (some 16) (.agg #[uac0, uac1, uac2, uac3]) rfl rfl rfl (fun w' hS => (rv_load 31 _ b3 8 _ _ [uac0, uac1, uac2, uac3] rfl rfl hS.1 rfl (by kernel_rfl))) ?_
  simp only [p1, p2, p3, p4]
  refine ord_pure (some 17) (.int .i64 2) rfl rfl rfl (fun w' hS => (rvk (by kernel_rfl))) ?_
  simp only [p1, p2, p3, p4]
  refine ord_pure (some 18) (.pointer (some ⟨b5, 8, none⟩)) rfl rfl rfl (fun w' hS => (rvk (by kernel_rfl))) ?_
  simp only [p1, p2, p3, p4]
  refine ord_pure (some 19) (.agg #[uac0, uac1, uac2, uac3]) rfl rfl rfl (fun w' hS => (rv_load 31 _ b5 8 _ _ [uac0, uac1, uac2, uac3] rfl rfl hS.2 rfl (by kernel_rfl))) ?_
  simp only [p1, p2, p3, p4]
  refine ord_eff rfl rfl (fun K59 k59 => ?_)
  have kq61 := g3.kp.trans (g5.kp.trans (g7.kp.trans (g10.kp.trans (gd23.kp.trans (g25.kp.trans (kp28.trans (gd40.kp.trans (g42.kp.trans (kp46.trans gd58.kp)))))))))
  replace hua3 := hua3.kp kq61
  have kq62 := g42.kp.trans (kp46.trans gd58.kp)
  replace hs := hs.kp kq62
  replace hL := (st46.lc (hL.gr g42) ne0_10).gr gd58
  refine eff_call (some 20) rfl (by kernel_rfl) (scale1_r (v0 := uac0) (v1 := uac1) (v2 := uac2) (v3 := uac3) hua3 hL hs (by omega)) ?_
  rintro e60 w60 ⟨⟨p60, q60, r60, s60, rfl, h60⟩, g60⟩
  refine ⟨_, rfl, ?_⟩
  replace hB := Gr.trans hB g60
  replace L3 := L3.gr g60
  replace L5 := L5.gr g60
  refine k59 _ _ ⟨L3, L5⟩ ?_
  try clear k59 K59
  simp only [p1, p2, p3, p4]
  refine ord_pure (some 21) (.pointer (some ⟨b10, 8, none⟩)) rfl rfl rfl (fun w' hS => (rvk (by kernel_rfl))) ?_
  simp only [p1, p2, p3, p4]
  refine ord_eff rfl rfl (fun K63 k63 => ?_)
  replace L10 := L10.gr (gd58.trans g60)
  refine eff_store 31 _ _ b10 8 (.agg #[p60, q60, r60, s60]) [p60, q60, r60, s60] _ #[p25, q25, r25, s25, p42, q42, r42, s42, p60, q60, r60, s60] _ rfl rfl rfl rfl rfl L10 (by kernel_rfl) (Nat.le_of_ble_eq_true rfl) ⟨h60.one0, h60.one1, h60.one2, h60.one3, trivial⟩ (by kernel_rfl) (fun w64 st64 N64 => ?_)
  have kp64 := st64.kp L10 (by decide)
  replace hB := st64.gr hB q10
  replace L10 := N64
  replace L3 := st64.lc L3 ne3_10
  replace L5 := st64.lc L5 ne5_10
  refine k63 _ _ ⟨L3, L5⟩ ?_
  try clear k63 K63
  refine ord_nil ?_
  refine k49 _ _ ?_
  try clear k49 K49
  refine wp_region ?_
  simp only [List.size_toArray, List.length_cons, List.length_nil, Nat.reduceAdd, List.range, List.range.loop]
  refine sq_val (some 22) (.int .i64 3) rfl rfl (by kernel_rfl) (rvk (by kernel_rfl)) ?_
  simp only [p1, p2, p3, p4]
  refine sq_val (some 9) (.int .i64 3) rfl rfl (by kernel_rfl) (rvk (by kernel_rfl)) ?_
  simp only [p1, p2, p3, p4]
  refine sq_nil ?_
  show Code.rounds _ _ _ _ _ _
  show Code.wp _ _ _ _ _
  refine wp_seq_k (fun K65 k65 => ?_)
  refine wp_region ?_
  simp only [List.size_toArray, List.length_cons, List.length_nil, Nat.reduceAdd, List.range, List.range.loop]
  refine sq_val (some 10) (.bool false) rfl rfl (by kernel_rfl) (rvk (by kernel_rfl)) ?_
  simp only [p1, p2, p3, p4]
  refine sq_nil ?_
  refine k65 _ _ ?_
  try clear k65 K65
  refine wp_seq_k (fun K66 k66 => ?_)
  refine wp_cond_false rfl ?_
  refine wp_exit ?_
  simp only [Exit.then, Exit.inBlock, ↓reduceIte]
  refine k11 _ _ ?_
  try clear k11 K11
  refine wp_seq_k (fun K67 k67 => ?_)
  refine wp_region ?_
  simp only [List.size_toArray, List.length_cons, List.length_nil, Nat.reduceAdd, List.range, List.range.loop]
  refine sq_val (some 23) (.agg #[p25, q25, r25, s25, p42, q42, r42, s42, p60, q60, r60, s60]) rfl rfl (by kernel_rfl) (rv_load 33 _ b10 0 _ _ [p25, q25, r25, s25, p42, q42, r42, s42, p60, q60, r60, s60] rfl rfl L10 rfl (by kernel_rfl)) ?_
  simp only [p1, p2, p3, p4]
  refine sq_eff rfl (by kernel_rfl) (fun K68 k68 => ?_)
  replace L7 := st64.lc ((st46.lc ((st28.lc (L7.gr (g10.trans (gd23.trans g25))) ne7_10).gr (gd40.trans g42)) ne7_10).gr (gd58.trans g60)) ne7_10
  refine eff_store 33 _ _ b7 0 (.agg #[p25, q25, r25, s25, p42, q42, r42, s42, p60, q60, r60, s60]) [p25, q25, r25, s25, p42, q42, r42, s42, p60, q60, r60, s60] _ #[p25, q25, r25, s25, p42, q42, r42, s42, p60, q60, r60, s60] _ rfl rfl rfl rfl rfl L7 (by kernel_rfl) (Nat.le_of_ble_eq_true rfl) ⟨h25.one0, h25.one1, h25.one2, h25.one3, h42.one0, h42.one1, h42.one2, h42.one3, h60.one0, h60.one1, h60.one2, h60.one3, trivial⟩ (by kernel_rfl) (fun w69 st69 N69 => ?_)
  have kp69 := st69.kp L7 (by decide)
  replace hB := st69.gr hB q7
  replace L7 := N69
  refine k68 _ _ ?_
  try clear k68 K68
  refine sq_nil ?_
  refine k67 _ _ ?_
  try clear k67 K67
  refine wp_ret ?_
  refine bodyPost_ret (v := (.agg #[p25, q25, r25, s25, p42, q42, r42, s42, p60, q60, r60, s60])) (ret_cell _ _ _ rfl rfl L7 (by kernel_rfl)) rfl ⟨?_, hB⟩
  have kq70 := kp28.trans (gd40.kp.trans (g42.kp.trans (kp46.trans (gd58.kp.trans (g60.kp.trans (kp64.trans kp69))))))
  replace h25 := h25.kp kq70
  have kq71 := kp46.trans (gd58.kp.trans (g60.kp.trans (kp64.trans kp69)))
  replace h42 := h42.kp kq71
  have kq72 := kp64.trans kp69
  replace h60 := h60.kp kq72
  exact ⟨_, _, _, _, _, _, _, _, _, _, _, _, rfl, h25, h42, h60⟩

set_option maxRecDepth 100000 in
set_option maxHeartbeats 1000000 in
theorem vadd_v {k m : Nat} {uaa0 uaa1 uaa2 uaa3 uab0 uab1 uab2 uab3 uac0 uac1 uac2 uac3 : Value} {a1 a2 a3 : Rat} {vaa0 vaa1 vaa2 vaa3 vab0 vab1 vab2 vab3 vac0 vac1 vac2 vac3 : Value} {c1 c2 c3 : Rat} {w : World} (hua1 : IsRat w k uaa0 uaa1 uaa2 uaa3 a1) (hua2 : IsRat w k uab0 uab1 uab2 uab3 a2) (hua3 : IsRat w k uac0 uac1 uac2 uac3 a3) (hva1 : IsRat w m vaa0 vaa1 vaa2 vaa3 c1) (hva2 : IsRat w m vab0 vab1 vab2 vab3 c2) (hva3 : IsRat w m vac0 vac1 vac2 vac3 c3) (_hk : k + m ≤ 100000) :
    Calls Tryd.prog 29 #[(.agg #[uaa0, uaa1, uaa2, uaa3, uab0, uab1, uab2, uab3, uac0, uac1, uac2, uac3]), (.agg #[vaa0, vaa1, vaa2, vaa3, vab0, vab1, vab2, vab3, vac0, vac1, vac2, vac3])] w fun e w' => (∃ t0 t1 t2 t3 t4 t5 t6 t7 t8 t9 t10 t11, e = .returned (.agg #[t0, t1, t2, t3, t4, t5, t6, t7, t8, t9, t10, t11]) ∧ IsRat w' (k + m + 1) t0 t1 t2 t3 ((a1 + c1)) ∧ IsRat w' (k + m + 1) t4 t5 t6 t7 ((a2 + c2)) ∧ IsRat w' (k + m + 1) t8 t9 t10 t11 ((a3 + c3))) ∧ Gr w w' := by
  go_enter Tryd.func29, Tryd.ntmps29
  have hB := Gr.refl w
  refine wp_seq_k (fun K1 k1 => ?_)
  refine wp_region ?_
  simp only [List.size_toArray, List.length_cons, List.length_nil, Nat.reduceAdd, List.range, List.range.loop]
  refine sq_eff rfl (by kernel_rfl) (fun K2 k2 => ?_)
  refine eff_box 33 _ (.agg #[uaa0, uaa1, uaa2, uaa3, uab0, uab1, uab2, uab3, uac0, uac1, uac2, uac3]) #[uaa0, uaa1, uaa2, uaa3, uab0, uab1, uab2, uab3, uac0, uac1, uac2, uac3] (some 2) rfl rfl rfl rfl (fun b3 w3 g3 L3 q3 => ?_)
  replace q3 := Nat.le_trans (Below.size hB) q3
  replace hB := Gr.trans hB g3
  refine k2 _ _ ?_
  try clear k2 K2
  simp only [p1, p2, p3, p4]
  refine sq_eff rfl (by kernel_rfl) (fun K4 k4 => ?_)
  refine eff_box 33 _ (.agg #[vaa0, vaa1, vaa2, vaa3, vab0, vab1, vab2, vab3, vac0, vac1, vac2, vac3]) #[vaa0, vaa1, vaa2, vaa3, vab0, vab1, vab2, vab3, vac0, vac1, vac2, vac3] (some 3) rfl rfl rfl rfl (fun b5 w5 g5 L5 q5 => ?_)
  have ne3_5 := L3.ne q5
  replace q5 := Nat.le_trans (Below.size hB) q5
  replace hB := Gr.trans hB g5
  refine k4 _ _ ?_
  try clear k4 K4
  simp only [p1, p2, p3, p4]
  refine sq_eff rfl (by kernel_rfl) (fun K6 k6 => ?_)
  refine eff_alloc 33 (.agg #[(.bool false), (.slice none 0 0), (.bool false), (.slice none 0 0), (.bool false), (.slice none 0 0), (.bool false), (.slice none 0 0), (.bool false), (.slice none 0 0), (.bool false), (.slice none 0 0)]) #[(.bool false), (.slice none 0 0), (.bool false), (.slice none 0 0), (.bool false), (.slice none 0 0), (.bool false), (.slice none 0 0), (.bool false), (.slice none 0 0), (.bool false), (.slice none 0 0)] (some 4) rfl rfl (by kernel_rfl) rfl (fun b7 w7 g7 L7 q7 => ?_)
  replace L3 := L3.gr g5
  have ne3_7 := L3.ne q7
  have ne5_7 := L5.ne q7
  replace q7 := Nat.le_trans (Below.size hB) q7
  replace hB := Gr.trans hB g7
  refine k6 _ _ ?_
  try clear k6 K6
  simp only [p1, p2, p3, p4]
  refine sq_nil ?_
  refine k1 _ _ ?_
  try clear k1 K1
  refine wp_seq_k (fun K8 k8 => ?_)
  refine wp_region ?_
  simp only [List.size_toArray, List.length_cons, List.length_nil, Nat.reduceAdd, List.range, List.range.loop]
  replace L3 := L3.gr g7
  refine sq_val (some 5) (.agg #[uaa0, uaa1, uaa2, uaa3, uab0, uab1, uab2, uab3, uac0, uac1, uac2, uac3]) rfl rfl (by kernel_rfl) (rv_load 33 _ b3 0 _ _ [uaa0, uaa1, uaa2, uaa3, uab0, uab1, uab2, uab3, uac0, uac1, uac2, uac3] rfl rfl L3 rfl (by kernel_rfl)) ?_
  simp only [p1, p2, p3, p4]
  replace L5 := L5.gr g7
  refine sq_val (some 6) (.agg #[vaa0, vaa1, vaa2, vaa3, vab0, vab1, vab2, vab3, vac0, vac1, vac2, vac3]) rfl rfl (by kernel_rfl) (rv_load 33 _ b5 0 _ _ [vaa0, vaa1, vaa2, vaa3, vab0, vab1, vab2, vab3, vac0, vac1, vac2, vac3] rfl rfl L5 rfl (by kernel_rfl)) ?_
  simp only [p1, p2, p3, p4]
  refine sq_eff rfl (by kernel_rfl) (fun K9 k9 => ?_)
  have kq11 := g3.kp.trans (g5.kp.trans g7.kp)
  replace hua1 := hua1.kp kq11
  replace hua2 := hua2.kp kq11
  replace hua3 := hua3.kp kq11
  replace hva1 := hva1.kp kq11
  replace hva2 := hva2.kp kq11
  replace hva3 := hva3.kp kq11
  refine eff_call (some 7) rfl (by kernel_rfl) (each_add hua1 hua2 hua3 hva1 hva2 hva3 (by omega)) ?_
  rintro e10 w10 ⟨⟨t10_0, t10_1, t10_2, t10_3, t10_4, t10_5, t10_6, t10_7, t10_8, t10_9, t10_10, t10_11, rfl, h10a, h10b, h10c⟩, g10⟩
  refine ⟨_, rfl, ?_⟩
  replace hB := Gr.trans hB g10
  refine k9 _ _ ?_
  try clear k9 K9
  simp only [p1, p2, p3, p4]
  refine sq_eff rfl (by kernel_rfl) (fun K12 k12 => ?_)
  replace L7 := L7.gr g10
  refine eff_store 33 _ _ b7 0 (.agg #[t10_0, t10_1, t10_2, t10_3, t10_4, t10_5, t10_6, t10_7, t10_8, t10_9, t10_10, t10_11]) [t10_0, t10_1, t10_2, t10_3, t10_4, t10_5, t10_6, t10_7, t10_8, t10_9, t10_10, t10_11] _ #[t10_0, t10_1, t10_2, t10_3, t10_4, t10_5, t10_6, t10_7, t10_8, t10_9, t10_10, t10_11] _ rfl rfl rfl rfl rfl L7 (by kernel_rfl) (Nat.le_of_ble_eq_true rfl) ⟨h10a.one0, h10a.one1, h10a.one2, h10a.one3, h10b.one0, h10b.one1, h10b.one2, h10b.one3, h10c.one0, h10c.one1, h10c.one2, h10c.one3, trivial⟩ (by kernel_rfl) (fun w13 st13 N13 => ?_)
  have kp13 := st13.kp L7 (by decide)
  replace hB := st13.gr hB q7
  replace L7 := N13
  refine k12 _ _ ?_
  try clear k12 K12
  refine sq_nil ?_
  refine k8 _ _ ?_
  try clear k8 K8
  refine wp_ret ?_
  refine bodyPost_ret (v := (.agg #[t10_0, t10_1, t10_2, t10_3, t10_4, t10_5, t10_6, t10_7, t10_8, t10_9, t10_10, t10_11])) (ret_cell _ _ _ rfl rfl L7 (by kernel_rfl)) rfl ⟨?_, hB⟩
  replace h10a := h10a.kp kp13
  replace h10b := h10b.kp kp13
  replace h10c := h10c.kp kp13
  exact ⟨_, _, _, _, _, _, _, _, _, _, _, _, rfl, h10a, h10b, h10c⟩

set_option maxRecDepth 100000 in
set_option maxHeartbeats 1000000 in
theorem vsub_v {k m : Nat} {uaa0 uaa1 uaa2 uaa3 uab0 uab1 uab2 uab3 uac0 uac1 uac2 uac3 : Value} {a1 a2 a3 : Rat} {vaa0 vaa1 vaa2 vaa3 vab0 vab1 vab2 vab3 vac0 vac1 vac2 vac3 : Value} {c1 c2 c3 : Rat} {w : World} (hua1 : IsRat w k uaa0 uaa1 uaa2 uaa3 a1) (hua2 : IsRat w k uab0 uab1 uab2 uab3 a2) (hua3 : IsRat w k uac0 uac1 uac2 uac3 a3) (hva1 : IsRat w m vaa0 vaa1 vaa2 vaa3 c1) (hva2 : IsRat w m vab0 vab1 vab2 vab3 c2) (hva3 : IsRat w m vac0 vac1 vac2 vac3 c3) (_hk : k + m ≤ 100000) :
    Calls Tryd.prog 30 #[(.agg #[uaa0, uaa1, uaa2, uaa3, uab0, uab1, uab2, uab3, uac0, uac1, uac2, uac3]), (.agg #[vaa0, vaa1, vaa2, vaa3, vab0, vab1, vab2, vab3, vac0, vac1, vac2, vac3])] w fun e w' => (∃ t0 t1 t2 t3 t4 t5 t6 t7 t8 t9 t10 t11, e = .returned (.agg #[t0, t1, t2, t3, t4, t5, t6, t7, t8, t9, t10, t11]) ∧ IsRat w' (k + m + 1) t0 t1 t2 t3 ((a1 - c1)) ∧ IsRat w' (k + m + 1) t4 t5 t6 t7 ((a2 - c2)) ∧ IsRat w' (k + m + 1) t8 t9 t10 t11 ((a3 - c3))) ∧ Gr w w' := by
  go_enter Tryd.func30, Tryd.ntmps30
  have hB := Gr.refl w
  refine wp_seq_k (fun K1 k1 => ?_)
  refine wp_region ?_
  simp only [List.size_toArray, List.length_cons, List.length_nil, Nat.reduceAdd, List.range, List.range.loop]
  refine sq_eff rfl (by kernel_rfl) (fun K2 k2 => ?_)
  refine eff_box 33 _ (.agg #[uaa0, uaa1, uaa2, uaa3, uab0, uab1, uab2, uab3, uac0, uac1, uac2, uac3]) #[uaa0, uaa1, uaa2, uaa3, uab0, uab1, uab2, uab3, uac0, uac1, uac2, uac3] (some 2) rfl rfl rfl rfl (fun b3 w3 g3 L3 q3 => ?_)
  replace q3 := Nat.le_trans (Below.size hB) q3
  replace hB := Gr.trans hB g3
  refine k2 _ _ ?_
  try clear k2 K2
  simp only [p1, p2, p3, p4]
  refine sq_eff rfl (by kernel_rfl) (fun K4 k4 => ?_)
  refine eff_box 33 _ (.agg #[vaa0, vaa1, vaa2, vaa3, vab0, vab1, vab2, vab3, vac0, vac1, vac2, vac3]) #[vaa0, vaa1, vaa2, vaa3, vab0, vab1, vab2, vab3, vac0, vac1, vac2, vac3] (some 3) rfl rfl rfl rfl (fun b5 w5 g5 L5 q5 => ?_)
  have ne3_5 := L3.ne q5
  replace q5 := Nat.le_trans (Below.size hB) q5
  replace hB := Gr.trans hB g5
  refine k4 _ _ ?_
  try clear k4 K4
  simp only [p1, p2, p3, p4]
  refine sq_eff rfl (by kernel_rfl) (fun K6 k6 => ?_)
  refine eff_alloc 33 (.agg #[(.bool false), (.slice none 0 0), (.bool false), (.slice none 0 0), (.bool false), (.slice none 0 0), (.bool false), (.slice none 0 0), (.bool false), (.slice none 0 0), (.bool false), (.slice none 0 0)]) #[(.bool false), (.slice none 0 0), (.bool false), (.slice none 0 0), (.bool false), (.slice none 0 0), (.bool false), (.slice none 0 0), (.bool false), (.slice none 0 0), (.bool false), (.slice none 0 0)] (some 4) rfl rfl (by kernel_rfl) rfl (fun b7 w7 g7 L7 q7 => ?_)
  replace L3 := L3.gr g5
  have ne3_7 := L3.ne q7
  have ne5_7 := L5.ne q7
  replace q7 := Nat.le_trans (Below.size hB) q7
  replace hB := Gr.trans hB g7
  refine k6 _ _ ?_
  try clear k6 K6
  simp only [p1, p2, p3, p4]
  refine sq_nil ?_
  refine k1 _ _ ?_
  try clear k1 K1
  refine wp_seq_k (fun K8 k8 => ?_)
  refine wp_region ?_
  simp only [List.size_toArray, List.length_cons, List.length_nil, Nat.reduceAdd, List.range, List.range.loop]
  replace L3 := L3.gr g7
  refine sq_val (some 5) (.agg #[uaa0, uaa1, uaa2, uaa3, uab0, uab1, uab2, uab3, uac0, uac1, uac2, uac3]) rfl rfl (by kernel_rfl) (rv_load 33 _ b3 0 _ _ [uaa0, uaa1, uaa2, uaa3, uab0, uab1, uab2, uab3, uac0, uac1, uac2, uac3] rfl rfl L3 rfl (by kernel_rfl)) ?_
  simp only [p1, p2, p3, p4]
  replace L5 := L5.gr g7
  refine sq_val (some 6) (.agg #[vaa0, vaa1, vaa2, vaa3, vab0, vab1, vab2, vab3, vac0, vac1, vac2, vac3]) rfl rfl (by kernel_rfl) (rv_load 33 _ b5 0 _ _ [vaa0, vaa1, vaa2, vaa3, vab0, vab1, vab2, vab3, vac0, vac1, vac2, vac3] rfl rfl L5 rfl (by kernel_rfl)) ?_
  simp only [p1, p2, p3, p4]
  refine sq_eff rfl (by kernel_rfl) (fun K9 k9 => ?_)
  have kq11 := g3.kp.trans (g5.kp.trans g7.kp)
  replace hua1 := hua1.kp kq11
  replace hua2 := hua2.kp kq11
  replace hua3 := hua3.kp kq11
  replace hva1 := hva1.kp kq11
  replace hva2 := hva2.kp kq11
  replace hva3 := hva3.kp kq11
  refine eff_call (some 7) rfl (by kernel_rfl) (each_sub hua1 hua2 hua3 hva1 hva2 hva3 (by omega)) ?_
  rintro e10 w10 ⟨⟨t10_0, t10_1, t10_2, t10_3, t10_4, t10_5, t10_6, t10_7, t10_8, t10_9, t10_10, t10_11, rfl, h10a, h10b, h10c⟩, g10⟩
  refine ⟨_, rfl, ?_⟩
  replace hB := Gr.trans hB g10
  refine k9 _ _ ?_
  try clear k9 K9
  simp only [p1, p2, p3, p4]
  refine sq_eff rfl (by kernel_rfl) (fun K12 k12 => ?_)
  replace L7 := L7.gr g10
  refine eff_store 33 _ _ b7 0 (.agg #[t10_0, t10_1, t10_2, t10_3, t10_4, t10_5, t10_6, t10_7, t10_8, t10_9, t10_10, t10_11]) [t10_0, t10_1, t10_2, t10_3, t10_4, t10_5, t10_6, t10_7, t10_8, t10_9, t10_10, t10_11] _ #[t10_0, t10_1, t10_2, t10_3, t10_4, t10_5, t10_6, t10_7, t10_8, t10_9, t10_10, t10_11] _ rfl rfl rfl rfl rfl L7 (by kernel_rfl) (Nat.le_of_ble_eq_true rfl) ⟨h10a.one0, h10a.one1, h10a.one2, h10a.one3, h10b.one0, h10b.one1, h10b.one2, h10b.one3, h10c.one0, h10c.one1, h10c.one2, h10c.one3, trivial⟩ (by kernel_rfl) (fun w13 st13 N13 => ?_)
  have kp13 := st13.kp L7 (by decide)
  replace hB := st13.gr hB q7
  replace L7 := N13
  refine k12 _ _ ?_
  try clear k12 K12
  refine sq_nil ?_
  refine k8 _ _ ?_
  try clear k8 K8
  refine wp_ret ?_
  refine bodyPost_ret (v := (.agg #[t10_0, t10_1, t10_2, t10_3, t10_4, t10_5, t10_6, t10_7, t10_8, t10_9, t10_10, t10_11])) (ret_cell _ _ _ rfl rfl L7 (by kernel_rfl)) rfl ⟨?_, hB⟩
  replace h10a := h10a.kp kp13
  replace h10b := h10b.kp kp13
  replace h10c := h10c.kp kp13
  exact ⟨_, _, _, _, _, _, _, _, _, _, _, _, rfl, h10a, h10b, h10c⟩

set_option maxRecDepth 100000 in
set_option maxHeartbeats 1000000 in
theorem vscale_v {k m : Nat} {s0 s1 s2 s3 : Value} {sq : Rat} {uaa0 uaa1 uaa2 uaa3 uab0 uab1 uab2 uab3 uac0 uac1 uac2 uac3 : Value} {a1 a2 a3 : Rat} {w : World} (hua1 : IsRat w k uaa0 uaa1 uaa2 uaa3 a1) (hua2 : IsRat w k uab0 uab1 uab2 uab3 a2) (hua3 : IsRat w k uac0 uac1 uac2 uac3 a3) (hs : IsRat w m s0 s1 s2 s3 sq) (_hk : k + m ≤ 100000) :
    Calls Tryd.prog 20 #[(.agg #[uaa0, uaa1, uaa2, uaa3, uab0, uab1, uab2, uab3, uac0, uac1, uac2, uac3]), (.agg #[s0, s1, s2, s3])] w fun e w' => (∃ t0 t1 t2 t3 t4 t5 t6 t7 t8 t9 t10 t11, e = .returned (.agg #[t0, t1, t2, t3, t4, t5, t6, t7, t8, t9, t10, t11]) ∧ IsRat w' (m + k) t0 t1 t2 t3 (sq * a1) ∧ IsRat w' (m + k) t4 t5 t6 t7 (sq * a2) ∧ IsRat w' (m + k) t8 t9 t10 t11 (sq * a3)) ∧ Gr w w' := by
  go_enter Tryd.func20, Tryd.ntmps20
  have hB := Gr.refl w
  refine wp_seq_k (fun K1 k1 => ?_)
  refine wp_region ?_
  simp only [List.size_toArray, List.length_cons, List.length_nil, Nat.reduceAdd, List.range, List.range.loop]
  refine sq_eff rfl (by kernel_rfl) (fun K2 k2 => ?_)
  refine eff_box 33 _ (.agg #[uaa0, uaa1, uaa2, uaa3, uab0, uab1, uab2, uab3, uac0, uac1, uac2, uac3]) #[uaa0, uaa1, uaa2, uaa3, uab0, uab1, uab2, uab3, uac0, uac1, uac2, uac3] (some 2) rfl rfl rfl rfl (fun b3 w3 g3 L3 q3 => ?_)
  replace q3 := Nat.le_trans (Below.size hB) q3
  replace hB := Gr.trans hB g3
  refine k2 _ _ ?_
  try clear k2 K2
  simp only [p1, p2, p3, p4]
  refine sq_eff rfl (by kernel_rfl) (fun K4 k4 => ?_)
  refine eff_box 31 _ (.agg #[s0, s1, s2, s3]) #[s0, s1, s2, s3] (some 3) rfl rfl rfl rfl (fun b5 w5 g5 L5 q5 => ?_)
  have ne3_5 := L3.ne q5
  replace q5 := Nat.le_trans (Below.size hB) q5
  replace hB := Gr.trans hB g5
  refine k4 _ _ ?_
  try clear k4 K4
  simp only [p1, p2, p3, p4]
  refine sq_eff rfl (by kernel_rfl) (fun K6 k6 => ?_)
  refine eff_alloc 33 (.agg #[(.bool false), (.slice none 0 0), (.bool false), (.slice none 0 0), (.bool false), (.slice none 0 0), (.bool false), (.slice none 0 0), (.bool false), (.slice none 0 0), (.bool false), (.slice none 0 0)]) #[(.bool false), (.slice none 0 0), (.bool false), (.slice none 0 0), (.bool false), (.slice none 0 0), (.bool false), (.slice none 0 0), (.bool false), (.slice none 0 0), (.bool false), (.slice none 0 0)] (some 4) rfl rfl (by kernel_rfl) rfl (fun b7 w7 g7 L7 q7 => ?_)
  replace L3 := L3.gr g5
  have ne3_7 := L3.ne q7
  have ne5_7 := L5.ne q7
  replace q7 := Nat.le_trans (Below.size hB) q7
  replace hB := Gr.trans hB g7
  refine k6 _ _ ?_
  try clear k6 K6
  simp only [p1, p2, p3, p4]
  refine sq_nil ?_
  refine k1 _ _ ?_
  try clear k1 K1
  refine wp_seq_k (fun K8 k8 => ?_)
  refine wp_region ?_
  simp only [List.size_toArray, List.length_cons, List.length_nil, Nat.reduceAdd, List.range, List.range.loop]
  replace L3 := L3.gr g7
  refine sq_val (some 5) (.agg #[uaa0, uaa1, uaa2, uaa3, uab0, uab1, uab2, uab3, uac0, uac1, uac2, uac3]) rfl rfl (by kernel_rfl) (rv_load 33 _ b3 0 _ _ [uaa0, uaa1, uaa2, uaa3, uab0, uab1, uab2, uab3, uac0, uac1, uac2, uac3] rfl rfl L3 rfl (by kernel_rfl)) ?_
  simp only [p1, p2, p3, p4]
  refine sq_val (some 6) (.agg #[uaa0, uaa1, uaa2, uaa3, uab0, uab1, uab2, uab3, uac0, uac1, uac2, uac3]) rfl rfl (by kernel_rfl) (rv_load 33 _ b3 0 _ _ [uaa0, uaa1, uaa2, uaa3, uab0, uab1, uab2, uab3, uac0, uac1, uac2, uac3] rfl rfl L3 rfl (by kernel_rfl)) ?_
  simp only [p1, p2, p3, p4]
  refine sq_val (some 7) (.func (.func 54) #[] #[(.pointer (some ⟨b5, 0, none⟩))]) rfl rfl (by kernel_rfl) (rvk (by kernel_rfl)) ?_
  simp only [p1, p2, p3, p4]
  refine sq_eff rfl (by kernel_rfl) (fun K9 k9 => ?_)
  have kq11 := g3.kp.trans (g5.kp.trans g7.kp)
  replace hs := hs.kp kq11
  replace hua1 := hua1.kp kq11
  replace hua2 := hua2.kp kq11
  replace hua3 := hua3.kp kq11
  replace L5 := L5.gr g7
  refine eff_call (some 8) rfl (by kernel_rfl) (each_scale hua1 hua2 hua3 L5 hs (by omega)) ?_
  rintro e10 w10 ⟨⟨t10_0, t10_1, t10_2, t10_3, t10_4, t10_5, t10_6, t10_7, t10_8, t10_9, t10_10, t10_11, rfl, h10a, h10b, h10c⟩, g10⟩
  refine ⟨_, rfl, ?_⟩
  replace hB := Gr.trans hB g10
  refine k9 _ _ ?_
  try clear k9 K9
  simp only [p1, p2, p3, p4]
  refine sq_eff rfl (by kernel_rfl) (fun K12 k12 => ?_)
  replace L7 := L7.gr g10
  refine eff_store 33 _ _ b7 0 (.agg #[t10_0, t10_1, t10_2, t10_3, t10_4, t10_5, t10_6, t10_7, t10_8, t10_9, t10_10, t10_11]) [t10_0, t10_1, t10_2, t10_3, t10_4, t10_5, t10_6, t10_7, t10_8, t10_9, t10_10, t10_11] _ #[t10_0, t10_1, t10_2, t10_3, t10_4, t10_5, t10_6, t10_7, t10_8, t10_9, t10_10, t10_11] _ rfl rfl rfl rfl rfl L7 (by kernel_rfl) (Nat.le_of_ble_eq_true rfl) ⟨h10a.one0, h10a.one1, h10a.one2, h10a.one3, h10b.one0, h10b.one1, h10b.one2, h10b.one3, h10c.one0, h10c.one1, h10c.one2, h10c.one3, trivial⟩ (by kernel_rfl) (fun w13 st13 N13 => ?_)
  have kp13 := st13.kp L7 (by decide)
  replace hB := st13.gr hB q7
  replace L7 := N13
  refine k12 _ _ ?_
  try clear k12 K12
  refine sq_nil ?_
  refine k8 _ _ ?_
  try clear k8 K8
  refine wp_ret ?_
  refine bodyPost_ret (v := (.agg #[t10_0, t10_1, t10_2, t10_3, t10_4, t10_5, t10_6, t10_7, t10_8, t10_9, t10_10, t10_11])) (ret_cell _ _ _ rfl rfl L7 (by kernel_rfl)) rfl ⟨?_, hB⟩
  replace h10a := h10a.kp kp13
  replace h10b := h10b.kp kp13
  replace h10c := h10c.kp kp13
  exact ⟨_, _, _, _, _, _, _, _, _, _, _, _, rfl, h10a, h10b, h10c⟩

set_option maxRecDepth 100000 in
set_option maxHeartbeats 4000000 in
theorem sum3_r {k : Nat} {ab : Nat} {uaa0 uaa1 uaa2 uaa3 uab0 uab1 uab2 uab3 uac0 uac1 uac2 uac3 : Value} {a1 a2 a3 : Rat} {w : World} (hua1 : IsRat w k uaa0 uaa1 uaa2 uaa3 a1) (hua2 : IsRat w k uab0 uab1 uab2 uab3 a2) (hua3 : IsRat w k uac0 uac1 uac2 uac3 a3) (hL : Lc w ab #[uaa0, uaa1, uaa2, uaa3, uab0, uab1, uab2, uab3, uac0, uac1, uac2, uac3] 33) (_hk : k ≤ 25000) :
    Calls Tryd.prog 32 #[(.slice (some ⟨ab, 0, none⟩) 3 3)] w fun e w' => (∃ z0 z1 z2 z3, e = .returned (.agg #[z0, z1, z2, z3]) ∧ IsRat w' (64 + k + 1 + k + 1 + k + 1) z0 z1 z2 z3 (0 + a1 + a2 + a3)) ∧ Gr w w' := by
  have hbig := hua1.big
  go_enter Tryd.func32, Tryd.ntmps32
  have hB := Gr.refl w
  refine wp_seq_k (fun K1 k1 => ?_)
  refine wp_region ?_
  simp only [List.size_toArray, List.length_cons, List.length_nil, Nat.reduceAdd, List.range, List.range.loop]
  refine sq_eff rfl (by kernel_rfl) (fun K2 k2 => ?_)
  refine eff_alloc 31 (.agg #[(.bool false), (.slice none 0 0), (.bool false), (.slice none 0 0)]) #[(.bool false), (.slice none 0 0), (.bool false), (.slice none 0 0)] (some 2) rfl rfl (by kernel_rfl) rfl (fun b3 w3 g3 L3 q3 => ?_)
  have ne0_3 := hL.ne q3
  replace q3 := Nat.le_trans (Below.size hB) q3
  replace hB := Gr.trans hB g3
  refine k2 _ _ ?_
  try clear k2 K2
  simp only [p1, p2, p3, p4]
  refine sq_nil ?_
  refine k1 _ _ ?_
  try clear k1 K1
  refine wp_seq_k (fun K4 k4 => ?_)
  refine wp_region ?_
  simp only [List.size_toArray, List.length_cons, List.length_nil, Nat.reduceAdd, List.range, List.range.loop]
  refine sq_eff rfl (by kernel_rfl) (fun K5 k5 => ?_)
  refine eff_alloc 31 (.agg #[(.bool false), (.slice none 0 0), (.bool false), (.slice none 0 0)]) #[(.bool false), (.slice none 0 0), (.bool false), (.slice none 0 0)] (some 3) rfl rfl (by kernel_rfl) rfl (fun b6 w6 g6 L6 q6 => ?_)
  replace hL := hL.gr g3
  have ne0_6 := hL.ne q6
  have ne3_6 := L3.ne q6
  replace q6 := Nat.le_trans (Below.size hB) q6
  replace hB := Gr.trans hB g6
  refine k5 _ _ ?_
  try clear k5 K5
  simp only [p1, p2, p3, p4]
  refine sq_nil ?_
  refine k4 _ _ ?_
  try clear k4 K4
  refine wp_seq_k (fun K7 k7 => ?_)
  refine wp_seq_k (fun K8 k8 => ?_)
  refine wp_region ?_
  simp only [List.size_toArray, List.length_cons, List.length_nil, Nat.reduceAdd, List.range, List.range.loop]
  refine sq_val (some 6) (.slice (some ⟨ab, 0, none⟩) 3 3) rfl rfl (by kernel_rfl) (rvk (by kernel_rfl)) ?_
  simp only [p1, p2, p3, p4]
  refine sq_val (some 7) (.int .i64 3) rfl rfl (by kernel_rfl) (rvk (by kernel_rfl)) ?_
  simp only [p1, p2, p3, p4]
  refine sq_val (some 8) (.int .i64 0) rfl rfl (by kernel_rfl) (rvk (by kernel_rfl)) ?_
  simp only [p1, p2, p3, p4]
  refine sq_nil ?_
  refine k8 _ _ ?_
  try clear k8 K8
  refine wp_block ?_
  refine wp_loop_rounds 4 ?_
  show Code.wp _ _ _ _ _
  refine wp_seq_k (fun K9 k9 => ?_)
  refine wp_region ?_
  simp only [List.size_toArray, List.length_cons, List.length_nil, Nat.reduceAdd, List.range, List.range.loop]
  refine sq_val (some 9) (.bool true) rfl rfl (by kernel_rfl) (rvk (by kernel_rfl)) ?_
  simp only [p1, p2, p3, p4]
  refine sq_nil ?_
  refine k9 _ _ ?_
  try clear k9 K9
  refine wp_seq_k (fun K10 k10 => ?_)
  refine wp_cond_true rfl ?_
  refine wp_skip ?_
  refine k10 _ _ ?_
  try clear k10 K10
  refine wp_seq_k (fun K11 k11 => ?_)
  refine wp_block ?_
  refine wp_seq_k (fun K12 k12 => ?_)
  refine wp_region ?_
  simp only [List.size_toArray, List.length_cons, List.length_nil, Nat.reduceAdd, List.range, List.range.loop]
  refine sq_val (some 10) (.pointer (some ⟨ab, 0, none⟩)) rfl rfl (by kernel_rfl) (rvk (by kernel_rfl)) ?_
  simp only [p1, p2, p3, p4]
  replace hL := hL.gr g6
  refine sq_val (some 11) (.agg #[uaa0, uaa1, uaa2, uaa3]) rfl rfl (by kernel_rfl) (rv_load 31 _ ab 0 _ _ [uaa0, uaa1, uaa2, uaa3] rfl rfl hL rfl (by kernel_rfl)) ?_
  simp only [p1, p2, p3, p4]
  refine sq_eff rfl (by kernel_rfl) (fun K13 k13 => ?_)
  refine eff_alloc 31 (.agg #[(.bool false), (.slice none 0 0), (.bool false), (.slice none 0 0)]) #[(.bool false), (.slice none 0 0), (.bool false), (.slice none 0 0)] (some 5) rfl rfl (by kernel_rfl) rfl (fun b14 w14 g14 L14 q14 => ?_)
  have ne0_14 := hL.ne q14
  replace L3 := L3.gr g6
  have ne3_14 := L3.ne q14
  have ne6_14 := L6.ne q14
  replace q14 := Nat.le_trans (Below.size hB) q14
  replace hB := Gr.trans hB g14
  refine k13 _ _ ?_
  try clear k13 K13
  simp only [p1, p2, p3, p4]
  refine sq_eff rfl (by kernel_rfl) (fun K15 k15 => ?_)
  refine eff_store 31 _ _ b14 0 (.agg #[uaa0, uaa1, uaa2, uaa3]) [uaa0, uaa1, uaa2, uaa3] _ #[uaa0, uaa1, uaa2, uaa3] _ rfl rfl rfl rfl rfl L14 (by kernel_rfl) (Nat.le_of_ble_eq_true rfl) ⟨hua1.one0, hua1.one1, hua1.one2, hua1.one3, trivial⟩ (by kernel_rfl) (fun w16 st16 N16 => ?_)
  have kp16 := st16.kp L14 (by decide)
  replace hB := st16.gr hB q14
  replace L14 := N16
  refine k15 _ _ ?_
  try clear k15 K15
  refine sq_nil ?_
  refine k12 _ _ ?_
  try clear k12 K12
  refine wp_region ?_
  simp only [List.size_toArray, List.length_cons, List.length_nil, Nat.reduceAdd, List.range, List.range.loop]
  replace L6 := st16.lc (L6.gr g14) ne6_14
  refine sq_val (some 12) (.agg #[(.bool false), (.slice none 0 0), (.bool false), (.slice none 0 0)]) rfl rfl (by kernel_rfl) (rv_load 31 _ b6 0 _ _ [(.bool false), (.slice none 0 0), (.bool false), (.slice none 0 0)] rfl rfl L6 rfl (by kernel_rfl)) ?_
  simp only [p1, p2, p3, p4]
  refine sq_val (some 13) (.agg #[uaa0, uaa1, uaa2, uaa3]) rfl rfl (by kernel_rfl) (rv_load 31 _ b14 0 _ _ [uaa0, uaa1, uaa2, uaa3] rfl rfl L14 rfl (by kernel_rfl)) ?_
  simp only [p1, p2, p3, p4]
  refine sq_eff rfl (by kernel_rfl) (fun K17 k17 => ?_)
  have kq19 := g3.kp.trans (g6.kp.trans (g14.kp.trans kp16))
  replace hua1 := hua1.kp kq19
  refine eff_call (some 14) rfl (by kernel_rfl) (add_r (IsRat.zero _ (k := 64) (Nat.le_refl _)) hua1 (by omega)) ?_
  rintro e18 w18 ⟨⟨p18, q18, r18, s18, rfl, h18⟩, g18⟩
  refine ⟨_, rfl, ?_⟩
  replace hB := Gr.trans hB g18
  refine k17 _ _ ?_
  try clear k17 K17
  simp only [p1, p2, p3, p4]
  refine sq_eff rfl (by kernel_rfl) (fun K20 k20 => ?_)
  replace L6 := L6.gr g18
  refine eff_store 31 _ _ b6 0 (.agg #[p18, q18, r18, s18]) [p18, q18, r18, s18] _ #[p18, q18, r18, s18] _ rfl rfl rfl rfl rfl L6 (by kernel_rfl) (Nat.le_of_ble_eq_true rfl) ⟨h18.one0, h18.one1, h18.one2, h18.one3, trivial⟩ (by kernel_rfl) (fun w21 st21 N21 => ?_)
  have kp21 := st21.kp L6 (by decide)
  replace hB := st21.gr hB q6
  replace L6 := N21
  refine k20 _ _ ?_
  try clear k20 K20
  refine sq_nil ?_
  refine k11 _ _ ?_
  try clear k11 K11
  refine wp_region ?_
  simp only [List.size_toArray, List.length_cons, List.length_nil, Nat.reduceAdd, List.range, List.range.loop]
  refine sq_val (some 15) (.int .i64 1) rfl rfl (by kernel_rfl) (rvk (by kernel_rfl)) ?_
  simp only [p1, p2, p3, p4]
  refine sq_val (some 8) (.int .i64 1) rfl rfl (by kernel_rfl) (rvk (by kernel_rfl)) ?_
  simp only [p1, p2, p3, p4]
  refine sq_nil ?_
  show Code.rounds _ _ _ _ _ _
  show Code.wp _ _ _ _ _
  refine wp_seq_k (fun K22 k22 => ?_)
  refine wp_region ?_
  simp only [List.size_toArray, List.length_cons, List.length_nil, Nat.reduceAdd, List.range, List.range.loop]
  refine sq_val (some 9) (.bool true) rfl rfl (by kernel_rfl) (rvk (by kernel_rfl)) ?_
  simp only [p1, p2, p3, p4]
  refine sq_nil ?_
  refine k22 _ _ ?_
  try clear k22 K22
  refine wp_seq_k (fun K23 k23 => ?_)
  refine wp_cond_true rfl ?_
  refine wp_skip ?_
  refine k23 _ _ ?_
  try clear k23 K23
  refine wp_seq_k (fun K24 k24 => ?_)
  refine wp_block ?_
  refine wp_seq_k (fun K25 k25 => ?_)
  refine wp_region ?_
  simp only [List.size_toArray, List.length_cons, List.length_nil, Nat.reduceAdd, List.range, List.range.loop]
  refine sq_val (some 10) (.pointer (some ⟨ab, 4, none⟩)) rfl rfl (by kernel_rfl) (rvk (by kernel_rfl)) ?_
  simp only [p1, p2, p3, p4]
  replace hL := st21.lc ((st16.lc (hL.gr g14) ne0_14).gr g18) ne0_6
  refine sq_val (some 11) (.agg #[uab0, uab1, uab2, uab3]) rfl rfl (by kernel_rfl) (rv_load 31 _ ab 4 _ _ [uab0, uab1, uab2, uab3] rfl rfl hL rfl (by kernel_rfl)) ?_
  simp only [p1, p2, p3, p4]
  refine sq_eff rfl (by kernel_rfl) (fun K26 k26 => ?_)
  refine eff_alloc 31 (.agg #[(.bool false), (.slice none 0 0), (.bool false), (.slice none 0 0)]) #[(.bool false), (.slice none 0 0), (.bool false), (.slice none 0 0)] (some 5) rfl rfl (by kernel_rfl) rfl (fun b27 w27 g27 L27 q27 => ?_)
  have ne0_27 := hL.ne q27
  replace L3 := st21.lc ((st16.lc (L3.gr g14) ne3_14).gr g18) ne3_6
  have ne3_27 := L3.ne q27
  have ne6_27 := L6.ne q27
  replace L14 := st21.lc (L14.gr g18) (Ne.symm ne6_14)
  have ne14_27 := L14.ne q27
  replace q27 := Nat.le_trans (Below.size hB) q27
  replace hB := Gr.trans hB g27
  refine k26 _ _ ?_
  try clear k26 K26
  simp only [p1, p2, p3, p4]
  refine sq_eff rfl (by kernel_rfl) (fun K28 k28 => ?_)
  refine eff_store 31 _ _ b27 0 (.agg #[uab0, uab1, uab2, uab3]) [uab0, uab1, uab2, uab3] _ #[uab0, uab1, uab2, uab3] _ rfl rfl rfl rfl rfl L27 (by kernel_rfl) (Nat.le_of_ble_eq_true rfl) ⟨hua2.one0, hua2.one1, hua2.one2, hua2.one3, trivial⟩ (by kernel_rfl) (fun w29 st29 N29 => ?_)
  have kp29 := st29.kp L27 (by decide)
  replace hB := st29.gr hB q27
  replace L27 := N29
  refine k28 _ _ ?_
  try clear k28 K28
  refine sq_nil ?_
  refine k25 _ _ ?_
  try clear k25 K25
  refine wp_region ?_
  simp only [List.size_toArray, List.length_cons, List.length_nil, Nat.reduceAdd, List.range, List.range.loop]
  replace L6 := st29.lc (L6.gr g27) ne6_27
  refine sq_val (some 12) (.agg #[p18, q18, r18, s18]) rfl rfl (by kernel_rfl) (rv_load 31 _ b6 0 _ _ [p18, q18, r18, s18] rfl rfl L6 rfl (by kernel_rfl)) ?_
  simp only [p1, p2, p3, p4]
  refine sq_val (some 13) (.agg #[uab0, uab1, uab2, uab3]) rfl rfl (by kernel_rfl) (rv_load 31 _ b27 0 _ _ [uab0, uab1, uab2, uab3] rfl rfl L27 rfl (by kernel_rfl)) ?_
  simp only [p1, p2, p3, p4]
  refine sq_eff rfl (by kernel_rfl) (fun K30 k30 => ?_)
  have kq32 := kp21.trans (g27.kp.trans kp29)
  replace h18 := h18.kp kq32
  have kq33 := g3.kp.trans (g6.kp.trans (g14.kp.trans (kp16.trans (g18.kp.trans (kp21.trans (g27.kp.trans kp29))))))
  replace hua2 := hua2.kp kq33
  refine eff_call (some 14) rfl (by kernel_rfl) (add_r h18 hua2 (by omega)) ?_
  rintro e31 w31 ⟨⟨p31, q31, r31, s31, rfl, h31⟩, g31⟩
  refine ⟨_, rfl, ?_⟩
  replace hB := Gr.trans hB g31
  refine k30 _ _ ?_
  try clear k30 K30
  simp only [p1, p2, p3, p4]
  refine sq_eff rfl (by kernel_rfl) (fun K34 k34 => ?_)
  replace L6 := L6.gr g31
  refine eff_store 31 _ _ b6 0 (.agg #[p31, q31, r31, s31]) [p31, q31, r31, s31] _ #[p31, q31, r31, s31] _ rfl rfl rfl rfl rfl L6 (by kernel_rfl) (Nat.le_of_ble_eq_true rfl) ⟨h31.one0, h31.one1, h31.one2, h31.one3, trivial⟩ (by kernel_rfl) (fun w35 st35 N35 => ?_)
  have kp35 := st35.kp L6 (by decide)
  replace hB := st35.gr hB q6
  replace L6 := N35
  refine k34 _ _ ?_
  try clear k34 K34
  refine sq_nil ?_
  refine k24 _ _ ?_
  try clear k24 K24
  refine wp_region ?_
  simp only [List.size_toArray, List.length_cons, List.length_nil, Nat.reduceAdd, List.range, List.range.loop]
  refine sq_val (some 15) (.int .i64 2) rfl rfl (by kernel_rfl) (rvk (by kernel_rfl)) ?_
  simp only [p1, p2, p3, p4]
  refine sq_val (some 8) (.int .i64 2) rfl rfl (by kernel_rfl) (rvk (by kernel_rfl)) ?_
  simp only [p1, p2, p3, p4]
  refine sq_nil ?_
  show Code.rounds _ _ _ _ _ _
  show Code.wp _ _ _ _ _
  refine wp_seq_k (fun K36 k36 => ?_)
  refine wp_region ?_
  simp only [List.size_toArray, List.length_cons, List.length_nil, Nat.reduceAdd, List.range, List.range.loop]
  refine sq_val (some 9) (.bool true) rfl rfl (by kernel_rfl) (rvk (by kernel_rfl)) ?_
  simp only [p1, p2, p3, p4]
  refine sq_nil ?_
  refine k36 _ _ ?_
  try clear k36 K36
  refine wp_seq_k (fun K37 k37 => ?_)
  refine wp_cond_true rfl ?_
  refine wp_skip ?_
  refine k37 _ _ ?_
  try clear k37 K37
  refine wp_seq_k (fun K38 k38 => ?_)
  refine wp_block ?_
  refine wp_seq_k (fun K39 k39 => ?_)
  refine wp_region ?_
  simp only [List.size_toArray, List.length_cons, List.length_nil, Nat.reduceAdd, List.range, List.range.loop]
  refine sq_val (some 10) (.pointer (some ⟨ab, 8, none⟩)) rfl rfl (by kernel_rfl) (rvk (by kernel_rfl)) ?_
  simp only [p1, p2, p3, p4]
  replace hL := st35.lc ((st29.lc (hL.gr g27) ne0_27).gr g31) ne0_6
  refine sq_val (some 11) (.agg #[uac0, uac1, uac2, uac3]) rfl rfl (by kernel_rfl) (rv_load 31 _ ab 8 _ _ [uac0, uac1, uac2, uac3] rfl rfl hL rfl (by kernel_rfl)) ?_
  simp only [p1, p2, p3, p4]
  refine sq_eff rfl (by kernel_rfl) (fun K40 k40 => ?_)
  refine eff_alloc 31 (.agg #[(.bool false), (.slice none 0 0), (.bool false), (.slice none 0 0)]) #[(.bool false), (.slice none 0 0), (.bool false), (.slice none 0 0)] (some 5) rfl rfl (by kernel_rfl) rfl (fun b41 w41 g41 L41 q41 => ?_)
  have ne0_41 := hL.ne q41
  replace L3 := st35.lc ((st29.lc (L3.gr g27) ne3_27).gr g31) ne3_6
  have ne3_41 := L3.ne q41
  have ne6_41 := L6.ne q41
  replace L14 := st35.lc ((st29.lc (L14.gr g27) ne14_27).gr g31) (Ne.symm ne6_14)
  have ne14_41 := L14.ne q41
  replace L27 := st35.lc (L27.gr g31) (Ne.symm ne6_27)
  have ne27_41 := L27.ne q41
  replace q41 := Nat.le_trans (Below.size hB) q41
  replace hB := Gr.trans hB g41
  refine k40 _ _ ?_
  try clear k40 K40
  simp only [p1, p2, p3, p4]
  refine sq_eff rfl (by kernel_rfl) (fun K42 k42 => ?_)
  refine eff_store 31 _ _ b41 0 (.agg #[uac0, uac1, uac2, uac3]) [uac0, uac1, uac2, uac3] _ #[uac0, uac1, uac2, uac3] _ rfl rfl rfl rfl rfl L41 (by kernel_rfl) (Nat.le_of_ble_eq_true rfl) ⟨hua3.one0, hua3.one1, hua3.one2, hua3.one3, trivial⟩ (by kernel_rfl) (fun w43 st43 N43 => ?_)
  have kp43 := st43.kp L41 (by decide)
  replace hB := st43.gr hB q41
  replace L41 := N43
  refine k42 _ _ ?_
  try clear k42 K42
  refine sq_nil ?_
  refine k39 _ _ ?_
  try clear k39 K39
  refine wp_region ?_
  simp only [List.size_toArray, List.length_cons, List.length_nil, Nat.reduceAdd, List.range, List.range.loop]
  replace L6 := st43.lc (L6.gr g41) ne6_41
  refine sq_val (some 12) (.agg #[p31, q31, r31, s31]) rfl rfl (by kernel_rfl) (rv_load 31 _ b6 0 _ _ [p31, q31, r31, s31] rfl rfl L6 rfl (by kernel_rfl)) ?_
  simp only [p1, p2, p3, p4]
  refine sq_val (some 13) (.agg #[uac0, uac1, uac2, uac3]) rfl rfl (by kernel_rfl) (rv_load 31 _ b41 0 _ _ [uac0, uac1, uac2, uac3] rfl rfl L41 rfl (by kernel_rfl)) ?_
  simp only [p1, p2, p3, p4]
  refine sq_eff rfl (by kernel_rfl) (fun K44 k44 => ?_)
  have kq46 := kp35.trans (g41.kp.trans kp43)
  replace h31 := h31.kp kq46
  have kq47 := g3.kp.trans (g6.kp.trans (g14.kp.trans (kp16.trans (g18.kp.trans (kp21.trans (g27.kp.trans (kp29.trans (g31.kp.trans (kp35.trans (g41.kp.trans kp43))))))))))
  replace hua3 := hua3.kp kq47
  refine eff_call (some 14) rfl (by kernel_rfl) (add_r h31 hua3 (by omega)) ?_
  rintro e45 w45 ⟨⟨p45, q45, r45, s45, rfl, h45⟩, g45⟩
  refine ⟨_, rfl, ?_⟩
  replace hB := Gr.trans hB g45
  refine k44 _ _ ?_
  try clear k44 K44
  simp only [p1, p2, p3, p4]
  refine sq_eff rfl (by kernel_rfl) (fun K48 k48 => ?_)
  replace L6 := L6.gr g45
  refine eff_store 31 _ _ b6 0 (.agg #[p45, q45, r45, s45]) [p45, q45, r45, s45] _ #[p45, q45, r45, s45] _ rfl rfl rfl rfl rfl L6 (by kernel_rfl) (Nat.le_of_ble_eq_true rfl) ⟨h45.one0, h45.one1, h45.one2, h45.one3, trivial⟩ (by kernel_rfl) (fun w49 st49 N49 => ?_)
  have kp49 := st49.kp L6 (by decide)
  replace hB := st49.gr hB q6
  replace L6 := N49
  refine k48 _ _ ?_
  try clear k48 K48
  refine sq_nil ?_
  refine k38 _ _ ?_
  try clear k38 K38
  refine wp_region ?_
  simp only [List.size_toArray, List.length_cons, List.length_nil, Nat.reduceAdd, List.range, List.range.loop]
  refine sq_val (some 15) (.int .i64 3) rfl rfl (by kernel_rfl) (rvk (by kernel_rfl)) ?_
  simp only [p1, p2, p3, p4]
  refine sq_val (some 8) (.int .i64 3) rfl rfl (by kernel_rfl) (rvk (by kernel_rfl)) ?_
  simp only [p1, p2, p3, p4]
  refine sq_nil ?_
  show Code.rounds _ _ _ _ _ _
  show Code.wp _ _ _ _ _
  refine wp_seq_k (fun K50 k50 => ?_)
  refine wp_region ?_
  simp only [List.size_toArray, List.length_cons, List.length_nil, Nat.reduceAdd, List.range, List.range.loop]
  refine sq_val (some 9) (.bool false) rfl rfl (by kernel_rfl) (rvk (by kernel_rfl)) ?_
  simp only [p1, p2, p3, p4]
  refine sq_nil ?_
  refine k50 _ _ ?_
  try clear k50 K50
  refine wp_seq_k (fun K51 k51 => ?_)
  refine wp_cond_false rfl ?_
  refine wp_exit ?_
  simp only [Exit.then, Exit.inBlock, ↓reduceIte]
  refine k7 _ _ ?_
  try clear k7 K7
  refine wp_seq_k (fun K52 k52 => ?_)
  refine wp_region ?_
  simp only [List.size_toArray, List.length_cons, List.length_nil, Nat.reduceAdd, List.range, List.range.loop]
  refine sq_val (some 16) (.agg #[p45, q45, r45, s45]) rfl rfl (by kernel_rfl) (rv_load 31 _ b6 0 _ _ [p45, q45, r45, s45] rfl rfl L6 rfl (by kernel_rfl)) ?_
  simp only [p1, p2, p3, p4]
  refine sq_eff rfl (by kernel_rfl) (fun K53 k53 => ?_)
  replace L3 := st49.lc ((st43.lc (L3.gr g41) ne3_41).gr g45) ne3_6
  refine eff_store 31 _ _ b3 0 (.agg #[p45, q45, r45, s45]) [p45, q45, r45, s45] _ #[p45, q45, r45, s45] _ rfl rfl rfl rfl rfl L3 (by kernel_rfl) (Nat.le_of_ble_eq_true rfl) ⟨h45.one0, h45.one1, h45.one2, h45.one3, trivial⟩ (by kernel_rfl) (fun w54 st54 N54 => ?_)
  have kp54 := st54.kp L3 (by decide)
  replace hB := st54.gr hB q3
  replace L3 := N54
  refine k53 _ _ ?_
  try clear k53 K53
  refine sq_nil ?_
  refine k52 _ _ ?_
  try clear k52 K52
  refine wp_ret ?_
  refine bodyPost_ret (v := (.agg #[p45, q45, r45, s45])) (ret_cell _ _ _ rfl rfl L3 (by kernel_rfl)) rfl ⟨?_, hB⟩
  have kq55 := kp49.trans kp54
  replace h45 := h45.kp kq55
  exact ⟨_, _, _, _, rfl, h45⟩

set_option maxRecDepth 100000 in
set_option maxHeartbeats 1000000 in
theorem dot_v {k m : Nat} {uaa0 uaa1 uaa2 uaa3 uab0 uab1 uab2 uab3 uac0 uac1 uac2 uac3 : Value} {a1 a2 a3 : Rat} {vaa0 vaa1 vaa2 vaa3 vab0 vab1 vab2 vab3 vac0 vac1 vac2 vac3 : Value} {c1 c2 c3 : Rat} {w : World} (hua1 : IsRat w k uaa0 uaa1 uaa2 uaa3 a1) (hua2 : IsRat w k uab0 uab1 uab2 uab3 a2) (hua3 : IsRat w k uac0 uac1 uac2 uac3 a3) (hva1 : IsRat w m vaa0 vaa1 vaa2 vaa3 c1) (hva2 : IsRat w m vab0 vab1 vab2 vab3 c2) (hva3 : IsRat w m vac0 vac1 vac2 vac3 c3) (_hk : k + m ≤ 25000) :
    Calls Tryd.prog 16 #[(.agg #[uaa0, uaa1, uaa2, uaa3, uab0, uab1, uab2, uab3, uac0, uac1, uac2, uac3]), (.agg #[vaa0, vaa1, vaa2, vaa3, vab0, vab1, vab2, vab3, vac0, vac1, vac2, vac3])] w fun e w' => (∃ z0 z1 z2 z3, e = .returned (.agg #[z0, z1, z2, z3]) ∧ IsRat w' (64 + (k + m) + 1 + (k + m) + 1 + (k + m) + 1) z0 z1 z2 z3 (0 + a1 * c1 + a2 * c2 + a3 * c3)) ∧ Gr w w' := by
  go_enter Tryd.func16, Tryd.ntmps16
  have hB := Gr.refl w
  refine wp_seq_k (fun K1 k1 => ?_)
  refine wp_region ?_
  simp only [List.size_toArray, List.length_cons, List.length_nil, Nat.reduceAdd, List.range, List.range.loop]
  refine sq_eff rfl (by kernel_rfl) (fun K2 k2 => ?_)
  refine eff_box 33 _ (.agg #[uaa0, uaa1, uaa2, uaa3, uab0, uab1, uab2, uab3, uac0, uac1, uac2, uac3]) #[uaa0, uaa1, uaa2, uaa3, uab0, uab1, uab2, uab3, uac0, uac1, uac2, uac3] (some 2) rfl rfl rfl rfl (fun b3 w3 g3 L3 q3 => ?_)
  replace q3 := Nat.le_trans (Below.size hB) q3
  replace hB := Gr.trans hB g3
  refine k2 _ _ ?_
  try clear k2 K2
  simp only [p1, p2, p3, p4]
  refine sq_eff rfl (by kernel_rfl) (fun K4 k4 => ?_)
  refine eff_box 33 _ (.agg #[vaa0, vaa1, vaa2, vaa3, vab0, vab1, vab2, vab3, vac0, vac1, vac2, vac3]) #[vaa0, vaa1, vaa2, vaa3, vab0, vab1, vab2, vab3, vac0, vac1, vac2, vac3] (some 3) rfl rfl rfl rfl (fun b5 w5 g5 L5 q5 => ?_)
  have ne3_5 := L3.ne q5
  replace q5 := Nat.le_trans (Below.size hB) q5
  replace hB := Gr.trans hB g5
  refine k4 _ _ ?_
  try clear k4 K4
  simp only [p1, p2, p3, p4]
  refine sq_eff rfl (by kernel_rfl) (fun K6 k6 => ?_)
  refine eff_alloc 31 (.agg #[(.bool false), (.slice none 0 0), (.bool false), (.slice none 0 0)]) #[(.bool false), (.slice none 0 0), (.bool false), (.slice none 0 0)] (some 4) rfl rfl (by kernel_rfl) rfl (fun b7 w7 g7 L7 q7 => ?_)
  replace L3 := L3.gr g5
  have ne3_7 := L3.ne q7
  have ne5_7 := L5.ne q7
  replace q7 := Nat.le_trans (Below.size hB) q7
  replace hB := Gr.trans hB g7
  refine k6 _ _ ?_
  try clear k6 K6
  simp only [p1, p2, p3, p4]
  refine sq_nil ?_
  refine k1 _ _ ?_
  try clear k1 K1
  refine wp_seq_k (fun K8 k8 => ?_)
  refine wp_region ?_
  simp only [List.size_toArray, List.length_cons, List.length_nil, Nat.reduceAdd, List.range, List.range.loop]
  replace L3 := L3.gr g7
  refine sq_val (some 6) (.agg #[uaa0, uaa1, uaa2, uaa3, uab0, uab1, uab2, uab3, uac0, uac1, uac2, uac3]) rfl rfl (by kernel_rfl) (rv_load 33 _ b3 0 _ _ [uaa0, uaa1, uaa2, uaa3, uab0, uab1, uab2, uab3, uac0, uac1, uac2, uac3] rfl rfl L3 rfl (by kernel_rfl)) ?_
  simp only [p1, p2, p3, p4]
  replace L5 := L5.gr g7
  refine sq_val (some 7) (.agg #[vaa0, vaa1, vaa2, vaa3, vab0, vab1, vab2, vab3, vac0, vac1, vac2, vac3]) rfl rfl (by kernel_rfl) (rv_load 33 _ b5 0 _ _ [vaa0, vaa1, vaa2, vaa3, vab0, vab1, vab2, vab3, vac0, vac1, vac2, vac3] rfl rfl L5 rfl (by kernel_rfl)) ?_
  simp only [p1, p2, p3, p4]
  refine sq_eff rfl (by kernel_rfl) (fun K9 k9 => ?_)
  have kq11 := g3.kp.trans (g5.kp.trans g7.kp)
  replace hua1 := hua1.kp kq11
  replace hua2 := hua2.kp kq11
  replace hua3 := hua3.kp kq11
  replace hva1 := hva1.kp kq11
  replace hva2 := hva2.kp kq11
  replace hva3 := hva3.kp kq11
  refine eff_call (some 8) rfl (by kernel_rfl) (each_mul hua1 hua2 hua3 hva1 hva2 hva3 (by omega)) ?_
  rintro e10 w10 ⟨⟨t10_0, t10_1, t10_2, t10_3, t10_4, t10_5, t10_6, t10_7, t10_8, t10_9, t10_10, t10_11, rfl, h10a, h10b, h10c⟩, g10⟩
  refine ⟨_, rfl, ?_⟩
  replace hB := Gr.trans hB g10
  refine k9 _ _ ?_
  try clear k9 K9
  simp only [p1, p2, p3, p4]
  refine sq_eff rfl (by kernel_rfl) (fun K12 k12 => ?_)
  refine eff_alloc 33 (.agg #[(.bool false), (.slice none 0 0), (.bool false), (.slice none 0 0), (.bool false), (.slice none 0 0), (.bool false), (.slice none 0 0), (.bool false), (.slice none 0 0), (.bool false), (.slice none 0 0)]) #[(.bool false), (.slice none 0 0), (.bool false), (.slice none 0 0), (.bool false), (.slice none 0 0), (.bool false), (.slice none 0 0), (.bool false), (.slice none 0 0), (.bool false), (.slice none 0 0)] (some 5) rfl rfl (by kernel_rfl) rfl (fun b13 w13 g13 L13 q13 => ?_)
  replace L3 := L3.gr g10
  have ne3_13 := L3.ne q13
  replace L5 := L5.gr g10
  have ne5_13 := L5.ne q13
  replace L7 := L7.gr g10
  have ne7_13 := L7.ne q13
  replace q13 := Nat.le_trans (Below.size hB) q13
  replace hB := Gr.trans hB g13
  refine k12 _ _ ?_
  try clear k12 K12
  simp only [p1, p2, p3, p4]
  refine sq_eff rfl (by kernel_rfl) (fun K14 k14 => ?_)
  refine eff_store 33 _ _ b13 0 (.agg #[t10_0, t10_1, t10_2, t10_3, t10_4, t10_5, t10_6, t10_7, t10_8, t10_9, t10_10, t10_11]) [t10_0, t10_1, t10_2, t10_3, t10_4, t10_5, t10_6, t10_7, t10_8, t10_9, t10_10, t10_11] _ #[t10_0, t10_1, t10_2, t10_3, t10_4, t10_5, t10_6, t10_7, t10_8, t10_9, t10_10, t10_11] _ rfl rfl rfl rfl rfl L13 (by kernel_rfl) (Nat.le_of_ble_eq_true rfl) ⟨h10a.one0, h10a.one1, h10a.one2, h10a.one3, h10b.one0, h10b.one1, h10b.one2, h10b.one3, h10c.one0, h10c.one1, h10c.one2, h10c.one3, trivial⟩ (by kernel_rfl) (fun w15 st15 N15 => ?_)
  have kp15 := st15.kp L13 (by decide)
  replace hB := st15.gr hB q13
  replace L13 := N15
  refine k14 _ _ ?_
  try clear k14 K14
  refine sq_nil ?_
  refine k8 _ _ ?_
  try clear k8 K8
  refine wp_seq_k (fun K16 k16 => ?_)
  refine wp_region ?_
  simp only [List.size_toArray, List.length_cons, List.length_nil, Nat.reduceAdd, List.range, List.range.loop]
  refine sq_val (some 9) (.slice (some ⟨b13, 0, none⟩) 3 3) rfl rfl (by kernel_rfl) (rvk (by kernel_rfl)) ?_
  simp only [p1, p2, p3, p4]
  refine sq_eff rfl (by kernel_rfl) (fun K17 k17 => ?_)
  have kq19 := g13.kp.trans kp15
  replace h10a := h10a.kp kq19
  replace h10b := h10b.kp kq19
  replace h10c := h10c.kp kq19
  refine eff_call (some 10) rfl (by kernel_rfl) (sum3_r h10a h10b h10c L13 (by omega)) ?_
  rintro e18 w18 ⟨⟨p18, q18, r18, s18, rfl, h18⟩, g18⟩
  refine ⟨_, rfl, ?_⟩
  replace hB := Gr.trans hB g18
  refine k17 _ _ ?_
  try clear k17 K17
  simp only [p1, p2, p3, p4]
  refine sq_eff rfl (by kernel_rfl) (fun K20 k20 => ?_)
  replace L7 := (st15.lc (L7.gr g13) ne7_13).gr g18
  refine eff_store 31 _ _ b7 0 (.agg #[p18, q18, r18, s18]) [p18, q18, r18, s18] _ #[p18, q18, r18, s18] _ rfl rfl rfl rfl rfl L7 (by kernel_rfl) (Nat.le_of_ble_eq_true rfl) ⟨h18.one0, h18.one1, h18.one2, h18.one3, trivial⟩ (by kernel_rfl) (fun w21 st21 N21 => ?_)
  have kp21 := st21.kp L7 (by decide)
  replace hB := st21.gr hB q7
  replace L7 := N21
  refine k20 _ _ ?_
  try clear k20 K20
  refine sq_nil ?_
  refine k16 _ _ ?_
  try clear k16 K16
  refine wp_ret ?_
  refine bodyPost_ret (v := (.agg #[p18, q18, r18, s18])) (ret_cell _ _ _ rfl rfl L7 (by kernel_rfl)) rfl ⟨?_, hB⟩
  replace h18 := h18.kp kp21
  exact ⟨_, _, _, _, rfl, h18⟩

set_option maxRecDepth 100000 in
set_option maxHeartbeats 8000000 in
theorem cross_v {k m : Nat} {uaa0 uaa1 uaa2 uaa3 uab0 uab1 uab2 uab3 uac0 uac1 uac2 uac3 : Value} {a1 a2 a3 : Rat} {vaa0 vaa1 vaa2 vaa3 vab0 vab1 vab2 vab3 vac0 vac1 vac2 vac3 : Value} {c1 c2 c3 : Rat} {w : World} (hua1 : IsRat w k uaa0 uaa1 uaa2 uaa3 a1) (hua2 : IsRat w k uab0 uab1 uab2 uab3 a2) (hua3 : IsRat w k uac0 uac1 uac2 uac3 a3) (hva1 : IsRat w m vaa0 vaa1 vaa2 vaa3 c1) (hva2 : IsRat w m vab0 vab1 vab2 vab3 c2) (hva3 : IsRat w m vac0 vac1 vac2 vac3 c3) (_hk : k + m ≤ 25000) :
    Calls Tryd.prog 21 #[(.agg #[uaa0, uaa1, uaa2, uaa3, uab0, uab1, uab2, uab3, uac0, uac1, uac2, uac3]), (.agg #[vaa0, vaa1, vaa2, vaa3, vab0, vab1, vab2, vab3, vac0, vac1, vac2, vac3])] w fun e w' => (∃ t0 t1 t2 t3 t4 t5 t6 t7 t8 t9 t10 t11, e = .returned (.agg #[t0, t1, t2, t3, t4, t5, t6, t7, t8, t9, t10, t11]) ∧ IsRat w' (k + m + (k + m) + 1) t0 t1 t2 t3 (a2 * c3 - a3 * c2) ∧ IsRat w' (k + m + (k + m) + 1) t4 t5 t6 t7 (a3 * c1 - a1 * c3) ∧ IsRat w' (k + m + (k + m) + 1) t8 t9 t10 t11 (a1 * c2 - a2 * c1)) ∧ Gr w w' := by
  go_enter Tryd.func21, Tryd.ntmps21
  have hB := Gr.refl w
  refine wp_seq_k (fun K1 k1 => ?_)
  refine wp_region ?_
  simp only [List.size_toArray, List.length_cons, List.length_nil, Nat.reduceAdd, List.range, List.range.loop]
  refine sq_eff rfl (by kernel_rfl) (fun K2 k2 => ?_)
  refine eff_box 33 _ (.agg #[uaa0, uaa1, uaa2, uaa3, uab0, uab1, uab2, uab3, uac0, uac1, uac2, uac3]) #[uaa0, uaa1, uaa2, uaa3, uab0, uab1, uab2, uab3, uac0, uac1, uac2, uac3] (some 2) rfl rfl rfl rfl (fun b3 w3 g3 L3 q3 => ?_)
  replace q3 := Nat.le_trans (Below.size hB) q3
  replace hB := Gr.trans hB g3
  refine k2 _ _ ?_
  try clear k2 K2
  simp only [p1, p2, p3, p4]
  refine sq_eff rfl (by kernel_rfl) (fun K4 k4 => ?_)
  refine eff_box 33 _ (.agg #[vaa0, vaa1, vaa2, vaa3, vab0, vab1, vab2, vab3, vac0, vac1, vac2, vac3]) #[vaa0, vaa1, vaa2, vaa3, vab0, vab1, vab2, vab3, vac0, vac1, vac2, vac3] (some 3) rfl rfl rfl rfl (fun b5 w5 g5 L5 q5 => ?_)
  have ne3_5 := L3.ne q5
  replace q5 := Nat.le_trans (Below.size hB) q5
  replace hB := Gr.trans hB g5
  refine k4 _ _ ?_
  try clear k4 K4
  simp only [p1, p2, p3, p4]
  refine sq_eff rfl (by kernel_rfl) (fun K6 k6 => ?_)
  refine eff_alloc 33 (.agg #[(.bool false), (.slice none 0 0), (.bool false), (.slice none 0 0), (.bool false), (.slice none 0 0), (.bool false), (.slice none 0 0), (.bool false), (.slice none 0 0), (.bool false), (.slice none 0 0)]) #[(.bool false), (.slice none 0 0), (.bool false), (.slice none 0 0), (.bool false), (.slice none 0 0), (.bool false), (.slice none 0 0), (.bool false), (.slice none 0 0), (.bool false), (.slice none 0 0)] (some 4) rfl rfl (by kernel_rfl) rfl (fun b7 w7 g7 L7 q7 => ?_)
  replace L3 := L3.gr g5
  have ne3_7 := L3.ne q7
  have ne5_7 := L5.ne q7
  replace q7 := Nat.le_trans (Below.size hB) q7
  replace hB := Gr.trans hB g7
  refine k6 _ _ ?_
  try clear k6 K6
  simp only [p1, p2, p3, p4]
  refine sq_nil ?_
  refine k1 _ _ ?_
  try clear k1 K1
  refine wp_seq_k (fun K8 k8 => ?_)
  refine wp_region ?_
  simp only [List.size_toArray, List.length_cons, List.length_nil, Nat.reduceAdd, List.range, List.range.loop]
  refine sq_eff rfl (by kernel_rfl) (fun K9 k9 => ?_)
  refine eff_alloc 33 (.agg #[(.bool false), (.slice none 0 0), (.bool false), (.slice none 0 0), (.bool false), (.slice none 0 0), (.bool false), (.slice none 0 0), (.bool false), (.slice none 0 0), (.bool false), (.slice none 0 0)]) #[(.bool false), (.slice none 0 0), (.bool false), (.slice none 0 0), (.bool false), (.slice none 0 0), (.bool false), (.slice none 0 0), (.bool false), (.slice none 0 0), (.bool false), (.slice none 0 0)] (some 5) rfl rfl (by kernel_rfl) rfl (fun b10 w10 g10 L10 q10 => ?_)
  replace L3 := L3.gr g7
  have ne3_10 := L3.ne q10
  replace L5 := L5.gr g7
  have ne5_10 := L5.ne q10
  have ne7_10 := L7.ne q10
  replace q10 := Nat.le_trans (Below.size hB) q10
  replace hB := Gr.trans hB g10
  refine k9 _ _ ?_
  try clear k9 K9
  simp only [p1, p2, p3, p4]
  refine sq_nil ?_
  refine k8 _ _ ?_
  try clear k8 K8
  refine wp_seq_k (fun K11 k11 => ?_)
  refine wp_seq_k (fun K12 k12 => ?_)
  refine wp_region ?_
  simp only [List.size_toArray, List.length_cons, List.length_nil, Nat.reduceAdd, List.range, List.range.loop]
  refine sq_val (some 9) (.int .i64 0) rfl rfl (by kernel_rfl) (rvk (by kernel_rfl)) ?_
  simp only [p1, p2, p3, p4]
  refine sq_nil ?_
  refine k12 _ _ ?_
  try clear k12 K12
  refine wp_block ?_
  refine wp_loop_rounds 4 ?_
  show Code.wp _ _ _ _ _
  refine wp_seq_k (fun K13 k13 => ?_)
  refine wp_region ?_
  simp only [List.size_toArray, List.length_cons, List.length_nil, Nat.reduceAdd, List.range, List.range.loop]
  refine sq_val (some 10) (.bool true) rfl rfl (by kernel_rfl) (rvk (by kernel_rfl)) ?_
  simp only [p1, p2, p3, p4]
  refine sq_nil ?_
  refine k13 _ _ ?_
  try clear k13 K13
  refine wp_seq_k (fun K14 k14 => ?_)
  refine wp_cond_true rfl ?_
  refine wp_skip ?_
  refine k14 _ _ ?_
  try clear k14 K14
  refine wp_seq_k (fun K15 k15 => ?_)
  refine wp_block ?_
  refine wp_seq_k (fun K16 k16 => ?_)
  refine wp_region ?_
  simp only [List.size_toArray, List.length_cons, List.length_nil, Nat.reduceAdd, List.range, List.range.loop]
  refine sq_val (some 11) (.int .i64 0) rfl rfl (by kernel_rfl) (rvk (by kernel_rfl)) ?_
  simp only [p1, p2, p3, p4]
  refine sq_val (some 6) (.int .i64 0) rfl rfl (by kernel_rfl) (rvk (by kernel_rfl)) ?_
  simp only [p1, p2, p3, p4]
  refine sq_nil ?_
  refine k16 _ _ ?_
  try clear k16 K16
  refine wp_seq_k (fun K17 k17 => ?_)
  refine wp_region ?_
  simp only [List.size_toArray, List.length_cons, List.length_nil, Nat.reduceAdd, List.range, List.range.loop]
  refine sq_val (some 12) (.int .i64 0) rfl rfl (by kernel_rfl) (rvk (by kernel_rfl)) ?_
  simp only [p1, p2, p3, p4]
  refine sq_val (some 13) (.int .i64 1) rfl rfl (by kernel_rfl) (rvk (by kernel_rfl)) ?_
  simp only [p1, p2, p3, p4]
  refine sq_val (some 14) (.int .i64 1) rfl rfl (by kernel_rfl) (rvk (by kernel_rfl)) ?_
  simp only [p1, p2, p3, p4]
  refine sq_val (some 15) (.int .i64 0) rfl rfl (by kernel_rfl) (rvk (by kernel_rfl)) ?_
  simp only [p1, p2, p3, p4]
  refine sq_val (some 16) (.int .i64 2) rfl rfl (by kernel_rfl) (rvk (by kernel_rfl)) ?_
  simp only [p1, p2, p3, p4]
  refine sq_val (some 17) (.int .i64 2) rfl rfl (by kernel_rfl) (rvk (by kernel_rfl)) ?_
  simp only [p1, p2, p3, p4]
  refine sq_val (some 7) (.int .i64 1) rfl rfl (by kernel_rfl) (rvk (by kernel_rfl)) ?_
  simp only [p1, p2, p3, p4]
  refine sq_val (some 8) (.int .i64 2) rfl rfl (by kernel_rfl) (rvk (by kernel_rfl)) ?_
  simp only [p1, p2, p3, p4]
  refine sq_nil ?_
  refine k17 _ _ ?_
  try clear k17 K17
  have gd29 := Gr.drew w10
  replace hB := Gr.trans hB gd29
  replace L3 := L3.gr (g10.trans gd29)
  replace L5 := L5.gr (g10.trans gd29)
  refine wp_region_ord (fun w' => Lc w' b3 #[uaa0, uaa1, uaa2, uaa3, uab0, uab1, uab2, uab3, uac0, uac1, uac2, uac3] 33 ∧ Lc w' b5 #[vaa0, vaa1, vaa2, vaa3, vab0, vab1, vab2, vab3, vac0, vac1, vac2, vac3] 33) [(true, 0), (true, 1), (true, 2), (true, 3), (true, 4), (true, 5), (true, 6), (true, 8), (true, 9), (true, 10), (true, 11), (true, 12), (true, 13), (false, 7), (false, 14), (false, 15), (true, 16), (false, 17)] (by kernel_rfl) (by kernel_rfl) (by kernel_rfl) (by decide) (fun _ _ _ _ _ h => h) ⟨L3, L5⟩ ?_
  refine ord_pure (some 18) (.int .i64 0) rfl rfl rfl (fun w' hS => (rvk (by kernel_rfl))) ?_
  simp only [p1, p2, p3, p4]
  refine ord_pure (some 19) (.int .i64 1) rfl rfl rfl (fun w' hS => (rvk (by kernel_rfl))) ?_
  simp only [p1, p2, p3, p4]
  refine ord_pure (some 20) (.pointer (some ⟨b3, 4, none⟩)) rfl rfl rfl (fun w' hS => (rvk (by kernel_rfl))) ?_
  simp only [p1, p2, p3, p4]
  refine ord_pure (some 21) (.agg #[uab0, uab1, uab2, uab3]) rfl rfl rfl (fun w' hS => (rv_load 31 _ b3 4 _ _ [uab0, uab1, uab2, uab3] rfl rfl hS.1 rfl (by kernel_rfl))) ?_
  simp only [p1, p2, p3, p4]
  refine ord_pure (some 22) (.int .i64 2) rfl rfl rfl (fun w' hS => (rvk (by kernel_rfl))) ?_
  simp only [p1, p2, p3, p4]
  refine ord_pure (some 23) (.pointer (some ⟨b5, 8, none⟩)) rfl rfl rfl (fun w' hS => (rvk (by kernel_rfl))) ?_
  simp only [p1, p2, p3, p4]
  refine ord_pure (some 24) (.agg #[vac0, vac1, vac2, vac3]) rfl rfl rfl (fun w' hS => (rv_load 31 _ b5 8 _ _ [vac0, vac1, vac2, vac3] rfl rfl hS.2 rfl (by kernel_rfl))) ?_
  simp only [p1, p2, p3, p4]
  refine ord_pure (some 26) (.int .i64 2) rfl rfl rfl (fun w' hS => (rvk (by kernel_rfl))) ?_
  simp only [p1, p2, p3, p4]
  refine ord_pure (some 27) (.pointer (some ⟨b3, 8, none⟩)) rfl rfl rfl (fun w' hS => (rvk (by kernel_rfl))) ?_
  simp only [p1, p2, p3, p4]
  refine ord_pure (some 28) (.agg #[uac0, uac1, uac2, uac3]) rfl rfl rfl (fun w' hS => (rv_load 31 _ b3 8 _ _ [uac0, uac1, uac2, uac3] rfl rfl hS.1 rfl (by kernel_rfl))) ?_
  simp only [p1, p2, p3, p4]
  refine ord_pure (some 29) (.int .i64 1) rfl rfl rfl (fun w' hS => (rvk (by kernel_rfl))) ?_
  simp only [p1, p2, p3, p4]
  refine ord_pure (some 30) (.pointer (some ⟨b5, 4, none⟩)) rfl rfl rfl (fun w' hS => (rvk (by kernel_rfl))) ?_
  simp only [p1, p2, p3, p4]
  refine ord_pure (some 31) (.agg #[vab0, vab1, vab2, vab3]) rfl rfl rfl (fun w' hS => (rv_load 31 _ b5 4 _ _ [vab0, vab1, vab2, vab3] rfl rfl hS.2 rfl (by kernel_rfl))) ?_
  simp only [p1, p2, p3, p4]
  refine ord_eff rfl rfl (fun K30 k30 => ?_)
  have kq32 := g3.kp.trans (g5.kp.trans (g7.kp.trans (g10.kp.trans gd29.kp)))
  replace hua2 := hua2.kp kq32
  replace hva3 := hva3.kp kq32
  refine eff_call (some 25) rfl (by kernel_rfl) (mul_r hua2 hva3 (by omega)) ?_
  rintro e31 w31 ⟨⟨p31, q31, r31, s31, rfl, h31⟩, g31⟩
  refine ⟨_, rfl, ?_⟩
  replace hB := Gr.trans hB g31
  replace L3 := L3.gr g31
  replace L5 := L5.gr g31
  refine k30 _ _ ⟨L3, L5⟩ ?_
  try clear k30 K30
  simp only [p1, p2, p3, p4]
  refine ord_eff rfl rfl (fun K33 k33 => ?_)
  have kq35 := g3.kp.trans (g5.kp.trans (g7.kp.trans (g10.kp.trans (gd29.kp.trans g31.kp))))
  replace hua3 := hua3.kp kq35
  replace hva2 := hva2.kp kq35
  refine eff_call (some 32) rfl (by kernel_rfl) (mul_r hua3 hva2 (by omega)) ?_
  rintro e34 w34 ⟨⟨p34, q34, r34, s34, rfl, h34⟩, g34⟩
  refine ⟨_, rfl, ?_⟩
  replace hB := Gr.trans hB g34
  replace L3 := L3.gr g34
  replace L5 := L5.gr g34
  refine k33 _ _ ⟨L3, L5⟩ ?_
  try clear k33 K33
  simp only [p1, p2, p3, p4]
  refine ord_eff rfl rfl (fun K36 k36 => ?_)
  replace h31 := h31.kp g34.kp
  refine eff_call (some 33) rfl (by kernel_rfl) (sub_r h31 h34 (by omega)) ?_
  rintro e37 w37 ⟨⟨p37, q37, r37, s37, rfl, h37⟩, g37⟩
  refine ⟨_, rfl, ?_⟩
  replace hB := Gr.trans hB g37
  replace L3 := L3.gr g37
  replace L5 := L5.gr g37
  refine k36 _ _ ⟨L3, L5⟩ ?_
  try clear k36 K36
  simp only [p1, p2, p3, p4]
  refine ord_pure (some 34) (.pointer (some ⟨b10, 0, none⟩)) rfl rfl rfl (fun w' hS => (rvk (by kernel_rfl))) ?_
  simp only [p1, p2, p3, p4]
  refine ord_eff rfl rfl (fun K38 k38 => ?_)
  replace L10 := L10.gr (gd29.trans (g31.trans (g34.trans g37)))
  refine eff_store 31 _ _ b10 0 (.agg #[p37, q37, r37, s37]) [p37, q37, r37, s37] _ #[p37, q37, r37, s37, (.bool false), (.slice none 0 0), (.bool false), (.slice none 0 0), (.bool false), (.slice none 0 0), (.bool false), (.slice none 0 0)] _ rfl rfl rfl rfl rfl L10 (by kernel_rfl) (Nat.le_of_ble_eq_true rfl) ⟨h37.one0, h37.one1, h37.one2, h37.one3, trivial⟩ (by kernel_rfl) (fun w39 st39 N39 => ?_)
  have kp39 := st39.kp L10 (by decide)
  replace hB := st39.gr hB q10
  replace L10 := N39
  replace L3 := st39.lc L3 ne3_10
  replace L5 := st39.lc L5 ne5_10
  refine k38 _ _ ⟨L3, L5⟩ ?_
  try clear k38 K38
  refine ord_nil ?_
  refine k15 _ _ ?_
  try clear k15 K15
  refine wp_region ?_
  simp only [List.size_toArray, List.length_cons, List.length_nil, Nat.reduceAdd, List.range, List.range.loop]
  refine sq_val (some 35) (.int .i64 1) rfl rfl (by kernel_rfl) (rvk (by kernel_rfl)) ?_
  simp only [p1, p2, p3, p4]
  refine sq_val (some 9) (.int .i64 1) rfl rfl (by kernel_rfl) (rvk (by kernel_rfl)) ?_
  simp only [p1, p2, p3, p4]
  refine sq_nil ?_
  show Code.rounds _ _ _ _ _ _
  show Code.wp _ _ _ _ _
  refine wp_seq_k (fun K40 k40 => ?_)
  refine wp_region ?_
  simp only [List.size_toArray, List.length_cons, List.length_nil, Nat.reduceAdd, List.range, List.range.loop]
  refine sq_val (some 10) (.bool true) rfl rfl (by kernel_rfl) (rvk (by kernel_rfl)) ?_
  simp only [p1, p2, p3, p4]
  refine sq_nil ?_
  refine k40 _ _ ?_
  try clear k40 K40
  refine wp_seq_k (fun K41 k41 => ?_)
  refine wp_cond_true rfl ?_
  refine wp_skip ?_
  refine k41 _ _ ?_
  try clear k41 K41
  refine wp_seq_k (fun K42 k42 => ?_)
  refine wp_block ?_
  refine wp_seq_k (fun K43 k43 => ?_)
  refine wp_region ?_
  simp only [List.size_toArray, List.length_cons, List.length_nil, Nat.reduceAdd, List.range, List.range.loop]
  refine sq_val (some 11) (.int .i64 1) rfl rfl (by kernel_rfl) (rvk (by kernel_rfl)) ?_
  simp only [p1, p2, p3, p4]
  refine sq_val (some 6) (.int .i64 1) rfl rfl (by kernel_rfl) (rvk (by kernel_rfl)) ?_
  simp only [p1, p2, p3, p4]
  refine sq_nil ?_
  refine k43 _ _ ?_
  try clear k43 K43
  refine wp_seq_k (fun K44 k44 => ?_)
  refine wp_region ?_
  simp only [List.size_toArray, List.length_cons, List.length_nil, Nat.reduceAdd, List.range, List.range.loop]
  refine sq_val (some 12) (.int .i64 1) rfl rfl (by kernel_rfl) (rvk (by kernel_rfl)) ?_
  simp only [p1, p2, p3, p4]
  refine sq_val (some 13) (.int .i64 2) rfl rfl (by kernel_rfl) (rvk (by kernel_rfl)) ?_
  simp only [p1, p2, p3, p4]
  refine sq_val (some 14) (.int .i64 2) rfl rfl (by kernel_rfl) (rvk (by kernel_rfl)) ?_
  simp only [p1, p2, p3, p4]
  refine sq_val (some 15) (.int .i64 1) rfl rfl (by kernel_rfl) (rvk (by kernel_rfl)) ?_
  simp only [p1, p2, p3, p4]
  refine sq_val (some 16) (.int .i64 3) rfl rfl (by kernel_rfl) (rvk (by kernel_rfl)) ?_
  simp only [p1, p2, p3, p4]
  refine sq_val (some 17) (.int .i64 0) rfl rfl (by kernel_rfl) (rvk (by kernel_rfl)) ?_
  simp only [p1, p2, p3, p4]
  refine sq_val (some 7) (.int .i64 2) rfl rfl (by kernel_rfl) (rvk (by kernel_rfl)) ?_
  simp only [p1, p2, p3, p4]
  refine sq_val (some 8) (.int .i64 0) rfl rfl (by kernel_rfl) (rvk (by kernel_rfl)) ?_
  simp only [p1, p2, p3, p4]
  refine sq_nil ?_
  refine k44 _ _ ?_
  try clear k44 K44
  have gd58 := Gr.drew w39
  replace hB := Gr.trans hB gd58
  replace L3 := L3.gr gd58
  replace L5 := L5.gr gd58
  refine wp_region_ord (fun w' => Lc w' b3 #[uaa0, uaa1, uaa2, uaa3, uab0, uab1, uab2, uab3, uac0, uac1, uac2, uac3] 33 ∧ Lc w' b5 #[vaa0, vaa1, vaa2, vaa3, vab0, vab1, vab2, vab3, vac0, vac1, vac2, vac3] 33) [(true, 0), (true, 1), (true, 2), (true, 3), (true, 4), (true, 5), (true, 6), (true, 8), (true, 9), (true, 10), (true, 11), (true, 12), (true, 13), (false, 7), (false, 14), (false, 15), (true, 16), (false, 17)] (by kernel_rfl) (by kernel_rfl) (by kernel_rfl) (by decide) (fun _ _ _ _ _ h => h) ⟨L3, L5⟩ ?_
  refine ord_pure (some 18) (.int .i64 1) rfl rfl rfl (fun w' hS => (rvk (by kernel_rfl))) ?_
  simp only [p1, p2, p3, p4]
  refine ord_pure (some 19) (.int .i64 2) rfl rfl rfl (fun w' hS => (rvk (by kernel_rfl))) ?_
  simp only [p1, p2, p3, p4]
  refine ord_pure (some 20) (.pointer (some ⟨b3, 8, none⟩)) rfl rfl rfl (fun w' hS => (rvk (by kernel_rfl))) ?_
  simp only [p1, p2, p3, p4]
  refine ord_pure (some 21) (.agg #[uac0, uac1, uac2, uac3]) rfl rfl rfl (fun w' hS => (rv_load 31 _ b3 8 _ _ [uac0, uac1, uac2, uac3] rfl rfl hS.1 rfl (by kernel_rfl))) ?_
  simp only [p1, p2, p3, p4]
  refine ord_pure (some 22) (.int .i64 0) rfl rfl rfl (fun w' hS => (rvk (by kernel_rfl))) ?_
  simp only [p1, p2, p3, p4]
  refine ord_pure (some 23) (.pointer (some ⟨b5, 0, none⟩)) rfl rfl rfl (fun w' hS => (rvk (by kernel_rfl))) ?_
  simp only [p1, p2, p3, p4]
  refine ord_pure (some 24) (.agg #[vaa0, vaa1, vaa2, vaa3]) rfl rfl rfl (fun w' hS => (rv_load 31 _ b5 0 _ _ [vaa0, vaa1, vaa2, vaa3] rfl rfl hS.2 rfl (by kernel_rfl))) ?_
  simp only [p1, p2, p3, p4]
  refine ord_pure (some 26) (.int .i64 0) rfl rfl rfl (fun w' hS => (rvk (by kernel_rfl))) ?_
  simp only [p1, p2, p3, p4]
  refine ord_pure (some 27) (.pointer (some ⟨b3, 0, none⟩)) rfl rfl rfl (fun w' hS => (rvk (by kernel_rfl))) ?_
  simp only [p1, p2, p3, p4]
  refine ord_pure (some 28) (.agg #[uaa0, uaa1, uaa2, uaa3]) rfl rfl rfl (fun w' hS => (rv_load 31 _ b3 0 _ _ [uaa0, uaa1, uaa2, uaa3] rfl rfl hS.1 rfl (by kernel_rfl))) ?_
  simp only [p1, p2, p3, p4]
  refine ord_pure (some 29) (.int .i64 2) rfl rfl rfl (fun w' hS => (rvk (by kernel_rfl))) ?_
  simp only [p1, p2, p3, p4]
  refine ord_pure (some 30) (.pointer (some ⟨b5, 8, none⟩)) rfl rfl rfl (fun w' hS => (rvk (by kernel_rfl))) ?_
  simp only [p1, p2, p3, p4]
  refine ord_pure (some 31) (.agg #[vac0, vac1, vac2, vac3]) rfl rfl rfl (fun w' hS => (rv_load 31 _ b5 8 _ _ [vac0, vac1, vac2, vac3] rfl rfl hS.2 rfl (by kernel_rfl))) ?_
  simp only [p1, p2, p3, p4]
  refine ord_eff rfl rfl (fun K59 k59 => ?_)
  have kq61 := g34.kp.trans (g37.kp.trans (kp39.trans gd58.kp))
  replace hua3 := hua3.kp kq61
  have kq62 := g3.kp.trans (g5.kp.trans (g7.kp.trans (g10.kp.trans (gd29.kp.trans (g31.kp.trans (g34.kp.trans (g37.kp.trans (kp39.trans gd58.kp))))))))
  replace hva1 := hva1.kp kq62
  refine eff_call (some 25) rfl (by kernel_rfl) (mul_r hua3 hva1 (by omega)) ?_
  rintro e60 w60 ⟨⟨p60, q60, r60, s60, rfl, h60⟩, g60⟩
  refine ⟨_, rfl, ?_⟩
  replace hB := Gr.trans hB g60
  replace L3 := L3.gr g60
  replace L5 := L5.gr g60
  refine k59 _ _ ⟨L3, L5⟩ ?_
  try clear k59 K59
  simp only [p1, p2, p3, p4]
  refine ord_eff rfl rfl (fun K63 k63 => ?_)
  have kq65 := g3.kp.trans (g5.kp.trans (g7.kp.trans (g10.kp.trans (gd29.kp.trans (g31.kp.trans (g34.kp.trans (g37.kp.trans (kp39.trans (gd58.kp.trans g60.kp)))))))))
  replace hua1 := hua1.kp kq65
  have kq66 := g31.kp.trans (g34.kp.trans (g37.kp.trans (kp39.trans (gd58.kp.trans g60.kp))))
  replace hva3 := hva3.kp kq66
  refine eff_call (some 32) rfl (by kernel_rfl) (mul_r hua1 hva3 (by omega)) ?_
  rintro e64 w64 ⟨⟨p64, q64, r64, s64, rfl, h64⟩, g64⟩
  refine ⟨_, rfl, ?_⟩
  replace hB := Gr.trans hB g64
  replace L3 := L3.gr g64
  replace L5 := L5.gr g64
  refine k63 _ _ ⟨L3, L5⟩ ?_
  try clear k63 K63
  simp only [p1, p2, p3, p4]
  refine ord_eff rfl rfl (fun K67 k67 => ?_)
  replace h60 := h60.kp g64.kp
  refine eff_call (some 33) rfl (by kernel_rfl) (sub_r h60 h64 (by omega)) ?_
  rintro e68 w68 ⟨⟨p68, q68, r68, s68, rfl, h68⟩, g68⟩
  refine ⟨_, rfl, ?_⟩
  replace hB := Gr.trans hB g68
  replace L3 := L3.gr g68
  replace L5 := L5.gr g68
  refine k67 _ _ ⟨L3, L5⟩ ?_
  try clear k67 K67
  simp only [p1, p2, p3, p4]
  refine ord_pure (some 34) (.pointer (some ⟨b10, 4, none⟩)) rfl rfl rfl (fun w' hS => (rvk (by kernel_rfl))) ?_
  simp only [p1, p2, p3, p4]
  refine ord_eff rfl rfl (fun K69 k69 => ?_)
  replace L10 := L10.gr (gd58.trans (g60.trans (g64.trans g68)))
  refine eff_store 31 _ _ b10 4 (.agg #[p68, q68, r68, s68]) [p68, q68, r68, s68] _ #[p37, q37, r37, s37, p68, q68, r68, s68, (.bool false), (.slice none 0 0), (.bool false), (.slice none 0 0)] _ rfl rfl rfl rfl rfl L10 (by kernel_rfl) (Nat.le_of_ble_eq_true rfl) ⟨h68.one0, h68.one1, h68.one2, h68.one3, trivial⟩ (by kernel_rfl) (fun w70 st70 N70 => ?_)
  have kp70 := st70.kp L10 (by decide)
  replace hB := st70.gr hB q10
  replace L10 := N70
  replace L3 := st70.lc L3 ne3_10
  replace L5 := st70.lc L5 ne5_10
  refine k69 _ _ ⟨L3, L5⟩ ?_
  try clear k69 K69
  refine ord_nil ?_
  refine k42 _ _ ?_
  try clear k42 K42
  refine wp_region ?_
  simp only [List.size_toArray, List.length_cons, List.length_nil, Nat.reduceAdd, List.range, List.range.loop]
  refine sq_val (some 35) (.int .i64 2) rfl rfl (by kernel_rfl) (rvk (by kernel_rfl)) ?_
  simp only [p1, p2, p3, p4]
  refine sq_val (some 9) (.int .i64 2) rfl rfl (by kernel_rfl) (rvk (by kernel_rfl)) ?_
  simp only [p1, p2, p3, p4]
  refine sq_nil ?_
  show Code.rounds _ _ _ _ _ _
  show Code.wp _ _ _ _ _
  refine wp_seq_k (fun K71 k71 => ?_)
  refine wp_region ?_
  simp only [List.size_toArray, List.length_cons, List.length_nil, Nat.reduceAdd, List.range, List.range.loop]
  refine sq_val (some 10) (.bool true) rfl rfl (by kernel_rfl) (rvk (by kernel_rfl)) ?_
  simp only [p1, p2, p3, p4]
  refine sq_nil ?_
  refine k71 _ _ ?_
  try clear k71 K71
  refine wp_seq_k (fun K72 k72 => ?_)
  refine wp_cond_true rfl ?_
  refine wp_skip ?_
  refine k72 _ _ ?_
  try clear k72 K72
  refine wp_seq_k (fun K73 k73 => ?_)
  refine wp_block ?_
  refine wp_seq_k (fun K74 k74 => ?_)
  refine wp_region ?_
  simp only [List.size_toArray, List.length_cons, List.length_nil, Nat.reduceAdd, List.range, List.range.loop]
  refine sq_val (some 11) (.int .i64 2) rfl rfl (by kernel_rfl) (rvk (by kernel_rfl)) ?_
  simp only [p1, p2, p3, p4]
  refine sq_val (some 6) (.int .i64 2) rfl rfl (by kernel_rfl) (rvk (by kernel_rfl)) ?_
  simp only [p1, p2, p3, p4]
  refine sq_nil ?_
  refine k74 _ _ ?_
  try clear k74 K74
  refine wp_seq_k (fun K75 k75 => ?_)
  refine wp_region ?_
  simp only [List.size_toArray, List.length_cons, List.length_nil, Nat.reduceAdd, List.range, List.range.loop]
  refine sq_val (some 12) (.int .i64 2) rfl rfl (by kernel_rfl) (rvk (by kernel_rfl)) ?_
  simp only [p1, p2, p3, p4]
  refine sq_val (some 13) (.int .i64 3) rfl rfl (by kernel_rfl) (rvk (by kernel_rfl)) ?_
  simp only [p1, p2, p3, p4]
  refine sq_val (some 14) (.int .i64 0) rfl rfl (by kernel_rfl) (rvk (by kernel_rfl)) ?_
  simp only [p1, p2, p3, p4]
  refine sq_val (some 15) (.int .i64 2) rfl rfl (by kernel_rfl) (rvk (by kernel_rfl)) ?_
  simp only [p1, p2, p3, p4]
  refine sq_val (some 16) (.int .i64 4) rfl rfl (by kernel_rfl) (rvk (by kernel_rfl)) ?_
  simp only [p1, p2, p3, p4]
  refine sq_val (some 17) (.int .i64 1) rfl rfl (by kernel_rfl) (rvk (by kernel_rfl)) ?_
  simp only [p1, p2, p3, p4]
  refine sq_val (some 7) (.int .i64 0) rfl rfl (by kernel_rfl) (rvk (by kernel_rfl)) ?_
  simp only [p1, p2, p3, p4]
  refine sq_val (some 8) (.int .i64 1) rfl rfl (by kernel_rfl) (rvk (by kernel_rfl)) ?_
  simp only [p1, p2, p3, p4]
  refine sq_nil ?_
  refine k75 _ _ ?_
  try clear k75 K75
  have gd89 := Gr.drew w70
  replace hB := Gr.trans hB gd89
  replace L3 := L3.gr gd89
  replace L5 := L5.gr gd89
  refine wp_region_ord (fun w' => Lc w' b3 #[uaa0, uaa1, uaa2, uaa3, uab0, uab1, uab2, uab3, uac0, uac1, uac2, uac3] 33 ∧ Lc w' b5 #[vaa0, vaa1, vaa2, vaa3, vab0, vab1, vab2, vab3, vac0, vac1, vac2, vac3] 33) [(true, 0), (true, 1), (true, 2), (true, 3), (true, 4), (true, 5), (true, 6), (true, 8), (true, 9), (true, 10), (true, 11), (true, 12), (true, 13), (false, 7), (false, 14), (false, 15), (true, 16), (false, 17)] (by kernel_rfl) (by kernel_rfl) (by kernel_rfl) (by decide) (fun _ _ _ _ _ h => h) ⟨L3, L5⟩ ?_
  refine ord_pure (some 18) (.int .i64 2) rfl rfl rfl (fun w' hS => (rvk (by kernel_rfl))) ?_
  simp only [p1, p2, p3, p4]
  refine ord_pure (some 19) (.int .i64 0) rfl rfl rfl (fun w' hS => (rvk (by kernel_rfl))) ?_
  simp only [p1, p2, p3, p4]
  refine ord_pure (some 20) (.pointer (some ⟨b3, 0, none⟩)) rfl rfl rfl (fun w' hS => (rvk (by kernel_rfl))) ?_
  simp only [p1, p2, p3, p4]
  refine ord_pure (some 21) (.agg #[uaa0, uaa1, uaa2, uaa3]) rfl rfl rfl (fun w' hS => (rv_load 31 _ b3 0 _ _ [uaa0, uaa1, uaa2, uaa3] rfl rfl hS.1 rfl (by kernel_rfl))) ?_
  simp only [p1, p2, p3, p4]
  refine ord_pure (some 22) (.int .i64 1) rfl rfl rfl (fun w' hS => (rvk (by kernel_rfl))) ?_
  simp only [p1, p2, p3, p4]
  refine ord_pure (some 23) (.pointer (some ⟨b5, 4, none⟩)) rfl rfl rfl (fun w' hS => (rvk (by kernel_rfl))) ?_
  simp only [p1, p2, p3, p4]
  refine ord_pure (some 24) (.agg #[vab0, vab1, vab2, vab3]) rfl rfl rfl (fun w' hS => (rv_load 31 _ b5 4 _ _ [vab0, vab1, vab2, vab3] rfl rfl hS.2 rfl (by kernel_rfl))) ?_
  simp only [p1, p2, p3, p4]
  refine ord_pure (some 26) (.int .i64 1) rfl rfl rfl (fun w' hS => (rvk (by kernel_rfl))) ?_
  simp only [p1, p2, p3, p4]
  refine ord_pure (some 27) (.pointer (some ⟨b3, 4, none⟩)) rfl rfl rfl (fun w' hS => (rvk (by kernel_rfl))) ?_
  simp only [p1, p2, p3, p4]
  refine ord_pure (some 28) (.agg #[uab0, uab1, uab2, uab3]) rfl rfl rfl (fun w' hS => (rv_load 31 _ b3 4 _ _ [uab0, uab1, uab2, uab3] rfl rfl hS.1 rfl (by kernel_rfl))) ?_
  simp only [p1, p2, p3, p4]
  refine ord_pure (some 29) (.int .i64 0) rfl rfl rfl (fun w' hS => (rvk (by kernel_rfl))) ?_
  simp only [p1, p2, p3, p4]
  refine ord_pure (some 30) (.pointer (some ⟨b5, 0, none⟩)) rfl rfl rfl (fun w' hS => (rvk (by kernel_rfl))) ?_
  simp only [p1, p2, p3, p4]
  refine ord_pure (some 31) (.agg #[vaa0, vaa1, vaa2, vaa3]) rfl rfl rfl (fun w' hS => (rv_load 31 _ b5 0 _ _ [vaa0, vaa1, vaa2, vaa3] rfl rfl hS.2 rfl (by kernel_rfl))) ?_
  simp only [p1, p2, p3, p4]
  refine ord_eff rfl rfl (fun K90 k90 => ?_)
  have kq92 := g64.kp.trans (g68.kp.trans (kp70.trans gd89.kp))
  replace hua1 := hua1.kp kq92
  have kq93 := g34.kp.trans (g37.kp.trans (kp39.trans (gd58.kp.trans (g60.kp.trans (g64.kp.trans (g68.kp.trans (kp70.trans gd89.kp)))))))
  replace hva2 := hva2.kp kq93
  refine eff_call (some 25) rfl (by kernel_rfl) (mul_r hua1 hva2 (by omega)) ?_
  rintro e91 w91 ⟨⟨p91, q91, r91, s91, rfl, h91⟩, g91⟩
  refine ⟨_, rfl, ?_⟩
  replace hB := Gr.trans hB g91
  replace L3 := L3.gr g91
  replace L5 := L5.gr g91
  refine k90 _ _ ⟨L3, L5⟩ ?_
  try clear k90 K90
  simp only [p1, p2, p3, p4]
  refine ord_eff rfl rfl (fun K94 k94 => ?_)
  have kq96 := g31.kp.trans (g34.kp.trans (g37.kp.trans (kp39.trans (gd58.kp.trans (g60.kp.trans (g64.kp.trans (g68.kp.trans (kp70.trans (gd89.kp.trans g91.kp)))))))))
  replace hua2 := hua2.kp kq96
  have kq97 := g60.kp.trans (g64.kp.trans (g68.kp.trans (kp70.trans (gd89.kp.trans g91.kp))))
  replace hva1 := hva1.kp kq97
  refine eff_call (some 32) rfl (by kernel_rfl) (mul_r hua2 hva1 (by omega)) ?_
  rintro e95 w95 ⟨⟨p95, q95, r95, s95, rfl, h95⟩, g95⟩
  refine ⟨_, rfl, ?_⟩
  replace hB := Gr.trans hB g95
  replace L3 := L3.gr g95
  replace L5 := L5.gr g95
  refine k94 _ _ ⟨L3, L5⟩ ?_
  try clear k94 K94
  simp only [p1, p2, p3, p4]
  refine ord_eff rfl rfl (fun K98 k98 => ?_)
  replace h91 := h91.kp g95.kp
  refine eff_call (some 33) rfl (by kernel_rfl) (sub_r h91 h95 (by omega)) ?_
  rintro e99 w99 ⟨⟨p99, q99, r99, s99, rfl, h99⟩, g99⟩
  refine ⟨_, rfl, ?_⟩
  replace hB := Gr.trans hB g99
  replace L3 := L3.gr g99
  replace L5 := L5.gr g99
  refine k98 _ _ ⟨L3, L5⟩ ?_
  try clear k98 K98
  simp only [p1, p2, p3, p4]
  refine ord_pure (some 34) (.pointer (some ⟨b10, 8, none⟩)) rfl rfl rfl (fun w' hS => (rvk (by kernel_rfl))) ?_
  simp only [p1, p2, p3, p4]
  refine ord_eff rfl rfl (fun K100 k100 => ?_)
  replace L10 := L10.gr (gd89.trans (g91.trans (g95.trans g99)))
  refine eff_store 31 _ _ b10 8 (.agg #[p99, q99, r99, s99]) [p99, q99, r99, s99] _ #[p37, q37, r37, s37, p68, q68, r68, s68, p99, q99, r99, s99] _ rfl rfl rfl rfl rfl L10 (by kernel_rfl) (Nat.le_of_ble_eq_true rfl) ⟨h99.one0, h99.one1, h99.one2, h99.one3, trivial⟩ (by kernel_rfl) (fun w101 st101 N101 => ?_)
  have kp101 := st101.kp L10 (by decide)
  replace hB := st101.gr hB q10
  replace L10 := N101
  replace L3 := st101.lc L3 ne3_10
  replace L5 := st101.lc L5 ne5_10
  refine k100 _ _ ⟨L3, L5⟩ ?_
  try clear k100 K100
  refine ord_nil ?_
  refine k73 _ _ ?_
  try clear k73 K73
  refine wp_region ?_
  simp only [List.size_toArray, List.length_cons, List.length_nil, Nat.reduceAdd, List.range, List.range.loop]
  refine sq_val (some 35) (.int .i64 3) rfl rfl (by kernel_rfl) (rvk (by kernel_rfl)) ?_
  simp only [p1, p2, p3, p4]
  refine sq_val (some 9) (.int .i64 3) rfl rfl (by kernel_rfl) (rvk (by kernel_rfl)) ?_
  simp only [p1, p2, p3, p4]
  refine sq_nil ?_
  show Code.rounds _ _ _ _ _ _
  show Code.wp _ _ _ _ _
  refine wp_seq_k (fun K102 k102 => ?_)
  refine wp_region ?_
  simp only [List.size_toArray, List.length_cons, List.length_nil, Nat.reduceAdd, List.range, List.range.loop]
  refine sq_val (some 10) (.bool false) rfl rfl (by kernel_rfl) (rvk (by kernel_rfl)) ?_
  simp only [p1, p2, p3, p4]
  refine sq_nil ?_
  refine k102 _ _ ?_
  try clear k102 K102
  refine wp_seq_k (fun K103 k103 => ?_)
  refine wp_cond_false rfl ?_
  refine wp_exit ?_
  simp only [Exit.then, Exit.inBlock, ↓reduceIte]
  refine k11 _ _ ?_
  try clear k11 K11
  refine wp_seq_k (fun K104 k104 => ?_)
  refine wp_region ?_
  simp only [List.size_toArray, List.length_cons, List.length_nil, Nat.reduceAdd, List.range, List.range.loop]
  refine sq_val (some 36) (.agg #[p37, q37, r37, s37, p68, q68, r68, s68, p99, q99, r99, s99]) rfl rfl (by kernel_rfl) (rv_load 33 _ b10 0 _ _ [p37, q37, r37, s37, p68, q68, r68, s68, p99, q99, r99, s99] rfl rfl L10 rfl (by kernel_rfl)) ?_
  simp only [p1, p2, p3, p4]
  refine sq_eff rfl (by kernel_rfl) (fun K105 k105 => ?_)
  replace L7 := st101.lc ((st70.lc ((st39.lc (L7.gr (g10.trans (gd29.trans (g31.trans (g34.trans g37))))) ne7_10).gr (gd58.trans (g60.trans (g64.trans g68)))) ne7_10).gr (gd89.trans (g91.trans (g95.trans g99)))) ne7_10
  refine eff_store 33 _ _ b7 0 (.agg #[p37, q37, r37, s37, p68, q68, r68, s68, p99, q99, r99, s99]) [p37, q37, r37, s37, p68, q68, r68, s68, p99, q99, r99, s99] _ #[p37, q37, r37, s37, p68, q68, r68, s68, p99, q99, r99, s99] _ rfl rfl rfl rfl rfl L7 (by kernel_rfl) (Nat.le_of_ble_eq_true rfl) ⟨h37.one0, h37.one1, h37.one2, h37.one3, h68.one0, h68.one1, h68.one2, h68.one3, h99.one0, h99.one1, h99.one2, h99.one3, trivial⟩ (by kernel_rfl) (fun w106 st106 N106 => ?_)
  have kp106 := st106.kp L7 (by decide)
  replace hB := st106.gr hB q7
  replace L7 := N106
  refine k105 _ _ ?_
  try clear k105 K105
  refine sq_nil ?_
  refine k104 _ _ ?_
  try clear k104 K104
  refine wp_ret ?_
  refine bodyPost_ret (v := (.agg #[p37, q37, r37, s37, p68, q68, r68, s68, p99, q99, r99, s99])) (ret_cell _ _ _ rfl rfl L7 (by kernel_rfl)) rfl ⟨?_, hB⟩
  have kq107 := kp39.trans (gd58.kp.trans (g60.kp.trans (g64.kp.trans (g68.kp.trans (kp70.trans (gd89.kp.trans (g91.kp.trans (g95.kp.trans (g99.kp.trans (kp101.trans kp106))))))))))
  replace h37 := h37.kp kq107
  have kq108 := kp70.trans (gd89.kp.trans (g91.kp.trans (g95.kp.trans (g99.kp.trans (kp101.trans kp106)))))
  replace h68 := h68.kp kq108
  have kq109 := kp101.trans kp106
  replace h99 := h99.kp kq109
  exact ⟨_, _, _, _, _, _, _, _, _, _, _, _, rfl, h37, h68, h99⟩

end Go.Proofs.YtgopfikljndklaaDoor
