/- Printed by a program of the prover's: TwistRows. -/
import Derived.Test.YtgopfikljndklaaDoorGen14
namespace Go.Proofs.YtgopfikljndklaaDoor
open Go.RowKit

set_option maxRecDepth 100000 in
set_option maxHeartbeats 4000000 in
theorem sum3s_r {k : Nat} {ab : Nat} {uaa0 uaa1 uaa2 uaa3 uab0 uab1 uab2 uab3 uac0 uac1 uac2 uac3 : Value} {a1 a2 a3 : Rat} {w : World} (hua1 : IsRat w k uaa0 uaa1 uaa2 uaa3 a1) (hua2 : IsRat w k uab0 uab1 uab2 uab3 a2) (hua3 : IsRat w k uac0 uac1 uac2 uac3 a3) (hL : Lc w ab #[uaa0, uaa1, uaa2, uaa3, uab0, uab1, uab2, uab3, uac0, uac1, uac2, uac3] 31) (_hk : k ≤ 25000) :
    Calls Tryd.prog 32 #[(.slice (some ⟨ab, 0, none⟩) 3 3)] w fun e w' => (∃ z0 z1 z2 z3, e = .returned (.agg #[z0, z1, z2, z3]) ∧ IsRat w' (64 + k + 1 + k + 1 + k + 1) z0 z1 z2 z3 (0 + a1 + a2 + a3)) ∧ Gr w w' := by
  have hbig := hua1.big
  go_enter Tryd.func32, Tryd.ntmps32
  have hB := Gr.refl w
  refine wp_seq_k (fun K1 k1 => ?_)
  refine wp_region ?_
  simp only [List.size_toArray, List.length_cons, List.length_nil, Nat.reduceAdd, List.range, List.range.loop]
  refine sq_eff rfl (by kernel_rfl) (fun K2 k2 => ?_)
  refine eff_alloc 31 (.agg #[(.bool false), (.slice none 0 0), (.bool false), (.slice none 0 0)]) #[(.bool false), (.slice none 0 0), (.bool false), (.slice none 0 0)] (some 2) rfl rfl (by kernel_rfl) rfl (fun b3 w3 g3 L3 q3 => ?_)
  have ne0_3 := hL.ne q3
  replace q3 := Nat.le_trans (Below.size hB) q3
  replace hB := Gr.trans hB g3
  refine k2 _ _ ?_
  try clear k2 K2
  simp only [p1, p2, p3, p4]
  refine sq_nil ?_
  refine k1 _ _ ?_
  try clear k1 K1
  refine wp_seq_k (fun K4 k4 => ?_)
  refine wp_region ?_
  simp only [List.size_toArray, List.length_cons, List.length_nil, Nat.reduceAdd, List.range, List.range.loop]
  refine sq_eff rfl (by kernel_rfl) (fun K5 k5 => ?_)
  refine eff_alloc 31 (.agg #[(.bool false), (.slice none 0 0), (.bool false), (.slice none 0 0)]) #[(.bool false), (.slice none 0 0), (.bool false), (.slice none 0 0)] (some 3) rfl rfl (by kernel_rfl) rfl (fun b6 w6 g6 L6 q6 => ?_)
  replace hL := hL.gr g3
  have ne0_6 := hL.ne q6
  have ne3_6 := L3.ne q6
  replace q6 := Nat.le_trans (Below.size hB) q6
  replace hB := Gr.trans hB g6
  refine k5 _ _ ?_
  try clear k5 K5
  simp only [p1, p2, p3, p4]
  refine sq_nil ?_
  refine k4 _ _ ?_
  try clear k4 K4
  refine wp_seq_k (fun K7 k7 => ?_)
  refine wp_seq_k (fun K8 k8 => ?_)
  refine wp_region ?_
  simp only [List.size_toArray, List.length_cons, List.length_nil, Nat.reduceAdd, List.range, List.range.loop]
  refine sq_val (some 6) (.slice (some ⟨ab, 0, none⟩) 3 3) rfl rfl (by kernel_rfl) (rvk (by kernel_rfl)) ?_
  simp only [p1, p2, p3, p4]
  refine sq_val (some 7) (.int .i64 3) rfl rfl (by kernel_rfl) (rvk (by kernel_rfl)) ?_
  simp only [p1, p2, p3, p4]
  refine sq_val (some 8) (.int .i64 0) rfl rfl (by kernel_rfl) (rvk (by kernel_rfl)) ?_
  simp only [p1, p2, p3, p4]
  refine sq_nil ?_
  refine k8 _ _ ?_
  try clear k8 K8
  refine wp_block ?_
  refine wp_loop_rounds 4 ?_
  show Code.wp _ _ _ _ _
  refine wp_seq_k (fun K9 k9 => ?_)
  refine wp_region ?_
  simp only [List.size_toArray, List.length_cons, List.length_nil, Nat.reduceAdd, List.range, List.range.loop]
  refine sq_val (some 9) (.bool true) rfl rfl (by kernel_rfl) (rvk (by kernel_rfl)) ?_
  simp only [p1, p2, p3, p4]
  refine sq_nil ?_
  refine k9 _ _ ?_
  try clear k9 K9
  refine wp_seq_k (fun K10 k10 => ?_)
  refine wp_cond_true rfl ?_
  refine wp_skip ?_
  refine k10 _ _ ?_
  try clear k10 K10
  refine wp_seq_k (fun K11 k11 => ?_)
  refine wp_block ?_
  refine wp_seq_k (fun K12 k12 => ?_)
  refine wp_region ?_
  simp only [List.size_toArray, List.length_cons, List.length_nil, Nat.reduceAdd, List.range, List.range.loop]
  refine sq_val (some 10) (.pointer (some ⟨ab, 0, none⟩)) rfl rfl (by kernel_rfl) (rvk (by kernel_rfl)) ?_
  simp only [p1, p2, p3, p4]
  replace hL := hL.gr g6
  refine sq_val (some 11) (.agg #[uaa0, uaa1, uaa2, uaa3]) rfl rfl (by kernel_rfl) (rv_load 31 _ ab 0 _ _ [uaa0, uaa1, uaa2, uaa3] rfl rfl hL rfl (by kernel_rfl)) ?_
  simp only [p1, p2, p3, p4]
  refine sq_eff rfl (by kernel_rfl) (fun K13 k13 => ?_)
  refine eff_alloc 31 (.agg #[(.bool false), (.slice none 0 0), (.bool false), (.slice none 0 0)]) #[(.bool false), (.slice none 0 0), (.bool false), (.slice none 0 0)] (some 5) rfl rfl (by kernel_rfl) rfl (fun b14 w14 g14 L14 q14 => ?_)
  have ne0_14 := hL.ne q14
  replace L3 := L3.gr g6
  have ne3_14 := L3.ne q14
  have ne6_14 := L6.ne q14
  replace q14 := Nat.le_trans (Below.size hB) q14
  replace hB := Gr.trans hB g14
  refine k13 _ _ ?_
  try clear k13 K13
  simp only [p1, p2, p3, p4]
  refine sq_eff rfl (by kernel_rfl) (fun K15 k15 => ?_)
  refine eff_store 31 _ _ b14 0 (.agg #[uaa0, uaa1, uaa2, uaa3]) [uaa0, uaa1, uaa2, uaa3] _ #[uaa0, uaa1, uaa2, uaa3] _ rfl rfl rfl rfl rfl L14 (by kernel_rfl) (Nat.le_of_ble_eq_true rfl) ⟨hua1.one0, hua1.one1, hua1.one2, hua1.one3, trivial⟩ (by kernel_rfl) (fun w16 st16 N16 => ?_)
  have kp16 := st16.kp L14 (by decide)
  replace hB := st16.gr hB q14
  replace L14 := N16
  refine k15 _ _ ?_
  try clear k15 K15
  refine sq_nil ?_
  refine k12 _ _ ?_
  try clear k12 K12
  refine wp_region ?_
  simp only [List.size_toArray, List.length_cons, List.length_nil, Nat.reduceAdd, List.range, List.range.loop]
  replace L6 := st16.lc (L6.gr g14) ne6_14
  refine sq_val (some 12) (.agg #[(.bool false), (.slice none 0 0), (.bool false), (.slice none 0 0)]) rfl rfl (by kernel_rfl) (rv_load 31 _ b6 0 _ _ [(.bool false), (.slice none 0 0), (.bool false), (.slice none 0 0)] rfl rfl L6 rfl (by kernel_rfl)) ?_
  simp only [p1, p2, p3, p4]
  refine sq_val (some 13) (.agg #[uaa0, uaa1, uaa2, uaa3]) rfl rfl (by kernel_rfl) (rv_load 31 _ b14 0 _ _ [uaa0, uaa1, uaa2, uaa3] rfl rfl L14 rfl (by kernel_rfl)) ?_
  simp only [p1, p2, p3, p4]
  refine sq_eff rfl (by kernel_rfl) (fun K17 k17 => ?_)
  have kq19 := g3.kp.trans (g6.kp.trans (g14.kp.trans kp16))
  replace hua1 := hua1.kp kq19
  refine eff_call (some 14) rfl (by kernel_rfl) (add_r (IsRat.zero _ (k := 64) (Nat.le_refl _)) hua1 (by omega)) ?_
  rintro e18 w18 ⟨⟨p18, q18, r18, s18, rfl, h18⟩, g18⟩
  refine ⟨_, rfl, ?_⟩
  replace hB := Gr.trans hB g18
  refine k17 _ _ ?_
  try clear k17 K17
  simp only [p1, p2, p3, p4]
  refine sq_eff rfl (by kernel_rfl) (fun K20 k20 => ?_)
  replace L6 := L6.gr g18
  refine eff_store 31 _ _ b6 0 (.agg #[p18, q18, r18, s18]) [p18, q18, r18, s18] _ #[p18, q18, r18, s18] _ rfl rfl rfl rfl rfl L6 (by kernel_rfl) (Nat.le_of_ble_eq_true rfl) ⟨h18.one0, h18.one1, h18.one2, h18.one3, trivial⟩ (by kernel_rfl) (fun w21 st21 N21 => ?_)
  have kp21 := st21.kp L6 (by decide)
  replace hB := st21.gr hB q6
  replace L6 := N21
  refine k20 _ _ ?_
  try clear k20 K20
  refine sq_nil ?_
  refine k11 _ _ ?_
  try clear k11 K11
  refine wp_region ?_
  simp only [List.size_toArray, List.length_cons, List.length_nil, Nat.reduceAdd, List.range, List.range.loop]
  refine sq_val (some 15) (.int .i64 1) rfl rfl (by kernel_rfl) (rvk (by kernel_rfl)) ?_
  simp only [p1, p2, p3, p4]
  refine sq_val (some 8) (.int .i64 1) rfl rfl (by kernel_rfl) (rvk (by kernel_rfl)) ?_
  simp only [p1, p2, p3, p4]
  refine sq_nil ?_
  show Code.rounds _ _ _ _ _ _
  show Code.wp _ _ _ _ _
  refine wp_seq_k (fun K22 k22 => ?_)
  refine wp_region ?_
  simp only [List.size_toArray, List.length_cons, List.length_nil, Nat.reduceAdd, List.range, List.range.loop]
  refine sq_val (some 9) (.bool true) rfl rfl (by kernel_rfl) (rvk (by kernel_rfl)) ?_
  simp only [p1, p2, p3, p4]
  refine sq_nil ?_
  refine k22 _ _ ?_
  try clear k22 K22
  refine wp_seq_k (fun K23 k23 => ?_)
  refine wp_cond_true rfl ?_
  refine wp_skip ?_
  refine k23 _ _ ?_
  try clear k23 K23
  refine wp_seq_k (fun K24 k24 => ?_)
  refine wp_block ?_
  refine wp_seq_k (fun K25 k25 => ?_)
  refine wp_region ?_
  simp only [List.size_toArray, List.length_cons, List.length_nil, Nat.reduceAdd, List.range, List.range.loop]
  refine sq_val (some 10) (.pointer (some ⟨ab, 4, none⟩)) rfl rfl (by kernel_rfl) (rvk (by kernel_rfl)) ?_
  simp only [p1, p2, p3, p4]
  replace hL := st21.lc ((st16.lc (hL.gr g14) ne0_14).gr g18) ne0_6
  refine sq_val (some 11) (.agg #[uab0, uab1, uab2, uab3]) rfl rfl (by kernel_rfl) (rv_load 31 _ ab 4 _ _ [uab0, uab1, uab2, uab3] rfl rfl hL rfl (by kernel_rfl)) ?_
  simp only [p1, p2, p3, p4]
  refine sq_eff rfl (by kernel_rfl) (fun K26 k26 => ?_)
  refine eff_alloc 31 (.agg #[(.bool false), (.slice none 0 0), (.bool false), (.slice none 0 0)]) #[(.bool false), (.slice none 0 0), (.bool false), (.slice none 0 0)] (some 5) rfl rfl (by kernel_rfl) rfl (fun b27 w27 g27 L27 q27 => ?_)
  have ne0_27 := hL.ne q27
  replace L3 := st21.lc ((st16.lc (L3.gr g14) ne3_14).gr g18) ne3_6
  have ne3_27 := L3.ne q27
  have ne6_27 := L6.ne q27
  replace L14 := st21.lc (L14.gr g18) (Ne.symm ne6_14)
  have ne14_27 := L14.ne q27
  replace q27 := Nat.le_trans (Below.size hB) q27
  replace hB := Gr.trans hB g27
  refine k26 _ _ ?_
  try clear k26 K26
  simp only [p1, p2, p3, p4]
  refine sq_eff rfl (by kernel_rfl) (fun K28 k28 => ?_)
  refine eff_store 31 _ _ b27 0 (.agg #[uab0, uab1, uab2, uab3]) [uab0, uab1, uab2, uab3] _ #[uab0, uab1, uab2, uab3] _ rfl rfl rfl rfl rfl L27 (by kernel_rfl) (Nat.le_of_ble_eq_true rfl) ⟨hua2.one0, hua2.one1, hua2.one2, hua2.one3, trivial⟩ (by kernel_rfl) (fun w29 st29 N29 => ?_)
  have kp29 := st29.kp L27 (by decide)
  replace hB := st29.gr hB q27
  replace L27 := N29
  refine k28 _ _ ?_
  try clear k28 K28
  refine sq_nil ?_
  refine k25 _ _ ?_
  try clear k25 K25
  refine wp_region ?_
  simp only [List.size_toArray, List.length_cons, List.length_nil, Nat.reduceAdd, List.range, List.range.loop]
  replace L6 := st29.lc (L6.gr g27) ne6_27
  refine sq_val (some 12) (.agg #[p18, q18, r18, s18]) rfl rfl (by kernel_rfl) (rv_load 31 _ b6 0 _ _ [p18, q18, r18, s18] rfl rfl L6 rfl (by kernel_rfl)) ?_
  simp only [p1, p2, p3, p4]
  refine sq_val (some 13) (.agg #[uab0, uab1, uab2, uab3]) rfl rfl (by kernel_rfl) (rv_load 31 _ b27 0 _ _ [uab0, uab1, uab2, uab3] rfl rfl L27 rfl (by kernel_rfl)) ?_
  simp only [p1, p2, p3, p4]
  refine sq_eff rfl (by kernel_rfl) (fun K30 k30 => ?_)
  have kq32 := kp21.trans (g27.kp.trans kp29)
  replace h18 := h18.kp kq32
  have kq33 := g3.kp.trans (g6.kp.trans (g14.kp.trans (kp16.trans (g18.kp.trans (kp21.trans (g27.kp.trans kp29))))))
  replace hua2 := hua2.kp kq33
  refine eff_call (some 14) rfl (by kernel_rfl) (add_r h18 hua2 (by omega)) ?_
  rintro e31 w31 ⟨⟨p31, q31, r31, s31, rfl, h31⟩, g31⟩
  refine ⟨_, rfl, ?_⟩
  replace hB := Gr.trans hB g31
  refine k30 _ _ ?_
  try clear k30 K30
  simp only [p1, p2, p3, p4]
  refine sq_eff rfl (by kernel_rfl) (fun K34 k34 => ?_)
  replace L6 := L6.gr g31
  refine eff_store 31 _ _ b6 0 (.agg #[p31, q31, r31, s31]) [p31, q31, r31, s31] _ #[p31, q31, r31, s31] _ rfl rfl rfl rfl rfl L6 (by kernel_rfl) (Nat.le_of_ble_eq_true rfl) ⟨h31.one0, h31.one1, h31.one2, h31.one3, trivial⟩ (by kernel_rfl) (fun w35 st35 N35 => ?_)
  have kp35 := st35.kp L6 (by decide)
  replace hB := st35.gr hB q6
  replace L6 := N35
  refine k34 _ _ ?_
  try clear k34 K34
  refine sq_nil ?_
  refine k24 _ _ ?_
  try clear k24 K24
  refine wp_region ?_
  simp only [List.size_toArray, List.length_cons, List.length_nil, Nat.reduceAdd, List.range, List.range.loop]
  refine sq_val (some 15) (.int .i64 2) rfl rfl (by kernel_rfl) (rvk (by kernel_rfl)) ?_
  simp only [p1, p2, p3, p4]
  refine sq_val (some 8) (.int .i64 2) rfl rfl (by kernel_rfl) (rvk (by kernel_rfl)) ?_
  simp only [p1, p2, p3, p4]
  refine sq_nil ?_
  show Code.rounds _ _ _ _ _ _
  show Code.wp _ _ _ _ _
  refine wp_seq_k (fun K36 k36 => ?_)
  refine wp_region ?_
  simp only [List.size_toArray, List.length_cons, List.length_nil, Nat.reduceAdd, List.range, List.range.loop]
  refine sq_val (some 9) (.bool true) rfl rfl (by kernel_rfl) (rvk (by kernel_rfl)) ?_
  simp only [p1, p2, p3, p4]
  refine sq_nil ?_
  refine k36 _ _ ?_
  try clear k36 K36
  refine wp_seq_k (fun K37 k37 => ?_)
  refine wp_cond_true rfl ?_
  refine wp_skip ?_
  refine k37 _ _ ?_
  try clear k37 K37
  refine wp_seq_k (fun K38 k38 => ?_)
  refine wp_block ?_
  refine wp_seq_k (fun K39 k39 => ?_)
  refine wp_region ?_
  simp only [List.size_toArray, List.length_cons, List.length_nil, Nat.reduceAdd, List.range, List.range.loop]
  refine sq_val (some 10) (.pointer (some ⟨ab, 8, none⟩)) rfl rfl (by kernel_rfl) (rvk (by kernel_rfl)) ?_
  simp only [p1, p2, p3, p4]
  replace hL := st35.lc ((st29.lc (hL.gr g27) ne0_27).gr g31) ne0_6
  refine sq_val (some 11) (.agg #[uac0, uac1, uac2, uac3]) rfl rfl (by kernel_rfl) (rv_load 31 _ ab 8 _ _ [uac0, uac1, uac2, uac3] rfl rfl hL rfl (by kernel_rfl)) ?_
  simp only [p1, p2, p3, p4]
  refine sq_eff rfl (by kernel_rfl) (fun K40 k40 => ?_)
  refine eff_alloc 31 (.agg #[(.bool false), (.slice none 0 0), (.bool false), (.slice none 0 0)]) #[(.bool false), (.slice none 0 0), (.bool false), (.slice none 0 0)] (some 5) rfl rfl (by kernel_rfl) rfl (fun b41 w41 g41 L41 q41 => ?_)
  have ne0_41 := hL.ne q41
  replace L3 := st35.lc ((st29.lc (L3.gr g27) ne3_27).gr g31) ne3_6
  have ne3_41 := L3.ne q41
  have ne6_41 := L6.ne q41
  replace L14 := st35.lc ((st29.lc (L14.gr g27) ne14_27).gr g31) (Ne.symm ne6_14)
  have ne14_41 := L14.ne q41
  replace L27 := st35.lc (L27.gr g31) (Ne.symm ne6_27)
  have ne27_41 := L27.ne q41
  replace q41 := Nat.le_trans (Below.size hB) q41
  replace hB := Gr.trans hB g41
  refine k40 _ _ ?_
  try clear k40 K40
  simp only [p1, p2, p3, p4]
  refine sq_eff rfl (by kernel_rfl) (fun K42 k42 => ?_)
  refine eff_store 31 _ _ b41 0 (.agg #[uac0, uac1, uac2, uac3]) [uac0, uac1, uac2, uac3] _ #[uac0, uac1, uac2, uac3] _ rfl rfl rfl rfl rfl L41 (by kernel_rfl) (Nat.le_of_ble_eq_true rfl) ⟨hua3.one0, hua3.one1, hua3.one2, hua3.one3, trivial⟩ (by kernel_rfl) (fun w43 st43 N43 => ?_)
  have kp43 := st43.kp L41 (by decide)
  replace hB := st43.gr hB q41
  replace L41 := N43
  refine k42 _ _ ?_
  try clear k42 K42
  refine sq_nil ?_
  refine k39 _ _ ?_
  try clear k39 K39
  refine wp_region ?_
  simp only [List.size_toArray, List.length_cons, List.length_nil, Nat.reduceAdd, List.range, List.range.loop]
  replace L6 := st43.lc (L6.gr g41) ne6_41
  refine sq_val (some 12) (.agg #[p31, q31, r31, s31]) rfl rfl (by kernel_rfl) (rv_load 31 _ b6 0 _ _ [p31, q31, r31, s31] rfl rfl L6 rfl (by kernel_rfl)) ?_
  simp only [p1, p2, p3, p4]
  refine sq_val (some 13) (.agg #[uac0, uac1, uac2, uac3]) rfl rfl (by kernel_rfl) (rv_load 31 _ b41 0 _ _ [uac0, uac1, uac2, uac3] rfl rfl L41 rfl (by kernel_rfl)) ?_
  simp only [p1, p2, p3, p4]
  refine sq_eff rfl (by kernel_rfl) (fun K44 k44 => ?_)
  have kq46 := kp35.trans (g41.kp.trans kp43)
  replace h31 := h31.kp kq46
  have kq47 := g3.kp.trans (g6.kp.trans (g14.kp.trans (kp16.trans (g18.kp.trans (kp21.trans (g27.kp.trans (kp29.trans (g31.kp.trans (kp35.trans (g41.kp.trans kp43))))))))))
  replace hua3 := hua3.kp kq47
  refine eff_call (some 14) rfl (by kernel_rfl) (add_r h31 hua3 (by omega)) ?_
  rintro e45 w45 ⟨⟨p45, q45, r45, s45, rfl, h45⟩, g45⟩
  refine ⟨_, rfl, ?_⟩
  replace hB := Gr.trans hB g45
  refine k44 _ _ ?_
  try clear k44 K44
  simp only [p1, p2, p3, p4]
  refine sq_eff rfl (by kernel_rfl) (fun K48 k48 => ?_)
  replace L6 := L6.gr g45
  refine eff_store 31 _ _ b6 0 (.agg #[p45, q45, r45, s45]) [p45, q45, r45, s45] _ #[p45, q45, r45, s45] _ rfl rfl rfl rfl rfl L6 (by kernel_rfl) (Nat.le_of_ble_eq_true rfl) ⟨h45.one0, h45.one1, h45.one2, h45.one3, trivial⟩ (by kernel_rfl) (fun w49 st49 N49 => ?_)
  have kp49 := st49.kp L6 (by decide)
  replace hB := st49.gr hB q6
  replace L6 := N49
  refine k48 _ _ ?_
  try clear k48 K48
  refine sq_nil ?_
  refine k38 _ _ ?_
  try clear k38 K38
  refine wp_region ?_
  simp only [List.size_toArray, List.length_cons, List.length_nil, Nat.reduceAdd, List.range, List.range.loop]
  refine sq_val (some 15) (.int .i64 3) rfl rfl (by kernel_rfl) (rvk (by kernel_rfl)) ?_
  simp only [p1, p2, p3, p4]
  refine sq_val (some 8) (.int .i64 3) rfl rfl (by kernel_rfl) (rvk (by kernel_rfl)) ?_
  simp only [p1, p2, p3, p4]
  refine sq_nil ?_
  show Code.rounds _ _ _ _ _ _
  show Code.wp _ _ _ _ _
  refine wp_seq_k (fun K50 k50 => ?_)
  refine wp_region ?_
  simp only [List.size_toArray, List.length_cons, List.length_nil, Nat.reduceAdd, List.range, List.range.loop]
  refine sq_val (some 9) (.bool false) rfl rfl (by kernel_rfl) (rvk (by kernel_rfl)) ?_
  simp only [p1, p2, p3, p4]
  refine sq_nil ?_
  refine k50 _ _ ?_
  try clear k50 K50
  refine wp_seq_k (fun K51 k51 => ?_)
  refine wp_cond_false rfl ?_
  refine wp_exit ?_
  simp only [Exit.then, Exit.inBlock, ↓reduceIte]
  refine k7 _ _ ?_
  try clear k7 K7
  refine wp_seq_k (fun K52 k52 => ?_)
  refine wp_region ?_
  simp only [List.size_toArray, List.length_cons, List.length_nil, Nat.reduceAdd, List.range, List.range.loop]
  refine sq_val (some 16) (.agg #[p45, q45, r45, s45]) rfl rfl (by kernel_rfl) (rv_load 31 _ b6 0 _ _ [p45, q45, r45, s45] rfl rfl L6 rfl (by kernel_rfl)) ?_
  simp only [p1, p2, p3, p4]
  refine sq_eff rfl (by kernel_rfl) (fun K53 k53 => ?_)
  replace L3 := st49.lc ((st43.lc (L3.gr g41) ne3_41).gr g45) ne3_6
  refine eff_store 31 _ _ b3 0 (.agg #[p45, q45, r45, s45]) [p45, q45, r45, s45] _ #[p45, q45, r45, s45] _ rfl rfl rfl rfl rfl L3 (by kernel_rfl) (Nat.le_of_ble_eq_true rfl) ⟨h45.one0, h45.one1, h45.one2, h45.one3, trivial⟩ (by kernel_rfl) (fun w54 st54 N54 => ?_)
  have kp54 := st54.kp L3 (by decide)
  replace hB := st54.gr hB q3
  replace L3 := N54
  refine k53 _ _ ?_
  try clear k53 K53
  refine sq_nil ?_
  refine k52 _ _ ?_
  try clear k52 K52
  refine wp_ret ?_
  refine bodyPost_ret (v := (.agg #[p45, q45, r45, s45])) (ret_cell _ _ _ rfl rfl L3 (by kernel_rfl)) rfl ⟨?_, hB⟩
  have kq55 := kp49.trans kp54
  replace h45 := h45.kp kq55
  exact ⟨_, _, _, _, rfl, h45⟩

set_option maxRecDepth 100000 in
set_option maxHeartbeats 1000000 in
theorem equal_q {k m : Nat} {u0 u1 u2 u3 v0 v1 v2 v3 : Value} {a b : Rat} {w : World} (ha : IsRat w k u0 u1 u2 u3 a) (hb : IsRat w m v0 v1 v2 v3 b) (_hk : k + m ≤ 100000) :
    Calls Tryd.prog 19 #[(.agg #[u0, u1, u2, u3]), (.agg #[v0, v1, v2, v3])] w fun e w' => e = .returned (.bool (rcmp a b == (0 : Int))) ∧ Gr w w' := by
  go_enter Tryd.func19, Tryd.ntmps19
  have hB := Gr.refl w
  refine wp_seq_k (fun K1 k1 => ?_)
  refine wp_region ?_
  simp only [List.size_toArray, List.length_cons, List.length_nil, Nat.reduceAdd, List.range, List.range.loop]
  refine sq_eff rfl (by kernel_rfl) (fun K2 k2 => ?_)
  refine eff_box 31 _ (.agg #[u0, u1, u2, u3]) #[u0, u1, u2, u3] (some 2) rfl rfl rfl rfl (fun b3 w3 g3 L3 q3 => ?_)
  replace q3 := Nat.le_trans (Below.size hB) q3
  replace hB := Gr.trans hB g3
  refine k2 _ _ ?_
  try clear k2 K2
  simp only [p1, p2, p3, p4]
  refine sq_eff rfl (by kernel_rfl) (fun K4 k4 => ?_)
  refine eff_box 31 _ (.agg #[v0, v1, v2, v3]) #[v0, v1, v2, v3] (some 3) rfl rfl rfl rfl (fun b5 w5 g5 L5 q5 => ?_)
  have ne3_5 := L3.ne q5
  replace q5 := Nat.le_trans (Below.size hB) q5
  replace hB := Gr.trans hB g5
  refine k4 _ _ ?_
  try clear k4 K4
  simp only [p1, p2, p3, p4]
  refine sq_val (some 4) (.bool false) rfl rfl (by kernel_rfl) (rvk (by kernel_rfl)) ?_
  simp only [p1, p2, p3, p4]
  refine sq_nil ?_
  refine k1 _ _ ?_
  try clear k1 K1
  refine wp_seq_k (fun K6 k6 => ?_)
  refine wp_region ?_
  simp only [List.size_toArray, List.length_cons, List.length_nil, Nat.reduceAdd, List.range, List.range.loop]
  replace L3 := L3.gr g5
  refine sq_val (some 5) (.agg #[u0, u1, u2, u3]) rfl rfl (by kernel_rfl) (rv_load 31 _ b3 0 _ _ [u0, u1, u2, u3] rfl rfl L3 rfl (by kernel_rfl)) ?_
  simp only [p1, p2, p3, p4]
  refine sq_val (some 6) (.agg #[v0, v1, v2, v3]) rfl rfl (by kernel_rfl) (rv_load 31 _ b5 0 _ _ [v0, v1, v2, v3] rfl rfl L5 rfl (by kernel_rfl)) ?_
  simp only [p1, p2, p3, p4]
  refine sq_eff rfl (by kernel_rfl) (fun K7 k7 => ?_)
  have kq9 := g3.kp.trans g5.kp
  replace ha := ha.kp kq9
  replace hb := hb.kp kq9
  refine eff_call (some 7) rfl (by kernel_rfl) (compare_r ha hb (by omega)) ?_
  rintro e8 w8 ⟨rfl, g8⟩
  refine ⟨_, rfl, ?_⟩
  replace hB := Gr.trans hB g8
  refine k7 _ _ ?_
  try clear k7 K7
  simp only [p1, p2, p3, p4]
  refine sq_val (some 8) (.bool ((rcmp a b == (0 : Int)))) rfl rfl (by kernel_rfl) (rvk (by kernel_rfl)) ?_
  simp only [p1, p2, p3, p4]
  refine sq_val (some 4) (.bool ((rcmp a b == (0 : Int)))) rfl rfl (by kernel_rfl) (rvk (by kernel_rfl)) ?_
  simp only [p1, p2, p3, p4]
  refine sq_nil ?_
  refine k6 _ _ ?_
  try clear k6 K6
  refine wp_ret ?_
  refine bodyPost_ret (v := (.bool ((rcmp a b == (0 : Int))))) (ret_tmp rfl rfl) rfl ⟨?_, hB⟩
  exact rfl

theorem lawRo0 (A0 A1 A2 A3 A4 A5 P0 P1 P2 Q0 Q1 Q2 : Rat)  : (rcmp (0 + (0 + (0 + 0 + ((P1 * Q2 - P2 * Q1) * A0) + (Q0 * A3)) + ((P2 * Q0 - P0 * Q2) * A1) + (Q1 * A4)) + ((P0 * Q1 - P1 * Q0) * A2) + (Q2 * A5)) (0 + Q0 * (A3 + (A1 * P2 - A2 * P1)) + Q1 * (A4 + (A2 * P0 - A0 * P2)) + Q2 * (A5 + (A0 * P1 - A1 * P0))) == (0 : Int)) = true := req_t (by grind)
set_option maxRecDepth 100000 in
set_option maxHeartbeats 8000000 in
theorem rows_q (n0 n1 n2 n3 n4 n5 dd : Int) (_in0 : -128 ≤ n0 ∧ n0 ≤ 127) (_in1 : -128 ≤ n1 ∧ n1 ≤ 127) (_in2 : -128 ≤ n2 ∧ n2 ≤ 127) (_in3 : -128 ≤ n3 ∧ n3 ≤ 127) (_in4 : -128 ≤ n4 ∧ n4 ≤ 127) (_in5 : -128 ≤ n5 ∧ n5 ≤ 127) (_idd : 0 ≤ dd ∧ dd ≤ 255) (m0 m1 m2 : Int) (_im0 : -128 ≤ m0 ∧ m0 ≤ 127) (_im1 : -128 ≤ m1 ∧ m1 ≤ 127) (_im2 : -128 ≤ m2 ∧ m2 ≤ 127) (l0 l1 l2 : Int) (_il0 : -128 ≤ l0 ∧ l0 ≤ 127) (_il1 : -128 ≤ l1 ∧ l1 ≤ 127) (_il2 : -128 ≤ l2 ∧ l2 ≤ 127) (A0 A1 A2 A3 A4 A5 : Rat) (eA0 : A0 = (((n0 : Int) : Rat) / ((1 + dd % 3 : Int) : Rat))) (eA1 : A1 = (((n1 : Int) : Rat) / ((1 + dd % 3 : Int) : Rat))) (eA2 : A2 = (((n2 : Int) : Rat) / ((1 + dd % 3 : Int) : Rat))) (eA3 : A3 = (((n3 : Int) : Rat) / ((1 + dd % 3 : Int) : Rat))) (eA4 : A4 = (((n4 : Int) : Rat) / ((1 + dd % 3 : Int) : Rat))) (eA5 : A5 = (((n5 : Int) : Rat) / ((1 + dd % 3 : Int) : Rat))) (P0 P1 P2 : Rat) (eP0 : P0 = ((m0 : Int) : Rat)) (eP1 : P1 = ((m1 : Int) : Rat)) (eP2 : P2 = ((m2 : Int) : Rat)) (Q0 Q1 Q2 : Rat) (eQ0 : Q0 = ((l0 : Int) : Rat)) (eQ1 : Q1 = ((l1 : Int) : Rat)) (eQ2 : Q2 = ((l2 : Int) : Rat)) (w : World) (ht : Tab w) :
    Calls Tryd.prog 6 #[(.agg #[(.int .i8 (n0)), (.int .i8 (n1)), (.int .i8 (n2)), (.int .i8 (n3)), (.int .i8 (n4)), (.int .i8 (n5)), (.int .u8 (dd))]), (.agg #[(.int .i8 (m0)), (.int .i8 (m1)), (.int .i8 (m2))]), (.agg #[(.int .i8 (l0)), (.int .i8 (l1)), (.int .i8 (l2))])] w fun e w' => e = .returned (.bool true) ∧ Gr w w' := by
  go_enter Tryd.func6, Tryd.ntmps6
  have hB := Gr.refl w
  refine wp_seq_k (fun K1 k1 => ?_)
  refine wp_region ?_
  simp only [List.size_toArray, List.length_cons, List.length_nil, Nat.reduceAdd, List.range, List.range.loop]
  refine sq_eff rfl (by kernel_rfl) (fun K2 k2 => ?_)
  refine eff_box 25 _ (.agg #[(.int .i8 (n0)), (.int .i8 (n1)), (.int .i8 (n2)), (.int .i8 (n3)), (.int .i8 (n4)), (.int .i8 (n5)), (.int .u8 (dd))]) #[(.int .i8 (n0)), (.int .i8 (n1)), (.int .i8 (n2)), (.int .i8 (n3)), (.int .i8 (n4)), (.int .i8 (n5)), (.int .u8 (dd))] (some 3) rfl rfl rfl rfl (fun b3 w3 g3 L3 q3 => ?_)
  replace q3 := Nat.le_trans (Below.size hB) q3
  replace hB := Gr.trans hB g3
  refine k2 _ _ ?_
  try clear k2 K2
  simp only [p1, p2, p3, p4]
  refine sq_eff rfl (by kernel_rfl) (fun K4 k4 => ?_)
  refine eff_box 54 _ (.agg #[(.int .i8 (m0)), (.int .i8 (m1)), (.int .i8 (m2))]) #[(.int .i8 (m0)), (.int .i8 (m1)), (.int .i8 (m2))] (some 4) rfl rfl rfl rfl (fun b5 w5 g5 L5 q5 => ?_)
  have ne3_5 := L3.ne q5
  replace q5 := Nat.le_trans (Below.size hB) q5
  replace hB := Gr.trans hB g5
  refine k4 _ _ ?_
  try clear k4 K4
  simp only [p1, p2, p3, p4]
  refine sq_eff rfl (by kernel_rfl) (fun K6 k6 => ?_)
  refine eff_box 54 _ (.agg #[(.int .i8 (l0)), (.int .i8 (l1)), (.int .i8 (l2))]) #[(.int .i8 (l0)), (.int .i8 (l1)), (.int .i8 (l2))] (some 5) rfl rfl rfl rfl (fun b7 w7 g7 L7 q7 => ?_)
  replace L3 := L3.gr g5
  have ne3_7 := L3.ne q7
  have ne5_7 := L5.ne q7
  replace q7 := Nat.le_trans (Below.size hB) q7
  replace hB := Gr.trans hB g7
  refine k6 _ _ ?_
  try clear k6 K6
  simp only [p1, p2, p3, p4]
  refine sq_val (some 6) (.bool false) rfl rfl (by kernel_rfl) (rvk (by kernel_rfl)) ?_
  simp only [p1, p2, p3, p4]
  refine sq_nil ?_
  refine k1 _ _ ?_
  try clear k1 K1
  refine wp_seq_k (fun K8 k8 => ?_)
  refine wp_seq_k (fun K9 k9 => ?_)
  refine wp_region ?_
  simp only [List.size_toArray, List.length_cons, List.length_nil, Nat.reduceAdd, List.range, List.range.loop]
  refine sq_eff rfl (by kernel_rfl) (fun K10 k10 => ?_)
  refine eff_call (some 11) rfl (by kernel_rfl) (known_t _ (ht.gr hB)) ?_
  rintro e11 w11 ⟨rfl, g11⟩
  refine ⟨_, rfl, ?_⟩
  replace hB := Gr.trans hB g11
  refine k10 _ _ ?_
  try clear k10 K10
  simp only [p1, p2, p3, p4]
  refine sq_val (some 12) (.bool false) rfl rfl (by kernel_rfl) (rvk (by kernel_rfl)) ?_
  simp only [p1, p2, p3, p4]
  refine sq_nil ?_
  refine k9 _ _ ?_
  try clear k9 K9
  refine wp_cond_false rfl ?_
  refine wp_skip ?_
  refine k8 _ _ ?_
  try clear k8 K8
  refine wp_seq_k (fun K12 k12 => ?_)
  refine wp_region ?_
  simp only [List.size_toArray, List.length_cons, List.length_nil, Nat.reduceAdd, List.range, List.range.loop]
  replace L3 := L3.gr (g7.trans g11)
  refine sq_val (some 13) (.agg #[(.int .i8 (n0)), (.int .i8 (n1)), (.int .i8 (n2)), (.int .i8 (n3)), (.int .i8 (n4)), (.int .i8 (n5)), (.int .u8 (dd))]) rfl rfl (by kernel_rfl) (rv_load 25 _ b3 0 _ _ [(.int .i8 (n0)), (.int .i8 (n1)), (.int .i8 (n2)), (.int .i8 (n3)), (.int .i8 (n4)), (.int .i8 (n5)), (.int .u8 (dd))] rfl rfl L3 rfl (by kernel_rfl)) ?_
  simp only [p1, p2, p3, p4]
  refine sq_eff rfl (by kernel_rfl) (fun K13 k13 => ?_)
  refine eff_call (some 14) rfl (by kernel_rfl) (of_v (n0) (n1) (n2) (n3) (n4) (n5) (dd) (by omega) (by omega) (by omega) (by omega) (by omega) (by omega) (by omega) _) ?_
  rintro e14 w14 ⟨⟨t14_0, t14_1, t14_2, t14_3, t14_4, t14_5, t14_6, t14_7, t14_8, t14_9, t14_10, t14_11, t14_12, t14_13, t14_14, t14_15, t14_16, t14_17, t14_18, t14_19, t14_20, t14_21, t14_22, t14_23, rfl, h14a, h14b, h14c, h14d, h14e, h14f⟩, g14⟩
  refine ⟨_, rfl, ?_⟩
  replace hB := Gr.trans hB g14
  rw [← eA0] at h14a
  rw [← eA1] at h14b
  rw [← eA2] at h14c
  rw [← eA3] at h14d
  rw [← eA4] at h14e
  rw [← eA5] at h14f
  refine k13 _ _ ?_
  try clear k13 K13
  simp only [p1, p2, p3, p4]
  refine sq_eff rfl (by kernel_rfl) (fun K15 k15 => ?_)
  refine eff_alloc 35 (.agg #[(.bool false), (.slice none 0 0), (.bool false), (.slice none 0 0), (.bool false), (.slice none 0 0), (.bool false), (.slice none 0 0), (.bool false), (.slice none 0 0), (.bool false), (.slice none 0 0), (.bool false), (.slice none 0 0), (.bool false), (.slice none 0 0), (.bool false), (.slice none 0 0), (.bool false), (.slice none 0 0), (.bool false), (.slice none 0 0), (.bool false), (.slice none 0 0)]) #[(.bool false), (.slice none 0 0), (.bool false), (.slice none 0 0), (.bool false), (.slice none 0 0), (.bool false), (.slice none 0 0), (.bool false), (.slice none 0 0), (.bool false), (.slice none 0 0), (.bool false), (.slice none 0 0), (.bool false), (.slice none 0 0), (.bool false), (.slice none 0 0), (.bool false), (.slice none 0 0), (.bool false), (.slice none 0 0), (.bool false), (.slice none 0 0)] (some 7) rfl rfl (by kernel_rfl) rfl (fun b16 w16 g16 L16 q16 => ?_)
  replace L3 := L3.gr g14
  have ne3_16 := L3.ne q16
  replace L5 := L5.gr (g7.trans (g11.trans g14))
  have ne5_16 := L5.ne q16
  replace L7 := L7.gr (g11.trans g14)
  have ne7_16 := L7.ne q16
  replace q16 := Nat.le_trans (Below.size hB) q16
  replace hB := Gr.trans hB g16
  refine k15 _ _ ?_
  try clear k15 K15
  simp only [p1, p2, p3, p4]
  refine sq_eff rfl (by kernel_rfl) (fun K17 k17 => ?_)
  refine eff_store 35 _ _ b16 0 (.agg #[t14_0, t14_1, t14_2, t14_3, t14_4, t14_5, t14_6, t14_7, t14_8, t14_9, t14_10, t14_11, t14_12, t14_13, t14_14, t14_15, t14_16, t14_17, t14_18, t14_19, t14_20, t14_21, t14_22, t14_23]) [t14_0, t14_1, t14_2, t14_3, t14_4, t14_5, t14_6, t14_7, t14_8, t14_9, t14_10, t14_11, t14_12, t14_13, t14_14, t14_15, t14_16, t14_17, t14_18, t14_19, t14_20, t14_21, t14_22, t14_23] _ #[t14_0, t14_1, t14_2, t14_3, t14_4, t14_5, t14_6, t14_7, t14_8, t14_9, t14_10, t14_11, t14_12, t14_13, t14_14, t14_15, t14_16, t14_17, t14_18, t14_19, t14_20, t14_21, t14_22, t14_23] _ rfl rfl rfl rfl rfl L16 (by kernel_rfl) (Nat.le_of_ble_eq_true rfl) ⟨h14a.one0, h14a.one1, h14a.one2, h14a.one3, h14b.one0, h14b.one1, h14b.one2, h14b.one3, h14c.one0, h14c.one1, h14c.one2, h14c.one3, h14d.one0, h14d.one1, h14d.one2, h14d.one3, h14e.one0, h14e.one1, h14e.one2, h14e.one3, h14f.one0, h14f.one1, h14f.one2, h14f.one3, trivial⟩ (by kernel_rfl) (fun w18 st18 N18 => ?_)
  have kp18 := st18.kp L16 (by decide)
  replace hB := st18.gr hB q16
  replace L16 := N18
  refine k17 _ _ ?_
  try clear k17 K17
  refine sq_nil ?_
  refine k12 _ _ ?_
  try clear k12 K12
  refine wp_seq_k (fun K19 k19 => ?_)
  have gd27 := Gr.drew w18
  replace hB := Gr.trans hB gd27
  replace L5 := (st18.lc (L5.gr g16) ne5_16).gr gd27
  replace L7 := (st18.lc (L7.gr g16) ne7_16).gr gd27
  refine wp_region_ord (fun w' => Lc w' b5 #[(.int .i8 (m0)), (.int .i8 (m1)), (.int .i8 (m2))] 54 ∧ Lc w' b7 #[(.int .i8 (l0)), (.int .i8 (l1)), (.int .i8 (l2))] 54) [(true, 0), (true, 2), (false, 1), (false, 3), (false, 4), (true, 5)] (by kernel_rfl) (by kernel_rfl) (by kernel_rfl) (by decide) (fun _ _ _ _ _ h => h) ⟨L5, L7⟩ ?_
  refine ord_pure (some 15) (.agg #[(.int .i8 (m0)), (.int .i8 (m1)), (.int .i8 (m2))]) rfl rfl rfl (fun w' hS => (rv_load 54 _ b5 0 _ _ [(.int .i8 (m0)), (.int .i8 (m1)), (.int .i8 (m2))] rfl rfl hS.1 rfl (by kernel_rfl))) ?_
  simp only [p1, p2, p3, p4]
  refine ord_pure (some 17) (.agg #[(.int .i8 (l0)), (.int .i8 (l1)), (.int .i8 (l2))]) rfl rfl rfl (fun w' hS => (rv_load 54 _ b7 0 _ _ [(.int .i8 (l0)), (.int .i8 (l1)), (.int .i8 (l2))] rfl rfl hS.2 rfl (by kernel_rfl))) ?_
  simp only [p1, p2, p3, p4]
  refine ord_eff rfl rfl (fun K28 k28 => ?_)
  refine eff_call (some 16) rfl (by kernel_rfl) (point_v (m0) (m1) (m2) (by omega) (by omega) (by omega) _) ?_
  rintro e29 w29 ⟨⟨t29_0, t29_1, t29_2, t29_3, t29_4, t29_5, t29_6, t29_7, t29_8, t29_9, t29_10, t29_11, rfl, h29a, h29b, h29c⟩, g29⟩
  refine ⟨_, rfl, ?_⟩
  replace hB := Gr.trans hB g29
  rw [← eP0] at h29a
  rw [← eP1] at h29b
  rw [← eP2] at h29c
  replace L5 := L5.gr g29
  replace L7 := L7.gr g29
  refine k28 _ _ ⟨L5, L7⟩ ?_
  try clear k28 K28
  simp only [p1, p2, p3, p4]
  refine ord_eff rfl rfl (fun K30 k30 => ?_)
  refine eff_call (some 18) rfl (by kernel_rfl) (point_v (l0) (l1) (l2) (by omega) (by omega) (by omega) _) ?_
  rintro e31 w31 ⟨⟨t31_0, t31_1, t31_2, t31_3, t31_4, t31_5, t31_6, t31_7, t31_8, t31_9, t31_10, t31_11, rfl, h31a, h31b, h31c⟩, g31⟩
  refine ⟨_, rfl, ?_⟩
  replace hB := Gr.trans hB g31
  rw [← eQ0] at h31a
  rw [← eQ1] at h31b
  rw [← eQ2] at h31c
  replace L5 := L5.gr g31
  replace L7 := L7.gr g31
  refine k30 _ _ ⟨L5, L7⟩ ?_
  try clear k30 K30
  simp only [p1, p2, p3, p4]
  refine ord_eff rfl rfl (fun K32 k32 => ?_)
  replace h29a := h29a.kp g31.kp
  replace h29b := h29b.kp g31.kp
  replace h29c := h29c.kp g31.kp
  refine eff_call (some 19) rfl (by kernel_rfl) (row_v h29a h29b h29c h31a h31b h31c (by omega)) ?_
  rintro e33 w33 ⟨⟨b33, t33_0, t33_1, t33_2, t33_3, t33_4, t33_5, t33_6, t33_7, t33_8, t33_9, t33_10, t33_11, t33_12, t33_13, t33_14, t33_15, t33_16, t33_17, t33_18, t33_19, t33_20, t33_21, t33_22, t33_23, rfl, L33, q33, h33a, h33b, h33c, h33d, h33e, h33f⟩, g33⟩
  refine ⟨_, rfl, ?_⟩
  replace L3 := (st18.lc (L3.gr g16) ne3_16).gr (gd27.trans (g29.trans g31))
  have ne3_33 := L3.ne q33
  have ne5_33 := L5.ne q33
  have ne7_33 := L7.ne q33
  replace L16 := L16.gr (gd27.trans (g29.trans g31))
  have ne16_33 := L16.ne q33
  replace q33 := Nat.le_trans (Below.size hB) q33
  replace hB := Gr.trans hB g33
  replace L5 := L5.gr g33
  replace L7 := L7.gr g33
  refine k32 _ _ ⟨L5, L7⟩ ?_
  try clear k32 K32
  simp only [p1, p2, p3, p4]
  refine ord_pure (some 8) (.slice (some ⟨b33, 0, none⟩) 6 6) rfl rfl rfl (fun w' hS => (rvk (by kernel_rfl))) ?_
  simp only [p1, p2, p3, p4]
  refine ord_nil ?_
  refine k19 _ _ ?_
  try clear k19 K19
  refine wp_seq_k (fun K34 k34 => ?_)
  refine wp_seq_k (fun K35 k35 => ?_)
  refine wp_region ?_
  simp only [List.size_toArray, List.length_cons, List.length_nil, Nat.reduceAdd, List.range, List.range.loop]
  refine sq_val (some 20) (.slice (some ⟨b33, 0, none⟩) 6 6) rfl rfl (by kernel_rfl) (rvk (by kernel_rfl)) ?_
  simp only [p1, p2, p3, p4]
  refine sq_val (some 21) (.int .i64 6) rfl rfl (by kernel_rfl) (rvk (by kernel_rfl)) ?_
  simp only [p1, p2, p3, p4]
  refine sq_val (some 22) (.bool false) rfl rfl (by kernel_rfl) (rvk (by kernel_rfl)) ?_
  simp only [p1, p2, p3, p4]
  refine sq_nil ?_
  refine k35 _ _ ?_
  try clear k35 K35
  refine wp_cond_false rfl ?_
  refine wp_skip ?_
  refine k34 _ _ ?_
  try clear k34 K34
  refine wp_seq_k (fun K36 k36 => ?_)
  refine wp_region ?_
  simp only [List.size_toArray, List.length_cons, List.length_nil, Nat.reduceAdd, List.range, List.range.loop]
  refine sq_val (some 23) (.agg #[(.bool false), (.slice none 0 0), (.bool false), (.slice none 0 0)]) rfl rfl (by kernel_rfl) (rvk (by kernel_rfl)) ?_
  simp only [p1, p2, p3, p4]
  refine sq_eff rfl (by kernel_rfl) (fun K37 k37 => ?_)
  refine eff_alloc 31 (.agg #[(.bool false), (.slice none 0 0), (.bool false), (.slice none 0 0)]) #[(.bool false), (.slice none 0 0), (.bool false), (.slice none 0 0)] (some 9) rfl rfl (by kernel_rfl) rfl (fun b38 w38 g38 L38 q38 => ?_)
  replace L3 := L3.gr g33
  have ne3_38 := L3.ne q38
  have ne5_38 := L5.ne q38
  have ne7_38 := L7.ne q38
  replace L16 := L16.gr g33
  have ne16_38 := L16.ne q38
  have ne33_38 := L33.ne q38
  replace q38 := Nat.le_trans (Below.size hB) q38
  replace hB := Gr.trans hB g38
  refine k37 _ _ ?_
  try clear k37 K37
  simp only [p1, p2, p3, p4]
  refine sq_eff rfl (by kernel_rfl) (fun K39 k39 => ?_)
  refine eff_store 31 _ _ b38 0 (.agg #[(.bool false), (.slice none 0 0), (.bool false), (.slice none 0 0)]) [(.bool false), (.slice none 0 0), (.bool false), (.slice none 0 0)] _ #[(.bool false), (.slice none 0 0), (.bool false), (.slice none 0 0)] _ rfl rfl rfl rfl rfl L38 (by kernel_rfl) (Nat.le_of_ble_eq_true rfl) ⟨rfl, rfl, rfl, rfl, trivial⟩ (by kernel_rfl) (fun w40 st40 N40 => ?_)
  have kp40 := st40.kp L38 (by decide)
  replace hB := st40.gr hB q38
  replace L38 := N40
  refine k39 _ _ ?_
  try clear k39 K39
  refine sq_nil ?_
  refine k36 _ _ ?_
  try clear k36 K36
  refine wp_seq_k (fun K41 k41 => ?_)
  refine wp_seq_k (fun K42 k42 => ?_)
  refine wp_region ?_
  simp only [List.size_toArray, List.length_cons, List.length_nil, Nat.reduceAdd, List.range, List.range.loop]
  refine sq_val (some 10) (.int .i64 0) rfl rfl (by kernel_rfl) (rvk (by kernel_rfl)) ?_
  simp only [p1, p2, p3, p4]
  refine sq_nil ?_
  refine k42 _ _ ?_
  try clear k42 K42
  refine wp_block ?_
  refine wp_loop_rounds 4 ?_
  show Code.wp _ _ _ _ _
  refine wp_seq_k (fun K43 k43 => ?_)
  refine wp_seq_k (fun K44 k44 => ?_)
  refine wp_region ?_
  simp only [List.size_toArray, List.length_cons, List.length_nil, Nat.reduceAdd, List.range, List.range.loop]
  refine sq_val (some 24) (.int .i64 0) rfl rfl (by kernel_rfl) (rvk (by kernel_rfl)) ?_
  simp only [p1, p2, p3, p4]
  refine sq_val (some 25) (.bool true) rfl rfl (by kernel_rfl) (rvk (by kernel_rfl)) ?_
  simp only [p1, p2, p3, p4]
  refine sq_nil ?_
  refine k44 _ _ ?_
  try clear k44 K44
  refine wp_cond_true rfl ?_
  refine wp_skip ?_
  refine k43 _ _ ?_
  try clear k43 K43
  refine wp_seq_k (fun K45 k45 => ?_)
  refine wp_block ?_
  have gd47 := Gr.drew w40
  replace hB := Gr.trans hB gd47
  replace L16 := (st40.lc (L16.gr g38) ne16_38).gr gd47
  replace L33 := (st40.lc (L33.gr g38) ne33_38).gr gd47
  replace L38 := L38.gr gd47
  refine wp_region_ort (fun w' => Lc w' b16 #[t14_0, t14_1, t14_2, t14_3, t14_4, t14_5, t14_6, t14_7, t14_8, t14_9, t14_10, t14_11, t14_12, t14_13, t14_14, t14_15, t14_16, t14_17, t14_18, t14_19, t14_20, t14_21, t14_22, t14_23] 35 ∧ Lc w' b33 #[t33_0, t33_1, t33_2, t33_3, t33_4, t33_5, t33_6, t33_7, t33_8, t33_9, t33_10, t33_11, t33_12, t33_13, t33_14, t33_15, t33_16, t33_17, t33_18, t33_19, t33_20, t33_21, t33_22, t33_23] 31) [([22], (fun w' => Lc w' b38 #[(.bool false), (.slice none 0 0), (.bool false), (.slice none 0 0)] 31))] [(true, 0), (true, 1), (true, 2), (true, 3), (true, 4), (true, 5), (true, 6), (true, 7), (true, 8), (true, 10), (true, 11), (true, 12), (true, 13), (true, 14), (true, 15), (true, 16), (true, 17), (true, 18), (false, 9), (false, 19), (false, 20), (false, 21), (false, 22)] (by kernel_rfl) (by kernel_rfl) (by kernel_rfl) (by decide) (fun _ _ _ _ _ h => h) ⟨L16, L33⟩ ⟨fun _ => L38, trivial⟩ ?_
  refine ort_pure (some 28) (.agg #[(.bool false), (.slice none 0 0), (.bool false), (.slice none 0 0)]) rfl rfl (by kernel_rfl) (fun w' hS => (rv_load 31 _ b38 0 _ _ [(.bool false), (.slice none 0 0), (.bool false), (.slice none 0 0)] rfl rfl (hS.2.1 (by kernel_rfl)) rfl (by kernel_rfl))) ?_
  simp only [p1, p2, p3, p4]
  refine ort_pure (some 29) (.slice (some ⟨b33, 0, none⟩) 6 6) rfl rfl (by kernel_rfl) (fun w' hS => (rvk (by kernel_rfl))) ?_
  simp only [p1, p2, p3, p4]
  refine ort_pure (some 30) (.int .i64 0) rfl rfl (by kernel_rfl) (fun w' hS => (rvk (by kernel_rfl))) ?_
  simp only [p1, p2, p3, p4]
  refine ort_pure (some 31) (.pointer (some ⟨b33, 0, none⟩)) rfl rfl (by kernel_rfl) (fun w' hS => (rvk (by kernel_rfl))) ?_
  simp only [p1, p2, p3, p4]
  refine ort_pure (some 32) (.agg #[t33_0, t33_1, t33_2, t33_3]) rfl rfl (by kernel_rfl) (fun w' hS => (rv_load 31 _ b33 0 _ _ [t33_0, t33_1, t33_2, t33_3] rfl rfl hS.1.2 rfl (by kernel_rfl))) ?_
  simp only [p1, p2, p3, p4]
  refine ort_pure (some 33) (.int .i64 0) rfl rfl (by kernel_rfl) (fun w' hS => (rvk (by kernel_rfl))) ?_
  simp only [p1, p2, p3, p4]
  refine ort_pure (some 34) (.pointer (some ⟨b16, 0, none⟩)) rfl rfl (by kernel_rfl) (fun w' hS => (rvk (by kernel_rfl))) ?_
  simp only [p1, p2, p3, p4]
  refine ort_pure (some 35) (.pointer (some ⟨b16, 0, none⟩)) rfl rfl (by kernel_rfl) (fun w' hS => (rvk (by kernel_rfl))) ?_
  simp only [p1, p2, p3, p4]
  refine ort_pure (some 36) (.agg #[t14_0, t14_1, t14_2, t14_3]) rfl rfl (by kernel_rfl) (fun w' hS => (rv_load 31 _ b16 0 _ _ [t14_0, t14_1, t14_2, t14_3] rfl rfl hS.1.1 rfl (by kernel_rfl))) ?_
  simp only [p1, p2, p3, p4]
  refine ort_pure (some 38) (.slice (some ⟨b33, 0, none⟩) 6 6) rfl rfl (by kernel_rfl) (fun w' hS => (rvk (by kernel_rfl))) ?_
  simp only [p1, p2, p3, p4]
  refine ort_pure (some 39) (.int .i64 0) rfl rfl (by kernel_rfl) (fun w' hS => (rvk (by kernel_rfl))) ?_
  simp only [p1, p2, p3, p4]
  refine ort_pure (some 40) (.int .i64 3) rfl rfl (by kernel_rfl) (fun w' hS => (rvk (by kernel_rfl))) ?_
  simp only [p1, p2, p3, p4]
  refine ort_pure (some 41) (.pointer (some ⟨b33, 12, none⟩)) rfl rfl (by kernel_rfl) (fun w' hS => (rvk (by kernel_rfl))) ?_
  simp only [p1, p2, p3, p4]
  refine ort_pure (some 42) (.agg #[t33_12, t33_13, t33_14, t33_15]) rfl rfl (by kernel_rfl) (fun w' hS => (rv_load 31 _ b33 12 _ _ [t33_12, t33_13, t33_14, t33_15] rfl rfl hS.1.2 rfl (by kernel_rfl))) ?_
  simp only [p1, p2, p3, p4]
  refine ort_pure (some 43) (.int .i64 0) rfl rfl (by kernel_rfl) (fun w' hS => (rvk (by kernel_rfl))) ?_
  simp only [p1, p2, p3, p4]
  refine ort_pure (some 44) (.pointer (some ⟨b16, 12, none⟩)) rfl rfl (by kernel_rfl) (fun w' hS => (rvk (by kernel_rfl))) ?_
  simp only [p1, p2, p3, p4]
  refine ort_pure (some 45) (.pointer (some ⟨b16, 12, none⟩)) rfl rfl (by kernel_rfl) (fun w' hS => (rvk (by kernel_rfl))) ?_
  simp only [p1, p2, p3, p4]
  refine ort_pure (some 46) (.agg #[t14_12, t14_13, t14_14, t14_15]) rfl rfl (by kernel_rfl) (fun w' hS => (rv_load 31 _ b16 12 _ _ [t14_12, t14_13, t14_14, t14_15] rfl rfl hS.1.1 rfl (by kernel_rfl))) ?_
  simp only [p1, p2, p3, p4]
  refine ort_eff rfl (by kernel_rfl) (fun K48 k48 => ?_)
  have kq50 := g38.kp.trans (kp40.trans gd47.kp)
  replace h33a := h33a.kp kq50
  have kq51 := g16.kp.trans (kp18.trans (gd27.kp.trans (g29.kp.trans (g31.kp.trans (g33.kp.trans (g38.kp.trans (kp40.trans gd47.kp)))))))
  replace h14a := h14a.kp kq51
  refine eff_call (some 37) rfl (by kernel_rfl) (mul_r h33a h14a (by omega)) ?_
  rintro e49 w49 ⟨⟨p49, q49, r49, s49, rfl, h49⟩, g49⟩
  refine ⟨_, rfl, ?_⟩
  replace hB := Gr.trans hB g49
  replace L16 := L16.gr g49
  replace L33 := L33.gr g49
  replace L38 := L38.gr g49
  refine k48 _ _ ⟨L16, L33⟩ ⟨fun _ => L38, trivial⟩ ?_
  try clear k48 K48
  simp only [p1, p2, p3, p4]
  refine ort_eff rfl (by kernel_rfl) (fun K52 k52 => ?_)
  have kq54 := g38.kp.trans (kp40.trans (gd47.kp.trans g49.kp))
  replace h33d := h33d.kp kq54
  have kq55 := g16.kp.trans (kp18.trans (gd27.kp.trans (g29.kp.trans (g31.kp.trans (g33.kp.trans (g38.kp.trans (kp40.trans (gd47.kp.trans g49.kp))))))))
  replace h14d := h14d.kp kq55
  refine eff_call (some 47) rfl (by kernel_rfl) (mul_r h33d h14d (by omega)) ?_
  rintro e53 w53 ⟨⟨p53, q53, r53, s53, rfl, h53⟩, g53⟩
  refine ⟨_, rfl, ?_⟩
  replace hB := Gr.trans hB g53
  replace L16 := L16.gr g53
  replace L33 := L33.gr g53
  replace L38 := L38.gr g53
  refine k52 _ _ ⟨L16, L33⟩ ⟨fun _ => L38, trivial⟩ ?_
  try clear k52 K52
  simp only [p1, p2, p3, p4]
  refine ort_eff rfl (by kernel_rfl) (fun K56 k56 => ?_)
  refine eff_bs 31 3 #[(.bool false), (.slice none 0 0), (.bool false), (.slice none 0 0), p49, q49, r49, s49, p53, q53, r53, s53] (some 48) rfl (fun _ => by kernel_rfl) (fun b57 w57 g57 L57 q57 => ?_)
  replace L3 := (st40.lc (L3.gr g38) ne3_38).gr (gd47.trans (g49.trans g53))
  have ne3_57 := L3.ne q57
  replace L5 := (st40.lc (L5.gr g38) ne5_38).gr (gd47.trans (g49.trans g53))
  have ne5_57 := L5.ne q57
  replace L7 := (st40.lc (L7.gr g38) ne7_38).gr (gd47.trans (g49.trans g53))
  have ne7_57 := L7.ne q57
  have ne16_57 := L16.ne q57
  have ne33_57 := L33.ne q57
  have ne38_57 := L38.ne q57
  replace q57 := Nat.le_trans (Below.size hB) q57
  replace hB := Gr.trans hB g57
  replace L16 := L16.gr g57
  replace L33 := L33.gr g57
  replace L38 := L38.gr g57
  refine k56 _ _ ⟨L16, L33⟩ ⟨fun _ => L38, trivial⟩ ?_
  try clear k56 K56
  simp only [p1, p2, p3, p4]
  refine ort_eff rfl (by kernel_rfl) (fun K58 k58 => ?_)
  have kq60 := g53.kp.trans g57.kp
  replace h49 := h49.kp kq60
  replace h53 := h53.kp g57.kp
  refine eff_call (some 49) rfl (by kernel_rfl) (sum3s_r (IsRat.zero _ (k := 385) (by omega)) h49 (h53.mono (show _ ≤ 385 by omega)) L57 (by omega)) ?_
  rintro e59 w59 ⟨⟨p59, q59, r59, s59, rfl, h59⟩, g59⟩
  refine ⟨_, rfl, ?_⟩
  replace hB := Gr.trans hB g59
  replace L16 := L16.gr g59
  replace L33 := L33.gr g59
  replace L38 := L38.gr g59
  refine k58 _ _ ⟨L16, L33⟩ ⟨fun _ => L38, trivial⟩ ?_
  try clear k58 K58
  simp only [p1, p2, p3, p4]
  refine ort_eff rfl (by kernel_rfl) (fun K61 k61 => ?_)
  refine eff_store 31 _ _ b38 0 (.agg #[p59, q59, r59, s59]) [p59, q59, r59, s59] _ #[p59, q59, r59, s59] _ rfl rfl rfl rfl rfl L38 (by kernel_rfl) (Nat.le_of_ble_eq_true rfl) ⟨h59.one0, h59.one1, h59.one2, h59.one3, trivial⟩ (by kernel_rfl) (fun w62 st62 N62 => ?_)
  have kp62 := st62.kp L38 (by decide)
  replace hB := st62.gr hB q38
  replace L38 := N62
  replace L16 := st62.lc L16 ne16_38
  replace L33 := st62.lc L33 ne33_38
  refine k61 _ _ ⟨L16, L33⟩ ⟨cameT (by kernel_rfl), trivial⟩ ?_
  try clear k61 K61
  refine ort_nil ?_
  refine k45 _ _ ?_
  try clear k45 K45
  refine wp_region ?_
  simp only [List.size_toArray, List.length_cons, List.length_nil, Nat.reduceAdd, List.range, List.range.loop]
  refine sq_val (some 26) (.int .i64 0) rfl rfl (by kernel_rfl) (rvk (by kernel_rfl)) ?_
  simp only [p1, p2, p3, p4]
  refine sq_val (some 27) (.int .i64 1) rfl rfl (by kernel_rfl) (rvk (by kernel_rfl)) ?_
  simp only [p1, p2, p3, p4]
  refine sq_val (some 10) (.int .i64 1) rfl rfl (by kernel_rfl) (rvk (by kernel_rfl)) ?_
  simp only [p1, p2, p3, p4]
  refine sq_nil ?_
  show Code.rounds _ _ _ _ _ _
  show Code.wp _ _ _ _ _
  refine wp_seq_k (fun K63 k63 => ?_)
  refine wp_seq_k (fun K64 k64 => ?_)
  refine wp_region ?_
  simp only [List.size_toArray, List.length_cons, List.length_nil, Nat.reduceAdd, List.range, List.range.loop]
  refine sq_val (some 24) (.int .i64 1) rfl rfl (by kernel_rfl) (rvk (by kernel_rfl)) ?_
  simp only [p1, p2, p3, p4]
  refine sq_val (some 25) (.bool true) rfl rfl (by kernel_rfl) (rvk (by kernel_rfl)) ?_
  simp only [p1, p2, p3, p4]
  refine sq_nil ?_
  refine k64 _ _ ?_
  try clear k64 K64
  refine wp_cond_true rfl ?_
  refine wp_skip ?_
  refine k63 _ _ ?_
  try clear k63 K63
  refine wp_seq_k (fun K65 k65 => ?_)
  refine wp_block ?_
  have gd67 := Gr.drew w62
  replace hB := Gr.trans hB gd67
  replace L16 := L16.gr gd67
  replace L33 := L33.gr gd67
  replace L38 := L38.gr gd67
  refine wp_region_ort (fun w' => Lc w' b16 #[t14_0, t14_1, t14_2, t14_3, t14_4, t14_5, t14_6, t14_7, t14_8, t14_9, t14_10, t14_11, t14_12, t14_13, t14_14, t14_15, t14_16, t14_17, t14_18, t14_19, t14_20, t14_21, t14_22, t14_23] 35 ∧ Lc w' b33 #[t33_0, t33_1, t33_2, t33_3, t33_4, t33_5, t33_6, t33_7, t33_8, t33_9, t33_10, t33_11, t33_12, t33_13, t33_14, t33_15, t33_16, t33_17, t33_18, t33_19, t33_20, t33_21, t33_22, t33_23] 31) [([22], (fun w' => Lc w' b38 #[p59, q59, r59, s59] 31))] [(true, 0), (true, 1), (true, 2), (true, 3), (true, 4), (true, 5), (true, 6), (true, 7), (true, 8), (true, 10), (true, 11), (true, 12), (true, 13), (true, 14), (true, 15), (true, 16), (true, 17), (true, 18), (false, 9), (false, 19), (false, 20), (false, 21), (false, 22)] (by kernel_rfl) (by kernel_rfl) (by kernel_rfl) (by decide) (fun _ _ _ _ _ h => h) ⟨L16, L33⟩ ⟨fun _ => L38, trivial⟩ ?_
  refine ort_pure (some 28) (.agg #[p59, q59, r59, s59]) rfl rfl (by kernel_rfl) (fun w' hS => (rv_load 31 _ b38 0 _ _ [p59, q59, r59, s59] rfl rfl (hS.2.1 (by kernel_rfl)) rfl (by kernel_rfl))) ?_
  simp only [p1, p2, p3, p4]
  refine ort_pure (some 29) (.slice (some ⟨b33, 0, none⟩) 6 6) rfl rfl (by kernel_rfl) (fun w' hS => (rvk (by kernel_rfl))) ?_
  simp only [p1, p2, p3, p4]
  refine ort_pure (some 30) (.int .i64 1) rfl rfl (by kernel_rfl) (fun w' hS => (rvk (by kernel_rfl))) ?_
  simp only [p1, p2, p3, p4]
  refine ort_pure (some 31) (.pointer (some ⟨b33, 4, none⟩)) rfl rfl (by kernel_rfl) (fun w' hS => (rvk (by kernel_rfl))) ?_
  simp only [p1, p2, p3, p4]
  refine ort_pure (some 32) (.agg #[t33_4, t33_5, t33_6, t33_7]) rfl rfl (by kernel_rfl) (fun w' hS => (rv_load 31 _ b33 4 _ _ [t33_4, t33_5, t33_6, t33_7] rfl rfl hS.1.2 rfl (by kernel_rfl))) ?_
  simp only [p1, p2, p3, p4]
  refine ort_pure (some 33) (.int .i64 1) rfl rfl (by kernel_rfl) (fun w' hS => (rvk (by kernel_rfl))) ?_
  simp only [p1, p2, p3, p4]
  refine ort_pure (some 34) (.pointer (some ⟨b16, 0, none⟩)) rfl rfl (by kernel_rfl) (fun w' hS => (rvk (by kernel_rfl))) ?_
  simp only [p1, p2, p3, p4]
  refine ort_pure (some 35) (.pointer (some ⟨b16, 4, none⟩)) rfl rfl (by kernel_rfl) (fun w' hS => (rvk (by kernel_rfl))) ?_
  simp only [p1, p2, p3, p4]
  refine ort_pure (some 36) (.agg #[t14_4, t14_5, t14_6, t14_7]) rfl rfl (by kernel_rfl) (fun w' hS => (rv_load 31 _ b16 4 _ _ [t14_4, t14_5, t14_6, t14_7] rfl rfl hS.1.1 rfl (by kernel_rfl))) ?_
  simp only [p1, p2, p3, p4]
  refine ort_pure (some 38) (.slice (some ⟨b33, 0, none⟩) 6 6) rfl rfl (by kernel_rfl) (fun w' hS => (rvk (by kernel_rfl))) ?_
  simp only [p1, p2, p3, p4]
  refine ort_pure (some 39) (.int .i64 1) rfl rfl (by kernel_rfl) (fun w' hS => (rvk (by kernel_rfl))) ?_
  simp only [p1, p2, p3, p4]
  refine ort_pure (some 40) (.int .i64 4) rfl rfl (by kernel_rfl) (fun w' hS => (rvk (by kernel_rfl))) ?_
  simp only [p1, p2, p3, p4]
  refine ort_pure (some 41) (.pointer (some ⟨b33, 16, none⟩)) rfl rfl (by kernel_rfl) (fun w' hS => (rvk (by kernel_rfl))) ?_
  simp only [p1, p2, p3, p4]
  refine ort_pure (some 42) (.agg #[t33_16, t33_17, t33_18, t33_19]) rfl rfl (by kernel_rfl) (fun w' hS => (rv_load 31 _ b33 16 _ _ [t33_16, t33_17, t33_18, t33_19] rfl rfl hS.1.2 rfl (by kernel_rfl))) ?_
  simp only [p1, p2, p3, p4]
  refine ort_pure (some 43) (.int .i64 1) rfl rfl (by kernel_rfl) (fun w' hS => (rvk (by kernel_rfl))) ?_
  simp only [p1, p2, p3, p4]
  refine ort_pure (some 44) (.pointer (some ⟨b16, 12, none⟩)) rfl rfl (by kernel_rfl) (fun w' hS => (rvk (by kernel_rfl))) ?_
  simp only [p1, p2, p3, p4]
  refine ort_pure (some 45) (.pointer (some ⟨b16, 16, none⟩)) rfl rfl (by kernel_rfl) (fun w' hS => (rvk (by kernel_rfl))) ?_
  simp only [p1, p2, p3, p4]
  refine ort_pure (some 46) (.agg #[t14_16, t14_17, t14_18, t14_19]) rfl rfl (by kernel_rfl) (fun w' hS => (rv_load 31 _ b16 16 _ _ [t14_16, t14_17, t14_18, t14_19] rfl rfl hS.1.1 rfl (by kernel_rfl))) ?_
  simp only [p1, p2, p3, p4]
  refine ort_eff rfl (by kernel_rfl) (fun K68 k68 => ?_)
  have kq70 := g38.kp.trans (kp40.trans (gd47.kp.trans (g49.kp.trans (g53.kp.trans (g57.kp.trans (g59.kp.trans (kp62.trans gd67.kp)))))))
  replace h33b := h33b.kp kq70
  have kq71 := g16.kp.trans (kp18.trans (gd27.kp.trans (g29.kp.trans (g31.kp.trans (g33.kp.trans (g38.kp.trans (kp40.trans (gd47.kp.trans (g49.kp.trans (g53.kp.trans (g57.kp.trans (g59.kp.trans (kp62.trans gd67.kp)))))))))))))
  replace h14b := h14b.kp kq71
  refine eff_call (some 37) rfl (by kernel_rfl) (mul_r h33b h14b (by omega)) ?_
  rintro e69 w69 ⟨⟨p69, q69, r69, s69, rfl, h69⟩, g69⟩
  refine ⟨_, rfl, ?_⟩
  replace hB := Gr.trans hB g69
  replace L16 := L16.gr g69
  replace L33 := L33.gr g69
  replace L38 := L38.gr g69
  refine k68 _ _ ⟨L16, L33⟩ ⟨fun _ => L38, trivial⟩ ?_
  try clear k68 K68
  simp only [p1, p2, p3, p4]
  refine ort_eff rfl (by kernel_rfl) (fun K72 k72 => ?_)
  have kq74 := g38.kp.trans (kp40.trans (gd47.kp.trans (g49.kp.trans (g53.kp.trans (g57.kp.trans (g59.kp.trans (kp62.trans (gd67.kp.trans g69.kp))))))))
  replace h33e := h33e.kp kq74
  have kq75 := g16.kp.trans (kp18.trans (gd27.kp.trans (g29.kp.trans (g31.kp.trans (g33.kp.trans (g38.kp.trans (kp40.trans (gd47.kp.trans (g49.kp.trans (g53.kp.trans (g57.kp.trans (g59.kp.trans (kp62.trans (gd67.kp.trans g69.kp))))))))))))))
  replace h14e := h14e.kp kq75
  refine eff_call (some 47) rfl (by kernel_rfl) (mul_r h33e h14e (by omega)) ?_
  rintro e73 w73 ⟨⟨p73, q73, r73, s73, rfl, h73⟩, g73⟩
  refine ⟨_, rfl, ?_⟩
  replace hB := Gr.trans hB g73
  replace L16 := L16.gr g73
  replace L33 := L33.gr g73
  replace L38 := L38.gr g73
  refine k72 _ _ ⟨L16, L33⟩ ⟨fun _ => L38, trivial⟩ ?_
  try clear k72 K72
  simp only [p1, p2, p3, p4]
  refine ort_eff rfl (by kernel_rfl) (fun K76 k76 => ?_)
  refine eff_bs 31 3 #[p59, q59, r59, s59, p69, q69, r69, s69, p73, q73, r73, s73] (some 48) rfl (fun _ => by kernel_rfl) (fun b77 w77 g77 L77 q77 => ?_)
  replace L3 := (st62.lc (L3.gr (g57.trans g59)) ne3_38).gr (gd67.trans (g69.trans g73))
  have ne3_77 := L3.ne q77
  replace L5 := (st62.lc (L5.gr (g57.trans g59)) ne5_38).gr (gd67.trans (g69.trans g73))
  have ne5_77 := L5.ne q77
  replace L7 := (st62.lc (L7.gr (g57.trans g59)) ne7_38).gr (gd67.trans (g69.trans g73))
  have ne7_77 := L7.ne q77
  have ne16_77 := L16.ne q77
  have ne33_77 := L33.ne q77
  have ne38_77 := L38.ne q77
  replace L57 := (st62.lc (L57.gr g59) (Ne.symm ne38_57)).gr (gd67.trans (g69.trans g73))
  have ne57_77 := L57.ne q77
  replace q77 := Nat.le_trans (Below.size hB) q77
  replace hB := Gr.trans hB g77
  replace L16 := L16.gr g77
  replace L33 := L33.gr g77
  replace L38 := L38.gr g77
  refine k76 _ _ ⟨L16, L33⟩ ⟨fun _ => L38, trivial⟩ ?_
  try clear k76 K76
  simp only [p1, p2, p3, p4]
  refine ort_eff rfl (by kernel_rfl) (fun K78 k78 => ?_)
  have kq80 := kp62.trans (gd67.kp.trans (g69.kp.trans (g73.kp.trans g77.kp)))
  replace h59 := h59.kp kq80
  have kq81 := g73.kp.trans g77.kp
  replace h69 := h69.kp kq81
  replace h73 := h73.kp g77.kp
  refine eff_call (some 49) rfl (by kernel_rfl) (sum3s_r h59 (h69.mono (show _ ≤ 1222 by omega)) (h73.mono (show _ ≤ 1222 by omega)) L77 (by omega)) ?_
  rintro e79 w79 ⟨⟨p79, q79, r79, s79, rfl, h79⟩, g79⟩
  refine ⟨_, rfl, ?_⟩
  replace hB := Gr.trans hB g79
  replace L16 := L16.gr g79
  replace L33 := L33.gr g79
  replace L38 := L38.gr g79
  refine k78 _ _ ⟨L16, L33⟩ ⟨fun _ => L38, trivial⟩ ?_
  try clear k78 K78
  simp only [p1, p2, p3, p4]
  refine ort_eff rfl (by kernel_rfl) (fun K82 k82 => ?_)
  refine eff_store 31 _ _ b38 0 (.agg #[p79, q79, r79, s79]) [p79, q79, r79, s79] _ #[p79, q79, r79, s79] _ rfl rfl rfl rfl rfl L38 (by kernel_rfl) (Nat.le_of_ble_eq_true rfl) ⟨h79.one0, h79.one1, h79.one2, h79.one3, trivial⟩ (by kernel_rfl) (fun w83 st83 N83 => ?_)
  have kp83 := st83.kp L38 (by decide)
  replace hB := st83.gr hB q38
  replace L38 := N83
  replace L16 := st83.lc L16 ne16_38
  replace L33 := st83.lc L33 ne33_38
  refine k82 _ _ ⟨L16, L33⟩ ⟨cameT (by kernel_rfl), trivial⟩ ?_
  try clear k82 K82
  refine ort_nil ?_
  refine k65 _ _ ?_
  try clear k65 K65
  refine wp_region ?_
  simp only [List.size_toArray, List.length_cons, List.length_nil, Nat.reduceAdd, List.range, List.range.loop]
  refine sq_val (some 26) (.int .i64 1) rfl rfl (by kernel_rfl) (rvk (by kernel_rfl)) ?_
  simp only [p1, p2, p3, p4]
  refine sq_val (some 27) (.int .i64 2) rfl rfl (by kernel_rfl) (rvk (by kernel_rfl)) ?_
  simp only [p1, p2, p3, p4]
  refine sq_val (some 10) (.int .i64 2) rfl rfl (by kernel_rfl) (rvk (by kernel_rfl)) ?_
  simp only [p1, p2, p3, p4]
  refine sq_nil ?_
  show Code.rounds _ _ _ _ _ _
  show Code.wp _ _ _ _ _
  refine wp_seq_k (fun K84 k84 => ?_)
  refine wp_seq_k (fun K85 k85 => ?_)
  refine wp_region ?_
  simp only [List.size_toArray, List.length_cons, List.length_nil, Nat.reduceAdd, List.range, List.range.loop]
  refine sq_val (some 24) (.int .i64 2) rfl rfl (by kernel_rfl) (rvk (by kernel_rfl)) ?_
  simp only [p1, p2, p3, p4]
  refine sq_val (some 25) (.bool true) rfl rfl (by kernel_rfl) (rvk (by kernel_rfl)) ?_
  simp only [p1, p2, p3, p4]
  refine sq_nil ?_
  refine k85 _ _ ?_
  try clear k85 K85
  refine wp_cond_true rfl ?_
  refine wp_skip ?_
  refine k84 _ _ ?_
  try clear k84 K84
  refine wp_seq_k (fun K86 k86 => ?_)
  refine wp_block ?_
  have gd88 := Gr.drew w83
  replace hB := Gr.trans hB gd88
  replace L16 := L16.gr gd88
  replace L33 := L33.gr gd88
  replace L38 := L38.gr gd88
  refine wp_region_ort (fun w' => Lc w' b16 #[t14_0, t14_1, t14_2, t14_3, t14_4, t14_5, t14_6, t14_7, t14_8, t14_9, t14_10, t14_11, t14_12, t14_13, t14_14, t14_15, t14_16, t14_17, t14_18, t14_19, t14_20, t14_21, t14_22, t14_23] 35 ∧ Lc w' b33 #[t33_0, t33_1, t33_2, t33_3, t33_4, t33_5, t33_6, t33_7, t33_8, t33_9, t33_10, t33_11, t33_12, t33_13, t33_14, t33_15, t33_16, t33_17, t33_18, t33_19, t33_20, t33_21, t33_22, t33_23] 31) [([22], (fun w' => Lc w' b38 #[p79, q79, r79, s79] 31))] [(true, 0), (true, 1), (true, 2), (true, 3), (true, 4), (true, 5), (true, 6), (true, 7), (true, 8), (true, 10), (true, 11), (true, 12), (true, 13), (true, 14), (true, 15), (true, 16), (true, 17), (true, 18), (false, 9), (false, 19), (false, 20), (false, 21), (false, 22)] (by kernel_rfl) (by kernel_rfl) (by kernel_rfl) (by decide) (fun _ _ _ _ _ h => h) ⟨L16, L33⟩ ⟨fun _ => L38, trivial⟩ ?_
  refine ort_pure (some 28) (.agg #[p79, q79, r79, s79]) rfl rfl (by kernel_rfl) (fun w' hS => (rv_load 31 _ b38 0 _ _ [p79, q79, r79, s79] rfl rfl (hS.2.1 (by kernel_rfl)) rfl (by kernel_rfl))) ?_
  simp only [p1, p2, p3, p4]
  refine ort_pure (some 29) (.slice (some ⟨b33, 0, none⟩) 6 6) rfl rfl (by kernel_rfl) (fun w' hS => (rvk (by kernel_rfl))) ?_
  simp only [p1, p2, p3, p4]
  refine ort_pure (some 30) (.int .i64 2) rfl rfl (by kernel_rfl) (fun w' hS => (rvk (by kernel_rfl))) ?_
  simp only [p1, p2, p3, p4]
  refine ort_pure (some 31) (.pointer (some ⟨b33, 8, none⟩)) rfl rfl (by kernel_rfl) (fun w' hS => (rvk (by kernel_rfl))) ?_
  simp only [p1, p2, p3, p4]
  refine ort_pure (some 32) (.agg #[t33_8, t33_9, t33_10, t33_11]) rfl rfl (by kernel_rfl) (fun w' hS => (rv_load 31 _ b33 8 _ _ [t33_8, t33_9, t33_10, t33_11] rfl rfl hS.1.2 rfl (by kernel_rfl))) ?_
  simp only [p1, p2, p3, p4]
  refine ort_pure (some 33) (.int .i64 2) rfl rfl (by kernel_rfl) (fun w' hS => (rvk (by kernel_rfl))) ?_
  simp only [p1, p2, p3, p4]
  refine ort_pure (some 34) (.pointer (some ⟨b16, 0, none⟩)) rfl rfl (by kernel_rfl) (fun w' hS => (rvk (by kernel_rfl))) ?_
  simp only [p1, p2, p3, p4]
  refine ort_pure (some 35) (.pointer (some ⟨b16, 8, none⟩)) rfl rfl (by kernel_rfl) (fun w' hS => (rvk (by kernel_rfl))) ?_
  simp only [p1, p2, p3, p4]
  refine ort_pure (some 36) (.agg #[t14_8, t14_9, t14_10, t14_11]) rfl rfl (by kernel_rfl) (fun w' hS => (rv_load 31 _ b16 8 _ _ [t14_8, t14_9, t14_10, t14_11] rfl rfl hS.1.1 rfl (by kernel_rfl))) ?_
  simp only [p1, p2, p3, p4]
  refine ort_pure (some 38) (.slice (some ⟨b33, 0, none⟩) 6 6) rfl rfl (by kernel_rfl) (fun w' hS => (rvk (by kernel_rfl))) ?_
  simp only [p1, p2, p3, p4]
  refine ort_pure (some 39) (.int .i64 2) rfl rfl (by kernel_rfl) (fun w' hS => (rvk (by kernel_rfl))) ?_
  simp only [p1, p2, p3, p4]
  refine ort_pure (some 40) (.int .i64 5) rfl rfl (by kernel_rfl) (fun w' hS => (rvk (by kernel_rfl))) ?_
  simp only [p1, p2, p3, p4]
  refine ort_pure (some 41) (.pointer (some ⟨b33, 20, none⟩)) rfl rfl (by kernel_rfl) (fun w' hS => (rvk (by kernel_rfl))) ?_
  simp only [p1, p2, p3, p4]
  refine ort_pure (some 42) (.agg #[t33_20, t33_21, t33_22, t33_23]) rfl rfl (by kernel_rfl) (fun w' hS => (rv_load 31 _ b33 20 _ _ [t33_20, t33_21, t33_22, t33_23] rfl rfl hS.1.2 rfl (by kernel_rfl))) ?_
  simp only [p1, p2, p3, p4]
  refine ort_pure (some 43) (.int .i64 2) rfl rfl (by kernel_rfl) (fun w' hS => (rvk (by kernel_rfl))) ?_
  simp only [p1, p2, p3, p4]
  refine ort_pure (some 44) (.pointer (some ⟨b16, 12, none⟩)) rfl rfl (by kernel_rfl) (fun w' hS => (rvk (by kernel_rfl))) ?_
  simp only [p1, p2, p3, p4]
  refine ort_pure (some 45) (.pointer (some ⟨b16, 20, none⟩)) rfl rfl (by kernel_rfl) (fun w' hS => (rvk (by kernel_rfl))) ?_
  simp only [p1, p2, p3, p4]
  refine ort_pure (some 46) (.agg #[t14_20, t14_21, t14_22, t14_23]) rfl rfl (by kernel_rfl) (fun w' hS => (rv_load 31 _ b16 20 _ _ [t14_20, t14_21, t14_22, t14_23] rfl rfl hS.1.1 rfl (by kernel_rfl))) ?_
  simp only [p1, p2, p3, p4]
  refine ort_eff rfl (by kernel_rfl) (fun K89 k89 => ?_)
  have kq91 := g38.kp.trans (kp40.trans (gd47.kp.trans (g49.kp.trans (g53.kp.trans (g57.kp.trans (g59.kp.trans (kp62.trans (gd67.kp.trans (g69.kp.trans (g73.kp.trans (g77.kp.trans (g79.kp.trans (kp83.trans gd88.kp)))))))))))))
  replace h33c := h33c.kp kq91
  have kq92 := g16.kp.trans (kp18.trans (gd27.kp.trans (g29.kp.trans (g31.kp.trans (g33.kp.trans (g38.kp.trans (kp40.trans (gd47.kp.trans (g49.kp.trans (g53.kp.trans (g57.kp.trans (g59.kp.trans (kp62.trans (gd67.kp.trans (g69.kp.trans (g73.kp.trans (g77.kp.trans (g79.kp.trans (kp83.trans gd88.kp)))))))))))))))))))
  replace h14c := h14c.kp kq92
  refine eff_call (some 37) rfl (by kernel_rfl) (mul_r h33c h14c (by omega)) ?_
  rintro e90 w90 ⟨⟨p90, q90, r90, s90, rfl, h90⟩, g90⟩
  refine ⟨_, rfl, ?_⟩
  replace hB := Gr.trans hB g90
  replace L16 := L16.gr g90
  replace L33 := L33.gr g90
  replace L38 := L38.gr g90
  refine k89 _ _ ⟨L16, L33⟩ ⟨fun _ => L38, trivial⟩ ?_
  try clear k89 K89
  simp only [p1, p2, p3, p4]
  refine ort_eff rfl (by kernel_rfl) (fun K93 k93 => ?_)
  have kq95 := g38.kp.trans (kp40.trans (gd47.kp.trans (g49.kp.trans (g53.kp.trans (g57.kp.trans (g59.kp.trans (kp62.trans (gd67.kp.trans (g69.kp.trans (g73.kp.trans (g77.kp.trans (g79.kp.trans (kp83.trans (gd88.kp.trans g90.kp))))))))))))))
  replace h33f := h33f.kp kq95
  have kq96 := g16.kp.trans (kp18.trans (gd27.kp.trans (g29.kp.trans (g31.kp.trans (g33.kp.trans (g38.kp.trans (kp40.trans (gd47.kp.trans (g49.kp.trans (g53.kp.trans (g57.kp.trans (g59.kp.trans (kp62.trans (gd67.kp.trans (g69.kp.trans (g73.kp.trans (g77.kp.trans (g79.kp.trans (kp83.trans (gd88.kp.trans g90.kp))))))))))))))))))))
  replace h14f := h14f.kp kq96
  refine eff_call (some 47) rfl (by kernel_rfl) (mul_r h33f h14f (by omega)) ?_
  rintro e94 w94 ⟨⟨p94, q94, r94, s94, rfl, h94⟩, g94⟩
  refine ⟨_, rfl, ?_⟩
  replace hB := Gr.trans hB g94
  replace L16 := L16.gr g94
  replace L33 := L33.gr g94
  replace L38 := L38.gr g94
  refine k93 _ _ ⟨L16, L33⟩ ⟨fun _ => L38, trivial⟩ ?_
  try clear k93 K93
  simp only [p1, p2, p3, p4]
  refine ort_eff rfl (by kernel_rfl) (fun K97 k97 => ?_)
  refine eff_bs 31 3 #[p79, q79, r79, s79, p90, q90, r90, s90, p94, q94, r94, s94] (some 48) rfl (fun _ => by kernel_rfl) (fun b98 w98 g98 L98 q98 => ?_)
  replace L3 := (st83.lc (L3.gr (g77.trans g79)) ne3_38).gr (gd88.trans (g90.trans g94))
  have ne3_98 := L3.ne q98
  replace L5 := (st83.lc (L5.gr (g77.trans g79)) ne5_38).gr (gd88.trans (g90.trans g94))
  have ne5_98 := L5.ne q98
  replace L7 := (st83.lc (L7.gr (g77.trans g79)) ne7_38).gr (gd88.trans (g90.trans g94))
  have ne7_98 := L7.ne q98
  have ne16_98 := L16.ne q98
  have ne33_98 := L33.ne q98
  have ne38_98 := L38.ne q98
  replace L57 := (st83.lc (L57.gr (g77.trans g79)) (Ne.symm ne38_57)).gr (gd88.trans (g90.trans g94))
  have ne57_98 := L57.ne q98
  replace L77 := (st83.lc (L77.gr g79) (Ne.symm ne38_77)).gr (gd88.trans (g90.trans g94))
  have ne77_98 := L77.ne q98
  replace q98 := Nat.le_trans (Below.size hB) q98
  replace hB := Gr.trans hB g98
  replace L16 := L16.gr g98
  replace L33 := L33.gr g98
  replace L38 := L38.gr g98
  refine k97 _ _ ⟨L16, L33⟩ ⟨fun _ => L38, trivial⟩ ?_
  try clear k97 K97
  simp only [p1, p2, p3, p4]
  refine ort_eff rfl (by kernel_rfl) (fun K99 k99 => ?_)
  have kq101 := kp83.trans (gd88.kp.trans (g90.kp.trans (g94.kp.trans g98.kp)))
  replace h79 := h79.kp kq101
  have kq102 := g94.kp.trans g98.kp
  replace h90 := h90.kp kq102
  replace h94 := h94.kp g98.kp
  refine eff_call (some 49) rfl (by kernel_rfl) (sum3s_r h79 (h90.mono (show _ ≤ 3733 by omega)) (h94.mono (show _ ≤ 3733 by omega)) L98 (by omega)) ?_
  rintro e100 w100 ⟨⟨p100, q100, r100, s100, rfl, h100⟩, g100⟩
  refine ⟨_, rfl, ?_⟩
  replace hB := Gr.trans hB g100
  replace L16 := L16.gr g100
  replace L33 := L33.gr g100
  replace L38 := L38.gr g100
  refine k99 _ _ ⟨L16, L33⟩ ⟨fun _ => L38, trivial⟩ ?_
  try clear k99 K99
  simp only [p1, p2, p3, p4]
  refine ort_eff rfl (by kernel_rfl) (fun K103 k103 => ?_)
  refine eff_store 31 _ _ b38 0 (.agg #[p100, q100, r100, s100]) [p100, q100, r100, s100] _ #[p100, q100, r100, s100] _ rfl rfl rfl rfl rfl L38 (by kernel_rfl) (Nat.le_of_ble_eq_true rfl) ⟨h100.one0, h100.one1, h100.one2, h100.one3, trivial⟩ (by kernel_rfl) (fun w104 st104 N104 => ?_)
  have kp104 := st104.kp L38 (by decide)
  replace hB := st104.gr hB q38
  replace L38 := N104
  replace L16 := st104.lc L16 ne16_38
  replace L33 := st104.lc L33 ne33_38
  refine k103 _ _ ⟨L16, L33⟩ ⟨cameT (by kernel_rfl), trivial⟩ ?_
  try clear k103 K103
  refine ort_nil ?_
  refine k86 _ _ ?_
  try clear k86 K86
  refine wp_region ?_
  simp only [List.size_toArray, List.length_cons, List.length_nil, Nat.reduceAdd, List.range, List.range.loop]
  refine sq_val (some 26) (.int .i64 2) rfl rfl (by kernel_rfl) (rvk (by kernel_rfl)) ?_
  simp only [p1, p2, p3, p4]
  refine sq_val (some 27) (.int .i64 3) rfl rfl (by kernel_rfl) (rvk (by kernel_rfl)) ?_
  simp only [p1, p2, p3, p4]
  refine sq_val (some 10) (.int .i64 3) rfl rfl (by kernel_rfl) (rvk (by kernel_rfl)) ?_
  simp only [p1, p2, p3, p4]
  refine sq_nil ?_
  show Code.rounds _ _ _ _ _ _
  show Code.wp _ _ _ _ _
  refine wp_seq_k (fun K105 k105 => ?_)
  refine wp_seq_k (fun K106 k106 => ?_)
  refine wp_region ?_
  simp only [List.size_toArray, List.length_cons, List.length_nil, Nat.reduceAdd, List.range, List.range.loop]
  refine sq_val (some 24) (.int .i64 3) rfl rfl (by kernel_rfl) (rvk (by kernel_rfl)) ?_
  simp only [p1, p2, p3, p4]
  refine sq_val (some 25) (.bool false) rfl rfl (by kernel_rfl) (rvk (by kernel_rfl)) ?_
  simp only [p1, p2, p3, p4]
  refine sq_nil ?_
  refine k106 _ _ ?_
  try clear k106 K106
  refine wp_cond_false rfl ?_
  refine wp_exit ?_
  simp only [Exit.then, Exit.inBlock, ↓reduceIte]
  refine k41 _ _ ?_
  try clear k41 K41
  refine wp_seq_k (fun K107 k107 => ?_)
  have gd128 := Gr.drew w104
  replace hB := Gr.trans hB gd128
  replace L5 := (st104.lc (L5.gr (g98.trans g100)) ne5_38).gr gd128
  replace L7 := (st104.lc (L7.gr (g98.trans g100)) ne7_38).gr gd128
  replace L16 := L16.gr gd128
  replace L38 := L38.gr gd128
  refine wp_region_ord (fun w' => Lc w' b5 #[(.int .i8 (m0)), (.int .i8 (m1)), (.int .i8 (m2))] 54 ∧ Lc w' b7 #[(.int .i8 (l0)), (.int .i8 (l1)), (.int .i8 (l2))] 54 ∧ Lc w' b16 #[t14_0, t14_1, t14_2, t14_3, t14_4, t14_5, t14_6, t14_7, t14_8, t14_9, t14_10, t14_11, t14_12, t14_13, t14_14, t14_15, t14_16, t14_17, t14_18, t14_19, t14_20, t14_21, t14_22, t14_23] 35 ∧ Lc w' b38 #[p100, q100, r100, s100] 31) [(true, 0), (true, 1), (true, 3), (true, 4), (false, 2), (false, 5), (false, 6), (false, 7), (false, 8), (true, 9)] (by kernel_rfl) (by kernel_rfl) (by kernel_rfl) (by decide) (fun _ _ _ _ _ h => h) ⟨L5, L7, L16, L38⟩ ?_
  refine ord_pure (some 50) (.agg #[p100, q100, r100, s100]) rfl rfl rfl (fun w' hS => (rv_load 31 _ b38 0 _ _ [p100, q100, r100, s100] rfl rfl hS.2.2.2 rfl (by kernel_rfl))) ?_
  simp only [p1, p2, p3, p4]
  refine ord_pure (some 51) (.agg #[(.int .i8 (l0)), (.int .i8 (l1)), (.int .i8 (l2))]) rfl rfl rfl (fun w' hS => (rv_load 54 _ b7 0 _ _ [(.int .i8 (l0)), (.int .i8 (l1)), (.int .i8 (l2))] rfl rfl hS.2.1 rfl (by kernel_rfl))) ?_
  simp only [p1, p2, p3, p4]
  refine ord_pure (some 53) (.agg #[t14_0, t14_1, t14_2, t14_3, t14_4, t14_5, t14_6, t14_7, t14_8, t14_9, t14_10, t14_11, t14_12, t14_13, t14_14, t14_15, t14_16, t14_17, t14_18, t14_19, t14_20, t14_21, t14_22, t14_23]) rfl rfl rfl (fun w' hS => (rv_load 35 _ b16 0 _ _ [t14_0, t14_1, t14_2, t14_3, t14_4, t14_5, t14_6, t14_7, t14_8, t14_9, t14_10, t14_11, t14_12, t14_13, t14_14, t14_15, t14_16, t14_17, t14_18, t14_19, t14_20, t14_21, t14_22, t14_23] rfl rfl hS.2.2.1 rfl (by kernel_rfl))) ?_
  simp only [p1, p2, p3, p4]
  refine ord_pure (some 54) (.agg #[(.int .i8 (m0)), (.int .i8 (m1)), (.int .i8 (m2))]) rfl rfl rfl (fun w' hS => (rv_load 54 _ b5 0 _ _ [(.int .i8 (m0)), (.int .i8 (m1)), (.int .i8 (m2))] rfl rfl hS.1 rfl (by kernel_rfl))) ?_
  simp only [p1, p2, p3, p4]
  refine ord_eff rfl rfl (fun K129 k129 => ?_)
  refine eff_call (some 52) rfl (by kernel_rfl) (point_v (l0) (l1) (l2) (by omega) (by omega) (by omega) _) ?_
  rintro e130 w130 ⟨⟨t130_0, t130_1, t130_2, t130_3, t130_4, t130_5, t130_6, t130_7, t130_8, t130_9, t130_10, t130_11, rfl, h130a, h130b, h130c⟩, g130⟩
  refine ⟨_, rfl, ?_⟩
  replace hB := Gr.trans hB g130
  rw [← eQ0] at h130a
  rw [← eQ1] at h130b
  rw [← eQ2] at h130c
  replace L5 := L5.gr g130
  replace L7 := L7.gr g130
  replace L16 := L16.gr g130
  replace L38 := L38.gr g130
  refine k129 _ _ ⟨L5, L7, L16, L38⟩ ?_
  try clear k129 K129
  simp only [p1, p2, p3, p4]
  refine ord_eff rfl rfl (fun K131 k131 => ?_)
  refine eff_call (some 55) rfl (by kernel_rfl) (point_v (m0) (m1) (m2) (by omega) (by omega) (by omega) _) ?_
  rintro e132 w132 ⟨⟨t132_0, t132_1, t132_2, t132_3, t132_4, t132_5, t132_6, t132_7, t132_8, t132_9, t132_10, t132_11, rfl, h132a, h132b, h132c⟩, g132⟩
  refine ⟨_, rfl, ?_⟩
  replace hB := Gr.trans hB g132
  rw [← eP0] at h132a
  rw [← eP1] at h132b
  rw [← eP2] at h132c
  replace L5 := L5.gr g132
  replace L7 := L7.gr g132
  replace L16 := L16.gr g132
  replace L38 := L38.gr g132
  refine k131 _ _ ⟨L5, L7, L16, L38⟩ ?_
  try clear k131 K131
  simp only [p1, p2, p3, p4]
  refine ord_eff rfl rfl (fun K133 k133 => ?_)
  have kq135 := g49.kp.trans (g53.kp.trans (g57.kp.trans (g59.kp.trans (kp62.trans (gd67.kp.trans (g69.kp.trans (g73.kp.trans (g77.kp.trans (g79.kp.trans (kp83.trans (gd88.kp.trans (g90.kp.trans (g94.kp.trans (g98.kp.trans (g100.kp.trans (kp104.trans (gd128.kp.trans (g130.kp.trans g132.kp))))))))))))))))))
  replace h14a := h14a.kp kq135
  have kq136 := g69.kp.trans (g73.kp.trans (g77.kp.trans (g79.kp.trans (kp83.trans (gd88.kp.trans (g90.kp.trans (g94.kp.trans (g98.kp.trans (g100.kp.trans (kp104.trans (gd128.kp.trans (g130.kp.trans g132.kp))))))))))))
  replace h14b := h14b.kp kq136
  have kq137 := g90.kp.trans (g94.kp.trans (g98.kp.trans (g100.kp.trans (kp104.trans (gd128.kp.trans (g130.kp.trans g132.kp))))))
  replace h14c := h14c.kp kq137
  have kq138 := g53.kp.trans (g57.kp.trans (g59.kp.trans (kp62.trans (gd67.kp.trans (g69.kp.trans (g73.kp.trans (g77.kp.trans (g79.kp.trans (kp83.trans (gd88.kp.trans (g90.kp.trans (g94.kp.trans (g98.kp.trans (g100.kp.trans (kp104.trans (gd128.kp.trans (g130.kp.trans g132.kp)))))))))))))))))
  replace h14d := h14d.kp kq138
  have kq139 := g73.kp.trans (g77.kp.trans (g79.kp.trans (kp83.trans (gd88.kp.trans (g90.kp.trans (g94.kp.trans (g98.kp.trans (g100.kp.trans (kp104.trans (gd128.kp.trans (g130.kp.trans g132.kp)))))))))))
  replace h14e := h14e.kp kq139
  have kq140 := g94.kp.trans (g98.kp.trans (g100.kp.trans (kp104.trans (gd128.kp.trans (g130.kp.trans g132.kp)))))
  replace h14f := h14f.kp kq140
  refine eff_call (some 56) rfl (by kernel_rfl) (lvel_v h14a h14b h14c h14d h14e h14f h132a h132b h132c (by omega)) ?_
  rintro e134 w134 ⟨⟨t134_0, t134_1, t134_2, t134_3, t134_4, t134_5, t134_6, t134_7, t134_8, t134_9, t134_10, t134_11, rfl, h134a, h134b, h134c⟩, g134⟩
  refine ⟨_, rfl, ?_⟩
  replace hB := Gr.trans hB g134
  replace L5 := L5.gr g134
  replace L7 := L7.gr g134
  replace L16 := L16.gr g134
  replace L38 := L38.gr g134
  refine k133 _ _ ⟨L5, L7, L16, L38⟩ ?_
  try clear k133 K133
  simp only [p1, p2, p3, p4]
  refine ord_eff rfl rfl (fun K141 k141 => ?_)
  have kq143 := g132.kp.trans g134.kp
  replace h130a := h130a.kp kq143
  replace h130b := h130b.kp kq143
  replace h130c := h130c.kp kq143
  refine eff_call (some 57) rfl (by kernel_rfl) (dot_v h130a h130b h130c h134a h134b h134c (by omega)) ?_
  rintro e142 w142 ⟨⟨p142, q142, r142, s142, rfl, h142⟩, g142⟩
  refine ⟨_, rfl, ?_⟩
  replace hB := Gr.trans hB g142
  replace L5 := L5.gr g142
  replace L7 := L7.gr g142
  replace L16 := L16.gr g142
  replace L38 := L38.gr g142
  refine k141 _ _ ⟨L5, L7, L16, L38⟩ ?_
  try clear k141 K141
  simp only [p1, p2, p3, p4]
  refine ord_eff rfl rfl (fun K144 k144 => ?_)
  have kq146 := kp104.trans (gd128.kp.trans (g130.kp.trans (g132.kp.trans (g134.kp.trans g142.kp))))
  replace h100 := h100.kp kq146
  refine eff_call (some 58) rfl (by kernel_rfl) (equal_q h100 h142 (by omega)) ?_
  rintro e145 w145 ⟨rfl, g145⟩
  refine ⟨_, rfl, ?_⟩
  replace hB := Gr.trans hB g145
  replace L5 := L5.gr g145
  replace L7 := L7.gr g145
  replace L16 := L16.gr g145
  replace L38 := L38.gr g145
  refine k144 _ _ ⟨L5, L7, L16, L38⟩ ?_
  try clear k144 K144
  simp only [p1, p2, p3, p4]
  have hb147 : (rcmp (0 + (0 + (0 + 0 + ((P1 * Q2 - P2 * Q1) * A0) + (Q0 * A3)) + ((P2 * Q0 - P0 * Q2) * A1) + (Q1 * A4)) + ((P0 * Q1 - P1 * Q0) * A2) + (Q2 * A5)) (0 + Q0 * (A3 + (A1 * P2 - A2 * P1)) + Q1 * (A4 + (A2 * P0 - A0 * P2)) + Q2 * (A5 + (A0 * P1 - A1 * P0))) == (0 : Int)) = true := (lawRo0 A0 A1 A2 A3 A4 A5 P0 P1 P2 Q0 Q1 Q2 )
  refine ord_pure (some 6) (.bool true) rfl rfl rfl (fun w' hS => (RunV.bool (x := rcmp (0 + (0 + (0 + 0 + ((P1 * Q2 - P2 * Q1) * A0) + (Q0 * A3)) + ((P2 * Q0 - P0 * Q2) * A1) + (Q1 * A4)) + ((P0 * Q1 - P1 * Q0) * A2) + (Q2 * A5)) (0 + Q0 * (A3 + (A1 * P2 - A2 * P1)) + Q1 * (A4 + (A2 * P0 - A0 * P2)) + Q2 * (A5 + (A0 * P1 - A1 * P0))) == (0 : Int)) (rvk (by kernel_rfl)) hb147)) ?_
  simp only [p1, p2, p3, p4]
  refine ord_nil ?_
  refine k107 _ _ ?_
  try clear k107 K107
  refine wp_ret ?_
  refine bodyPost_ret (v := (.bool true)) (ret_tmp rfl rfl) rfl ⟨?_, hB⟩
  exact rfl

theorem twist_rows (n0 n1 n2 n3 n4 n5 dd : Int) (in0 : -128 ≤ n0 ∧ n0 ≤ 127) (in1 : -128 ≤ n1 ∧ n1 ≤ 127) (in2 : -128 ≤ n2 ∧ n2 ≤ 127) (in3 : -128 ≤ n3 ∧ n3 ≤ 127) (in4 : -128 ≤ n4 ∧ n4 ≤ 127) (in5 : -128 ≤ n5 ∧ n5 ≤ 127) (idd : 0 ≤ dd ∧ dd ≤ 255) (m0 m1 m2 : Int) (im0 : -128 ≤ m0 ∧ m0 ≤ 127) (im1 : -128 ≤ m1 ∧ m1 ≤ 127) (im2 : -128 ≤ m2 ∧ m2 ≤ 127) (l0 l1 l2 : Int) (il0 : -128 ≤ l0 ∧ l0 ≤ 127) (il1 : -128 ≤ l1 ∧ l1 ≤ 127) (il2 : -128 ≤ l2 ∧ l2 ≤ 127) (w : World) (ht : Tab w) :
    Calls Tryd.prog 6 #[(.agg #[(.int .i8 (n0)), (.int .i8 (n1)), (.int .i8 (n2)), (.int .i8 (n3)), (.int .i8 (n4)), (.int .i8 (n5)), (.int .u8 (dd))]), (.agg #[(.int .i8 (m0)), (.int .i8 (m1)), (.int .i8 (m2))]), (.agg #[(.int .i8 (l0)), (.int .i8 (l1)), (.int .i8 (l2))])] w fun e w' => e = .returned (.bool true) ∧ Gr w w' :=
  rows_q n0 n1 n2 n3 n4 n5 dd in0 in1 in2 in3 in4 in5 idd m0 m1 m2 im0 im1 im2 l0 l1 l2 il0 il1 il2 _ _ _ _ _ _ rfl rfl rfl rfl rfl rfl _ _ _ rfl rfl rfl _ _ _ rfl rfl rfl w ht

end Go.Proofs.YtgopfikljndklaaDoor
