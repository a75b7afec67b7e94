/- Printed by a program of the prover's: AxisOf. -/
import Derived.Test.YtgopfikljndklaaDoorAxis
namespace Go.Proofs.YtgopfikljndklaaDoor
open Go.RowKit

set_option maxRecDepth 100000 in
set_option maxHeartbeats 8000000 in
theorem axis_n {k : Nat} {uaa0 uaa1 uaa2 uaa3 uab0 uab1 uab2 uab3 uac0 uac1 uac2 uac3 : Value} {a1 a2 a3 : Rat} {uba0 uba1 uba2 uba3 ubb0 ubb1 ubb2 ubb3 ubc0 ubc1 ubc2 ubc3 : Value} {d1 d2 d3 : Rat} {w : World} (hua1 : IsRat w k uaa0 uaa1 uaa2 uaa3 a1) (hua2 : IsRat w k uab0 uab1 uab2 uab3 a2) (hua3 : IsRat w k uac0 uac1 uac2 uac3 a3) (hub1 : IsRat w k uba0 uba1 uba2 uba3 d1) (hub2 : IsRat w k ubb0 ubb1 ubb2 ubb3 d2) (hub3 : IsRat w k ubc0 ubc1 ubc2 ubc3 d3) (_hk : k ≤ 2000) (ha : a1 = 0 ∧ a2 = 0 ∧ a3 = 0) (hd : d1 = 0 ∧ d2 = 0 ∧ d3 = 0) :
    Calls Tryd.prog 11 #[(.agg #[uaa0, uaa1, uaa2, uaa3, uab0, uab1, uab2, uab3, uac0, uac1, uac2, uac3, uba0, uba1, uba2, uba3, ubb0, ubb1, ubb2, ubb3, ubc0, ubc1, ubc2, ubc3])] w fun e w' => (∃ t0 t1 t2 t3 t4 t5 t6 t7 t8 t9 t10 t11 t12 t13 t14 t15 t16 t17 t18 t19 t20 t21 t22 t23 t24 t25 t26 t27, e = .returned (.agg #[.int .i64 0, t0, t1, t2, t3, t4, t5, t6, t7, t8, t9, t10, t11, t12, t13, t14, t15, t16, t17, t18, t19, t20, t21, t22, t23, t24, t25, t26, t27]) ∧ IsRat w' (20 * k + 1000) t0 t1 t2 t3 (0) ∧ IsRat w' (20 * k + 1000) t4 t5 t6 t7 (0) ∧ IsRat w' (20 * k + 1000) t8 t9 t10 t11 (0) ∧ IsRat w' (20 * k + 1000) t12 t13 t14 t15 (0) ∧ IsRat w' (20 * k + 1000) t16 t17 t18 t19 (0) ∧ IsRat w' (20 * k + 1000) t20 t21 t22 t23 (0) ∧ IsRat w' (20 * k + 1000) t24 t25 t26 t27 (0)) ∧ Gr w w' := by
  have e1 := vzero_iff.2 ha
  have e2 := vzero_iff.2 hd
  have hbig := hua1.big
  go_enter Tryd.func11, Tryd.ntmps11
  have hB := Gr.refl w
  refine wp_seq_k (fun K1 k1 => ?_)
  refine wp_region ?_
  simp only [List.size_toArray, List.length_cons, List.length_nil, Nat.reduceAdd, List.range, List.range.loop]
  refine sq_eff rfl (by kernel_rfl) (fun K2 k2 => ?_)
  refine eff_box 35 _ (.agg #[uaa0, uaa1, uaa2, uaa3, uab0, uab1, uab2, uab3, uac0, uac1, uac2, uac3, uba0, uba1, uba2, uba3, ubb0, ubb1, ubb2, ubb3, ubc0, ubc1, ubc2, ubc3]) #[uaa0, uaa1, uaa2, uaa3, uab0, uab1, uab2, uab3, uac0, uac1, uac2, uac3, uba0, uba1, uba2, uba3, ubb0, ubb1, ubb2, ubb3, ubc0, ubc1, ubc2, ubc3] (some 1) rfl rfl rfl rfl (fun b3 w3 g3 L3 q3 => ?_)
  replace q3 := Nat.le_trans (Below.size hB) q3
  replace hB := Gr.trans hB g3
  refine k2 _ _ ?_
  try clear k2 K2
  simp only [p1, p2, p3, p4]
  refine sq_eff rfl (by kernel_rfl) (fun K4 k4 => ?_)
  refine eff_alloc 38 (.agg #[(.int .i64 0), (.bool false), (.slice none 0 0), (.bool false), (.slice none 0 0), (.bool false), (.slice none 0 0), (.bool false), (.slice none 0 0), (.bool false), (.slice none 0 0), (.bool false), (.slice none 0 0), (.bool false), (.slice none 0 0), (.bool false), (.slice none 0 0), (.bool false), (.slice none 0 0), (.bool false), (.slice none 0 0), (.bool false), (.slice none 0 0), (.bool false), (.slice none 0 0), (.bool false), (.slice none 0 0), (.bool false), (.slice none 0 0)]) #[(.int .i64 0), (.bool false), (.slice none 0 0), (.bool false), (.slice none 0 0), (.bool false), (.slice none 0 0), (.bool false), (.slice none 0 0), (.bool false), (.slice none 0 0), (.bool false), (.slice none 0 0), (.bool false), (.slice none 0 0), (.bool false), (.slice none 0 0), (.bool false), (.slice none 0 0), (.bool false), (.slice none 0 0), (.bool false), (.slice none 0 0), (.bool false), (.slice none 0 0), (.bool false), (.slice none 0 0), (.bool false), (.slice none 0 0)] (some 2) rfl rfl (by kernel_rfl) rfl (fun b5 w5 g5 L5 q5 => ?_)
  have ne3_5 := L3.ne q5
  replace q5 := Nat.le_trans (Below.size hB) q5
  replace hB := Gr.trans hB g5
  refine k4 _ _ ?_
  try clear k4 K4
  simp only [p1, p2, p3, p4]
  refine sq_nil ?_
  refine k1 _ _ ?_
  try clear k1 K1
  refine wp_seq_k (fun K6 k6 => ?_)
  refine wp_seq_k (fun K7 k7 => ?_)
  refine wp_region ?_
  simp only [List.size_toArray, List.length_cons, List.length_nil, Nat.reduceAdd, List.range, List.range.loop]
  replace L3 := L3.gr g5
  refine sq_val (some 10) (.agg #[uaa0, uaa1, uaa2, uaa3, uab0, uab1, uab2, uab3, uac0, uac1, uac2, uac3, uba0, uba1, uba2, uba3, ubb0, ubb1, ubb2, ubb3, ubc0, ubc1, ubc2, ubc3]) rfl rfl (by kernel_rfl) (rv_load 35 _ b3 0 _ _ [uaa0, uaa1, uaa2, uaa3, uab0, uab1, uab2, uab3, uac0, uac1, uac2, uac3, uba0, uba1, uba2, uba3, ubb0, ubb1, ubb2, ubb3, ubc0, ubc1, ubc2, ubc3] rfl rfl L3 rfl (by kernel_rfl)) ?_
  simp only [p1, p2, p3, p4]
  refine sq_eff rfl (by kernel_rfl) (fun K8 k8 => ?_)
  have kq10 := g3.kp.trans g5.kp
  replace hua1 := hua1.kp kq10
  replace hua2 := hua2.kp kq10
  replace hua3 := hua3.kp kq10
  replace hub1 := hub1.kp kq10
  replace hub2 := hub2.kp kq10
  replace hub3 := hub3.kp kq10
  refine eff_call (some 11) rfl (by kernel_rfl) (tzero_t hua1 hua2 hua3 hub1 hub2 hub3 (by omega) e1) ?_
  rintro e9 w9 ⟨rfl, g9⟩
  refine ⟨_, rfl, ?_⟩
  replace hB := Gr.trans hB g9
  refine k8 _ _ ?_
  try clear k8 K8
  simp only [p1, p2, p3, p4]
  refine sq_nil ?_
  refine k7 _ _ ?_
  try clear k7 K7
  refine wp_cond_true (show _ = Value.bool true by rw [← e2]; rfl) ?_
  refine wp_seq_k (fun K11 k11 => ?_)
  refine wp_region ?_
  simp only [List.size_toArray, List.length_cons, List.length_nil, Nat.reduceAdd, List.range, List.range.loop]
  refine sq_val (some 12) (.agg #[(.int .i64 0), (.bool false), (.slice none 0 0), (.bool false), (.slice none 0 0), (.bool false), (.slice none 0 0), (.bool false), (.slice none 0 0), (.bool false), (.slice none 0 0), (.bool false), (.slice none 0 0), (.bool false), (.slice none 0 0), (.bool false), (.slice none 0 0), (.bool false), (.slice none 0 0), (.bool false), (.slice none 0 0), (.bool false), (.slice none 0 0), (.bool false), (.slice none 0 0), (.bool false), (.slice none 0 0), (.bool false), (.slice none 0 0)]) rfl rfl (by kernel_rfl) (rvk (by kernel_rfl)) ?_
  simp only [p1, p2, p3, p4]
  refine sq_eff rfl (by kernel_rfl) (fun K12 k12 => ?_)
  replace L5 := L5.gr g9
  refine eff_store 38 _ _ b5 0 (.agg #[(.int .i64 0), (.bool false), (.slice none 0 0), (.bool false), (.slice none 0 0), (.bool false), (.slice none 0 0), (.bool false), (.slice none 0 0), (.bool false), (.slice none 0 0), (.bool false), (.slice none 0 0), (.bool false), (.slice none 0 0), (.bool false), (.slice none 0 0), (.bool false), (.slice none 0 0), (.bool false), (.slice none 0 0), (.bool false), (.slice none 0 0), (.bool false), (.slice none 0 0), (.bool false), (.slice none 0 0), (.bool false), (.slice none 0 0)]) [(.int .i64 0), (.bool false), (.slice none 0 0), (.bool false), (.slice none 0 0), (.bool false), (.slice none 0 0), (.bool false), (.slice none 0 0), (.bool false), (.slice none 0 0), (.bool false), (.slice none 0 0), (.bool false), (.slice none 0 0), (.bool false), (.slice none 0 0), (.bool false), (.slice none 0 0), (.bool false), (.slice none 0 0), (.bool false), (.slice none 0 0), (.bool false), (.slice none 0 0), (.bool false), (.slice none 0 0), (.bool false), (.slice none 0 0)] _ #[(.int .i64 0), (.bool false), (.slice none 0 0), (.bool false), (.slice none 0 0), (.bool false), (.slice none 0 0), (.bool false), (.slice none 0 0), (.bool false), (.slice none 0 0), (.bool false), (.slice none 0 0), (.bool false), (.slice none 0 0), (.bool false), (.slice none 0 0), (.bool false), (.slice none 0 0), (.bool false), (.slice none 0 0), (.bool false), (.slice none 0 0), (.bool false), (.slice none 0 0), (.bool false), (.slice none 0 0), (.bool false), (.slice none 0 0)] _ rfl rfl rfl rfl rfl L5 (by kernel_rfl) (Nat.le_of_ble_eq_true rfl) ⟨rfl, rfl, rfl, rfl, rfl, rfl, rfl, rfl, rfl, rfl, rfl, rfl, rfl, rfl, rfl, rfl, rfl, rfl, rfl, rfl, rfl, rfl, rfl, rfl, rfl, rfl, rfl, rfl, rfl, trivial⟩ (by kernel_rfl) (fun w13 st13 N13 => ?_)
  have kp13 := st13.kp L5 (by decide)
  replace hB := st13.gr hB q5
  replace L5 := N13
  refine k12 _ _ ?_
  try clear k12 K12
  refine sq_nil ?_
  refine k11 _ _ ?_
  try clear k11 K11
  refine wp_ret ?_
  simp only [Exit.then]
  refine bodyPost_ret (v := (.agg #[(.int .i64 0), (.bool false), (.slice none 0 0), (.bool false), (.slice none 0 0), (.bool false), (.slice none 0 0), (.bool false), (.slice none 0 0), (.bool false), (.slice none 0 0), (.bool false), (.slice none 0 0), (.bool false), (.slice none 0 0), (.bool false), (.slice none 0 0), (.bool false), (.slice none 0 0), (.bool false), (.slice none 0 0), (.bool false), (.slice none 0 0), (.bool false), (.slice none 0 0), (.bool false), (.slice none 0 0), (.bool false), (.slice none 0 0)])) (ret_cell _ _ _ rfl rfl L5 (by kernel_rfl)) rfl ⟨?_, hB⟩
  exact ⟨_, _, _, _, _, _, _, _, _, _, _, _, _, _, _, _, _, _, _, _, _, _, _, _, _, _, _, _, rfl, IsRat.zero _ (by omega), IsRat.zero _ (by omega), IsRat.zero _ (by omega), IsRat.zero _ (by omega), IsRat.zero _ (by omega), IsRat.zero _ (by omega), IsRat.zero _ (by omega)⟩

set_option maxRecDepth 100000 in
set_option maxHeartbeats 8000000 in
theorem axis_t {k : Nat} {uaa0 uaa1 uaa2 uaa3 uab0 uab1 uab2 uab3 uac0 uac1 uac2 uac3 : Value} {a1 a2 a3 : Rat} {uba0 uba1 uba2 uba3 ubb0 ubb1 ubb2 ubb3 ubc0 ubc1 ubc2 ubc3 : Value} {d1 d2 d3 : Rat} {w : World} (hua1 : IsRat w k uaa0 uaa1 uaa2 uaa3 a1) (hua2 : IsRat w k uab0 uab1 uab2 uab3 a2) (hua3 : IsRat w k uac0 uac1 uac2 uac3 a3) (hub1 : IsRat w k uba0 uba1 uba2 uba3 d1) (hub2 : IsRat w k ubb0 ubb1 ubb2 ubb3 d2) (hub3 : IsRat w k ubc0 ubc1 ubc2 ubc3 d3) (_hk : k ≤ 2000) (ha : a1 = 0 ∧ a2 = 0 ∧ a3 = 0) (hd : ¬(d1 = 0 ∧ d2 = 0 ∧ d3 = 0)) :
    Calls Tryd.prog 11 #[(.agg #[uaa0, uaa1, uaa2, uaa3, uab0, uab1, uab2, uab3, uac0, uac1, uac2, uac3, uba0, uba1, uba2, uba3, ubb0, ubb1, ubb2, ubb3, ubc0, ubc1, ubc2, ubc3])] w fun e w' => (∃ t0 t1 t2 t3 t4 t5 t6 t7 t8 t9 t10 t11 t12 t13 t14 t15 t16 t17 t18 t19 t20 t21 t22 t23 t24 t25 t26 t27, e = .returned (.agg #[.int .i64 1, t0, t1, t2, t3, t4, t5, t6, t7, t8, t9, t10, t11, t12, t13, t14, t15, t16, t17, t18, t19, t20, t21, t22, t23, t24, t25, t26, t27]) ∧ IsRat w' (20 * k + 1000) t0 t1 t2 t3 (prim d1 d2 d3 d1) ∧ IsRat w' (20 * k + 1000) t4 t5 t6 t7 (prim d1 d2 d3 d2) ∧ IsRat w' (20 * k + 1000) t8 t9 t10 t11 (prim d1 d2 d3 d3) ∧ IsRat w' (20 * k + 1000) t12 t13 t14 t15 (0) ∧ IsRat w' (20 * k + 1000) t16 t17 t18 t19 (0) ∧ IsRat w' (20 * k + 1000) t20 t21 t22 t23 (0) ∧ IsRat w' (20 * k + 1000) t24 t25 t26 t27 (0)) ∧ Gr w w' := by
  have e1 := vzero_iff.2 ha
  have e2 := vzero_false.2 hd
  have hbig := hua1.big
  go_enter Tryd.func11, Tryd.ntmps11
  have hB := Gr.refl w
  refine wp_seq_k (fun K1 k1 => ?_)
  refine wp_region ?_
  simp only [List.size_toArray, List.length_cons, List.length_nil, Nat.reduceAdd, List.range, List.range.loop]
  refine sq_eff rfl (by kernel_rfl) (fun K2 k2 => ?_)
  refine eff_box 35 _ (.agg #[uaa0, uaa1, uaa2, uaa3, uab0, uab1, uab2, uab3, uac0, uac1, uac2, uac3, uba0, uba1, uba2, uba3, ubb0, ubb1, ubb2, ubb3, ubc0, ubc1, ubc2, ubc3]) #[uaa0, uaa1, uaa2, uaa3, uab0, uab1, uab2, uab3, uac0, uac1, uac2, uac3, uba0, uba1, uba2, uba3, ubb0, ubb1, ubb2, ubb3, ubc0, ubc1, ubc2, ubc3] (some 1) rfl rfl rfl rfl (fun b3 w3 g3 L3 q3 => ?_)
  replace q3 := Nat.le_trans (Below.size hB) q3
  replace hB := Gr.trans hB g3
  refine k2 _ _ ?_
  try clear k2 K2
  simp only [p1, p2, p3, p4]
  refine sq_eff rfl (by kernel_rfl) (fun K4 k4 => ?_)
  refine eff_alloc 38 (.agg #[(.int .i64 0), (.bool false), (.slice none 0 0), (.bool false), (.slice none 0 0), (.bool false), (.slice none 0 0), (.bool false), (.slice none 0 0), (.bool false), (.slice none 0 0), (.bool false), (.slice none 0 0), (.bool false), (.slice none 0 0), (.bool false), (.slice none 0 0), (.bool false), (.slice none 0 0), (.bool false), (.slice none 0 0), (.bool false), (.slice none 0 0), (.bool false), (.slice none 0 0), (.bool false), (.slice none 0 0), (.bool false), (.slice none 0 0)]) #[(.int .i64 0), (.bool false), (.slice none 0 0), (.bool false), (.slice none 0 0), (.bool false), (.slice none 0 0), (.bool false), (.slice none 0 0), (.bool false), (.slice none 0 0), (.bool false), (.slice none 0 0), (.bool false), (.slice none 0 0), (.bool false), (.slice none 0 0), (.bool false), (.slice none 0 0), (.bool false), (.slice none 0 0), (.bool false), (.slice none 0 0), (.bool false), (.slice none 0 0), (.bool false), (.slice none 0 0), (.bool false), (.slice none 0 0)] (some 2) rfl rfl (by kernel_rfl) rfl (fun b5 w5 g5 L5 q5 => ?_)
  have ne3_5 := L3.ne q5
  replace q5 := Nat.le_trans (Below.size hB) q5
  replace hB := Gr.trans hB g5
  refine k4 _ _ ?_
  try clear k4 K4
  simp only [p1, p2, p3, p4]
  refine sq_nil ?_
  refine k1 _ _ ?_
  try clear k1 K1
  refine wp_seq_k (fun K6 k6 => ?_)
  refine wp_seq_k (fun K7 k7 => ?_)
  refine wp_region ?_
  simp only [List.size_toArray, List.length_cons, List.length_nil, Nat.reduceAdd, List.range, List.range.loop]
  replace L3 := L3.gr g5
  refine sq_val (some 10) (.agg #[uaa0, uaa1, uaa2, uaa3, uab0, uab1, uab2, uab3, uac0, uac1, uac2, uac3, uba0, uba1, uba2, uba3, ubb0, ubb1, ubb2, ubb3, ubc0, ubc1, ubc2, ubc3]) rfl rfl (by kernel_rfl) (rv_load 35 _ b3 0 _ _ [uaa0, uaa1, uaa2, uaa3, uab0, uab1, uab2, uab3, uac0, uac1, uac2, uac3, uba0, uba1, uba2, uba3, ubb0, ubb1, ubb2, ubb3, ubc0, ubc1, ubc2, ubc3] rfl rfl L3 rfl (by kernel_rfl)) ?_
  simp only [p1, p2, p3, p4]
  refine sq_eff rfl (by kernel_rfl) (fun K8 k8 => ?_)
  have kq10 := g3.kp.trans g5.kp
  replace hua1 := hua1.kp kq10
  replace hua2 := hua2.kp kq10
  replace hua3 := hua3.kp kq10
  replace hub1 := hub1.kp kq10
  replace hub2 := hub2.kp kq10
  replace hub3 := hub3.kp kq10
  refine eff_call (some 11) rfl (by kernel_rfl) (tzero_t hua1 hua2 hua3 hub1 hub2 hub3 (by omega) e1) ?_
  rintro e9 w9 ⟨rfl, g9⟩
  refine ⟨_, rfl, ?_⟩
  replace hB := Gr.trans hB g9
  refine k8 _ _ ?_
  try clear k8 K8
  simp only [p1, p2, p3, p4]
  refine sq_nil ?_
  refine k7 _ _ ?_
  try clear k7 K7
  refine wp_cond_false (show _ = Value.bool false by rw [← e2]; rfl) ?_
  refine wp_skip ?_
  refine k6 _ _ ?_
  try clear k6 K6
  refine wp_seq_k (fun K11 k11 => ?_)
  refine wp_seq_k (fun K12 k12 => ?_)
  refine wp_region ?_
  simp only [List.size_toArray, List.length_cons, List.length_nil, Nat.reduceAdd, List.range, List.range.loop]
  refine sq_val (some 13) (.pointer (some ⟨b3, 0, none⟩)) rfl rfl (by kernel_rfl) (rvk (by kernel_rfl)) ?_
  simp only [p1, p2, p3, p4]
  replace L3 := L3.gr g9
  refine sq_val (some 14) (.agg #[uaa0, uaa1, uaa2, uaa3, uab0, uab1, uab2, uab3, uac0, uac1, uac2, uac3]) rfl rfl (by kernel_rfl) (rv_load 33 _ b3 0 _ _ [uaa0, uaa1, uaa2, uaa3, uab0, uab1, uab2, uab3, uac0, uac1, uac2, uac3] rfl rfl L3 rfl (by kernel_rfl)) ?_
  simp only [p1, p2, p3, p4]
  refine sq_eff rfl (by kernel_rfl) (fun K13 k13 => ?_)
  replace hua1 := hua1.kp g9.kp
  replace hua2 := hua2.kp g9.kp
  replace hua3 := hua3.kp g9.kp
  refine eff_call (some 15) rfl (by kernel_rfl) (vzero_b hua1 hua2 hua3 (by omega) true e1) ?_
  rintro e14 w14 ⟨rfl, g14⟩
  refine ⟨_, rfl, ?_⟩
  replace hB := Gr.trans hB g14
  refine k13 _ _ ?_
  try clear k13 K13
  simp only [p1, p2, p3, p4]
  refine sq_nil ?_
  refine k12 _ _ ?_
  try clear k12 K12
  refine wp_cond_true rfl ?_
  refine wp_seq_k (fun K15 k15 => ?_)
  refine wp_region ?_
  simp only [List.size_toArray, List.length_cons, List.length_nil, Nat.reduceAdd, List.range, List.range.loop]
  refine sq_val (some 17) (.pointer (some ⟨b3, 12, none⟩)) rfl rfl (by kernel_rfl) (rvk (by kernel_rfl)) ?_
  simp only [p1, p2, p3, p4]
  replace L3 := L3.gr g14
  refine sq_val (some 18) (.agg #[uba0, uba1, uba2, uba3, ubb0, ubb1, ubb2, ubb3, ubc0, ubc1, ubc2, ubc3]) rfl rfl (by kernel_rfl) (rv_load 33 _ b3 12 _ _ [uba0, uba1, uba2, uba3, ubb0, ubb1, ubb2, ubb3, ubc0, ubc1, ubc2, ubc3] rfl rfl L3 rfl (by kernel_rfl)) ?_
  simp only [p1, p2, p3, p4]
  refine sq_eff rfl (by kernel_rfl) (fun K16 k16 => ?_)
  have kq18 := g9.kp.trans g14.kp
  replace hub1 := hub1.kp kq18
  replace hub2 := hub2.kp kq18
  replace hub3 := hub3.kp kq18
  refine eff_call (some 19) rfl (by kernel_rfl) (vprim_ok hub1 hub2 hub3 (by omega) hd) ?_
  rintro e17 w17 ⟨⟨t17_0, t17_1, t17_2, t17_3, t17_4, t17_5, t17_6, t17_7, t17_8, t17_9, t17_10, t17_11, rfl, h17a, h17b, h17c⟩, g17⟩
  refine ⟨_, rfl, ?_⟩
  replace hB := Gr.trans hB g17
  refine k16 _ _ ?_
  try clear k16 K16
  simp only [p1, p2, p3, p4]
  refine sq_val (some 16) (.tuple #[(.agg #[t17_0, t17_1, t17_2, t17_3, t17_4, t17_5, t17_6, t17_7, t17_8, t17_9, t17_10, t17_11]), (.int .i64 0)]) rfl rfl (by kernel_rfl) (rvk (by kernel_rfl)) ?_
  simp only [p1, p2, p3, p4]
  refine sq_val (some 20) (.agg #[t17_0, t17_1, t17_2, t17_3, t17_4, t17_5, t17_6, t17_7, t17_8, t17_9, t17_10, t17_11]) rfl rfl (by kernel_rfl) (rvk (by kernel_rfl)) ?_
  simp only [p1, p2, p3, p4]
  refine sq_val (some 21) (.int .i64 0) rfl rfl (by kernel_rfl) (rvk (by kernel_rfl)) ?_
  simp only [p1, p2, p3, p4]
  refine sq_eff rfl (by kernel_rfl) (fun K19 k19 => ?_)
  refine eff_alloc 33 (.agg #[(.bool false), (.slice none 0 0), (.bool false), (.slice none 0 0), (.bool false), (.slice none 0 0), (.bool false), (.slice none 0 0), (.bool false), (.slice none 0 0), (.bool false), (.slice none 0 0)]) #[(.bool false), (.slice none 0 0), (.bool false), (.slice none 0 0), (.bool false), (.slice none 0 0), (.bool false), (.slice none 0 0), (.bool false), (.slice none 0 0), (.bool false), (.slice none 0 0)] (some 3) rfl rfl (by kernel_rfl) rfl (fun b20 w20 g20 L20 q20 => ?_)
  replace L3 := L3.gr g17
  have ne3_20 := L3.ne q20
  replace L5 := L5.gr (g9.trans (g14.trans g17))
  have ne5_20 := L5.ne q20
  replace q20 := Nat.le_trans (Below.size hB) q20
  replace hB := Gr.trans hB g20
  refine k19 _ _ ?_
  try clear k19 K19
  simp only [p1, p2, p3, p4]
  refine sq_eff rfl (by kernel_rfl) (fun K21 k21 => ?_)
  refine eff_store 33 _ _ b20 0 (.agg #[t17_0, t17_1, t17_2, t17_3, t17_4, t17_5, t17_6, t17_7, t17_8, t17_9, t17_10, t17_11]) [t17_0, t17_1, t17_2, t17_3, t17_4, t17_5, t17_6, t17_7, t17_8, t17_9, t17_10, t17_11] _ #[t17_0, t17_1, t17_2, t17_3, t17_4, t17_5, t17_6, t17_7, t17_8, t17_9, t17_10, t17_11] _ rfl rfl rfl rfl rfl L20 (by kernel_rfl) (Nat.le_of_ble_eq_true rfl) ⟨h17a.one0, h17a.one1, h17a.one2, h17a.one3, h17b.one0, h17b.one1, h17b.one2, h17b.one3, h17c.one0, h17c.one1, h17c.one2, h17c.one3, trivial⟩ (by kernel_rfl) (fun w22 st22 N22 => ?_)
  have kp22 := st22.kp L20 (by decide)
  replace hB := st22.gr hB q20
  replace L20 := N22
  refine k21 _ _ ?_
  try clear k21 K21
  refine sq_val (some 4) (.int .i64 0) rfl rfl (by kernel_rfl) (rvk (by kernel_rfl)) ?_
  simp only [p1, p2, p3, p4]
  refine sq_nil ?_
  refine k15 _ _ ?_
  try clear k15 K15
  refine wp_seq_k (fun K23 k23 => ?_)
  refine wp_region ?_
  simp only [List.size_toArray, List.length_cons, List.length_nil, Nat.reduceAdd, List.range, List.range.loop]
  refine sq_val (some 22) (.agg #[t17_0, t17_1, t17_2, t17_3, t17_4, t17_5, t17_6, t17_7, t17_8, t17_9, t17_10, t17_11]) rfl rfl (by kernel_rfl) (rv_load 33 _ b20 0 _ _ [t17_0, t17_1, t17_2, t17_3, t17_4, t17_5, t17_6, t17_7, t17_8, t17_9, t17_10, t17_11] rfl rfl L20 rfl (by kernel_rfl)) ?_
  simp only [p1, p2, p3, p4]
  refine sq_val (some 23) (.agg #[(.int .i64 1), t17_0, t17_1, t17_2, t17_3, t17_4, t17_5, t17_6, t17_7, t17_8, t17_9, t17_10, t17_11, (.bool false), (.slice none 0 0), (.bool false), (.slice none 0 0), (.bool false), (.slice none 0 0), (.bool false), (.slice none 0 0), (.bool false), (.slice none 0 0), (.bool false), (.slice none 0 0), (.bool false), (.slice none 0 0), (.bool false), (.slice none 0 0)]) rfl rfl (by kernel_rfl) (rvk (by kernel_rfl)) ?_
  simp only [p1, p2, p3, p4]
  refine sq_eff rfl (by kernel_rfl) (fun K24 k24 => ?_)
  replace L5 := st22.lc (L5.gr g20) ne5_20
  refine eff_store 38 _ _ b5 0 (.agg #[(.int .i64 1), t17_0, t17_1, t17_2, t17_3, t17_4, t17_5, t17_6, t17_7, t17_8, t17_9, t17_10, t17_11, (.bool false), (.slice none 0 0), (.bool false), (.slice none 0 0), (.bool false), (.slice none 0 0), (.bool false), (.slice none 0 0), (.bool false), (.slice none 0 0), (.bool false), (.slice none 0 0), (.bool false), (.slice none 0 0), (.bool false), (.slice none 0 0)]) [(.int .i64 1), t17_0, t17_1, t17_2, t17_3, t17_4, t17_5, t17_6, t17_7, t17_8, t17_9, t17_10, t17_11, (.bool false), (.slice none 0 0), (.bool false), (.slice none 0 0), (.bool false), (.slice none 0 0), (.bool false), (.slice none 0 0), (.bool false), (.slice none 0 0), (.bool false), (.slice none 0 0), (.bool false), (.slice none 0 0), (.bool false), (.slice none 0 0)] _ #[(.int .i64 1), t17_0, t17_1, t17_2, t17_3, t17_4, t17_5, t17_6, t17_7, t17_8, t17_9, t17_10, t17_11, (.bool false), (.slice none 0 0), (.bool false), (.slice none 0 0), (.bool false), (.slice none 0 0), (.bool false), (.slice none 0 0), (.bool false), (.slice none 0 0), (.bool false), (.slice none 0 0), (.bool false), (.slice none 0 0), (.bool false), (.slice none 0 0)] _ rfl rfl rfl rfl rfl L5 (by kernel_rfl) (Nat.le_of_ble_eq_true rfl) ⟨rfl, h17a.one0, h17a.one1, h17a.one2, h17a.one3, h17b.one0, h17b.one1, h17b.one2, h17b.one3, h17c.one0, h17c.one1, h17c.one2, h17c.one3, rfl, rfl, rfl, rfl, rfl, rfl, rfl, rfl, rfl, rfl, rfl, rfl, rfl, rfl, rfl, rfl, trivial⟩ (by kernel_rfl) (fun w25 st25 N25 => ?_)
  have kp25 := st25.kp L5 (by decide)
  replace hB := st25.gr hB q5
  replace L5 := N25
  refine k24 _ _ ?_
  try clear k24 K24
  refine sq_nil ?_
  refine k23 _ _ ?_
  try clear k23 K23
  refine wp_ret ?_
  simp only [Exit.then]
  refine bodyPost_ret (v := (.agg #[(.int .i64 1), t17_0, t17_1, t17_2, t17_3, t17_4, t17_5, t17_6, t17_7, t17_8, t17_9, t17_10, t17_11, (.bool false), (.slice none 0 0), (.bool false), (.slice none 0 0), (.bool false), (.slice none 0 0), (.bool false), (.slice none 0 0), (.bool false), (.slice none 0 0), (.bool false), (.slice none 0 0), (.bool false), (.slice none 0 0), (.bool false), (.slice none 0 0)])) (ret_cell _ _ _ rfl rfl L5 (by kernel_rfl)) rfl ⟨?_, hB⟩
  have kq26 := g20.kp.trans (kp22.trans kp25)
  replace h17a := h17a.kp kq26
  replace h17b := h17b.kp kq26
  replace h17c := h17c.kp kq26
  exact ⟨_, _, _, _, _, _, _, _, _, _, _, _, _, _, _, _, _, _, _, _, _, _, _, _, _, _, _, _, rfl, h17a.mono (by omega), h17b.mono (by omega), h17c.mono (by omega), IsRat.zero _ (by omega), IsRat.zero _ (by omega), IsRat.zero _ (by omega), IsRat.zero _ (by omega)⟩

set_option maxRecDepth 100000 in
set_option maxHeartbeats 8000000 in
theorem axis_r {k : Nat} {uaa0 uaa1 uaa2 uaa3 uab0 uab1 uab2 uab3 uac0 uac1 uac2 uac3 : Value} {a1 a2 a3 : Rat} {uba0 uba1 uba2 uba3 ubb0 ubb1 ubb2 ubb3 ubc0 ubc1 ubc2 ubc3 : Value} {d1 d2 d3 : Rat} {w : World} (hua1 : IsRat w k uaa0 uaa1 uaa2 uaa3 a1) (hua2 : IsRat w k uab0 uab1 uab2 uab3 a2) (hua3 : IsRat w k uac0 uac1 uac2 uac3 a3) (hub1 : IsRat w k uba0 uba1 uba2 uba3 d1) (hub2 : IsRat w k ubb0 ubb1 ubb2 ubb3 d2) (hub3 : IsRat w k ubc0 ubc1 ubc2 ubc3 d3) (_hk : k ≤ 2000) (ha : ¬(a1 = 0 ∧ a2 = 0 ∧ a3 = 0)) (hp : ((0 + a1 * d1 + a2 * d2 + a3 * d3) * (((1 : Int) : Rat) / (0 + a1 * a1 + a2 * a2 + a3 * a3))) = 0) :
    Calls Tryd.prog 11 #[(.agg #[uaa0, uaa1, uaa2, uaa3, uab0, uab1, uab2, uab3, uac0, uac1, uac2, uac3, uba0, uba1, uba2, uba3, ubb0, ubb1, ubb2, ubb3, ubc0, ubc1, ubc2, ubc3])] w fun e w' => (∃ t0 t1 t2 t3 t4 t5 t6 t7 t8 t9 t10 t11 t12 t13 t14 t15 t16 t17 t18 t19 t20 t21 t22 t23 t24 t25 t26 t27, e = .returned (.agg #[.int .i64 2, t0, t1, t2, t3, t4, t5, t6, t7, t8, t9, t10, t11, t12, t13, t14, t15, t16, t17, t18, t19, t20, t21, t22, t23, t24, t25, t26, t27]) ∧ IsRat w' (20 * k + 1000) t0 t1 t2 t3 (prim a1 a2 a3 a1) ∧ IsRat w' (20 * k + 1000) t4 t5 t6 t7 (prim a1 a2 a3 a2) ∧ IsRat w' (20 * k + 1000) t8 t9 t10 t11 (prim a1 a2 a3 a3) ∧ IsRat w' (20 * k + 1000) t12 t13 t14 t15 ((((1 : Int) : Rat) / (0 + a1 * a1 + a2 * a2 + a3 * a3)) * (a2 * d3 - a3 * d2)) ∧ IsRat w' (20 * k + 1000) t16 t17 t18 t19 ((((1 : Int) : Rat) / (0 + a1 * a1 + a2 * a2 + a3 * a3)) * (a3 * d1 - a1 * d3)) ∧ IsRat w' (20 * k + 1000) t20 t21 t22 t23 ((((1 : Int) : Rat) / (0 + a1 * a1 + a2 * a2 + a3 * a3)) * (a1 * d2 - a2 * d1)) ∧ IsRat w' (20 * k + 1000) t24 t25 t26 t27 (((0 + a1 * d1 + a2 * d2 + a3 * d3) * (((1 : Int) : Rat) / (0 + a1 * a1 + a2 * a2 + a3 * a3))))) ∧ Gr w w' := by
  have e1 := vzero_false.2 ha
  have e3 := sgnz_f hp
  have hbig := hua1.big
  have hdv := num_pos (dot_pos ha)
  go_enter Tryd.func11, Tryd.ntmps11
  have hB := Gr.refl w
  refine wp_seq_k (fun K1 k1 => ?_)
  refine wp_region ?_
  simp only [List.size_toArray, List.length_cons, List.length_nil, Nat.reduceAdd, List.range, List.range.loop]
  refine sq_eff rfl (by kernel_rfl) (fun K2 k2 => ?_)
  refine eff_box 35 _ (.agg #[uaa0, uaa1, uaa2, uaa3, uab0, uab1, uab2, uab3, uac0, uac1, uac2, uac3, uba0, uba1, uba2, uba3, ubb0, ubb1, ubb2, ubb3, ubc0, ubc1, ubc2, ubc3]) #[uaa0, uaa1, uaa2, uaa3, uab0, uab1, uab2, uab3, uac0, uac1, uac2, uac3, uba0, uba1, uba2, uba3, ubb0, ubb1, ubb2, ubb3, ubc0, ubc1, ubc2, ubc3] (some 1) rfl rfl rfl rfl (fun b3 w3 g3 L3 q3 => ?_)
  replace q3 := Nat.le_trans (Below.size hB) q3
  replace hB := Gr.trans hB g3
  refine k2 _ _ ?_
  try clear k2 K2
  simp only [p1, p2, p3, p4]
  refine sq_eff rfl (by kernel_rfl) (fun K4 k4 => ?_)
  refine eff_alloc 38 (.agg #[(.int .i64 0), (.bool false), (.slice none 0 0), (.bool false), (.slice none 0 0), (.bool false), (.slice none 0 0), (.bool false), (.slice none 0 0), (.bool false), (.slice none 0 0), (.bool false), (.slice none 0 0), (.bool false), (.slice none 0 0), (.bool false), (.slice none 0 0), (.bool false), (.slice none 0 0), (.bool false), (.slice none 0 0), (.bool false), (.slice none 0 0), (.bool false), (.slice none 0 0), (.bool false), (.slice none 0 0), (.bool false), (.slice none 0 0)]) #[(.int .i64 0), (.bool false), (.slice none 0 0), (.bool false), (.slice none 0 0), (.bool false), (.slice none 0 0), (.bool false), (.slice none 0 0), (.bool false), (.slice none 0 0), (.bool false), (.slice none 0 0), (.bool false), (.slice none 0 0), (.bool false), (.slice none 0 0), (.bool false), (.slice none 0 0), (.bool false), (.slice none 0 0), (.bool false), (.slice none 0 0), (.bool false), (.slice none 0 0), (.bool false), (.slice none 0 0), (.bool false), (.slice none 0 0)] (some 2) rfl rfl (by kernel_rfl) rfl (fun b5 w5 g5 L5 q5 => ?_)
  have ne3_5 := L3.ne q5
  replace q5 := Nat.le_trans (Below.size hB) q5
  replace hB := Gr.trans hB g5
  refine k4 _ _ ?_
  try clear k4 K4
  simp only [p1, p2, p3, p4]
  refine sq_nil ?_
  refine k1 _ _ ?_
  try clear k1 K1
  refine wp_seq_k (fun K6 k6 => ?_)
  refine wp_seq_k (fun K7 k7 => ?_)
  refine wp_region ?_
  simp only [List.size_toArray, List.length_cons, List.length_nil, Nat.reduceAdd, List.range, List.range.loop]
  replace L3 := L3.gr g5
  refine sq_val (some 10) (.agg #[uaa0, uaa1, uaa2, uaa3, uab0, uab1, uab2, uab3, uac0, uac1, uac2, uac3, uba0, uba1, uba2, uba3, ubb0, ubb1, ubb2, ubb3, ubc0, ubc1, ubc2, ubc3]) rfl rfl (by kernel_rfl) (rv_load 35 _ b3 0 _ _ [uaa0, uaa1, uaa2, uaa3, uab0, uab1, uab2, uab3, uac0, uac1, uac2, uac3, uba0, uba1, uba2, uba3, ubb0, ubb1, ubb2, ubb3, ubc0, ubc1, ubc2, ubc3] rfl rfl L3 rfl (by kernel_rfl)) ?_
  simp only [p1, p2, p3, p4]
  refine sq_eff rfl (by kernel_rfl) (fun K8 k8 => ?_)
  have kq10 := g3.kp.trans g5.kp
  replace hua1 := hua1.kp kq10
  replace hua2 := hua2.kp kq10
  replace hua3 := hua3.kp kq10
  replace hub1 := hub1.kp kq10
  replace hub2 := hub2.kp kq10
  replace hub3 := hub3.kp kq10
  refine eff_call (some 11) rfl (by kernel_rfl) (tzero_f hua1 hua2 hua3 hub1 hub2 hub3 (by omega) e1) ?_
  rintro e9 w9 ⟨rfl, g9⟩
  refine ⟨_, rfl, ?_⟩
  replace hB := Gr.trans hB g9
  refine k8 _ _ ?_
  try clear k8 K8
  simp only [p1, p2, p3, p4]
  refine sq_nil ?_
  refine k7 _ _ ?_
  try clear k7 K7
  refine wp_cond_false rfl ?_
  refine wp_skip ?_
  refine k6 _ _ ?_
  try clear k6 K6
  refine wp_seq_k (fun K11 k11 => ?_)
  refine wp_seq_k (fun K12 k12 => ?_)
  refine wp_region ?_
  simp only [List.size_toArray, List.length_cons, List.length_nil, Nat.reduceAdd, List.range, List.range.loop]
  refine sq_val (some 13) (.pointer (some ⟨b3, 0, none⟩)) rfl rfl (by kernel_rfl) (rvk (by kernel_rfl)) ?_
  simp only [p1, p2, p3, p4]
  replace L3 := L3.gr g9
  refine sq_val (some 14) (.agg #[uaa0, uaa1, uaa2, uaa3, uab0, uab1, uab2, uab3, uac0, uac1, uac2, uac3]) rfl rfl (by kernel_rfl) (rv_load 33 _ b3 0 _ _ [uaa0, uaa1, uaa2, uaa3, uab0, uab1, uab2, uab3, uac0, uac1, uac2, uac3] rfl rfl L3 rfl (by kernel_rfl)) ?_
  simp only [p1, p2, p3, p4]
  refine sq_eff rfl (by kernel_rfl) (fun K13 k13 => ?_)
  replace hua1 := hua1.kp g9.kp
  replace hua2 := hua2.kp g9.kp
  replace hua3 := hua3.kp g9.kp
  refine eff_call (some 15) rfl (by kernel_rfl) (vzero_b hua1 hua2 hua3 (by omega) false e1) ?_
  rintro e14 w14 ⟨rfl, g14⟩
  refine ⟨_, rfl, ?_⟩
  replace hB := Gr.trans hB g14
  refine k13 _ _ ?_
  try clear k13 K13
  simp only [p1, p2, p3, p4]
  refine sq_nil ?_
  refine k12 _ _ ?_
  try clear k12 K12
  refine wp_cond_false rfl ?_
  refine wp_skip ?_
  refine k11 _ _ ?_
  try clear k11 K11
  refine wp_seq_k (fun K15 k15 => ?_)
  refine wp_region ?_
  simp only [List.size_toArray, List.length_cons, List.length_nil, Nat.reduceAdd, List.range, List.range.loop]
  refine sq_val (some 25) (.pointer (some ⟨b3, 0, none⟩)) rfl rfl (by kernel_rfl) (rvk (by kernel_rfl)) ?_
  simp only [p1, p2, p3, p4]
  replace L3 := L3.gr g14
  refine sq_val (some 26) (.agg #[uaa0, uaa1, uaa2, uaa3, uab0, uab1, uab2, uab3, uac0, uac1, uac2, uac3]) rfl rfl (by kernel_rfl) (rv_load 33 _ b3 0 _ _ [uaa0, uaa1, uaa2, uaa3, uab0, uab1, uab2, uab3, uac0, uac1, uac2, uac3] rfl rfl L3 rfl (by kernel_rfl)) ?_
  simp only [p1, p2, p3, p4]
  refine sq_eff rfl (by kernel_rfl) (fun K16 k16 => ?_)
  replace hua1 := hua1.kp g14.kp
  replace hua2 := hua2.kp g14.kp
  replace hua3 := hua3.kp g14.kp
  refine eff_call (some 27) rfl (by kernel_rfl) (vprim_ok hua1 hua2 hua3 (by omega) ha) ?_
  rintro e17 w17 ⟨⟨t17_0, t17_1, t17_2, t17_3, t17_4, t17_5, t17_6, t17_7, t17_8, t17_9, t17_10, t17_11, rfl, h17a, h17b, h17c⟩, g17⟩
  refine ⟨_, rfl, ?_⟩
  replace hB := Gr.trans hB g17
  refine k16 _ _ ?_
  try clear k16 K16
  simp only [p1, p2, p3, p4]
  refine sq_val (some 24) (.tuple #[(.agg #[t17_0, t17_1, t17_2, t17_3, t17_4, t17_5, t17_6, t17_7, t17_8, t17_9, t17_10, t17_11]), (.int .i64 0)]) rfl rfl (by kernel_rfl) (rvk (by kernel_rfl)) ?_
  simp only [p1, p2, p3, p4]
  refine sq_val (some 28) (.agg #[t17_0, t17_1, t17_2, t17_3, t17_4, t17_5, t17_6, t17_7, t17_8, t17_9, t17_10, t17_11]) rfl rfl (by kernel_rfl) (rvk (by kernel_rfl)) ?_
  simp only [p1, p2, p3, p4]
  refine sq_val (some 29) (.int .i64 0) rfl rfl (by kernel_rfl) (rvk (by kernel_rfl)) ?_
  simp only [p1, p2, p3, p4]
  refine sq_eff rfl (by kernel_rfl) (fun K18 k18 => ?_)
  refine eff_alloc 33 (.agg #[(.bool false), (.slice none 0 0), (.bool false), (.slice none 0 0), (.bool false), (.slice none 0 0), (.bool false), (.slice none 0 0), (.bool false), (.slice none 0 0), (.bool false), (.slice none 0 0)]) #[(.bool false), (.slice none 0 0), (.bool false), (.slice none 0 0), (.bool false), (.slice none 0 0), (.bool false), (.slice none 0 0), (.bool false), (.slice none 0 0), (.bool false), (.slice none 0 0)] (some 5) rfl rfl (by kernel_rfl) rfl (fun b19 w19 g19 L19 q19 => ?_)
  replace L3 := L3.gr g17
  have ne3_19 := L3.ne q19
  replace L5 := L5.gr (g9.trans (g14.trans g17))
  have ne5_19 := L5.ne q19
  replace q19 := Nat.le_trans (Below.size hB) q19
  replace hB := Gr.trans hB g19
  refine k18 _ _ ?_
  try clear k18 K18
  simp only [p1, p2, p3, p4]
  refine sq_eff rfl (by kernel_rfl) (fun K20 k20 => ?_)
  refine eff_store 33 _ _ b19 0 (.agg #[t17_0, t17_1, t17_2, t17_3, t17_4, t17_5, t17_6, t17_7, t17_8, t17_9, t17_10, t17_11]) [t17_0, t17_1, t17_2, t17_3, t17_4, t17_5, t17_6, t17_7, t17_8, t17_9, t17_10, t17_11] _ #[t17_0, t17_1, t17_2, t17_3, t17_4, t17_5, t17_6, t17_7, t17_8, t17_9, t17_10, t17_11] _ rfl rfl rfl rfl rfl L19 (by kernel_rfl) (Nat.le_of_ble_eq_true rfl) ⟨h17a.one0, h17a.one1, h17a.one2, h17a.one3, h17b.one0, h17b.one1, h17b.one2, h17b.one3, h17c.one0, h17c.one1, h17c.one2, h17c.one3, trivial⟩ (by kernel_rfl) (fun w21 st21 N21 => ?_)
  have kp21 := st21.kp L19 (by decide)
  replace hB := st21.gr hB q19
  replace L19 := N21
  refine k20 _ _ ?_
  try clear k20 K20
  refine sq_val (some 6) (.int .i64 0) rfl rfl (by kernel_rfl) (rvk (by kernel_rfl)) ?_
  simp only [p1, p2, p3, p4]
  refine sq_nil ?_
  refine k15 _ _ ?_
  try clear k15 K15
  refine wp_seq_k (fun K22 k22 => ?_)
  have hz23 := Below.size hB
  replace L3 := st21.lc (L3.gr g19) ne3_19
  have lt3_23 := L3.lt
  replace L5 := st21.lc (L5.gr g19) ne5_19
  have lt5_23 := L5.lt
  have lt19_23 := L19.lt
  have gd23 := Gr.drew w21
  replace hB := Gr.trans hB gd23
  replace L3 := L3.gr gd23
  refine wp_region_flo (fun w' => Lc w' b3 #[uaa0, uaa1, uaa2, uaa3, uab0, uab1, uab2, uab3, uac0, uac1, uac2, uac3, uba0, uba1, uba2, uba3, ubb0, ubb1, ubb2, ubb3, ubc0, ubc1, ubc2, ubc3] 35) [(true, 1), (true, 2), (true, 3), (true, 4), (false, 0), (false, 5), (false, 6), (true, 7), (true, 8), (true, 9)] [⟨10, 7, 31, #[(.bool false), (.slice none 0 0), (.bool false), (.slice none 0 0)]⟩] [(false, 11), (true, 12)] (by kernel_rfl) (by kernel_rfl) (by kernel_rfl) (by kernel_rfl) (by kernel_rfl) (by decide) (fun _ _ _ _ _ h => h) (fun _ _ _ _ _ h => h) (fun w' o h => Lc.gr h (Gr.alloc w' o)) L3 (by intro f hf; simp only [List.mem_cons, List.not_mem_nil, or_false] at hf; rcases hf with rfl <;> first | exact alloc_zero (z := (.agg #[(.bool false), (.slice none 0 0), (.bool false), (.slice none 0 0)])) (by kernel_rfl) rfl) ?_
  refine flo_pure (some 32) (.pointer (some ⟨b3, 0, none⟩)) rfl rfl rfl (fun w' hS => (rvk (by kernel_rfl))) ?_
  simp only [p1, p2, p3, p4]
  refine flo_pure (some 33) (.agg #[uaa0, uaa1, uaa2, uaa3, uab0, uab1, uab2, uab3, uac0, uac1, uac2, uac3]) rfl rfl rfl (fun w' hS => (rv_load 33 _ b3 0 _ _ [uaa0, uaa1, uaa2, uaa3, uab0, uab1, uab2, uab3, uac0, uac1, uac2, uac3] rfl rfl hS rfl (by kernel_rfl))) ?_
  simp only [p1, p2, p3, p4]
  refine flo_pure (some 34) (.pointer (some ⟨b3, 0, none⟩)) rfl rfl rfl (fun w' hS => (rvk (by kernel_rfl))) ?_
  simp only [p1, p2, p3, p4]
  refine flo_pure (some 35) (.agg #[uaa0, uaa1, uaa2, uaa3, uab0, uab1, uab2, uab3, uac0, uac1, uac2, uac3]) rfl rfl rfl (fun w' hS => (rv_load 33 _ b3 0 _ _ [uaa0, uaa1, uaa2, uaa3, uab0, uab1, uab2, uab3, uac0, uac1, uac2, uac3] rfl rfl hS rfl (by kernel_rfl))) ?_
  simp only [p1, p2, p3, p4]
  refine flo_eff rfl rfl (fun w24 g24 _ K24 k24 => ?_)
  replace hB := Gr.trans hB g24
  refine eff_call (some 31) rfl (by kernel_rfl) (from_r (1) (by omega) (by omega) _) ?_
  rintro e25 w25 ⟨⟨p25, q25, r25, s25, rfl, h25⟩, g25⟩
  refine ⟨_, rfl, ?_⟩
  replace hB := Gr.trans hB g25
  replace L3 := L3.gr (g24.trans g25)
  refine k24 _ _ g25 L3 ?_
  try clear k24 K24
  simp only [p1, p2, p3, p4]
  refine flo_eff rfl rfl (fun w26 g26 _ K26 k26 => ?_)
  replace hB := Gr.trans hB g26
  have kq28 := g17.kp.trans (g19.kp.trans (kp21.trans (gd23.kp.trans (g24.kp.trans (g25.kp.trans g26.kp)))))
  replace hua1 := hua1.kp kq28
  replace hua2 := hua2.kp kq28
  replace hua3 := hua3.kp kq28
  refine eff_call (some 36) rfl (by kernel_rfl) (dot_v hua1 hua2 hua3 hua1 hua2 hua3 (by omega)) ?_
  rintro e27 w27 ⟨⟨p27, q27, r27, s27, rfl, h27⟩, g27⟩
  refine ⟨_, rfl, ?_⟩
  replace hB := Gr.trans hB g27
  replace L3 := L3.gr (g26.trans g27)
  refine k26 _ _ g27 L3 ?_
  try clear k26 K26
  simp only [p1, p2, p3, p4]
  refine flo_eff rfl rfl (fun w29 g29 _ K29 k29 => ?_)
  replace hB := Gr.trans hB g29
  have kq31 := g26.kp.trans (g27.kp.trans g29.kp)
  replace h25 := h25.kp kq31
  replace h27 := h27.kp g29.kp
  refine eff_call (some 37) rfl (by kernel_rfl) (div_r h25 h27 (by omega) hdv) ?_
  rintro e30 w30 ⟨⟨p30, q30, r30, s30, rfl, h30⟩, g30⟩
  refine ⟨_, rfl, ?_⟩
  replace hB := Gr.trans hB g30
  replace L3 := L3.gr (g29.trans g30)
  refine k29 _ _ g30 L3 ?_
  try clear k29 K29
  simp only [p1, p2, p3, p4]
  refine flo_pure (some 30) (.tuple #[(.agg #[p30, q30, r30, s30]), (.int .i64 0)]) rfl rfl rfl (fun w' hS => (rvk (by kernel_rfl))) ?_
  simp only [p1, p2, p3, p4]
  refine flo_pure (some 38) (.agg #[p30, q30, r30, s30]) rfl rfl rfl (fun w' hS => (rvk (by kernel_rfl))) ?_
  simp only [p1, p2, p3, p4]
  refine flo_pure (some 39) (.int .i64 0) rfl rfl rfl (fun w' hS => (rvk (by kernel_rfl))) ?_
  simp only [p1, p2, p3, p4]
  refine flo_nil (fun w32 g32 _ => ?_)
  replace hB := Gr.trans hB g32
  refine floFin1 (fun b33 (L33 : Lc w32 b33 #[(.bool false), (.slice none 0 0), (.bool false), (.slice none 0 0)] 31) q33  => ?_)
  have ne3_33 : b3 ≠ b33 := Nat.ne_of_lt (Nat.lt_of_lt_of_le lt3_23 q33)
  have ne5_33 : b5 ≠ b33 := Nat.ne_of_lt (Nat.lt_of_lt_of_le lt5_23 q33)
  have ne19_33 : b19 ≠ b33 := Nat.ne_of_lt (Nat.lt_of_lt_of_le lt19_23 q33)
  replace q33 := Nat.le_trans hz23 q33
  simp only [p1, p2, p3, p4]
  refine ord_eff rfl rfl (fun K34 k34 => ?_)
  refine eff_store 31 _ _ b33 0 (.agg #[p30, q30, r30, s30]) [p30, q30, r30, s30] _ #[p30, q30, r30, s30] _ rfl rfl rfl rfl rfl L33 (by kernel_rfl) (Nat.le_of_ble_eq_true rfl) ⟨h30.one0, h30.one1, h30.one2, h30.one3, trivial⟩ (by kernel_rfl) (fun w35 st35 N35 => ?_)
  have kp35 := st35.kp L33 (by decide)
  replace hB := st35.gr hB q33
  replace L33 := N35
  replace L3 := st35.lc (L3.gr g32) ne3_33
  refine k34 _ _ L3 ?_
  try clear k34 K34
  refine ord_pure (some 8) (.int .i64 0) rfl rfl rfl (fun w' hS => (rvk (by kernel_rfl))) ?_
  simp only [p1, p2, p3, p4]
  refine ord_nil ?_
  refine k22 _ _ ?_
  try clear k22 K22
  refine wp_seq_k (fun K36 k36 => ?_)
  have hz37 := Below.size hB
  have lt3_37 := L3.lt
  replace L5 := st35.lc (L5.gr (gd23.trans (g24.trans (g25.trans (g26.trans (g27.trans (g29.trans (g30.trans g32)))))))) ne5_33
  have lt5_37 := L5.lt
  replace L19 := st35.lc (L19.gr (gd23.trans (g24.trans (g25.trans (g26.trans (g27.trans (g29.trans (g30.trans g32)))))))) ne19_33
  have lt19_37 := L19.lt
  have lt33_37 := L33.lt
  have gd37 := Gr.drew w35
  replace hB := Gr.trans hB gd37
  replace L3 := L3.gr gd37
  replace L19 := L19.gr gd37
  replace L33 := L33.gr gd37
  refine wp_region_flo (fun w' => Lc w' b3 #[uaa0, uaa1, uaa2, uaa3, uab0, uab1, uab2, uab3, uac0, uac1, uac2, uac3, uba0, uba1, uba2, uba3, ubb0, ubb1, ubb2, ubb3, ubc0, ubc1, ubc2, ubc3] 35 ∧ Lc w' b19 #[t17_0, t17_1, t17_2, t17_3, t17_4, t17_5, t17_6, t17_7, t17_8, t17_9, t17_10, t17_11] 33 ∧ Lc w' b33 #[p30, q30, r30, s30] 31) [(true, 0), (true, 1), (true, 2), (true, 3), (true, 4), (true, 6), (false, 5), (false, 7), (true, 8)] [⟨9, 9, 38, #[(.int .i64 0), (.bool false), (.slice none 0 0), (.bool false), (.slice none 0 0), (.bool false), (.slice none 0 0), (.bool false), (.slice none 0 0), (.bool false), (.slice none 0 0), (.bool false), (.slice none 0 0), (.bool false), (.slice none 0 0), (.bool false), (.slice none 0 0), (.bool false), (.slice none 0 0), (.bool false), (.slice none 0 0), (.bool false), (.slice none 0 0), (.bool false), (.slice none 0 0), (.bool false), (.slice none 0 0), (.bool false), (.slice none 0 0)]⟩] [(false, 10)] (by kernel_rfl) (by kernel_rfl) (by kernel_rfl) (by kernel_rfl) (by kernel_rfl) (by decide) (fun _ _ _ _ _ h => h) (fun _ _ _ _ _ h => h) (fun w' o h => ⟨Lc.gr h.1 (Gr.alloc w' o), Lc.gr h.2.1 (Gr.alloc w' o), Lc.gr h.2.2 (Gr.alloc w' o)⟩) ⟨L3, L19, L33⟩ (by intro f hf; simp only [List.mem_cons, List.not_mem_nil, or_false] at hf; rcases hf with rfl <;> first | exact alloc_zero (z := (.agg #[(.int .i64 0), (.bool false), (.slice none 0 0), (.bool false), (.slice none 0 0), (.bool false), (.slice none 0 0), (.bool false), (.slice none 0 0), (.bool false), (.slice none 0 0), (.bool false), (.slice none 0 0), (.bool false), (.slice none 0 0), (.bool false), (.slice none 0 0), (.bool false), (.slice none 0 0), (.bool false), (.slice none 0 0), (.bool false), (.slice none 0 0), (.bool false), (.slice none 0 0), (.bool false), (.slice none 0 0), (.bool false), (.slice none 0 0)])) (by kernel_rfl) rfl) ?_
  refine flo_pure (some 40) (.agg #[t17_0, t17_1, t17_2, t17_3, t17_4, t17_5, t17_6, t17_7, t17_8, t17_9, t17_10, t17_11]) rfl rfl rfl (fun w' hS => (rv_load 33 _ b19 0 _ _ [t17_0, t17_1, t17_2, t17_3, t17_4, t17_5, t17_6, t17_7, t17_8, t17_9, t17_10, t17_11] rfl rfl hS.2.1 rfl (by kernel_rfl))) ?_
  simp only [p1, p2, p3, p4]
  refine flo_pure (some 41) (.pointer (some ⟨b3, 0, none⟩)) rfl rfl rfl (fun w' hS => (rvk (by kernel_rfl))) ?_
  simp only [p1, p2, p3, p4]
  refine flo_pure (some 42) (.agg #[uaa0, uaa1, uaa2, uaa3, uab0, uab1, uab2, uab3, uac0, uac1, uac2, uac3]) rfl rfl rfl (fun w' hS => (rv_load 33 _ b3 0 _ _ [uaa0, uaa1, uaa2, uaa3, uab0, uab1, uab2, uab3, uac0, uac1, uac2, uac3] rfl rfl hS.1 rfl (by kernel_rfl))) ?_
  simp only [p1, p2, p3, p4]
  refine flo_pure (some 43) (.pointer (some ⟨b3, 12, none⟩)) rfl rfl rfl (fun w' hS => (rvk (by kernel_rfl))) ?_
  simp only [p1, p2, p3, p4]
  refine flo_pure (some 44) (.agg #[uba0, uba1, uba2, uba3, ubb0, ubb1, ubb2, ubb3, ubc0, ubc1, ubc2, ubc3]) rfl rfl rfl (fun w' hS => (rv_load 33 _ b3 12 _ _ [uba0, uba1, uba2, uba3, ubb0, ubb1, ubb2, ubb3, ubc0, ubc1, ubc2, ubc3] rfl rfl hS.1 rfl (by kernel_rfl))) ?_
  simp only [p1, p2, p3, p4]
  refine flo_pure (some 46) (.agg #[p30, q30, r30, s30]) rfl rfl rfl (fun w' hS => (rv_load 31 _ b33 0 _ _ [p30, q30, r30, s30] rfl rfl hS.2.2 rfl (by kernel_rfl))) ?_
  simp only [p1, p2, p3, p4]
  refine flo_eff rfl rfl (fun w38 g38 _ K38 k38 => ?_)
  replace hB := Gr.trans hB g38
  have kq40 := g27.kp.trans (g29.kp.trans (g30.kp.trans (g32.kp.trans (kp35.trans (gd37.kp.trans g38.kp)))))
  replace hua1 := hua1.kp kq40
  replace hua2 := hua2.kp kq40
  replace hua3 := hua3.kp kq40
  have kq41 := g9.kp.trans (g14.kp.trans (g17.kp.trans (g19.kp.trans (kp21.trans (gd23.kp.trans (g24.kp.trans (g25.kp.trans (g26.kp.trans (g27.kp.trans (g29.kp.trans (g30.kp.trans (g32.kp.trans (kp35.trans (gd37.kp.trans g38.kp))))))))))))))
  replace hub1 := hub1.kp kq41
  replace hub2 := hub2.kp kq41
  replace hub3 := hub3.kp kq41
  refine eff_call (some 45) rfl (by kernel_rfl) (cross_v hua1 hua2 hua3 hub1 hub2 hub3 (by omega)) ?_
  rintro e39 w39 ⟨⟨t39_0, t39_1, t39_2, t39_3, t39_4, t39_5, t39_6, t39_7, t39_8, t39_9, t39_10, t39_11, rfl, h39a, h39b, h39c⟩, g39⟩
  refine ⟨_, rfl, ?_⟩
  replace hB := Gr.trans hB g39
  replace L3 := L3.gr (g38.trans g39)
  replace L19 := L19.gr (g38.trans g39)
  replace L33 := L33.gr (g38.trans g39)
  refine k38 _ _ g39 ⟨L3, L19, L33⟩ ?_
  try clear k38 K38
  simp only [p1, p2, p3, p4]
  refine flo_eff rfl rfl (fun w42 g42 _ K42 k42 => ?_)
  replace hB := Gr.trans hB g42
  replace h39a := h39a.kp g42.kp
  replace h39b := h39b.kp g42.kp
  replace h39c := h39c.kp g42.kp
  have kq44 := g32.kp.trans (kp35.trans (gd37.kp.trans (g38.kp.trans (g39.kp.trans g42.kp))))
  replace h30 := h30.kp kq44
  refine eff_call (some 47) rfl (by kernel_rfl) (vscale_v h39a h39b h39c h30 (by omega)) ?_
  rintro e43 w43 ⟨⟨t43_0, t43_1, t43_2, t43_3, t43_4, t43_5, t43_6, t43_7, t43_8, t43_9, t43_10, t43_11, rfl, h43a, h43b, h43c⟩, g43⟩
  refine ⟨_, rfl, ?_⟩
  replace hB := Gr.trans hB g43
  replace L3 := L3.gr (g42.trans g43)
  replace L19 := L19.gr (g42.trans g43)
  replace L33 := L33.gr (g42.trans g43)
  refine k42 _ _ g43 ⟨L3, L19, L33⟩ ?_
  try clear k42 K42
  simp only [p1, p2, p3, p4]
  refine flo_pure (some 48) (.agg #[(.int .i64 2), t17_0, t17_1, t17_2, t17_3, t17_4, t17_5, t17_6, t17_7, t17_8, t17_9, t17_10, t17_11, t43_0, t43_1, t43_2, t43_3, t43_4, t43_5, t43_6, t43_7, t43_8, t43_9, t43_10, t43_11, (.bool false), (.slice none 0 0), (.bool false), (.slice none 0 0)]) rfl rfl rfl (fun w' hS => (rvk (by kernel_rfl))) ?_
  simp only [p1, p2, p3, p4]
  refine flo_nil (fun w45 g45 _ => ?_)
  replace hB := Gr.trans hB g45
  refine floFin1 (fun b46 (L46 : Lc w45 b46 #[(.int .i64 0), (.bool false), (.slice none 0 0), (.bool false), (.slice none 0 0), (.bool false), (.slice none 0 0), (.bool false), (.slice none 0 0), (.bool false), (.slice none 0 0), (.bool false), (.slice none 0 0), (.bool false), (.slice none 0 0), (.bool false), (.slice none 0 0), (.bool false), (.slice none 0 0), (.bool false), (.slice none 0 0), (.bool false), (.slice none 0 0), (.bool false), (.slice none 0 0), (.bool false), (.slice none 0 0), (.bool false), (.slice none 0 0)] 38) q46  => ?_)
  have ne3_46 : b3 ≠ b46 := Nat.ne_of_lt (Nat.lt_of_lt_of_le lt3_37 q46)
  have ne5_46 : b5 ≠ b46 := Nat.ne_of_lt (Nat.lt_of_lt_of_le lt5_37 q46)
  have ne19_46 : b19 ≠ b46 := Nat.ne_of_lt (Nat.lt_of_lt_of_le lt19_37 q46)
  have ne33_46 : b33 ≠ b46 := Nat.ne_of_lt (Nat.lt_of_lt_of_le lt33_37 q46)
  replace q46 := Nat.le_trans hz37 q46
  simp only [p1, p2, p3, p4]
  refine ord_eff rfl rfl (fun K47 k47 => ?_)
  refine eff_store 38 _ _ b46 0 (.agg #[(.int .i64 2), t17_0, t17_1, t17_2, t17_3, t17_4, t17_5, t17_6, t17_7, t17_8, t17_9, t17_10, t17_11, t43_0, t43_1, t43_2, t43_3, t43_4, t43_5, t43_6, t43_7, t43_8, t43_9, t43_10, t43_11, (.bool false), (.slice none 0 0), (.bool false), (.slice none 0 0)]) [(.int .i64 2), t17_0, t17_1, t17_2, t17_3, t17_4, t17_5, t17_6, t17_7, t17_8, t17_9, t17_10, t17_11, t43_0, t43_1, t43_2, t43_3, t43_4, t43_5, t43_6, t43_7, t43_8, t43_9, t43_10, t43_11, (.bool false), (.slice none 0 0), (.bool false), (.slice none 0 0)] _ #[(.int .i64 2), t17_0, t17_1, t17_2, t17_3, t17_4, t17_5, t17_6, t17_7, t17_8, t17_9, t17_10, t17_11, t43_0, t43_1, t43_2, t43_3, t43_4, t43_5, t43_6, t43_7, t43_8, t43_9, t43_10, t43_11, (.bool false), (.slice none 0 0), (.bool false), (.slice none 0 0)] _ rfl rfl rfl rfl rfl L46 (by kernel_rfl) (Nat.le_of_ble_eq_true rfl) ⟨rfl, h17a.one0, h17a.one1, h17a.one2, h17a.one3, h17b.one0, h17b.one1, h17b.one2, h17b.one3, h17c.one0, h17c.one1, h17c.one2, h17c.one3, h43a.one0, h43a.one1, h43a.one2, h43a.one3, h43b.one0, h43b.one1, h43b.one2, h43b.one3, h43c.one0, h43c.one1, h43c.one2, h43c.one3, rfl, rfl, rfl, rfl, trivial⟩ (by kernel_rfl) (fun w48 st48 N48 => ?_)
  have kp48 := st48.kp L46 (by decide)
  replace hB := st48.gr hB q46
  replace L46 := N48
  replace L3 := st48.lc (L3.gr g45) ne3_46
  replace L19 := st48.lc (L19.gr g45) ne19_46
  replace L33 := st48.lc (L33.gr g45) ne33_46
  refine k47 _ _ ⟨L3, L19, L33⟩ ?_
  try clear k47 K47
  refine ord_nil ?_
  refine k36 _ _ ?_
  try clear k36 K36
  refine wp_seq_k (fun K49 k49 => ?_)
  have gd59 := Gr.drew w48
  replace hB := Gr.trans hB gd59
  replace L3 := L3.gr gd59
  replace L33 := L33.gr gd59
  refine wp_region_ord (fun w' => Lc w' b3 #[uaa0, uaa1, uaa2, uaa3, uab0, uab1, uab2, uab3, uac0, uac1, uac2, uac3, uba0, uba1, uba2, uba3, ubb0, ubb1, ubb2, ubb3, ubc0, ubc1, ubc2, ubc3] 35 ∧ Lc w' b33 #[p30, q30, r30, s30] 31) [(true, 0), (true, 1), (true, 2), (true, 3), (true, 5), (false, 4), (false, 6), (true, 7), (false, 8)] (by kernel_rfl) (by kernel_rfl) (by kernel_rfl) (by decide) (fun _ _ _ _ _ h => h) ⟨L3, L33⟩ ?_
  refine ord_pure (some 49) (.pointer (some ⟨b3, 0, none⟩)) rfl rfl rfl (fun w' hS => (rvk (by kernel_rfl))) ?_
  simp only [p1, p2, p3, p4]
  refine ord_pure (some 50) (.agg #[uaa0, uaa1, uaa2, uaa3, uab0, uab1, uab2, uab3, uac0, uac1, uac2, uac3]) rfl rfl rfl (fun w' hS => (rv_load 33 _ b3 0 _ _ [uaa0, uaa1, uaa2, uaa3, uab0, uab1, uab2, uab3, uac0, uac1, uac2, uac3] rfl rfl hS.1 rfl (by kernel_rfl))) ?_
  simp only [p1, p2, p3, p4]
  refine ord_pure (some 51) (.pointer (some ⟨b3, 12, none⟩)) rfl rfl rfl (fun w' hS => (rvk (by kernel_rfl))) ?_
  simp only [p1, p2, p3, p4]
  refine ord_pure (some 52) (.agg #[uba0, uba1, uba2, uba3, ubb0, ubb1, ubb2, ubb3, ubc0, ubc1, ubc2, ubc3]) rfl rfl rfl (fun w' hS => (rv_load 33 _ b3 12 _ _ [uba0, uba1, uba2, uba3, ubb0, ubb1, ubb2, ubb3, ubc0, ubc1, ubc2, ubc3] rfl rfl hS.1 rfl (by kernel_rfl))) ?_
  simp only [p1, p2, p3, p4]
  refine ord_pure (some 54) (.agg #[p30, q30, r30, s30]) rfl rfl rfl (fun w' hS => (rv_load 31 _ b33 0 _ _ [p30, q30, r30, s30] rfl rfl hS.2 rfl (by kernel_rfl))) ?_
  simp only [p1, p2, p3, p4]
  refine ord_eff rfl rfl (fun K60 k60 => ?_)
  have kq62 := g39.kp.trans (g42.kp.trans (g43.kp.trans (g45.kp.trans (kp48.trans gd59.kp))))
  replace hua1 := hua1.kp kq62
  replace hua2 := hua2.kp kq62
  replace hua3 := hua3.kp kq62
  replace hub1 := hub1.kp kq62
  replace hub2 := hub2.kp kq62
  replace hub3 := hub3.kp kq62
  refine eff_call (some 53) rfl (by kernel_rfl) (dot_v hua1 hua2 hua3 hub1 hub2 hub3 (by omega)) ?_
  rintro e61 w61 ⟨⟨p61, q61, r61, s61, rfl, h61⟩, g61⟩
  refine ⟨_, rfl, ?_⟩
  replace hB := Gr.trans hB g61
  replace L3 := L3.gr g61
  replace L33 := L33.gr g61
  refine k60 _ _ ⟨L3, L33⟩ ?_
  try clear k60 K60
  simp only [p1, p2, p3, p4]
  refine ord_eff rfl rfl (fun K63 k63 => ?_)
  have kq65 := g43.kp.trans (g45.kp.trans (kp48.trans (gd59.kp.trans g61.kp)))
  replace h30 := h30.kp kq65
  refine eff_call (some 55) rfl (by kernel_rfl) (mul_r h61 h30 (by omega)) ?_
  rintro e64 w64 ⟨⟨p64, q64, r64, s64, rfl, h64⟩, g64⟩
  refine ⟨_, rfl, ?_⟩
  replace hB := Gr.trans hB g64
  replace L3 := L3.gr g64
  replace L33 := L33.gr g64
  refine k63 _ _ ⟨L3, L33⟩ ?_
  try clear k63 K63
  simp only [p1, p2, p3, p4]
  refine ord_pure (some 56) (.pointer (some ⟨b46, 25, none⟩)) rfl rfl rfl (fun w' hS => (rvk (by kernel_rfl))) ?_
  simp only [p1, p2, p3, p4]
  refine ord_eff rfl rfl (fun K66 k66 => ?_)
  replace L46 := L46.gr (gd59.trans (g61.trans g64))
  refine eff_store 31 _ _ b46 25 (.agg #[p64, q64, r64, s64]) [p64, q64, r64, s64] _ #[(.int .i64 2), t17_0, t17_1, t17_2, t17_3, t17_4, t17_5, t17_6, t17_7, t17_8, t17_9, t17_10, t17_11, t43_0, t43_1, t43_2, t43_3, t43_4, t43_5, t43_6, t43_7, t43_8, t43_9, t43_10, t43_11, p64, q64, r64, s64] _ rfl rfl rfl rfl rfl L46 (by kernel_rfl) (Nat.le_of_ble_eq_true rfl) ⟨h64.one0, h64.one1, h64.one2, h64.one3, trivial⟩ (by kernel_rfl) (fun w67 st67 N67 => ?_)
  have kp67 := st67.kp L46 (by decide)
  replace hB := st67.gr hB q46
  replace L46 := N67
  replace L3 := st67.lc L3 ne3_46
  replace L33 := st67.lc L33 ne33_46
  refine k66 _ _ ⟨L3, L33⟩ ?_
  try clear k66 K66
  refine ord_nil ?_
  refine k49 _ _ ?_
  try clear k49 K49
  refine wp_seq_k (fun K68 k68 => ?_)
  refine wp_seq_k (fun K69 k69 => ?_)
  refine wp_region ?_
  simp only [List.size_toArray, List.length_cons, List.length_nil, Nat.reduceAdd, List.range, List.range.loop]
  refine sq_val (some 57) (.pointer (some ⟨b46, 25, none⟩)) rfl rfl (by kernel_rfl) (rvk (by kernel_rfl)) ?_
  simp only [p1, p2, p3, p4]
  refine sq_val (some 58) (.agg #[p64, q64, r64, s64]) rfl rfl (by kernel_rfl) (rv_load 31 _ b46 25 _ _ [p64, q64, r64, s64] rfl rfl L46 rfl (by kernel_rfl)) ?_
  simp only [p1, p2, p3, p4]
  refine sq_eff rfl (by kernel_rfl) (fun K70 k70 => ?_)
  replace h64 := h64.kp kp67
  refine eff_call (some 59) rfl (by kernel_rfl) (sign_r h64) ?_
  rintro e71 w71 ⟨rfl, g71⟩
  refine ⟨_, rfl, ?_⟩
  replace hB := Gr.trans hB g71
  refine k70 _ _ ?_
  try clear k70 K70
  simp only [p1, p2, p3, p4]
  refine sq_val (some 60) (.bool false) rfl rfl (by kernel_rfl) (RunV.bool (x := (sgn (((0 + a1 * d1 + a2 * d2 + a3 * d3) * ((((1 : Int) : Rat)) / (0 + a1 * a1 + a2 * a2 + a3 * a3)))).num != (0 : Int))) (rvk (by kernel_rfl)) e3) ?_
  simp only [p1, p2, p3, p4]
  refine sq_nil ?_
  refine k69 _ _ ?_
  try clear k69 K69
  refine wp_cond_false rfl ?_
  refine wp_skip ?_
  refine k68 _ _ ?_
  try clear k68 K68
  refine wp_seq_k (fun K72 k72 => ?_)
  refine wp_region ?_
  simp only [List.size_toArray, List.length_cons, List.length_nil, Nat.reduceAdd, List.range, List.range.loop]
  replace L46 := L46.gr g71
  refine sq_val (some 62) (.agg #[(.int .i64 2), t17_0, t17_1, t17_2, t17_3, t17_4, t17_5, t17_6, t17_7, t17_8, t17_9, t17_10, t17_11, t43_0, t43_1, t43_2, t43_3, t43_4, t43_5, t43_6, t43_7, t43_8, t43_9, t43_10, t43_11, p64, q64, r64, s64]) rfl rfl (by kernel_rfl) (rv_load 38 _ b46 0 _ _ [(.int .i64 2), t17_0, t17_1, t17_2, t17_3, t17_4, t17_5, t17_6, t17_7, t17_8, t17_9, t17_10, t17_11, t43_0, t43_1, t43_2, t43_3, t43_4, t43_5, t43_6, t43_7, t43_8, t43_9, t43_10, t43_11, p64, q64, r64, s64] rfl rfl L46 rfl (by kernel_rfl)) ?_
  simp only [p1, p2, p3, p4]
  refine sq_eff rfl (by kernel_rfl) (fun K73 k73 => ?_)
  replace L5 := (st67.lc ((st48.lc (L5.gr (gd37.trans (g38.trans (g39.trans (g42.trans (g43.trans g45)))))) ne5_46).gr (gd59.trans (g61.trans g64))) ne5_46).gr g71
  refine eff_store 38 _ _ b5 0 (.agg #[(.int .i64 2), t17_0, t17_1, t17_2, t17_3, t17_4, t17_5, t17_6, t17_7, t17_8, t17_9, t17_10, t17_11, t43_0, t43_1, t43_2, t43_3, t43_4, t43_5, t43_6, t43_7, t43_8, t43_9, t43_10, t43_11, p64, q64, r64, s64]) [(.int .i64 2), t17_0, t17_1, t17_2, t17_3, t17_4, t17_5, t17_6, t17_7, t17_8, t17_9, t17_10, t17_11, t43_0, t43_1, t43_2, t43_3, t43_4, t43_5, t43_6, t43_7, t43_8, t43_9, t43_10, t43_11, p64, q64, r64, s64] _ #[(.int .i64 2), t17_0, t17_1, t17_2, t17_3, t17_4, t17_5, t17_6, t17_7, t17_8, t17_9, t17_10, t17_11, t43_0, t43_1, t43_2, t43_3, t43_4, t43_5, t43_6, t43_7, t43_8, t43_9, t43_10, t43_11, p64, q64, r64, s64] _ rfl rfl rfl rfl rfl L5 (by kernel_rfl) (Nat.le_of_ble_eq_true rfl) ⟨rfl, h17a.one0, h17a.one1, h17a.one2, h17a.one3, h17b.one0, h17b.one1, h17b.one2, h17b.one3, h17c.one0, h17c.one1, h17c.one2, h17c.one3, h43a.one0, h43a.one1, h43a.one2, h43a.one3, h43b.one0, h43b.one1, h43b.one2, h43b.one3, h43c.one0, h43c.one1, h43c.one2, h43c.one3, h64.one0, h64.one1, h64.one2, h64.one3, trivial⟩ (by kernel_rfl) (fun w74 st74 N74 => ?_)
  have kp74 := st74.kp L5 (by decide)
  replace hB := st74.gr hB q5
  replace L5 := N74
  refine k73 _ _ ?_
  try clear k73 K73
  refine sq_nil ?_
  refine k72 _ _ ?_
  try clear k72 K72
  refine wp_ret ?_
  refine bodyPost_ret (v := (.agg #[(.int .i64 2), t17_0, t17_1, t17_2, t17_3, t17_4, t17_5, t17_6, t17_7, t17_8, t17_9, t17_10, t17_11, t43_0, t43_1, t43_2, t43_3, t43_4, t43_5, t43_6, t43_7, t43_8, t43_9, t43_10, t43_11, p64, q64, r64, s64])) (ret_cell _ _ _ rfl rfl L5 (by kernel_rfl)) rfl ⟨?_, hB⟩
  have kq75 := g19.kp.trans (kp21.trans (gd23.kp.trans (g24.kp.trans (g25.kp.trans (g26.kp.trans (g27.kp.trans (g29.kp.trans (g30.kp.trans (g32.kp.trans (kp35.trans (gd37.kp.trans (g38.kp.trans (g39.kp.trans (g42.kp.trans (g43.kp.trans (g45.kp.trans (kp48.trans (gd59.kp.trans (g61.kp.trans (g64.kp.trans (kp67.trans (g71.kp.trans kp74))))))))))))))))))))))
  replace h17a := h17a.kp kq75
  replace h17b := h17b.kp kq75
  replace h17c := h17c.kp kq75
  have kq76 := g45.kp.trans (kp48.trans (gd59.kp.trans (g61.kp.trans (g64.kp.trans (kp67.trans (g71.kp.trans kp74))))))
  replace h43a := h43a.kp kq76
  replace h43b := h43b.kp kq76
  replace h43c := h43c.kp kq76
  have kq77 := g71.kp.trans kp74
  replace h64 := h64.kp kq77
  exact ⟨_, _, _, _, _, _, _, _, _, _, _, _, _, _, _, _, _, _, _, _, _, _, _, _, _, _, _, _, rfl, h17a.mono (by omega), h17b.mono (by omega), h17c.mono (by omega), h43a.mono (by omega), h43b.mono (by omega), h43c.mono (by omega), h64.mono (by omega)⟩

set_option maxRecDepth 100000 in
set_option maxHeartbeats 8000000 in
theorem axis_s {k : Nat} {uaa0 uaa1 uaa2 uaa3 uab0 uab1 uab2 uab3 uac0 uac1 uac2 uac3 : Value} {a1 a2 a3 : Rat} {uba0 uba1 uba2 uba3 ubb0 ubb1 ubb2 ubb3 ubc0 ubc1 ubc2 ubc3 : Value} {d1 d2 d3 : Rat} {w : World} (hua1 : IsRat w k uaa0 uaa1 uaa2 uaa3 a1) (hua2 : IsRat w k uab0 uab1 uab2 uab3 a2) (hua3 : IsRat w k uac0 uac1 uac2 uac3 a3) (hub1 : IsRat w k uba0 uba1 uba2 uba3 d1) (hub2 : IsRat w k ubb0 ubb1 ubb2 ubb3 d2) (hub3 : IsRat w k ubc0 ubc1 ubc2 ubc3 d3) (_hk : k ≤ 2000) (ha : ¬(a1 = 0 ∧ a2 = 0 ∧ a3 = 0)) (hp : ((0 + a1 * d1 + a2 * d2 + a3 * d3) * (((1 : Int) : Rat) / (0 + a1 * a1 + a2 * a2 + a3 * a3))) ≠ 0) :
    Calls Tryd.prog 11 #[(.agg #[uaa0, uaa1, uaa2, uaa3, uab0, uab1, uab2, uab3, uac0, uac1, uac2, uac3, uba0, uba1, uba2, uba3, ubb0, ubb1, ubb2, ubb3, ubc0, ubc1, ubc2, ubc3])] w fun e w' => (∃ t0 t1 t2 t3 t4 t5 t6 t7 t8 t9 t10 t11 t12 t13 t14 t15 t16 t17 t18 t19 t20 t21 t22 t23 t24 t25 t26 t27, e = .returned (.agg #[.int .i64 3, t0, t1, t2, t3, t4, t5, t6, t7, t8, t9, t10, t11, t12, t13, t14, t15, t16, t17, t18, t19, t20, t21, t22, t23, t24, t25, t26, t27]) ∧ IsRat w' (20 * k + 1000) t0 t1 t2 t3 (prim a1 a2 a3 a1) ∧ IsRat w' (20 * k + 1000) t4 t5 t6 t7 (prim a1 a2 a3 a2) ∧ IsRat w' (20 * k + 1000) t8 t9 t10 t11 (prim a1 a2 a3 a3) ∧ IsRat w' (20 * k + 1000) t12 t13 t14 t15 ((((1 : Int) : Rat) / (0 + a1 * a1 + a2 * a2 + a3 * a3)) * (a2 * d3 - a3 * d2)) ∧ IsRat w' (20 * k + 1000) t16 t17 t18 t19 ((((1 : Int) : Rat) / (0 + a1 * a1 + a2 * a2 + a3 * a3)) * (a3 * d1 - a1 * d3)) ∧ IsRat w' (20 * k + 1000) t20 t21 t22 t23 ((((1 : Int) : Rat) / (0 + a1 * a1 + a2 * a2 + a3 * a3)) * (a1 * d2 - a2 * d1)) ∧ IsRat w' (20 * k + 1000) t24 t25 t26 t27 (((0 + a1 * d1 + a2 * d2 + a3 * d3) * (((1 : Int) : Rat) / (0 + a1 * a1 + a2 * a2 + a3 * a3))))) ∧ Gr w w' := by
  have e1 := vzero_false.2 ha
  have e3 := sgnz_t hp
  have hbig := hua1.big
  have hdv := num_pos (dot_pos ha)
  go_enter Tryd.func11, Tryd.ntmps11
  have hB := Gr.refl w
  refine wp_seq_k (fun K1 k1 => ?_)
  refine wp_region ?_
  simp only [List.size_toArray, List.length_cons, List.length_nil, Nat.reduceAdd, List.range, List.range.loop]
  refine sq_eff rfl (by kernel_rfl) (fun K2 k2 => ?_)
  refine eff_box 35 _ (.agg #[uaa0, uaa1, uaa2, uaa3, uab0, uab1, uab2, uab3, uac0, uac1, uac2, uac3, uba0, uba1, uba2, uba3, ubb0, ubb1, ubb2, ubb3, ubc0, ubc1, ubc2, ubc3]) #[uaa0, uaa1, uaa2, uaa3, uab0, uab1, uab2, uab3, uac0, uac1, uac2, uac3, uba0, uba1, uba2, uba3, ubb0, ubb1, ubb2, ubb3, ubc0, ubc1, ubc2, ubc3] (some 1) rfl rfl rfl rfl (fun b3 w3 g3 L3 q3 => ?_)
  replace q3 := Nat.le_trans (Below.size hB) q3
  replace hB := Gr.trans hB g3
  refine k2 _ _ ?_
  try clear k2 K2
  simp only [p1, p2, p3, p4]
  refine sq_eff rfl (by kernel_rfl) (fun K4 k4 => ?_)
  refine eff_alloc 38 (.agg #[(.int .i64 0), (.bool false), (.slice none 0 0), (.bool false), (.slice none 0 0), (.bool false), (.slice none 0 0), (.bool false), (.slice none 0 0), (.bool false), (.slice none 0 0), (.bool false), (.slice none 0 0), (.bool false), (.slice none 0 0), (.bool false), (.slice none 0 0), (.bool false), (.slice none 0 0), (.bool false), (.slice none 0 0), (.bool false), (.slice none 0 0), (.bool false), (.slice none 0 0), (.bool false), (.slice none 0 0), (.bool false), (.slice none 0 0)]) #[(.int .i64 0), (.bool false), (.slice none 0 0), (.bool false), (.slice none 0 0), (.bool false), (.slice none 0 0), (.bool false), (.slice none 0 0), (.bool false), (.slice none 0 0), (.bool false), (.slice none 0 0), (.bool false), (.slice none 0 0), (.bool false), (.slice none 0 0), (.bool false), (.slice none 0 0), (.bool false), (.slice none 0 0), (.bool false), (.slice none 0 0), (.bool false), (.slice none 0 0), (.bool false), (.slice none 0 0), (.bool false), (.slice none 0 0)] (some 2) rfl rfl (by kernel_rfl) rfl (fun b5 w5 g5 L5 q5 => ?_)
  have ne3_5 := L3.ne q5
  replace q5 := Nat.le_trans (Below.size hB) q5
  replace hB := Gr.trans hB g5
  refine k4 _ _ ?_
  try clear k4 K4
  simp only [p1, p2, p3, p4]
  refine sq_nil ?_
  refine k1 _ _ ?_
  try clear k1 K1
  refine wp_seq_k (fun K6 k6 => ?_)
  refine wp_seq_k (fun K7 k7 => ?_)
  refine wp_region ?_
  simp only [List.size_toArray, List.length_cons, List.length_nil, Nat.reduceAdd, List.range, List.range.loop]
  replace L3 := L3.gr g5
  refine sq_val (some 10) (.agg #[uaa0, uaa1, uaa2, uaa3, uab0, uab1, uab2, uab3, uac0, uac1, uac2, uac3, uba0, uba1, uba2, uba3, ubb0, ubb1, ubb2, ubb3, ubc0, ubc1, ubc2, ubc3]) rfl rfl (by kernel_rfl) (rv_load 35 _ b3 0 _ _ [uaa0, uaa1, uaa2, uaa3, uab0, uab1, uab2, uab3, uac0, uac1, uac2, uac3, uba0, uba1, uba2, uba3, ubb0, ubb1, ubb2, ubb3, ubc0, ubc1, ubc2, ubc3] rfl rfl L3 rfl (by kernel_rfl)) ?_
  simp only [p1, p2, p3, p4]
  refine sq_eff rfl (by kernel_rfl) (fun K8 k8 => ?_)
  have kq10 := g3.kp.trans g5.kp
  replace hua1 := hua1.kp kq10
  replace hua2 := hua2.kp kq10
  replace hua3 := hua3.kp kq10
  replace hub1 := hub1.kp kq10
  replace hub2 := hub2.kp kq10
  replace hub3 := hub3.kp kq10
  refine eff_call (some 11) rfl (by kernel_rfl) (tzero_f hua1 hua2 hua3 hub1 hub2 hub3 (by omega) e1) ?_
  rintro e9 w9 ⟨rfl, g9⟩
  refine ⟨_, rfl, ?_⟩
  replace hB := Gr.trans hB g9
  refine k8 _ _ ?_
  try clear k8 K8
  simp only [p1, p2, p3, p4]
  refine sq_nil ?_
  refine k7 _ _ ?_
  try clear k7 K7
  refine wp_cond_false rfl ?_
  refine wp_skip ?_
  refine k6 _ _ ?_
  try clear k6 K6
  refine wp_seq_k (fun K11 k11 => ?_)
  refine wp_seq_k (fun K12 k12 => ?_)
  refine wp_region ?_
  simp only [List.size_toArray, List.length_cons, List.length_nil, Nat.reduceAdd, List.range, List.range.loop]
  refine sq_val (some 13) (.pointer (some ⟨b3, 0, none⟩)) rfl rfl (by kernel_rfl) (rvk (by kernel_rfl)) ?_
  simp only [p1, p2, p3, p4]
  replace L3 := L3.gr g9
  refine sq_val (some 14) (.agg #[uaa0, uaa1, uaa2, uaa3, uab0, uab1, uab2, uab3, uac0, uac1, uac2, uac3]) rfl rfl (by kernel_rfl) (rv_load 33 _ b3 0 _ _ [uaa0, uaa1, uaa2, uaa3, uab0, uab1, uab2, uab3, uac0, uac1, uac2, uac3] rfl rfl L3 rfl (by kernel_rfl)) ?_
  simp only [p1, p2, p3, p4]
  refine sq_eff rfl (by kernel_rfl) (fun K13 k13 => ?_)
  replace hua1 := hua1.kp g9.kp
  replace hua2 := hua2.kp g9.kp
  replace hua3 := hua3.kp g9.kp
  refine eff_call (some 15) rfl (by kernel_rfl) (vzero_b hua1 hua2 hua3 (by omega) false e1) ?_
  rintro e14 w14 ⟨rfl, g14⟩
  refine ⟨_, rfl, ?_⟩
  replace hB := Gr.trans hB g14
  refine k13 _ _ ?_
  try clear k13 K13
  simp only [p1, p2, p3, p4]
  refine sq_nil ?_
  refine k12 _ _ ?_
  try clear k12 K12
  refine wp_cond_false rfl ?_
  refine wp_skip ?_
  refine k11 _ _ ?_
  try clear k11 K11
  refine wp_seq_k (fun K15 k15 => ?_)
  refine wp_region ?_
  simp only [List.size_toArray, List.length_cons, List.length_nil, Nat.reduceAdd, List.range, List.range.loop]
  refine sq_val (some 25) (.pointer (some ⟨b3, 0, none⟩)) rfl rfl (by kernel_rfl) (rvk (by kernel_rfl)) ?_
  simp only [p1, p2, p3, p4]
  replace L3 := L3.gr g14
  refine sq_val (some 26) (.agg #[uaa0, uaa1, uaa2, uaa3, uab0, uab1, uab2, uab3, uac0, uac1, uac2, uac3]) rfl rfl (by kernel_rfl) (rv_load 33 _ b3 0 _ _ [uaa0, uaa1, uaa2, uaa3, uab0, uab1, uab2, uab3, uac0, uac1, uac2, uac3] rfl rfl L3 rfl (by kernel_rfl)) ?_
  simp only [p1, p2, p3, p4]
  refine sq_eff rfl (by kernel_rfl) (fun K16 k16 => ?_)
  replace hua1 := hua1.kp g14.kp
  replace hua2 := hua2.kp g14.kp
  replace hua3 := hua3.kp g14.kp
  refine eff_call (some 27) rfl (by kernel_rfl) (vprim_ok hua1 hua2 hua3 (by omega) ha) ?_
  rintro e17 w17 ⟨⟨t17_0, t17_1, t17_2, t17_3, t17_4, t17_5, t17_6, t17_7, t17_8, t17_9, t17_10, t17_11, rfl, h17a, h17b, h17c⟩, g17⟩
  refine ⟨_, rfl, ?_⟩
  replace hB := Gr.trans hB g17
  refine k16 _ _ ?_
  try clear k16 K16
  simp only [p1, p2, p3, p4]
  refine sq_val (some 24) (.tuple #[(.agg #[t17_0, t17_1, t17_2, t17_3, t17_4, t17_5, t17_6, t17_7, t17_8, t17_9, t17_10, t17_11]), (.int .i64 0)]) rfl rfl (by kernel_rfl) (rvk (by kernel_rfl)) ?_
  simp only [p1, p2, p3, p4]
  refine sq_val (some 28) (.agg #[t17_0, t17_1, t17_2, t17_3, t17_4, t17_5, t17_6, t17_7, t17_8, t17_9, t17_10, t17_11]) rfl rfl (by kernel_rfl) (rvk (by kernel_rfl)) ?_
  simp only [p1, p2, p3, p4]
  refine sq_val (some 29) (.int .i64 0) rfl rfl (by kernel_rfl) (rvk (by kernel_rfl)) ?_
  simp only [p1, p2, p3, p4]
  refine sq_eff rfl (by kernel_rfl) (fun K18 k18 => ?_)
  refine eff_alloc 33 (.agg #[(.bool false), (.slice none 0 0), (.bool false), (.slice none 0 0), (.bool false), (.slice none 0 0), (.bool false), (.slice none 0 0), (.bool false), (.slice none 0 0), (.bool false), (.slice none 0 0)]) #[(.bool false), (.slice none 0 0), (.bool false), (.slice none 0 0), (.bool false), (.slice none 0 0), (.bool false), (.slice none 0 0), (.bool false), (.slice none 0 0), (.bool false), (.slice none 0 0)] (some 5) rfl rfl (by kernel_rfl) rfl (fun b19 w19 g19 L19 q19 => ?_)
  replace L3 := L3.gr g17
  have ne3_19 := L3.ne q19
  replace L5 := L5.gr (g9.trans (g14.trans g17))
  have ne5_19 := L5.ne q19
  replace q19 := Nat.le_trans (Below.size hB) q19
  replace hB := Gr.trans hB g19
  refine k18 _ _ ?_
  try clear k18 K18
  simp only [p1, p2, p3, p4]
  refine sq_eff rfl (by kernel_rfl) (fun K20 k20 => ?_)
  refine eff_store 33 _ _ b19 0 (.agg #[t17_0, t17_1, t17_2, t17_3, t17_4, t17_5, t17_6, t17_7, t17_8, t17_9, t17_10, t17_11]) [t17_0, t17_1, t17_2, t17_3, t17_4, t17_5, t17_6, t17_7, t17_8, t17_9, t17_10, t17_11] _ #[t17_0, t17_1, t17_2, t17_3, t17_4, t17_5, t17_6, t17_7, t17_8, t17_9, t17_10, t17_11] _ rfl rfl rfl rfl rfl L19 (by kernel_rfl) (Nat.le_of_ble_eq_true rfl) ⟨h17a.one0, h17a.one1, h17a.one2, h17a.one3, h17b.one0, h17b.one1, h17b.one2, h17b.one3, h17c.one0, h17c.one1, h17c.one2, h17c.one3, trivial⟩ (by kernel_rfl) (fun w21 st21 N21 => ?_)
  have kp21 := st21.kp L19 (by decide)
  replace hB := st21.gr hB q19
  replace L19 := N21
  refine k20 _ _ ?_
  try clear k20 K20
  refine sq_val (some 6) (.int .i64 0) rfl rfl (by kernel_rfl) (rvk (by kernel_rfl)) ?_
  simp only [p1, p2, p3, p4]
  refine sq_nil ?_
  refine k15 _ _ ?_
  try clear k15 K15
  refine wp_seq_k (fun K22 k22 => ?_)
  have hz23 := Below.size hB
  replace L3 := st21.lc (L3.gr g19) ne3_19
  have lt3_23 := L3.lt
  replace L5 := st21.lc (L5.gr g19) ne5_19
  have lt5_23 := L5.lt
  have lt19_23 := L19.lt
  have gd23 := Gr.drew w21
  replace hB := Gr.trans hB gd23
  replace L3 := L3.gr gd23
  refine wp_region_flo (fun w' => Lc w' b3 #[uaa0, uaa1, uaa2, uaa3, uab0, uab1, uab2, uab3, uac0, uac1, uac2, uac3, uba0, uba1, uba2, uba3, ubb0, ubb1, ubb2, ubb3, ubc0, ubc1, ubc2, ubc3] 35) [(true, 1), (true, 2), (true, 3), (true, 4), (false, 0), (false, 5), (false, 6), (true, 7), (true, 8), (true, 9)] [⟨10, 7, 31, #[(.bool false), (.slice none 0 0), (.bool false), (.slice none 0 0)]⟩] [(false, 11), (true, 12)] (by kernel_rfl) (by kernel_rfl) (by kernel_rfl) (by kernel_rfl) (by kernel_rfl) (by decide) (fun _ _ _ _ _ h => h) (fun _ _ _ _ _ h => h) (fun w' o h => Lc.gr h (Gr.alloc w' o)) L3 (by intro f hf; simp only [List.mem_cons, List.not_mem_nil, or_false] at hf; rcases hf with rfl <;> first | exact alloc_zero (z := (.agg #[(.bool false), (.slice none 0 0), (.bool false), (.slice none 0 0)])) (by kernel_rfl) rfl) ?_
  refine flo_pure (some 32) (.pointer (some ⟨b3, 0, none⟩)) rfl rfl rfl (fun w' hS => (rvk (by kernel_rfl))) ?_
  simp only [p1, p2, p3, p4]
  refine flo_pure (some 33) (.agg #[uaa0, uaa1, uaa2, uaa3, uab0, uab1, uab2, uab3, uac0, uac1, uac2, uac3]) rfl rfl rfl (fun w' hS => (rv_load 33 _ b3 0 _ _ [uaa0, uaa1, uaa2, uaa3, uab0, uab1, uab2, uab3, uac0, uac1, uac2, uac3] rfl rfl hS rfl (by kernel_rfl))) ?_
  simp only [p1, p2, p3, p4]
  refine flo_pure (some 34) (.pointer (some ⟨b3, 0, none⟩)) rfl rfl rfl (fun w' hS => (rvk (by kernel_rfl))) ?_
  simp only [p1, p2, p3, p4]
  refine flo_pure (some 35) (.agg #[uaa0, uaa1, uaa2, uaa3, uab0, uab1, uab2, uab3, uac0, uac1, uac2, uac3]) rfl rfl rfl (fun w' hS => (rv_load 33 _ b3 0 _ _ [uaa0, uaa1, uaa2, uaa3, uab0, uab1, uab2, uab3, uac0, uac1, uac2, uac3] rfl rfl hS rfl (by kernel_rfl))) ?_
  simp only [p1, p2, p3, p4]
  refine flo_eff rfl rfl (fun w24 g24 _ K24 k24 => ?_)
  replace hB := Gr.trans hB g24
  refine eff_call (some 31) rfl (by kernel_rfl) (from_r (1) (by omega) (by omega) _) ?_
  rintro e25 w25 ⟨⟨p25, q25, r25, s25, rfl, h25⟩, g25⟩
  refine ⟨_, rfl, ?_⟩
  replace hB := Gr.trans hB g25
  replace L3 := L3.gr (g24.trans g25)
  refine k24 _ _ g25 L3 ?_
  try clear k24 K24
  simp only [p1, p2, p3, p4]
  refine flo_eff rfl rfl (fun w26 g26 _ K26 k26 => ?_)
  replace hB := Gr.trans hB g26
  have kq28 := g17.kp.trans (g19.kp.trans (kp21.trans (gd23.kp.trans (g24.kp.trans (g25.kp.trans g26.kp)))))
  replace hua1 := hua1.kp kq28
  replace hua2 := hua2.kp kq28
  replace hua3 := hua3.kp kq28
  refine eff_call (some 36) rfl (by kernel_rfl) (dot_v hua1 hua2 hua3 hua1 hua2 hua3 (by omega)) ?_
  rintro e27 w27 ⟨⟨p27, q27, r27, s27, rfl, h27⟩, g27⟩
  refine ⟨_, rfl, ?_⟩
  replace hB := Gr.trans hB g27
  replace L3 := L3.gr (g26.trans g27)
  refine k26 _ _ g27 L3 ?_
  try clear k26 K26
  simp only [p1, p2, p3, p4]
  refine flo_eff rfl rfl (fun w29 g29 _ K29 k29 => ?_)
  replace hB := Gr.trans hB g29
  have kq31 := g26.kp.trans (g27.kp.trans g29.kp)
  replace h25 := h25.kp kq31
  replace h27 := h27.kp g29.kp
  refine eff_call (some 37) rfl (by kernel_rfl) (div_r h25 h27 (by omega) hdv) ?_
  rintro e30 w30 ⟨⟨p30, q30, r30, s30, rfl, h30⟩, g30⟩
  refine ⟨_, rfl, ?_⟩
  replace hB := Gr.trans hB g30
  replace L3 := L3.gr (g29.trans g30)
  refine k29 _ _ g30 L3 ?_
  try clear k29 K29
  simp only [p1, p2, p3, p4]
  refine flo_pure (some 30) (.tuple #[(.agg #[p30, q30, r30, s30]), (.int .i64 0)]) rfl rfl rfl (fun w' hS => (rvk (by kernel_rfl))) ?_
  simp only [p1, p2, p3, p4]
  refine flo_pure (some 38) (.agg #[p30, q30, r30, s30]) rfl rfl rfl (fun w' hS => (rvk (by kernel_rfl))) ?_
  simp only [p1, p2, p3, p4]
  refine flo_pure (some 39) (.int .i64 0) rfl rfl rfl (fun w' hS => (rvk (by kernel_rfl))) ?_
  simp only [p1, p2, p3, p4]
  refine flo_nil (fun w32 g32 _ => ?_)
  replace hB := Gr.trans hB g32
  refine floFin1 (fun b33 (L33 : Lc w32 b33 #[(.bool false), (.slice none 0 0), (.bool false), (.slice none 0 0)] 31) q33  => ?_)
  have ne3_33 : b3 ≠ b33 := Nat.ne_of_lt (Nat.lt_of_lt_of_le lt3_23 q33)
  have ne5_33 : b5 ≠ b33 := Nat.ne_of_lt (Nat.lt_of_lt_of_le lt5_23 q33)
  have ne19_33 : b19 ≠ b33 := Nat.ne_of_lt (Nat.lt_of_lt_of_le lt19_23 q33)
  replace q33 := Nat.le_trans hz23 q33
  simp only [p1, p2, p3, p4]
  refine ord_eff rfl rfl (fun K34 k34 => ?_)
  refine eff_store 31 _ _ b33 0 (.agg #[p30, q30, r30, s30]) [p30, q30, r30, s30] _ #[p30, q30, r30, s30] _ rfl rfl rfl rfl rfl L33 (by kernel_rfl) (Nat.le_of_ble_eq_true rfl) ⟨h30.one0, h30.one1, h30.one2, h30.one3, trivial⟩ (by kernel_rfl) (fun w35 st35 N35 => ?_)
  have kp35 := st35.kp L33 (by decide)
  replace hB := st35.gr hB q33
  replace L33 := N35
  replace L3 := st35.lc (L3.gr g32) ne3_33
  refine k34 _ _ L3 ?_
  try clear k34 K34
  refine ord_pure (some 8) (.int .i64 0) rfl rfl rfl (fun w' hS => (rvk (by kernel_rfl))) ?_
  simp only [p1, p2, p3, p4]
  refine ord_nil ?_
  refine k22 _ _ ?_
  try clear k22 K22
  refine wp_seq_k (fun K36 k36 => ?_)
  have hz37 := Below.size hB
  have lt3_37 := L3.lt
  replace L5 := st35.lc (L5.gr (gd23.trans (g24.trans (g25.trans (g26.trans (g27.trans (g29.trans (g30.trans g32)))))))) ne5_33
  have lt5_37 := L5.lt
  replace L19 := st35.lc (L19.gr (gd23.trans (g24.trans (g25.trans (g26.trans (g27.trans (g29.trans (g30.trans g32)))))))) ne19_33
  have lt19_37 := L19.lt
  have lt33_37 := L33.lt
  have gd37 := Gr.drew w35
  replace hB := Gr.trans hB gd37
  replace L3 := L3.gr gd37
  replace L19 := L19.gr gd37
  replace L33 := L33.gr gd37
  refine wp_region_flo (fun w' => Lc w' b3 #[uaa0, uaa1, uaa2, uaa3, uab0, uab1, uab2, uab3, uac0, uac1, uac2, uac3, uba0, uba1, uba2, uba3, ubb0, ubb1, ubb2, ubb3, ubc0, ubc1, ubc2, ubc3] 35 ∧ Lc w' b19 #[t17_0, t17_1, t17_2, t17_3, t17_4, t17_5, t17_6, t17_7, t17_8, t17_9, t17_10, t17_11] 33 ∧ Lc w' b33 #[p30, q30, r30, s30] 31) [(true, 0), (true, 1), (true, 2), (true, 3), (true, 4), (true, 6), (false, 5), (false, 7), (true, 8)] [⟨9, 9, 38, #[(.int .i64 0), (.bool false), (.slice none 0 0), (.bool false), (.slice none 0 0), (.bool false), (.slice none 0 0), (.bool false), (.slice none 0 0), (.bool false), (.slice none 0 0), (.bool false), (.slice none 0 0), (.bool false), (.slice none 0 0), (.bool false), (.slice none 0 0), (.bool false), (.slice none 0 0), (.bool false), (.slice none 0 0), (.bool false), (.slice none 0 0), (.bool false), (.slice none 0 0), (.bool false), (.slice none 0 0), (.bool false), (.slice none 0 0)]⟩] [(false, 10)] (by kernel_rfl) (by kernel_rfl) (by kernel_rfl) (by kernel_rfl) (by kernel_rfl) (by decide) (fun _ _ _ _ _ h => h) (fun _ _ _ _ _ h => h) (fun w' o h => ⟨Lc.gr h.1 (Gr.alloc w' o), Lc.gr h.2.1 (Gr.alloc w' o), Lc.gr h.2.2 (Gr.alloc w' o)⟩) ⟨L3, L19, L33⟩ (by intro f hf; simp only [List.mem_cons, List.not_mem_nil, or_false] at hf; rcases hf with rfl <;> first | exact alloc_zero (z := (.agg #[(.int .i64 0), (.bool false), (.slice none 0 0), (.bool false), (.slice none 0 0), (.bool false), (.slice none 0 0), (.bool false), (.slice none 0 0), (.bool false), (.slice none 0 0), (.bool false), (.slice none 0 0), (.bool false), (.slice none 0 0), (.bool false), (.slice none 0 0), (.bool false), (.slice none 0 0), (.bool false), (.slice none 0 0), (.bool false), (.slice none 0 0), (.bool false), (.slice none 0 0), (.bool false), (.slice none 0 0), (.bool false), (.slice none 0 0)])) (by kernel_rfl) rfl) ?_
  refine flo_pure (some 40) (.agg #[t17_0, t17_1, t17_2, t17_3, t17_4, t17_5, t17_6, t17_7, t17_8, t17_9, t17_10, t17_11]) rfl rfl rfl (fun w' hS => (rv_load 33 _ b19 0 _ _ [t17_0, t17_1, t17_2, t17_3, t17_4, t17_5, t17_6, t17_7, t17_8, t17_9, t17_10, t17_11] rfl rfl hS.2.1 rfl (by kernel_rfl))) ?_
  simp only [p1, p2, p3, p4]
  refine flo_pure (some 41) (.pointer (some ⟨b3, 0, none⟩)) rfl rfl rfl (fun w' hS => (rvk (by kernel_rfl))) ?_
  simp only [p1, p2, p3, p4]
  refine flo_pure (some 42) (.agg #[uaa0, uaa1, uaa2, uaa3, uab0, uab1, uab2, uab3, uac0, uac1, uac2, uac3]) rfl rfl rfl (fun w' hS => (rv_load 33 _ b3 0 _ _ [uaa0, uaa1, uaa2, uaa3, uab0, uab1, uab2, uab3, uac0, uac1, uac2, uac3] rfl rfl hS.1 rfl (by kernel_rfl))) ?_
  simp only [p1, p2, p3, p4]
  refine flo_pure (some 43) (.pointer (some ⟨b3, 12, none⟩)) rfl rfl rfl (fun w' hS => (rvk (by kernel_rfl))) ?_
  simp only [p1, p2, p3, p4]
  refine flo_pure (some 44) (.agg #[uba0, uba1, uba2, uba3, ubb0, ubb1, ubb2, ubb3, ubc0, ubc1, ubc2, ubc3]) rfl rfl rfl (fun w' hS => (rv_load 33 _ b3 12 _ _ [uba0, uba1, uba2, uba3, ubb0, ubb1, ubb2, ubb3, ubc0, ubc1, ubc2, ubc3] rfl rfl hS.1 rfl (by kernel_rfl))) ?_
  simp only [p1, p2, p3, p4]
  refine flo_pure (some 46) (.agg #[p30, q30, r30, s30]) rfl rfl rfl (fun w' hS => (rv_load 31 _ b33 0 _ _ [p30, q30, r30, s30] rfl rfl hS.2.2 rfl (by kernel_rfl))) ?_
  simp only [p1, p2, p3, p4]
  refine flo_eff rfl rfl (fun w38 g38 _ K38 k38 => ?_)
  replace hB := Gr.trans hB g38
  have kq40 := g27.kp.trans (g29.kp.trans (g30.kp.trans (g32.kp.trans (kp35.trans (gd37.kp.trans g38.kp)))))
  replace hua1 := hua1.kp kq40
  replace hua2 := hua2.kp kq40
  replace hua3 := hua3.kp kq40
  have kq41 := g9.kp.trans (g14.kp.trans (g17.kp.trans (g19.kp.trans (kp21.trans (gd23.kp.trans (g24.kp.trans (g25.kp.trans (g26.kp.trans (g27.kp.trans (g29.kp.trans (g30.kp.trans (g32.kp.trans (kp35.trans (gd37.kp.trans g38.kp))))))))))))))
  replace hub1 := hub1.kp kq41
  replace hub2 := hub2.kp kq41
  replace hub3 := hub3.kp kq41
  refine eff_call (some 45) rfl (by kernel_rfl) (cross_v hua1 hua2 hua3 hub1 hub2 hub3 (by omega)) ?_
  rintro e39 w39 ⟨⟨t39_0, t39_1, t39_2, t39_3, t39_4, t39_5, t39_6, t39_7, t39_8, t39_9, t39_10, t39_11, rfl, h39a, h39b, h39c⟩, g39⟩
  refine ⟨_, rfl, ?_⟩
  replace hB := Gr.trans hB g39
  replace L3 := L3.gr (g38.trans g39)
  replace L19 := L19.gr (g38.trans g39)
  replace L33 := L33.gr (g38.trans g39)
  refine k38 _ _ g39 ⟨L3, L19, L33⟩ ?_
  try clear k38 K38
  simp only [p1, p2, p3, p4]
  refine flo_eff rfl rfl (fun w42 g42 _ K42 k42 => ?_)
  replace hB := Gr.trans hB g42
  replace h39a := h39a.kp g42.kp
  replace h39b := h39b.kp g42.kp
  replace h39c := h39c.kp g42.kp
  have kq44 := g32.kp.trans (kp35.trans (gd37.kp.trans (g38.kp.trans (g39.kp.trans g42.kp))))
  replace h30 := h30.kp kq44
  refine eff_call (some 47) rfl (by kernel_rfl) (vscale_v h39a h39b h39c h30 (by omega)) ?_
  rintro e43 w43 ⟨⟨t43_0, t43_1, t43_2, t43_3, t43_4, t43_5, t43_6, t43_7, t43_8, t43_9, t43_10, t43_11, rfl, h43a, h43b, h43c⟩, g43⟩
  refine ⟨_, rfl, ?_⟩
  replace hB := Gr.trans hB g43
  replace L3 := L3.gr (g42.trans g43)
  replace L19 := L19.gr (g42.trans g43)
  replace L33 := L33.gr (g42.trans g43)
  refine k42 _ _ g43 ⟨L3, L19, L33⟩ ?_
  try clear k42 K42
  simp only [p1, p2, p3, p4]
  refine flo_pure (some 48) (.agg #[(.int .i64 2), t17_0, t17_1, t17_2, t17_3, t17_4, t17_5, t17_6, t17_7, t17_8, t17_9, t17_10, t17_11, t43_0, t43_1, t43_2, t43_3, t43_4, t43_5, t43_6, t43_7, t43_8, t43_9, t43_10, t43_11, (.bool false), (.slice none 0 0), (.bool false), (.slice none 0 0)]) rfl rfl rfl (fun w' hS => (rvk (by kernel_rfl))) ?_
  simp only [p1, p2, p3, p4]
  refine flo_nil (fun w45 g45 _ => ?_)
  replace hB := Gr.trans hB g45
  refine floFin1 (fun b46 (L46 : Lc w45 b46 #[(.int .i64 0), (.bool false), (.slice none 0 0), (.bool false), (.slice none 0 0), (.bool false), (.slice none 0 0), (.bool false), (.slice none 0 0), (.bool false), (.slice none 0 0), (.bool false), (.slice none 0 0), (.bool false), (.slice none 0 0), (.bool false), (.slice none 0 0), (.bool false), (.slice none 0 0), (.bool false), (.slice none 0 0), (.bool false), (.slice none 0 0), (.bool false), (.slice none 0 0), (.bool false), (.slice none 0 0), (.bool false), (.slice none 0 0)] 38) q46  => ?_)
  have ne3_46 : b3 ≠ b46 := Nat.ne_of_lt (Nat.lt_of_lt_of_le lt3_37 q46)
  have ne5_46 : b5 ≠ b46 := Nat.ne_of_lt (Nat.lt_of_lt_of_le lt5_37 q46)
  have ne19_46 : b19 ≠ b46 := Nat.ne_of_lt (Nat.lt_of_lt_of_le lt19_37 q46)
  have ne33_46 : b33 ≠ b46 := Nat.ne_of_lt (Nat.lt_of_lt_of_le lt33_37 q46)
  replace q46 := Nat.le_trans hz37 q46
  simp only [p1, p2, p3, p4]
  refine ord_eff rfl rfl (fun K47 k47 => ?_)
  refine eff_store 38 _ _ b46 0 (.agg #[(.int .i64 2), t17_0, t17_1, t17_2, t17_3, t17_4, t17_5, t17_6, t17_7, t17_8, t17_9, t17_10, t17_11, t43_0, t43_1, t43_2, t43_3, t43_4, t43_5, t43_6, t43_7, t43_8, t43_9, t43_10, t43_11, (.bool false), (.slice none 0 0), (.bool false), (.slice none 0 0)]) [(.int .i64 2), t17_0, t17_1, t17_2, t17_3, t17_4, t17_5, t17_6, t17_7, t17_8, t17_9, t17_10, t17_11, t43_0, t43_1, t43_2, t43_3, t43_4, t43_5, t43_6, t43_7, t43_8, t43_9, t43_10, t43_11, (.bool false), (.slice none 0 0), (.bool false), (.slice none 0 0)] _ #[(.int .i64 2), t17_0, t17_1, t17_2, t17_3, t17_4, t17_5, t17_6, t17_7, t17_8, t17_9, t17_10, t17_11, t43_0, t43_1, t43_2, t43_3, t43_4, t43_5, t43_6, t43_7, t43_8, t43_9, t43_10, t43_11, (.bool false), (.slice none 0 0), (.bool false), (.slice none 0 0)] _ rfl rfl rfl rfl rfl L46 (by kernel_rfl) (Nat.le_of_ble_eq_true rfl) ⟨rfl, h17a.one0, h17a.one1, h17a.one2, h17a.one3, h17b.one0, h17b.one1, h17b.one2, h17b.one3, h17c.one0, h17c.one1, h17c.one2, h17c.one3, h43a.one0, h43a.one1, h43a.one2, h43a.one3, h43b.one0, h43b.one1, h43b.one2, h43b.one3, h43c.one0, h43c.one1, h43c.one2, h43c.one3, rfl, rfl, rfl, rfl, trivial⟩ (by kernel_rfl) (fun w48 st48 N48 => ?_)
  have kp48 := st48.kp L46 (by decide)
  replace hB := st48.gr hB q46
  replace L46 := N48
  replace L3 := st48.lc (L3.gr g45) ne3_46
  replace L19 := st48.lc (L19.gr g45) ne19_46
  replace L33 := st48.lc (L33.gr g45) ne33_46
  refine k47 _ _ ⟨L3, L19, L33⟩ ?_
  try clear k47 K47
  refine ord_nil ?_
  refine k36 _ _ ?_
  try clear k36 K36
  refine wp_seq_k (fun K49 k49 => ?_)
  have gd59 := Gr.drew w48
  replace hB := Gr.trans hB gd59
  replace L3 := L3.gr gd59
  replace L33 := L33.gr gd59
  refine wp_region_ord (fun w' => Lc w' b3 #[uaa0, uaa1, uaa2, uaa3, uab0, uab1, uab2, uab3, uac0, uac1, uac2, uac3, uba0, uba1, uba2, uba3, ubb0, ubb1, ubb2, ubb3, ubc0, ubc1, ubc2, ubc3] 35 ∧ Lc w' b33 #[p30, q30, r30, s30] 31) [(true, 0), (true, 1), (true, 2), (true, 3), (true, 5), (false, 4), (false, 6), (true, 7), (false, 8)] (by kernel_rfl) (by kernel_rfl) (by kernel_rfl) (by decide) (fun _ _ _ _ _ h => h) ⟨L3, L33⟩ ?_
  refine ord_pure (some 49) (.pointer (some ⟨b3, 0, none⟩)) rfl rfl rfl (fun w' hS => (rvk (by kernel_rfl))) ?_
  simp only [p1, p2, p3, p4]
  refine ord_pure (some 50) (.agg #[uaa0, uaa1, uaa2, uaa3, uab0, uab1, uab2, uab3, uac0, uac1, uac2, uac3]) rfl rfl rfl (fun w' hS => (rv_load 33 _ b3 0 _ _ [uaa0, uaa1, uaa2, uaa3, uab0, uab1, uab2, uab3, uac0, uac1, uac2, uac3] rfl rfl hS.1 rfl (by kernel_rfl))) ?_
  simp only [p1, p2, p3, p4]
  refine ord_pure (some 51) (.pointer (some ⟨b3, 12, none⟩)) rfl rfl rfl (fun w' hS => (rvk (by kernel_rfl))) ?_
  simp only [p1, p2, p3, p4]
  refine ord_pure (some 52) (.agg #[uba0, uba1, uba2, uba3, ubb0, ubb1, ubb2, ubb3, ubc0, ubc1, ubc2, ubc3]) rfl rfl rfl (fun w' hS => (rv_load 33 _ b3 12 _ _ [uba0, uba1, uba2, uba3, ubb0, ubb1, ubb2, ubb3, ubc0, ubc1, ubc2, ubc3] rfl rfl hS.1 rfl (by kernel_rfl))) ?_
  simp only [p1, p2, p3, p4]
  refine ord_pure (some 54) (.agg #[p30, q30, r30, s30]) rfl rfl rfl (fun w' hS => (rv_load 31 _ b33 0 _ _ [p30, q30, r30, s30] rfl rfl hS.2 rfl (by kernel_rfl))) ?_
  simp only [p1, p2, p3, p4]
  refine ord_eff rfl rfl (fun K60 k60 => ?_)
  have kq62 := g39.kp.trans (g42.kp.trans (g43.kp.trans (g45.kp.trans (kp48.trans gd59.kp))))
  replace hua1 := hua1.kp kq62
  replace hua2 := hua2.kp kq62
  replace hua3 := hua3.kp kq62
  replace hub1 := hub1.kp kq62
  replace hub2 := hub2.kp kq62
  replace hub3 := hub3.kp kq62
  refine eff_call (some 53) rfl (by kernel_rfl) (dot_v hua1 hua2 hua3 hub1 hub2 hub3 (by omega)) ?_
  rintro e61 w61 ⟨⟨p61, q61, r61, s61, rfl, h61⟩, g61⟩
  refine ⟨_, rfl, ?_⟩
  replace hB := Gr.trans hB g61
  replace L3 := L3.gr g61
  replace L33 := L33.gr g61
  refine k60 _ _ ⟨L3, L33⟩ ?_
  try clear k60 K60
  simp only [p1, p2, p3, p4]
  refine ord_eff rfl rfl (fun K63 k63 => ?_)
  have kq65 := g43.kp.trans (g45.kp.trans (kp48.trans (gd59.kp.trans g61.kp)))
  replace h30 := h30.kp kq65
  refine eff_call (some 55) rfl (by kernel_rfl) (mul_r h61 h30 (by omega)) ?_
  rintro e64 w64 ⟨⟨p64, q64, r64, s64, rfl, h64⟩, g64⟩
  refine ⟨_, rfl, ?_⟩
  replace hB := Gr.trans hB g64
  replace L3 := L3.gr g64
  replace L33 := L33.gr g64
  refine k63 _ _ ⟨L3, L33⟩ ?_
  try clear k63 K63
  simp only [p1, p2, p3, p4]
  refine ord_pure (some 56) (.pointer (some ⟨b46, 25, none⟩)) rfl rfl rfl (fun w' hS => (rvk (by kernel_rfl))) ?_
  simp only [p1, p2, p3, p4]
  refine ord_eff rfl rfl (fun K66 k66 => ?_)
  replace L46 := L46.gr (gd59.trans (g61.trans g64))
  refine eff_store 31 _ _ b46 25 (.agg #[p64, q64, r64, s64]) [p64, q64, r64, s64] _ #[(.int .i64 2), t17_0, t17_1, t17_2, t17_3, t17_4, t17_5, t17_6, t17_7, t17_8, t17_9, t17_10, t17_11, t43_0, t43_1, t43_2, t43_3, t43_4, t43_5, t43_6, t43_7, t43_8, t43_9, t43_10, t43_11, p64, q64, r64, s64] _ rfl rfl rfl rfl rfl L46 (by kernel_rfl) (Nat.le_of_ble_eq_true rfl) ⟨h64.one0, h64.one1, h64.one2, h64.one3, trivial⟩ (by kernel_rfl) (fun w67 st67 N67 => ?_)
  have kp67 := st67.kp L46 (by decide)
  replace hB := st67.gr hB q46
  replace L46 := N67
  replace L3 := st67.lc L3 ne3_46
  replace L33 := st67.lc L33 ne33_46
  refine k66 _ _ ⟨L3, L33⟩ ?_
  try clear k66 K66
  refine ord_nil ?_
  refine k49 _ _ ?_
  try clear k49 K49
  refine wp_seq_k (fun K68 k68 => ?_)
  refine wp_seq_k (fun K69 k69 => ?_)
  refine wp_region ?_
  simp only [List.size_toArray, List.length_cons, List.length_nil, Nat.reduceAdd, List.range, List.range.loop]
  refine sq_val (some 57) (.pointer (some ⟨b46, 25, none⟩)) rfl rfl (by kernel_rfl) (rvk (by kernel_rfl)) ?_
  simp only [p1, p2, p3, p4]
  refine sq_val (some 58) (.agg #[p64, q64, r64, s64]) rfl rfl (by kernel_rfl) (rv_load 31 _ b46 25 _ _ [p64, q64, r64, s64] rfl rfl L46 rfl (by kernel_rfl)) ?_
  simp only [p1, p2, p3, p4]
  refine sq_eff rfl (by kernel_rfl) (fun K70 k70 => ?_)
  replace h64 := h64.kp kp67
  refine eff_call (some 59) rfl (by kernel_rfl) (sign_r h64) ?_
  rintro e71 w71 ⟨rfl, g71⟩
  refine ⟨_, rfl, ?_⟩
  replace hB := Gr.trans hB g71
  refine k70 _ _ ?_
  try clear k70 K70
  simp only [p1, p2, p3, p4]
  refine sq_val (some 60) (.bool true) rfl rfl (by kernel_rfl) (RunV.bool (x := (sgn (((0 + a1 * d1 + a2 * d2 + a3 * d3) * ((((1 : Int) : Rat)) / (0 + a1 * a1 + a2 * a2 + a3 * a3)))).num != (0 : Int))) (rvk (by kernel_rfl)) e3) ?_
  simp only [p1, p2, p3, p4]
  refine sq_nil ?_
  refine k69 _ _ ?_
  try clear k69 K69
  refine wp_cond_true rfl ?_
  refine wp_region ?_
  simp only [List.size_toArray, List.length_cons, List.length_nil, Nat.reduceAdd, List.range, List.range.loop]
  refine sq_val (some 61) (.pointer (some ⟨b46, 0, none⟩)) rfl rfl (by kernel_rfl) (rvk (by kernel_rfl)) ?_
  simp only [p1, p2, p3, p4]
  refine sq_eff rfl (by kernel_rfl) (fun K72 k72 => ?_)
  replace L46 := L46.gr g71
  refine eff_store 3 _ _ b46 0 (.int .i64 3) [(.int .i64 3)] _ #[(.int .i64 3), t17_0, t17_1, t17_2, t17_3, t17_4, t17_5, t17_6, t17_7, t17_8, t17_9, t17_10, t17_11, t43_0, t43_1, t43_2, t43_3, t43_4, t43_5, t43_6, t43_7, t43_8, t43_9, t43_10, t43_11, p64, q64, r64, s64] _ rfl rfl rfl rfl rfl L46 (by kernel_rfl) (Nat.le_of_ble_eq_true rfl) ⟨rfl, trivial⟩ (by kernel_rfl) (fun w73 st73 N73 => ?_)
  have kp73 := st73.kp L46 (by decide)
  replace hB := st73.gr hB q46
  replace L46 := N73
  refine k72 _ _ ?_
  try clear k72 K72
  refine sq_nil ?_
  refine k68 _ _ ?_
  try clear k68 K68
  refine wp_seq_k (fun K74 k74 => ?_)
  refine wp_region ?_
  simp only [List.size_toArray, List.length_cons, List.length_nil, Nat.reduceAdd, List.range, List.range.loop]
  refine sq_val (some 62) (.agg #[(.int .i64 3), t17_0, t17_1, t17_2, t17_3, t17_4, t17_5, t17_6, t17_7, t17_8, t17_9, t17_10, t17_11, t43_0, t43_1, t43_2, t43_3, t43_4, t43_5, t43_6, t43_7, t43_8, t43_9, t43_10, t43_11, p64, q64, r64, s64]) rfl rfl (by kernel_rfl) (rv_load 38 _ b46 0 _ _ [(.int .i64 3), t17_0, t17_1, t17_2, t17_3, t17_4, t17_5, t17_6, t17_7, t17_8, t17_9, t17_10, t17_11, t43_0, t43_1, t43_2, t43_3, t43_4, t43_5, t43_6, t43_7, t43_8, t43_9, t43_10, t43_11, p64, q64, r64, s64] rfl rfl L46 rfl (by kernel_rfl)) ?_
  simp only [p1, p2, p3, p4]
  refine sq_eff rfl (by kernel_rfl) (fun K75 k75 => ?_)
  replace L5 := st73.lc ((st67.lc ((st48.lc (L5.gr (gd37.trans (g38.trans (g39.trans (g42.trans (g43.trans g45)))))) ne5_46).gr (gd59.trans (g61.trans g64))) ne5_46).gr g71) ne5_46
  refine eff_store 38 _ _ b5 0 (.agg #[(.int .i64 3), t17_0, t17_1, t17_2, t17_3, t17_4, t17_5, t17_6, t17_7, t17_8, t17_9, t17_10, t17_11, t43_0, t43_1, t43_2, t43_3, t43_4, t43_5, t43_6, t43_7, t43_8, t43_9, t43_10, t43_11, p64, q64, r64, s64]) [(.int .i64 3), t17_0, t17_1, t17_2, t17_3, t17_4, t17_5, t17_6, t17_7, t17_8, t17_9, t17_10, t17_11, t43_0, t43_1, t43_2, t43_3, t43_4, t43_5, t43_6, t43_7, t43_8, t43_9, t43_10, t43_11, p64, q64, r64, s64] _ #[(.int .i64 3), t17_0, t17_1, t17_2, t17_3, t17_4, t17_5, t17_6, t17_7, t17_8, t17_9, t17_10, t17_11, t43_0, t43_1, t43_2, t43_3, t43_4, t43_5, t43_6, t43_7, t43_8, t43_9, t43_10, t43_11, p64, q64, r64, s64] _ rfl rfl rfl rfl rfl L5 (by kernel_rfl) (Nat.le_of_ble_eq_true rfl) ⟨rfl, h17a.one0, h17a.one1, h17a.one2, h17a.one3, h17b.one0, h17b.one1, h17b.one2, h17b.one3, h17c.one0, h17c.one1, h17c.one2, h17c.one3, h43a.one0, h43a.one1, h43a.one2, h43a.one3, h43b.one0, h43b.one1, h43b.one2, h43b.one3, h43c.one0, h43c.one1, h43c.one2, h43c.one3, h64.one0, h64.one1, h64.one2, h64.one3, trivial⟩ (by kernel_rfl) (fun w76 st76 N76 => ?_)
  have kp76 := st76.kp L5 (by decide)
  replace hB := st76.gr hB q5
  replace L5 := N76
  refine k75 _ _ ?_
  try clear k75 K75
  refine sq_nil ?_
  refine k74 _ _ ?_
  try clear k74 K74
  refine wp_ret ?_
  refine bodyPost_ret (v := (.agg #[(.int .i64 3), t17_0, t17_1, t17_2, t17_3, t17_4, t17_5, t17_6, t17_7, t17_8, t17_9, t17_10, t17_11, t43_0, t43_1, t43_2, t43_3, t43_4, t43_5, t43_6, t43_7, t43_8, t43_9, t43_10, t43_11, p64, q64, r64, s64])) (ret_cell _ _ _ rfl rfl L5 (by kernel_rfl)) rfl ⟨?_, hB⟩
  have kq77 := g19.kp.trans (kp21.trans (gd23.kp.trans (g24.kp.trans (g25.kp.trans (g26.kp.trans (g27.kp.trans (g29.kp.trans (g30.kp.trans (g32.kp.trans (kp35.trans (gd37.kp.trans (g38.kp.trans (g39.kp.trans (g42.kp.trans (g43.kp.trans (g45.kp.trans (kp48.trans (gd59.kp.trans (g61.kp.trans (g64.kp.trans (kp67.trans (g71.kp.trans (kp73.trans kp76)))))))))))))))))))))))
  replace h17a := h17a.kp kq77
  replace h17b := h17b.kp kq77
  replace h17c := h17c.kp kq77
  have kq78 := g45.kp.trans (kp48.trans (gd59.kp.trans (g61.kp.trans (g64.kp.trans (kp67.trans (g71.kp.trans (kp73.trans kp76)))))))
  replace h43a := h43a.kp kq78
  replace h43b := h43b.kp kq78
  replace h43c := h43c.kp kq78
  have kq79 := g71.kp.trans (kp73.trans kp76)
  replace h64 := h64.kp kq79
  exact ⟨_, _, _, _, _, _, _, _, _, _, _, _, _, _, _, _, _, _, _, _, _, _, _, _, _, _, _, _, rfl, h17a.mono (by omega), h17b.mono (by omega), h17c.mono (by omega), h43a.mono (by omega), h43b.mono (by omega), h43c.mono (by omega), h64.mono (by omega)⟩

end Go.Proofs.YtgopfikljndklaaDoor
