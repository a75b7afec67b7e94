/- Printed by a program of the prover's: TwistPowers. -/
import Derived.Test.YtgopfikljndklaaGreatDoorGen14
namespace Go.Proofs.YtgopfikljndklaaGreatDoor
open Go.RowKit

set_option maxRecDepth 100000 in
set_option maxHeartbeats 1000000 in
theorem force_v {k m : Nat} {uaa0 uaa1 uaa2 uaa3 uab0 uab1 uab2 uab3 uac0 uac1 uac2 uac3 : Value} {a1 a2 a3 : Rat} {vaa0 vaa1 vaa2 vaa3 vab0 vab1 vab2 vab3 vac0 vac1 vac2 vac3 : Value} {c1 c2 c3 : Rat} {w : World} (hua1 : IsRat w k uaa0 uaa1 uaa2 uaa3 a1) (hua2 : IsRat w k uab0 uab1 uab2 uab3 a2) (hua3 : IsRat w k uac0 uac1 uac2 uac3 a3) (hva1 : IsRat w m vaa0 vaa1 vaa2 vaa3 c1) (hva2 : IsRat w m vab0 vab1 vab2 vab3 c2) (hva3 : IsRat w m vac0 vac1 vac2 vac3 c3) (_hk : k + m ≤ 5000) :
    Calls Tryz.prog 6 #[(.agg #[uaa0, uaa1, uaa2, uaa3, uab0, uab1, uab2, uab3, uac0, uac1, uac2, uac3]), (.agg #[vaa0, vaa1, vaa2, vaa3, vab0, vab1, vab2, vab3, vac0, vac1, vac2, vac3])] w fun e w' => (∃ t0 t1 t2 t3 t4 t5 t6 t7 t8 t9 t10 t11 t12 t13 t14 t15 t16 t17 t18 t19 t20 t21 t22 t23, e = .returned (.agg #[t0, t1, t2, t3, t4, t5, t6, t7, t8, t9, t10, t11, t12, t13, t14, t15, t16, t17, t18, t19, t20, t21, t22, t23]) ∧ IsRat w' (k + m + (k + m) + 1) t0 t1 t2 t3 (a2 * c3 - a3 * c2) ∧ IsRat w' (k + m + (k + m) + 1) t4 t5 t6 t7 (a3 * c1 - a1 * c3) ∧ IsRat w' (k + m + (k + m) + 1) t8 t9 t10 t11 (a1 * c2 - a2 * c1) ∧ IsRat w' m t12 t13 t14 t15 (c1) ∧ IsRat w' m t16 t17 t18 t19 (c2) ∧ IsRat w' m t20 t21 t22 t23 (c3)) ∧ Gr w w' := by
  go_enter Tryz.func6, Tryz.ntmps6
  have hB := Gr.refl w
  refine wp_seq_k (fun K1 k1 => ?_)
  refine wp_region ?_
  simp only [List.size_toArray, List.length_cons, List.length_nil, Nat.reduceAdd, List.range, List.range.loop]
  refine sq_eff rfl (by kernel_rfl) (fun K2 k2 => ?_)
  refine eff_box 35 _ (.agg #[uaa0, uaa1, uaa2, uaa3, uab0, uab1, uab2, uab3, uac0, uac1, uac2, uac3]) #[uaa0, uaa1, uaa2, uaa3, uab0, uab1, uab2, uab3, uac0, uac1, uac2, uac3] (some 2) rfl rfl rfl rfl (fun b3 w3 g3 L3 q3 => ?_)
  replace q3 := Nat.le_trans (Below.size hB) q3
  replace hB := Gr.trans hB g3
  refine k2 _ _ ?_
  try clear k2 K2
  simp only [p1, p2, p3, p4]
  refine sq_eff rfl (by kernel_rfl) (fun K4 k4 => ?_)
  refine eff_box 35 _ (.agg #[vaa0, vaa1, vaa2, vaa3, vab0, vab1, vab2, vab3, vac0, vac1, vac2, vac3]) #[vaa0, vaa1, vaa2, vaa3, vab0, vab1, vab2, vab3, vac0, vac1, vac2, vac3] (some 3) rfl rfl rfl rfl (fun b5 w5 g5 L5 q5 => ?_)
  have ne3_5 := L3.ne q5
  replace q5 := Nat.le_trans (Below.size hB) q5
  replace hB := Gr.trans hB g5
  refine k4 _ _ ?_
  try clear k4 K4
  simp only [p1, p2, p3, p4]
  refine sq_eff rfl (by kernel_rfl) (fun K6 k6 => ?_)
  refine eff_alloc 40 (.agg #[(.bool false), (.slice none 0 0), (.bool false), (.slice none 0 0), (.bool false), (.slice none 0 0), (.bool false), (.slice none 0 0), (.bool false), (.slice none 0 0), (.bool false), (.slice none 0 0), (.bool false), (.slice none 0 0), (.bool false), (.slice none 0 0), (.bool false), (.slice none 0 0), (.bool false), (.slice none 0 0), (.bool false), (.slice none 0 0), (.bool false), (.slice none 0 0)]) #[(.bool false), (.slice none 0 0), (.bool false), (.slice none 0 0), (.bool false), (.slice none 0 0), (.bool false), (.slice none 0 0), (.bool false), (.slice none 0 0), (.bool false), (.slice none 0 0), (.bool false), (.slice none 0 0), (.bool false), (.slice none 0 0), (.bool false), (.slice none 0 0), (.bool false), (.slice none 0 0), (.bool false), (.slice none 0 0), (.bool false), (.slice none 0 0)] (some 4) rfl rfl (by kernel_rfl) rfl (fun b7 w7 g7 L7 q7 => ?_)
  replace L3 := L3.gr g5
  have ne3_7 := L3.ne q7
  have ne5_7 := L5.ne q7
  replace q7 := Nat.le_trans (Below.size hB) q7
  replace hB := Gr.trans hB g7
  refine k6 _ _ ?_
  try clear k6 K6
  simp only [p1, p2, p3, p4]
  refine sq_nil ?_
  refine k1 _ _ ?_
  try clear k1 K1
  refine wp_seq_k (fun K8 k8 => ?_)
  have gd15 := Gr.drew w7
  replace hB := Gr.trans hB gd15
  replace L3 := L3.gr (g7.trans gd15)
  replace L5 := L5.gr (g7.trans gd15)
  refine wp_region_ord (fun w' => Lc w' b3 #[uaa0, uaa1, uaa2, uaa3, uab0, uab1, uab2, uab3, uac0, uac1, uac2, uac3] 35 ∧ Lc w' b5 #[vaa0, vaa1, vaa2, vaa3, vab0, vab1, vab2, vab3, vac0, vac1, vac2, vac3] 35) [(true, 0), (true, 1), (true, 3), (false, 2), (true, 4), (false, 5)] (by kernel_rfl) (by kernel_rfl) (by kernel_rfl) (by decide) (fun _ _ _ _ _ h => h) ⟨L3, L5⟩ ?_
  refine ord_pure (some 5) (.agg #[uaa0, uaa1, uaa2, uaa3, uab0, uab1, uab2, uab3, uac0, uac1, uac2, uac3]) rfl rfl rfl (fun w' hS => (rv_load 35 _ b3 0 _ _ [uaa0, uaa1, uaa2, uaa3, uab0, uab1, uab2, uab3, uac0, uac1, uac2, uac3] rfl rfl hS.1 rfl (by kernel_rfl))) ?_
  simp only [p1, p2, p3, p4]
  refine ord_pure (some 6) (.agg #[vaa0, vaa1, vaa2, vaa3, vab0, vab1, vab2, vab3, vac0, vac1, vac2, vac3]) rfl rfl rfl (fun w' hS => (rv_load 35 _ b5 0 _ _ [vaa0, vaa1, vaa2, vaa3, vab0, vab1, vab2, vab3, vac0, vac1, vac2, vac3] rfl rfl hS.2 rfl (by kernel_rfl))) ?_
  simp only [p1, p2, p3, p4]
  refine ord_pure (some 8) (.agg #[vaa0, vaa1, vaa2, vaa3, vab0, vab1, vab2, vab3, vac0, vac1, vac2, vac3]) rfl rfl rfl (fun w' hS => (rv_load 35 _ b5 0 _ _ [vaa0, vaa1, vaa2, vaa3, vab0, vab1, vab2, vab3, vac0, vac1, vac2, vac3] rfl rfl hS.2 rfl (by kernel_rfl))) ?_
  simp only [p1, p2, p3, p4]
  refine ord_eff rfl rfl (fun K16 k16 => ?_)
  have kq18 := g3.kp.trans (g5.kp.trans (g7.kp.trans gd15.kp))
  replace hua1 := hua1.kp kq18
  replace hua2 := hua2.kp kq18
  replace hua3 := hua3.kp kq18
  replace hva1 := hva1.kp kq18
  replace hva2 := hva2.kp kq18
  replace hva3 := hva3.kp kq18
  refine eff_call (some 7) rfl (by kernel_rfl) (cross_v hua1 hua2 hua3 hva1 hva2 hva3 (by omega)) ?_
  rintro e17 w17 ⟨⟨t17_0, t17_1, t17_2, t17_3, t17_4, t17_5, t17_6, t17_7, t17_8, t17_9, t17_10, t17_11, rfl, h17a, h17b, h17c⟩, g17⟩
  refine ⟨_, rfl, ?_⟩
  replace hB := Gr.trans hB g17
  replace L3 := L3.gr g17
  replace L5 := L5.gr g17
  refine k16 _ _ ⟨L3, L5⟩ ?_
  try clear k16 K16
  simp only [p1, p2, p3, p4]
  refine ord_pure (some 9) (.agg #[t17_0, t17_1, t17_2, t17_3, t17_4, t17_5, t17_6, t17_7, t17_8, t17_9, t17_10, t17_11, vaa0, vaa1, vaa2, vaa3, vab0, vab1, vab2, vab3, vac0, vac1, vac2, vac3]) rfl rfl rfl (fun w' hS => (rvk (by kernel_rfl))) ?_
  simp only [p1, p2, p3, p4]
  refine ord_eff rfl rfl (fun K19 k19 => ?_)
  replace L7 := L7.gr (gd15.trans g17)
  refine eff_store 40 _ _ b7 0 (.agg #[t17_0, t17_1, t17_2, t17_3, t17_4, t17_5, t17_6, t17_7, t17_8, t17_9, t17_10, t17_11, vaa0, vaa1, vaa2, vaa3, vab0, vab1, vab2, vab3, vac0, vac1, vac2, vac3]) [t17_0, t17_1, t17_2, t17_3, t17_4, t17_5, t17_6, t17_7, t17_8, t17_9, t17_10, t17_11, vaa0, vaa1, vaa2, vaa3, vab0, vab1, vab2, vab3, vac0, vac1, vac2, vac3] _ #[t17_0, t17_1, t17_2, t17_3, t17_4, t17_5, t17_6, t17_7, t17_8, t17_9, t17_10, t17_11, vaa0, vaa1, vaa2, vaa3, vab0, vab1, vab2, vab3, vac0, vac1, vac2, vac3] _ rfl rfl rfl rfl rfl L7 (by kernel_rfl) (Nat.le_of_ble_eq_true rfl) ⟨h17a.one0, h17a.one1, h17a.one2, h17a.one3, h17b.one0, h17b.one1, h17b.one2, h17b.one3, h17c.one0, h17c.one1, h17c.one2, h17c.one3, hva1.one0, hva1.one1, hva1.one2, hva1.one3, hva2.one0, hva2.one1, hva2.one2, hva2.one3, hva3.one0, hva3.one1, hva3.one2, hva3.one3, trivial⟩ (by kernel_rfl) (fun w20 st20 N20 => ?_)
  have kp20 := st20.kp L7 (by decide)
  replace hB := st20.gr hB q7
  replace L7 := N20
  replace L3 := st20.lc L3 ne3_7
  replace L5 := st20.lc L5 ne5_7
  refine k19 _ _ ⟨L3, L5⟩ ?_
  try clear k19 K19
  refine ord_nil ?_
  refine k8 _ _ ?_
  try clear k8 K8
  refine wp_ret ?_
  refine bodyPost_ret (v := (.agg #[t17_0, t17_1, t17_2, t17_3, t17_4, t17_5, t17_6, t17_7, t17_8, t17_9, t17_10, t17_11, vaa0, vaa1, vaa2, vaa3, vab0, vab1, vab2, vab3, vac0, vac1, vac2, vac3])) (ret_cell _ _ _ rfl rfl L7 (by kernel_rfl)) rfl ⟨?_, hB⟩
  replace h17a := h17a.kp kp20
  replace h17b := h17b.kp kp20
  replace h17c := h17c.kp kp20
  have kq21 := g17.kp.trans kp20
  replace hva1 := hva1.kp kq21
  replace hva2 := hva2.kp kq21
  replace hva3 := hva3.kp kq21
  exact ⟨_, _, _, _, _, _, _, _, _, _, _, _, _, _, _, _, _, _, _, _, _, _, _, _, rfl, h17a, h17b, h17c, hva1, hva2, hva3⟩

set_option maxRecDepth 100000 in
set_option maxHeartbeats 1000000 in
theorem power_v {k m : Nat} {uaa0 uaa1 uaa2 uaa3 uab0 uab1 uab2 uab3 uac0 uac1 uac2 uac3 : Value} {a1 a2 a3 : Rat} {uba0 uba1 uba2 uba3 ubb0 ubb1 ubb2 ubb3 ubc0 ubc1 ubc2 ubc3 : Value} {d1 d2 d3 : Rat} {vaa0 vaa1 vaa2 vaa3 vab0 vab1 vab2 vab3 vac0 vac1 vac2 vac3 : Value} {c1 c2 c3 : Rat} {vba0 vba1 vba2 vba3 vbb0 vbb1 vbb2 vbb3 vbc0 vbc1 vbc2 vbc3 : Value} {f1 f2 f3 : Rat} {w : World} (hua1 : IsRat w k uaa0 uaa1 uaa2 uaa3 a1) (hua2 : IsRat w k uab0 uab1 uab2 uab3 a2) (hua3 : IsRat w k uac0 uac1 uac2 uac3 a3) (hub1 : IsRat w k uba0 uba1 uba2 uba3 d1) (hub2 : IsRat w k ubb0 ubb1 ubb2 ubb3 d2) (hub3 : IsRat w k ubc0 ubc1 ubc2 ubc3 d3) (hva1 : IsRat w m vaa0 vaa1 vaa2 vaa3 c1) (hva2 : IsRat w m vab0 vab1 vab2 vab3 c2) (hva3 : IsRat w m vac0 vac1 vac2 vac3 c3) (hvb1 : IsRat w m vba0 vba1 vba2 vba3 f1) (hvb2 : IsRat w m vbb0 vbb1 vbb2 vbb3 f2) (hvb3 : IsRat w m vbc0 vbc1 vbc2 vbc3 f3) (_hk : k + m ≤ 5000) :
    Calls Tryz.prog 16 #[(.agg #[uaa0, uaa1, uaa2, uaa3, uab0, uab1, uab2, uab3, uac0, uac1, uac2, uac3, uba0, uba1, uba2, uba3, ubb0, ubb1, ubb2, ubb3, ubc0, ubc1, ubc2, ubc3]), (.agg #[vaa0, vaa1, vaa2, vaa3, vab0, vab1, vab2, vab3, vac0, vac1, vac2, vac3, vba0, vba1, vba2, vba3, vbb0, vbb1, vbb2, vbb3, vbc0, vbc1, vbc2, vbc3])] w fun e w' => (∃ z0 z1 z2 z3, e = .returned (.agg #[z0, z1, z2, z3]) ∧ IsRat w' (64 + (m + k) + 1 + (m + k) + 1 + (m + k) + 1 + (64 + (m + k) + 1 + (m + k) + 1 + (m + k) + 1) + 1) z0 z1 z2 z3 ((0 + c1 * a1 + c2 * a2 + c3 * a3) + (0 + f1 * d1 + f2 * d2 + f3 * d3))) ∧ Gr w w' := by
  go_enter Tryz.func16, Tryz.ntmps16
  have hB := Gr.refl w
  refine wp_seq_k (fun K1 k1 => ?_)
  refine wp_region ?_
  simp only [List.size_toArray, List.length_cons, List.length_nil, Nat.reduceAdd, List.range, List.range.loop]
  refine sq_eff rfl (by kernel_rfl) (fun K2 k2 => ?_)
  refine eff_box 37 _ (.agg #[uaa0, uaa1, uaa2, uaa3, uab0, uab1, uab2, uab3, uac0, uac1, uac2, uac3, uba0, uba1, uba2, uba3, ubb0, ubb1, ubb2, ubb3, ubc0, ubc1, ubc2, ubc3]) #[uaa0, uaa1, uaa2, uaa3, uab0, uab1, uab2, uab3, uac0, uac1, uac2, uac3, uba0, uba1, uba2, uba3, ubb0, ubb1, ubb2, ubb3, ubc0, ubc1, ubc2, ubc3] (some 2) rfl rfl rfl rfl (fun b3 w3 g3 L3 q3 => ?_)
  replace q3 := Nat.le_trans (Below.size hB) q3
  replace hB := Gr.trans hB g3
  refine k2 _ _ ?_
  try clear k2 K2
  simp only [p1, p2, p3, p4]
  refine sq_eff rfl (by kernel_rfl) (fun K4 k4 => ?_)
  refine eff_box 40 _ (.agg #[vaa0, vaa1, vaa2, vaa3, vab0, vab1, vab2, vab3, vac0, vac1, vac2, vac3, vba0, vba1, vba2, vba3, vbb0, vbb1, vbb2, vbb3, vbc0, vbc1, vbc2, vbc3]) #[vaa0, vaa1, vaa2, vaa3, vab0, vab1, vab2, vab3, vac0, vac1, vac2, vac3, vba0, vba1, vba2, vba3, vbb0, vbb1, vbb2, vbb3, vbc0, vbc1, vbc2, vbc3] (some 3) rfl rfl rfl rfl (fun b5 w5 g5 L5 q5 => ?_)
  have ne3_5 := L3.ne q5
  replace q5 := Nat.le_trans (Below.size hB) q5
  replace hB := Gr.trans hB g5
  refine k4 _ _ ?_
  try clear k4 K4
  simp only [p1, p2, p3, p4]
  refine sq_eff rfl (by kernel_rfl) (fun K6 k6 => ?_)
  refine eff_alloc 33 (.agg #[(.bool false), (.slice none 0 0), (.bool false), (.slice none 0 0)]) #[(.bool false), (.slice none 0 0), (.bool false), (.slice none 0 0)] (some 4) rfl rfl (by kernel_rfl) rfl (fun b7 w7 g7 L7 q7 => ?_)
  replace L3 := L3.gr g5
  have ne3_7 := L3.ne q7
  have ne5_7 := L5.ne q7
  replace q7 := Nat.le_trans (Below.size hB) q7
  replace hB := Gr.trans hB g7
  refine k6 _ _ ?_
  try clear k6 K6
  simp only [p1, p2, p3, p4]
  refine sq_nil ?_
  refine k1 _ _ ?_
  try clear k1 K1
  refine wp_seq_k (fun K8 k8 => ?_)
  have gd20 := Gr.drew w7
  replace hB := Gr.trans hB gd20
  replace L3 := L3.gr (g7.trans gd20)
  replace L5 := L5.gr (g7.trans gd20)
  refine wp_region_ord (fun w' => Lc w' b3 #[uaa0, uaa1, uaa2, uaa3, uab0, uab1, uab2, uab3, uac0, uac1, uac2, uac3, uba0, uba1, uba2, uba3, ubb0, ubb1, ubb2, ubb3, ubc0, ubc1, ubc2, ubc3] 37 ∧ Lc w' b5 #[vaa0, vaa1, vaa2, vaa3, vab0, vab1, vab2, vab3, vac0, vac1, vac2, vac3, vba0, vba1, vba2, vba3, vbb0, vbb1, vbb2, vbb3, vbc0, vbc1, vbc2, vbc3] 40) [(true, 0), (true, 1), (true, 2), (true, 3), (true, 5), (true, 6), (true, 7), (true, 8), (false, 4), (false, 9), (false, 10), (false, 11)] (by kernel_rfl) (by kernel_rfl) (by kernel_rfl) (by decide) (fun _ _ _ _ _ h => h) ⟨L3, L5⟩ ?_
  refine ord_pure (some 5) (.pointer (some ⟨b5, 0, none⟩)) rfl rfl rfl (fun w' hS => (rvk (by kernel_rfl))) ?_
  simp only [p1, p2, p3, p4]
  refine ord_pure (some 6) (.agg #[vaa0, vaa1, vaa2, vaa3, vab0, vab1, vab2, vab3, vac0, vac1, vac2, vac3]) rfl rfl rfl (fun w' hS => (rv_load 35 _ b5 0 _ _ [vaa0, vaa1, vaa2, vaa3, vab0, vab1, vab2, vab3, vac0, vac1, vac2, vac3] rfl rfl hS.2 rfl (by kernel_rfl))) ?_
  simp only [p1, p2, p3, p4]
  refine ord_pure (some 7) (.pointer (some ⟨b3, 0, none⟩)) rfl rfl rfl (fun w' hS => (rvk (by kernel_rfl))) ?_
  simp only [p1, p2, p3, p4]
  refine ord_pure (some 8) (.agg #[uaa0, uaa1, uaa2, uaa3, uab0, uab1, uab2, uab3, uac0, uac1, uac2, uac3]) rfl rfl rfl (fun w' hS => (rv_load 35 _ b3 0 _ _ [uaa0, uaa1, uaa2, uaa3, uab0, uab1, uab2, uab3, uac0, uac1, uac2, uac3] rfl rfl hS.1 rfl (by kernel_rfl))) ?_
  simp only [p1, p2, p3, p4]
  refine ord_pure (some 10) (.pointer (some ⟨b5, 12, none⟩)) rfl rfl rfl (fun w' hS => (rvk (by kernel_rfl))) ?_
  simp only [p1, p2, p3, p4]
  refine ord_pure (some 11) (.agg #[vba0, vba1, vba2, vba3, vbb0, vbb1, vbb2, vbb3, vbc0, vbc1, vbc2, vbc3]) rfl rfl rfl (fun w' hS => (rv_load 35 _ b5 12 _ _ [vba0, vba1, vba2, vba3, vbb0, vbb1, vbb2, vbb3, vbc0, vbc1, vbc2, vbc3] rfl rfl hS.2 rfl (by kernel_rfl))) ?_
  simp only [p1, p2, p3, p4]
  refine ord_pure (some 12) (.pointer (some ⟨b3, 12, none⟩)) rfl rfl rfl (fun w' hS => (rvk (by kernel_rfl))) ?_
  simp only [p1, p2, p3, p4]
  refine ord_pure (some 13) (.agg #[uba0, uba1, uba2, uba3, ubb0, ubb1, ubb2, ubb3, ubc0, ubc1, ubc2, ubc3]) rfl rfl rfl (fun w' hS => (rv_load 35 _ b3 12 _ _ [uba0, uba1, uba2, uba3, ubb0, ubb1, ubb2, ubb3, ubc0, ubc1, ubc2, ubc3] rfl rfl hS.1 rfl (by kernel_rfl))) ?_
  simp only [p1, p2, p3, p4]
  refine ord_eff rfl rfl (fun K21 k21 => ?_)
  have kq23 := g3.kp.trans (g5.kp.trans (g7.kp.trans gd20.kp))
  replace hva1 := hva1.kp kq23
  replace hva2 := hva2.kp kq23
  replace hva3 := hva3.kp kq23
  replace hua1 := hua1.kp kq23
  replace hua2 := hua2.kp kq23
  replace hua3 := hua3.kp kq23
  refine eff_call (some 9) rfl (by kernel_rfl) (dot_v hva1 hva2 hva3 hua1 hua2 hua3 (by omega)) ?_
  rintro e22 w22 ⟨⟨p22, q22, r22, s22, rfl, h22⟩, g22⟩
  refine ⟨_, rfl, ?_⟩
  replace hB := Gr.trans hB g22
  replace L3 := L3.gr g22
  replace L5 := L5.gr g22
  refine k21 _ _ ⟨L3, L5⟩ ?_
  try clear k21 K21
  simp only [p1, p2, p3, p4]
  refine ord_eff rfl rfl (fun K24 k24 => ?_)
  have kq26 := g3.kp.trans (g5.kp.trans (g7.kp.trans (gd20.kp.trans g22.kp)))
  replace hvb1 := hvb1.kp kq26
  replace hvb2 := hvb2.kp kq26
  replace hvb3 := hvb3.kp kq26
  replace hub1 := hub1.kp kq26
  replace hub2 := hub2.kp kq26
  replace hub3 := hub3.kp kq26
  refine eff_call (some 14) rfl (by kernel_rfl) (dot_v hvb1 hvb2 hvb3 hub1 hub2 hub3 (by omega)) ?_
  rintro e25 w25 ⟨⟨p25, q25, r25, s25, rfl, h25⟩, g25⟩
  refine ⟨_, rfl, ?_⟩
  replace hB := Gr.trans hB g25
  replace L3 := L3.gr g25
  replace L5 := L5.gr g25
  refine k24 _ _ ⟨L3, L5⟩ ?_
  try clear k24 K24
  simp only [p1, p2, p3, p4]
  refine ord_eff rfl rfl (fun K27 k27 => ?_)
  replace h22 := h22.kp g25.kp
  refine eff_call (some 15) rfl (by kernel_rfl) (add_r h22 h25 (by omega)) ?_
  rintro e28 w28 ⟨⟨p28, q28, r28, s28, rfl, h28⟩, g28⟩
  refine ⟨_, rfl, ?_⟩
  replace hB := Gr.trans hB g28
  replace L3 := L3.gr g28
  replace L5 := L5.gr g28
  refine k27 _ _ ⟨L3, L5⟩ ?_
  try clear k27 K27
  simp only [p1, p2, p3, p4]
  refine ord_eff rfl rfl (fun K29 k29 => ?_)
  replace L7 := L7.gr (gd20.trans (g22.trans (g25.trans g28)))
  refine eff_store 33 _ _ b7 0 (.agg #[p28, q28, r28, s28]) [p28, q28, r28, s28] _ #[p28, q28, r28, s28] _ rfl rfl rfl rfl rfl L7 (by kernel_rfl) (Nat.le_of_ble_eq_true rfl) ⟨h28.one0, h28.one1, h28.one2, h28.one3, trivial⟩ (by kernel_rfl) (fun w30 st30 N30 => ?_)
  have kp30 := st30.kp L7 (by decide)
  replace hB := st30.gr hB q7
  replace L7 := N30
  replace L3 := st30.lc L3 ne3_7
  replace L5 := st30.lc L5 ne5_7
  refine k29 _ _ ⟨L3, L5⟩ ?_
  try clear k29 K29
  refine ord_nil ?_
  refine k8 _ _ ?_
  try clear k8 K8
  refine wp_ret ?_
  refine bodyPost_ret (v := (.agg #[p28, q28, r28, s28])) (ret_cell _ _ _ rfl rfl L7 (by kernel_rfl)) rfl ⟨?_, hB⟩
  replace h28 := h28.kp kp30
  exact ⟨_, _, _, _, rfl, h28⟩

set_option maxRecDepth 100000 in
set_option maxHeartbeats 4000000 in
theorem wsum_2 {k ab : Nat} {uaa0 uaa1 uaa2 uaa3 uab0 uab1 uab2 uab3 uac0 uac1 uac2 uac3 : Value} {a1 a2 a3 : Rat} {uba0 uba1 uba2 uba3 ubb0 ubb1 ubb2 ubb3 ubc0 ubc1 ubc2 ubc3 : Value} {d1 d2 d3 : Rat} {vaa0 vaa1 vaa2 vaa3 vab0 vab1 vab2 vab3 vac0 vac1 vac2 vac3 : Value} {c1 c2 c3 : Rat} {vba0 vba1 vba2 vba3 vbb0 vbb1 vbb2 vbb3 vbc0 vbc1 vbc2 vbc3 : Value} {f1 f2 f3 : Rat} {w : World} (hua1 : IsRat w k uaa0 uaa1 uaa2 uaa3 a1) (hua2 : IsRat w k uab0 uab1 uab2 uab3 a2) (hua3 : IsRat w k uac0 uac1 uac2 uac3 a3) (hub1 : IsRat w k uba0 uba1 uba2 uba3 d1) (hub2 : IsRat w k ubb0 ubb1 ubb2 ubb3 d2) (hub3 : IsRat w k ubc0 ubc1 ubc2 ubc3 d3) (hva1 : IsRat w k vaa0 vaa1 vaa2 vaa3 c1) (hva2 : IsRat w k vab0 vab1 vab2 vab3 c2) (hva3 : IsRat w k vac0 vac1 vac2 vac3 c3) (hvb1 : IsRat w k vba0 vba1 vba2 vba3 f1) (hvb2 : IsRat w k vbb0 vbb1 vbb2 vbb3 f2) (hvb3 : IsRat w k vbc0 vbc1 vbc2 vbc3 f3) (hL : Lc w ab #[uaa0, uaa1, uaa2, uaa3, uab0, uab1, uab2, uab3, uac0, uac1, uac2, uac3, uba0, uba1, uba2, uba3, ubb0, ubb1, ubb2, ubb3, ubc0, ubc1, ubc2, ubc3, vaa0, vaa1, vaa2, vaa3, vab0, vab1, vab2, vab3, vac0, vac1, vac2, vac3, vba0, vba1, vba2, vba3, vbb0, vbb1, vbb2, vbb3, vbc0, vbc1, vbc2, vbc3] 40) (_hk : k ≤ 5000) :
    Calls Tryz.prog 8 #[(.slice (some ⟨ab, 0, none⟩) 2 2)] w fun e w' => (∃ t0 t1 t2 t3 t4 t5 t6 t7 t8 t9 t10 t11 t12 t13 t14 t15 t16 t17 t18 t19 t20 t21 t22 t23, e = .returned (.agg #[t0, t1, t2, t3, t4, t5, t6, t7, t8, t9, t10, t11, t12, t13, t14, t15, t16, t17, t18, t19, t20, t21, t22, t23]) ∧ IsRat w' (64 + k + 1 + k + 1) t0 t1 t2 t3 (0 + a1 + c1) ∧ IsRat w' (64 + k + 1 + k + 1) t4 t5 t6 t7 (0 + a2 + c2) ∧ IsRat w' (64 + k + 1 + k + 1) t8 t9 t10 t11 (0 + a3 + c3) ∧ IsRat w' (64 + k + 1 + k + 1) t12 t13 t14 t15 (0 + d1 + f1) ∧ IsRat w' (64 + k + 1 + k + 1) t16 t17 t18 t19 (0 + d2 + f2) ∧ IsRat w' (64 + k + 1 + k + 1) t20 t21 t22 t23 (0 + d3 + f3)) ∧ Gr w w' := by
  have hbig := hua1.big
  go_enter Tryz.func8, Tryz.ntmps8
  have hB := Gr.refl w
  refine wp_seq_k (fun K1 k1 => ?_)
  refine wp_region ?_
  simp only [List.size_toArray, List.length_cons, List.length_nil, Nat.reduceAdd, List.range, List.range.loop]
  refine sq_eff rfl (by kernel_rfl) (fun K2 k2 => ?_)
  refine eff_alloc 40 (.agg #[(.bool false), (.slice none 0 0), (.bool false), (.slice none 0 0), (.bool false), (.slice none 0 0), (.bool false), (.slice none 0 0), (.bool false), (.slice none 0 0), (.bool false), (.slice none 0 0), (.bool false), (.slice none 0 0), (.bool false), (.slice none 0 0), (.bool false), (.slice none 0 0), (.bool false), (.slice none 0 0), (.bool false), (.slice none 0 0), (.bool false), (.slice none 0 0)]) #[(.bool false), (.slice none 0 0), (.bool false), (.slice none 0 0), (.bool false), (.slice none 0 0), (.bool false), (.slice none 0 0), (.bool false), (.slice none 0 0), (.bool false), (.slice none 0 0), (.bool false), (.slice none 0 0), (.bool false), (.slice none 0 0), (.bool false), (.slice none 0 0), (.bool false), (.slice none 0 0), (.bool false), (.slice none 0 0), (.bool false), (.slice none 0 0)] (some 2) rfl rfl (by kernel_rfl) rfl (fun b3 w3 g3 L3 q3 => ?_)
  have ne0_3 := hL.ne q3
  replace q3 := Nat.le_trans (Below.size hB) q3
  replace hB := Gr.trans hB g3
  refine k2 _ _ ?_
  try clear k2 K2
  simp only [p1, p2, p3, p4]
  refine sq_nil ?_
  refine k1 _ _ ?_
  try clear k1 K1
  refine wp_seq_k (fun K4 k4 => ?_)
  refine wp_region ?_
  simp only [List.size_toArray, List.length_cons, List.length_nil, Nat.reduceAdd, List.range, List.range.loop]
  refine sq_eff rfl (by kernel_rfl) (fun K5 k5 => ?_)
  refine eff_alloc 40 (.agg #[(.bool false), (.slice none 0 0), (.bool false), (.slice none 0 0), (.bool false), (.slice none 0 0), (.bool false), (.slice none 0 0), (.bool false), (.slice none 0 0), (.bool false), (.slice none 0 0), (.bool false), (.slice none 0 0), (.bool false), (.slice none 0 0), (.bool false), (.slice none 0 0), (.bool false), (.slice none 0 0), (.bool false), (.slice none 0 0), (.bool false), (.slice none 0 0)]) #[(.bool false), (.slice none 0 0), (.bool false), (.slice none 0 0), (.bool false), (.slice none 0 0), (.bool false), (.slice none 0 0), (.bool false), (.slice none 0 0), (.bool false), (.slice none 0 0), (.bool false), (.slice none 0 0), (.bool false), (.slice none 0 0), (.bool false), (.slice none 0 0), (.bool false), (.slice none 0 0), (.bool false), (.slice none 0 0), (.bool false), (.slice none 0 0)] (some 3) rfl rfl (by kernel_rfl) rfl (fun b6 w6 g6 L6 q6 => ?_)
  replace hL := hL.gr g3
  have ne0_6 := hL.ne q6
  have ne3_6 := L3.ne q6
  replace q6 := Nat.le_trans (Below.size hB) q6
  replace hB := Gr.trans hB g6
  refine k5 _ _ ?_
  try clear k5 K5
  simp only [p1, p2, p3, p4]
  refine sq_nil ?_
  refine k4 _ _ ?_
  try clear k4 K4
  refine wp_seq_k (fun K7 k7 => ?_)
  refine wp_seq_k (fun K8 k8 => ?_)
  refine wp_region ?_
  simp only [List.size_toArray, List.length_cons, List.length_nil, Nat.reduceAdd, List.range, List.range.loop]
  refine sq_val (some 6) (.slice (some ⟨ab, 0, none⟩) 2 2) rfl rfl (by kernel_rfl) (rvk (by kernel_rfl)) ?_
  simp only [p1, p2, p3, p4]
  refine sq_val (some 7) (.int .i64 2) rfl rfl (by kernel_rfl) (rvk (by kernel_rfl)) ?_
  simp only [p1, p2, p3, p4]
  refine sq_val (some 8) (.int .i64 0) rfl rfl (by kernel_rfl) (rvk (by kernel_rfl)) ?_
  simp only [p1, p2, p3, p4]
  refine sq_nil ?_
  refine k8 _ _ ?_
  try clear k8 K8
  refine wp_block ?_
  refine wp_loop_rounds 4 ?_
  show Code.wp _ _ _ _ _
  refine wp_seq_k (fun K9 k9 => ?_)
  refine wp_region ?_
  simp only [List.size_toArray, List.length_cons, List.length_nil, Nat.reduceAdd, List.range, List.range.loop]
  refine sq_val (some 9) (.bool true) rfl rfl (by kernel_rfl) (rvk (by kernel_rfl)) ?_
  simp only [p1, p2, p3, p4]
  refine sq_nil ?_
  refine k9 _ _ ?_
  try clear k9 K9
  refine wp_seq_k (fun K10 k10 => ?_)
  refine wp_cond_true rfl ?_
  refine wp_skip ?_
  refine k10 _ _ ?_
  try clear k10 K10
  refine wp_seq_k (fun K11 k11 => ?_)
  refine wp_block ?_
  refine wp_seq_k (fun K12 k12 => ?_)
  refine wp_region ?_
  simp only [List.size_toArray, List.length_cons, List.length_nil, Nat.reduceAdd, List.range, List.range.loop]
  refine sq_val (some 10) (.pointer (some ⟨ab, 0, none⟩)) rfl rfl (by kernel_rfl) (rvk (by kernel_rfl)) ?_
  simp only [p1, p2, p3, p4]
  replace hL := hL.gr g6
  refine sq_val (some 11) (.agg #[uaa0, uaa1, uaa2, uaa3, uab0, uab1, uab2, uab3, uac0, uac1, uac2, uac3, uba0, uba1, uba2, uba3, ubb0, ubb1, ubb2, ubb3, ubc0, ubc1, ubc2, ubc3]) rfl rfl (by kernel_rfl) (rv_load 40 _ ab 0 _ _ [uaa0, uaa1, uaa2, uaa3, uab0, uab1, uab2, uab3, uac0, uac1, uac2, uac3, uba0, uba1, uba2, uba3, ubb0, ubb1, ubb2, ubb3, ubc0, ubc1, ubc2, ubc3] rfl rfl hL rfl (by kernel_rfl)) ?_
  simp only [p1, p2, p3, p4]
  refine sq_eff rfl (by kernel_rfl) (fun K13 k13 => ?_)
  refine eff_alloc 40 (.agg #[(.bool false), (.slice none 0 0), (.bool false), (.slice none 0 0), (.bool false), (.slice none 0 0), (.bool false), (.slice none 0 0), (.bool false), (.slice none 0 0), (.bool false), (.slice none 0 0), (.bool false), (.slice none 0 0), (.bool false), (.slice none 0 0), (.bool false), (.slice none 0 0), (.bool false), (.slice none 0 0), (.bool false), (.slice none 0 0), (.bool false), (.slice none 0 0)]) #[(.bool false), (.slice none 0 0), (.bool false), (.slice none 0 0), (.bool false), (.slice none 0 0), (.bool false), (.slice none 0 0), (.bool false), (.slice none 0 0), (.bool false), (.slice none 0 0), (.bool false), (.slice none 0 0), (.bool false), (.slice none 0 0), (.bool false), (.slice none 0 0), (.bool false), (.slice none 0 0), (.bool false), (.slice none 0 0), (.bool false), (.slice none 0 0)] (some 5) rfl rfl (by kernel_rfl) rfl (fun b14 w14 g14 L14 q14 => ?_)
  have ne0_14 := hL.ne q14
  replace L3 := L3.gr g6
  have ne3_14 := L3.ne q14
  have ne6_14 := L6.ne q14
  replace q14 := Nat.le_trans (Below.size hB) q14
  replace hB := Gr.trans hB g14
  refine k13 _ _ ?_
  try clear k13 K13
  simp only [p1, p2, p3, p4]
  refine sq_eff rfl (by kernel_rfl) (fun K15 k15 => ?_)
  refine eff_store 40 _ _ b14 0 (.agg #[uaa0, uaa1, uaa2, uaa3, uab0, uab1, uab2, uab3, uac0, uac1, uac2, uac3, uba0, uba1, uba2, uba3, ubb0, ubb1, ubb2, ubb3, ubc0, ubc1, ubc2, ubc3]) [uaa0, uaa1, uaa2, uaa3, uab0, uab1, uab2, uab3, uac0, uac1, uac2, uac3, uba0, uba1, uba2, uba3, ubb0, ubb1, ubb2, ubb3, ubc0, ubc1, ubc2, ubc3] _ #[uaa0, uaa1, uaa2, uaa3, uab0, uab1, uab2, uab3, uac0, uac1, uac2, uac3, uba0, uba1, uba2, uba3, ubb0, ubb1, ubb2, ubb3, ubc0, ubc1, ubc2, ubc3] _ rfl rfl rfl rfl rfl L14 (by kernel_rfl) (Nat.le_of_ble_eq_true rfl) ⟨hua1.one0, hua1.one1, hua1.one2, hua1.one3, hua2.one0, hua2.one1, hua2.one2, hua2.one3, hua3.one0, hua3.one1, hua3.one2, hua3.one3, hub1.one0, hub1.one1, hub1.one2, hub1.one3, hub2.one0, hub2.one1, hub2.one2, hub2.one3, hub3.one0, hub3.one1, hub3.one2, hub3.one3, trivial⟩ (by kernel_rfl) (fun w16 st16 N16 => ?_)
  have kp16 := st16.kp L14 (by decide)
  replace hB := st16.gr hB q14
  replace L14 := N16
  refine k15 _ _ ?_
  try clear k15 K15
  refine sq_nil ?_
  refine k12 _ _ ?_
  try clear k12 K12
  have gd18 := Gr.drew w16
  replace hB := Gr.trans hB gd18
  replace L14 := L14.gr gd18
  replace L6 := (st16.lc (L6.gr g14) ne6_14).gr gd18
  refine wp_region_ort (fun w' => Lc w' b14 #[uaa0, uaa1, uaa2, uaa3, uab0, uab1, uab2, uab3, uac0, uac1, uac2, uac3, uba0, uba1, uba2, uba3, ubb0, ubb1, ubb2, ubb3, ubc0, ubc1, ubc2, ubc3] 40) [([11], (fun w' => Lc w' b6 #[(.bool false), (.slice none 0 0), (.bool false), (.slice none 0 0), (.bool false), (.slice none 0 0), (.bool false), (.slice none 0 0), (.bool false), (.slice none 0 0), (.bool false), (.slice none 0 0), (.bool false), (.slice none 0 0), (.bool false), (.slice none 0 0), (.bool false), (.slice none 0 0), (.bool false), (.slice none 0 0), (.bool false), (.slice none 0 0), (.bool false), (.slice none 0 0)] 40))] [(true, 0), (true, 1), (true, 2), (true, 3), (true, 5), (true, 6), (true, 7), (true, 8), (false, 4), (false, 9), (true, 10), (false, 11)] (by kernel_rfl) (by kernel_rfl) (by kernel_rfl) (by decide) (fun _ _ _ _ _ h => h) L14 ⟨fun _ => L6, trivial⟩ ?_
  refine ort_pure (some 12) (.pointer (some ⟨b6, 0, none⟩)) rfl rfl (by kernel_rfl) (fun w' hS => (rvk (by kernel_rfl))) ?_
  simp only [p1, p2, p3, p4]
  refine ort_pure (some 13) (.agg #[(.bool false), (.slice none 0 0), (.bool false), (.slice none 0 0), (.bool false), (.slice none 0 0), (.bool false), (.slice none 0 0), (.bool false), (.slice none 0 0), (.bool false), (.slice none 0 0)]) rfl rfl (by kernel_rfl) (fun w' hS => (rv_load 35 _ b6 0 _ _ [(.bool false), (.slice none 0 0), (.bool false), (.slice none 0 0), (.bool false), (.slice none 0 0), (.bool false), (.slice none 0 0), (.bool false), (.slice none 0 0), (.bool false), (.slice none 0 0)] rfl rfl (hS.2.1 (by kernel_rfl)) rfl (by kernel_rfl))) ?_
  simp only [p1, p2, p3, p4]
  refine ort_pure (some 14) (.pointer (some ⟨b14, 0, none⟩)) rfl rfl (by kernel_rfl) (fun w' hS => (rvk (by kernel_rfl))) ?_
  simp only [p1, p2, p3, p4]
  refine ort_pure (some 15) (.agg #[uaa0, uaa1, uaa2, uaa3, uab0, uab1, uab2, uab3, uac0, uac1, uac2, uac3]) rfl rfl (by kernel_rfl) (fun w' hS => (rv_load 35 _ b14 0 _ _ [uaa0, uaa1, uaa2, uaa3, uab0, uab1, uab2, uab3, uac0, uac1, uac2, uac3] rfl rfl hS.1 rfl (by kernel_rfl))) ?_
  simp only [p1, p2, p3, p4]
  refine ort_pure (some 17) (.pointer (some ⟨b6, 12, none⟩)) rfl rfl (by kernel_rfl) (fun w' hS => (rvk (by kernel_rfl))) ?_
  simp only [p1, p2, p3, p4]
  refine ort_pure (some 18) (.agg #[(.bool false), (.slice none 0 0), (.bool false), (.slice none 0 0), (.bool false), (.slice none 0 0), (.bool false), (.slice none 0 0), (.bool false), (.slice none 0 0), (.bool false), (.slice none 0 0)]) rfl rfl (by kernel_rfl) (fun w' hS => (rv_load 35 _ b6 12 _ _ [(.bool false), (.slice none 0 0), (.bool false), (.slice none 0 0), (.bool false), (.slice none 0 0), (.bool false), (.slice none 0 0), (.bool false), (.slice none 0 0), (.bool false), (.slice none 0 0)] rfl rfl (hS.2.1 (by kernel_rfl)) rfl (by kernel_rfl))) ?_
  simp only [p1, p2, p3, p4]
  refine ort_pure (some 19) (.pointer (some ⟨b14, 12, none⟩)) rfl rfl (by kernel_rfl) (fun w' hS => (rvk (by kernel_rfl))) ?_
  simp only [p1, p2, p3, p4]
  refine ort_pure (some 20) (.agg #[uba0, uba1, uba2, uba3, ubb0, ubb1, ubb2, ubb3, ubc0, ubc1, ubc2, ubc3]) rfl rfl (by kernel_rfl) (fun w' hS => (rv_load 35 _ b14 12 _ _ [uba0, uba1, uba2, uba3, ubb0, ubb1, ubb2, ubb3, ubc0, ubc1, ubc2, ubc3] rfl rfl hS.1 rfl (by kernel_rfl))) ?_
  simp only [p1, p2, p3, p4]
  refine ort_eff rfl (by kernel_rfl) (fun K19 k19 => ?_)
  have kq21 := g3.kp.trans (g6.kp.trans (g14.kp.trans (kp16.trans gd18.kp)))
  replace hua1 := hua1.kp kq21
  replace hua2 := hua2.kp kq21
  replace hua3 := hua3.kp kq21
  refine eff_call (some 16) rfl (by kernel_rfl) (vadd_v (IsRat.zero _ (k := 64) (Nat.le_refl _)) (IsRat.zero _ (k := 64) (Nat.le_refl _)) (IsRat.zero _ (k := 64) (Nat.le_refl _)) hua1 hua2 hua3 (by omega)) ?_
  rintro e20 w20 ⟨⟨t20_0, t20_1, t20_2, t20_3, t20_4, t20_5, t20_6, t20_7, t20_8, t20_9, t20_10, t20_11, rfl, h20a, h20b, h20c⟩, g20⟩
  refine ⟨_, rfl, ?_⟩
  replace hB := Gr.trans hB g20
  replace L14 := L14.gr g20
  replace L6 := L6.gr g20
  refine k19 _ _ L14 ⟨fun _ => L6, trivial⟩ ?_
  try clear k19 K19
  simp only [p1, p2, p3, p4]
  refine ort_eff rfl (by kernel_rfl) (fun K22 k22 => ?_)
  have kq24 := g3.kp.trans (g6.kp.trans (g14.kp.trans (kp16.trans (gd18.kp.trans g20.kp))))
  replace hub1 := hub1.kp kq24
  replace hub2 := hub2.kp kq24
  replace hub3 := hub3.kp kq24
  refine eff_call (some 21) rfl (by kernel_rfl) (vadd_v (IsRat.zero _ (k := 64) (Nat.le_refl _)) (IsRat.zero _ (k := 64) (Nat.le_refl _)) (IsRat.zero _ (k := 64) (Nat.le_refl _)) hub1 hub2 hub3 (by omega)) ?_
  rintro e23 w23 ⟨⟨t23_0, t23_1, t23_2, t23_3, t23_4, t23_5, t23_6, t23_7, t23_8, t23_9, t23_10, t23_11, rfl, h23a, h23b, h23c⟩, g23⟩
  refine ⟨_, rfl, ?_⟩
  replace hB := Gr.trans hB g23
  replace L14 := L14.gr g23
  replace L6 := L6.gr g23
  refine k22 _ _ L14 ⟨fun _ => L6, trivial⟩ ?_
  try clear k22 K22
  simp only [p1, p2, p3, p4]
  refine ort_pure (some 22) (.agg #[t20_0, t20_1, t20_2, t20_3, t20_4, t20_5, t20_6, t20_7, t20_8, t20_9, t20_10, t20_11, t23_0, t23_1, t23_2, t23_3, t23_4, t23_5, t23_6, t23_7, t23_8, t23_9, t23_10, t23_11]) rfl rfl (by kernel_rfl) (fun w' hS => (rvk (by kernel_rfl))) ?_
  simp only [p1, p2, p3, p4]
  refine ort_eff rfl (by kernel_rfl) (fun K25 k25 => ?_)
  refine eff_store 40 _ _ b6 0 (.agg #[t20_0, t20_1, t20_2, t20_3, t20_4, t20_5, t20_6, t20_7, t20_8, t20_9, t20_10, t20_11, t23_0, t23_1, t23_2, t23_3, t23_4, t23_5, t23_6, t23_7, t23_8, t23_9, t23_10, t23_11]) [t20_0, t20_1, t20_2, t20_3, t20_4, t20_5, t20_6, t20_7, t20_8, t20_9, t20_10, t20_11, t23_0, t23_1, t23_2, t23_3, t23_4, t23_5, t23_6, t23_7, t23_8, t23_9, t23_10, t23_11] _ #[t20_0, t20_1, t20_2, t20_3, t20_4, t20_5, t20_6, t20_7, t20_8, t20_9, t20_10, t20_11, t23_0, t23_1, t23_2, t23_3, t23_4, t23_5, t23_6, t23_7, t23_8, t23_9, t23_10, t23_11] _ rfl rfl rfl rfl rfl L6 (by kernel_rfl) (Nat.le_of_ble_eq_true rfl) ⟨h20a.one0, h20a.one1, h20a.one2, h20a.one3, h20b.one0, h20b.one1, h20b.one2, h20b.one3, h20c.one0, h20c.one1, h20c.one2, h20c.one3, h23a.one0, h23a.one1, h23a.one2, h23a.one3, h23b.one0, h23b.one1, h23b.one2, h23b.one3, h23c.one0, h23c.one1, h23c.one2, h23c.one3, trivial⟩ (by kernel_rfl) (fun w26 st26 N26 => ?_)
  have kp26 := st26.kp L6 (by decide)
  replace hB := st26.gr hB q6
  replace L6 := N26
  replace L14 := st26.lc L14 (Ne.symm ne6_14)
  refine k25 _ _ L14 ⟨cameT (by kernel_rfl), trivial⟩ ?_
  try clear k25 K25
  refine ort_nil ?_
  refine k11 _ _ ?_
  try clear k11 K11
  refine wp_region ?_
  simp only [List.size_toArray, List.length_cons, List.length_nil, Nat.reduceAdd, List.range, List.range.loop]
  refine sq_val (some 23) (.int .i64 1) rfl rfl (by kernel_rfl) (rvk (by kernel_rfl)) ?_
  simp only [p1, p2, p3, p4]
  refine sq_val (some 8) (.int .i64 1) rfl rfl (by kernel_rfl) (rvk (by kernel_rfl)) ?_
  simp only [p1, p2, p3, p4]
  refine sq_nil ?_
  show Code.rounds _ _ _ _ _ _
  show Code.wp _ _ _ _ _
  refine wp_seq_k (fun K27 k27 => ?_)
  refine wp_region ?_
  simp only [List.size_toArray, List.length_cons, List.length_nil, Nat.reduceAdd, List.range, List.range.loop]
  refine sq_val (some 9) (.bool true) rfl rfl (by kernel_rfl) (rvk (by kernel_rfl)) ?_
  simp only [p1, p2, p3, p4]
  refine sq_nil ?_
  refine k27 _ _ ?_
  try clear k27 K27
  refine wp_seq_k (fun K28 k28 => ?_)
  refine wp_cond_true rfl ?_
  refine wp_skip ?_
  refine k28 _ _ ?_
  try clear k28 K28
  refine wp_seq_k (fun K29 k29 => ?_)
  refine wp_block ?_
  refine wp_seq_k (fun K30 k30 => ?_)
  refine wp_region ?_
  simp only [List.size_toArray, List.length_cons, List.length_nil, Nat.reduceAdd, List.range, List.range.loop]
  refine sq_val (some 10) (.pointer (some ⟨ab, 24, none⟩)) rfl rfl (by kernel_rfl) (rvk (by kernel_rfl)) ?_
  simp only [p1, p2, p3, p4]
  replace hL := st26.lc ((st16.lc (hL.gr g14) ne0_14).gr (gd18.trans (g20.trans g23))) ne0_6
  refine sq_val (some 11) (.agg #[vaa0, vaa1, vaa2, vaa3, vab0, vab1, vab2, vab3, vac0, vac1, vac2, vac3, vba0, vba1, vba2, vba3, vbb0, vbb1, vbb2, vbb3, vbc0, vbc1, vbc2, vbc3]) rfl rfl (by kernel_rfl) (rv_load 40 _ ab 24 _ _ [vaa0, vaa1, vaa2, vaa3, vab0, vab1, vab2, vab3, vac0, vac1, vac2, vac3, vba0, vba1, vba2, vba3, vbb0, vbb1, vbb2, vbb3, vbc0, vbc1, vbc2, vbc3] rfl rfl hL rfl (by kernel_rfl)) ?_
  simp only [p1, p2, p3, p4]
  refine sq_eff rfl (by kernel_rfl) (fun K31 k31 => ?_)
  refine eff_alloc 40 (.agg #[(.bool false), (.slice none 0 0), (.bool false), (.slice none 0 0), (.bool false), (.slice none 0 0), (.bool false), (.slice none 0 0), (.bool false), (.slice none 0 0), (.bool false), (.slice none 0 0), (.bool false), (.slice none 0 0), (.bool false), (.slice none 0 0), (.bool false), (.slice none 0 0), (.bool false), (.slice none 0 0), (.bool false), (.slice none 0 0), (.bool false), (.slice none 0 0)]) #[(.bool false), (.slice none 0 0), (.bool false), (.slice none 0 0), (.bool false), (.slice none 0 0), (.bool false), (.slice none 0 0), (.bool false), (.slice none 0 0), (.bool false), (.slice none 0 0), (.bool false), (.slice none 0 0), (.bool false), (.slice none 0 0), (.bool false), (.slice none 0 0), (.bool false), (.slice none 0 0), (.bool false), (.slice none 0 0), (.bool false), (.slice none 0 0)] (some 5) rfl rfl (by kernel_rfl) rfl (fun b32 w32 g32 L32 q32 => ?_)
  have ne0_32 := hL.ne q32
  replace L3 := st26.lc ((st16.lc (L3.gr g14) ne3_14).gr (gd18.trans (g20.trans g23))) ne3_6
  have ne3_32 := L3.ne q32
  have ne6_32 := L6.ne q32
  have ne14_32 := L14.ne q32
  replace q32 := Nat.le_trans (Below.size hB) q32
  replace hB := Gr.trans hB g32
  refine k31 _ _ ?_
  try clear k31 K31
  simp only [p1, p2, p3, p4]
  refine sq_eff rfl (by kernel_rfl) (fun K33 k33 => ?_)
  refine eff_store 40 _ _ b32 0 (.agg #[vaa0, vaa1, vaa2, vaa3, vab0, vab1, vab2, vab3, vac0, vac1, vac2, vac3, vba0, vba1, vba2, vba3, vbb0, vbb1, vbb2, vbb3, vbc0, vbc1, vbc2, vbc3]) [vaa0, vaa1, vaa2, vaa3, vab0, vab1, vab2, vab3, vac0, vac1, vac2, vac3, vba0, vba1, vba2, vba3, vbb0, vbb1, vbb2, vbb3, vbc0, vbc1, vbc2, vbc3] _ #[vaa0, vaa1, vaa2, vaa3, vab0, vab1, vab2, vab3, vac0, vac1, vac2, vac3, vba0, vba1, vba2, vba3, vbb0, vbb1, vbb2, vbb3, vbc0, vbc1, vbc2, vbc3] _ rfl rfl rfl rfl rfl L32 (by kernel_rfl) (Nat.le_of_ble_eq_true rfl) ⟨hva1.one0, hva1.one1, hva1.one2, hva1.one3, hva2.one0, hva2.one1, hva2.one2, hva2.one3, hva3.one0, hva3.one1, hva3.one2, hva3.one3, hvb1.one0, hvb1.one1, hvb1.one2, hvb1.one3, hvb2.one0, hvb2.one1, hvb2.one2, hvb2.one3, hvb3.one0, hvb3.one1, hvb3.one2, hvb3.one3, trivial⟩ (by kernel_rfl) (fun w34 st34 N34 => ?_)
  have kp34 := st34.kp L32 (by decide)
  replace hB := st34.gr hB q32
  replace L32 := N34
  refine k33 _ _ ?_
  try clear k33 K33
  refine sq_nil ?_
  refine k30 _ _ ?_
  try clear k30 K30
  have gd36 := Gr.drew w34
  replace hB := Gr.trans hB gd36
  replace L32 := L32.gr gd36
  replace L6 := (st34.lc (L6.gr g32) ne6_32).gr gd36
  refine wp_region_ort (fun w' => Lc w' b32 #[vaa0, vaa1, vaa2, vaa3, vab0, vab1, vab2, vab3, vac0, vac1, vac2, vac3, vba0, vba1, vba2, vba3, vbb0, vbb1, vbb2, vbb3, vbc0, vbc1, vbc2, vbc3] 40) [([11], (fun w' => Lc w' b6 #[t20_0, t20_1, t20_2, t20_3, t20_4, t20_5, t20_6, t20_7, t20_8, t20_9, t20_10, t20_11, t23_0, t23_1, t23_2, t23_3, t23_4, t23_5, t23_6, t23_7, t23_8, t23_9, t23_10, t23_11] 40))] [(true, 0), (true, 1), (true, 2), (true, 3), (true, 5), (true, 6), (true, 7), (true, 8), (false, 4), (false, 9), (true, 10), (false, 11)] (by kernel_rfl) (by kernel_rfl) (by kernel_rfl) (by decide) (fun _ _ _ _ _ h => h) L32 ⟨fun _ => L6, trivial⟩ ?_
  refine ort_pure (some 12) (.pointer (some ⟨b6, 0, none⟩)) rfl rfl (by kernel_rfl) (fun w' hS => (rvk (by kernel_rfl))) ?_
  simp only [p1, p2, p3, p4]
  refine ort_pure (some 13) (.agg #[t20_0, t20_1, t20_2, t20_3, t20_4, t20_5, t20_6, t20_7, t20_8, t20_9, t20_10, t20_11]) rfl rfl (by kernel_rfl) (fun w' hS => (rv_load 35 _ b6 0 _ _ [t20_0, t20_1, t20_2, t20_3, t20_4, t20_5, t20_6, t20_7, t20_8, t20_9, t20_10, t20_11] rfl rfl (hS.2.1 (by kernel_rfl)) rfl (by kernel_rfl))) ?_
  simp only [p1, p2, p3, p4]
  refine ort_pure (some 14) (.pointer (some ⟨b32, 0, none⟩)) rfl rfl (by kernel_rfl) (fun w' hS => (rvk (by kernel_rfl))) ?_
  simp only [p1, p2, p3, p4]
  refine ort_pure (some 15) (.agg #[vaa0, vaa1, vaa2, vaa3, vab0, vab1, vab2, vab3, vac0, vac1, vac2, vac3]) rfl rfl (by kernel_rfl) (fun w' hS => (rv_load 35 _ b32 0 _ _ [vaa0, vaa1, vaa2, vaa3, vab0, vab1, vab2, vab3, vac0, vac1, vac2, vac3] rfl rfl hS.1 rfl (by kernel_rfl))) ?_
  simp only [p1, p2, p3, p4]
  refine ort_pure (some 17) (.pointer (some ⟨b6, 12, none⟩)) rfl rfl (by kernel_rfl) (fun w' hS => (rvk (by kernel_rfl))) ?_
  simp only [p1, p2, p3, p4]
  refine ort_pure (some 18) (.agg #[t23_0, t23_1, t23_2, t23_3, t23_4, t23_5, t23_6, t23_7, t23_8, t23_9, t23_10, t23_11]) rfl rfl (by kernel_rfl) (fun w' hS => (rv_load 35 _ b6 12 _ _ [t23_0, t23_1, t23_2, t23_3, t23_4, t23_5, t23_6, t23_7, t23_8, t23_9, t23_10, t23_11] rfl rfl (hS.2.1 (by kernel_rfl)) rfl (by kernel_rfl))) ?_
  simp only [p1, p2, p3, p4]
  refine ort_pure (some 19) (.pointer (some ⟨b32, 12, none⟩)) rfl rfl (by kernel_rfl) (fun w' hS => (rvk (by kernel_rfl))) ?_
  simp only [p1, p2, p3, p4]
  refine ort_pure (some 20) (.agg #[vba0, vba1, vba2, vba3, vbb0, vbb1, vbb2, vbb3, vbc0, vbc1, vbc2, vbc3]) rfl rfl (by kernel_rfl) (fun w' hS => (rv_load 35 _ b32 12 _ _ [vba0, vba1, vba2, vba3, vbb0, vbb1, vbb2, vbb3, vbc0, vbc1, vbc2, vbc3] rfl rfl hS.1 rfl (by kernel_rfl))) ?_
  simp only [p1, p2, p3, p4]
  refine ort_eff rfl (by kernel_rfl) (fun K37 k37 => ?_)
  have kq39 := g23.kp.trans (kp26.trans (g32.kp.trans (kp34.trans gd36.kp)))
  replace h20a := h20a.kp kq39
  replace h20b := h20b.kp kq39
  replace h20c := h20c.kp kq39
  have kq40 := g3.kp.trans (g6.kp.trans (g14.kp.trans (kp16.trans (gd18.kp.trans (g20.kp.trans (g23.kp.trans (kp26.trans (g32.kp.trans (kp34.trans gd36.kp)))))))))
  replace hva1 := hva1.kp kq40
  replace hva2 := hva2.kp kq40
  replace hva3 := hva3.kp kq40
  refine eff_call (some 16) rfl (by kernel_rfl) (vadd_v h20a h20b h20c hva1 hva2 hva3 (by omega)) ?_
  rintro e38 w38 ⟨⟨t38_0, t38_1, t38_2, t38_3, t38_4, t38_5, t38_6, t38_7, t38_8, t38_9, t38_10, t38_11, rfl, h38a, h38b, h38c⟩, g38⟩
  refine ⟨_, rfl, ?_⟩
  replace hB := Gr.trans hB g38
  replace L32 := L32.gr g38
  replace L6 := L6.gr g38
  refine k37 _ _ L32 ⟨fun _ => L6, trivial⟩ ?_
  try clear k37 K37
  simp only [p1, p2, p3, p4]
  refine ort_eff rfl (by kernel_rfl) (fun K41 k41 => ?_)
  have kq43 := kp26.trans (g32.kp.trans (kp34.trans (gd36.kp.trans g38.kp)))
  replace h23a := h23a.kp kq43
  replace h23b := h23b.kp kq43
  replace h23c := h23c.kp kq43
  have kq44 := g3.kp.trans (g6.kp.trans (g14.kp.trans (kp16.trans (gd18.kp.trans (g20.kp.trans (g23.kp.trans (kp26.trans (g32.kp.trans (kp34.trans (gd36.kp.trans g38.kp))))))))))
  replace hvb1 := hvb1.kp kq44
  replace hvb2 := hvb2.kp kq44
  replace hvb3 := hvb3.kp kq44
  refine eff_call (some 21) rfl (by kernel_rfl) (vadd_v h23a h23b h23c hvb1 hvb2 hvb3 (by omega)) ?_
  rintro e42 w42 ⟨⟨t42_0, t42_1, t42_2, t42_3, t42_4, t42_5, t42_6, t42_7, t42_8, t42_9, t42_10, t42_11, rfl, h42a, h42b, h42c⟩, g42⟩
  refine ⟨_, rfl, ?_⟩
  replace hB := Gr.trans hB g42
  replace L32 := L32.gr g42
  replace L6 := L6.gr g42
  refine k41 _ _ L32 ⟨fun _ => L6, trivial⟩ ?_
  try clear k41 K41
  simp only [p1, p2, p3, p4]
  refine ort_pure (some 22) (.agg #[t38_0, t38_1, t38_2, t38_3, t38_4, t38_5, t38_6, t38_7, t38_8, t38_9, t38_10, t38_11, t42_0, t42_1, t42_2, t42_3, t42_4, t42_5, t42_6, t42_7, t42_8, t42_9, t42_10, t42_11]) rfl rfl (by kernel_rfl) (fun w' hS => (rvk (by kernel_rfl))) ?_
  simp only [p1, p2, p3, p4]
  refine ort_eff rfl (by kernel_rfl) (fun K45 k45 => ?_)
  refine eff_store 40 _ _ b6 0 (.agg #[t38_0, t38_1, t38_2, t38_3, t38_4, t38_5, t38_6, t38_7, t38_8, t38_9, t38_10, t38_11, t42_0, t42_1, t42_2, t42_3, t42_4, t42_5, t42_6, t42_7, t42_8, t42_9, t42_10, t42_11]) [t38_0, t38_1, t38_2, t38_3, t38_4, t38_5, t38_6, t38_7, t38_8, t38_9, t38_10, t38_11, t42_0, t42_1, t42_2, t42_3, t42_4, t42_5, t42_6, t42_7, t42_8, t42_9, t42_10, t42_11] _ #[t38_0, t38_1, t38_2, t38_3, t38_4, t38_5, t38_6, t38_7, t38_8, t38_9, t38_10, t38_11, t42_0, t42_1, t42_2, t42_3, t42_4, t42_5, t42_6, t42_7, t42_8, t42_9, t42_10, t42_11] _ rfl rfl rfl rfl rfl L6 (by kernel_rfl) (Nat.le_of_ble_eq_true rfl) ⟨h38a.one0, h38a.one1, h38a.one2, h38a.one3, h38b.one0, h38b.one1, h38b.one2, h38b.one3, h38c.one0, h38c.one1, h38c.one2, h38c.one3, h42a.one0, h42a.one1, h42a.one2, h42a.one3, h42b.one0, h42b.one1, h42b.one2, h42b.one3, h42c.one0, h42c.one1, h42c.one2, h42c.one3, trivial⟩ (by kernel_rfl) (fun w46 st46 N46 => ?_)
  have kp46 := st46.kp L6 (by decide)
  replace hB := st46.gr hB q6
  replace L6 := N46
  replace L32 := st46.lc L32 (Ne.symm ne6_32)
  refine k45 _ _ L32 ⟨cameT (by kernel_rfl), trivial⟩ ?_
  try clear k45 K45
  refine ort_nil ?_
  refine k29 _ _ ?_
  try clear k29 K29
  refine wp_region ?_
  simp only [List.size_toArray, List.length_cons, List.length_nil, Nat.reduceAdd, List.range, List.range.loop]
  refine sq_val (some 23) (.int .i64 2) rfl rfl (by kernel_rfl) (rvk (by kernel_rfl)) ?_
  simp only [p1, p2, p3, p4]
  refine sq_val (some 8) (.int .i64 2) rfl rfl (by kernel_rfl) (rvk (by kernel_rfl)) ?_
  simp only [p1, p2, p3, p4]
  refine sq_nil ?_
  show Code.rounds _ _ _ _ _ _
  show Code.wp _ _ _ _ _
  refine wp_seq_k (fun K47 k47 => ?_)
  refine wp_region ?_
  simp only [List.size_toArray, List.length_cons, List.length_nil, Nat.reduceAdd, List.range, List.range.loop]
  refine sq_val (some 9) (.bool false) rfl rfl (by kernel_rfl) (rvk (by kernel_rfl)) ?_
  simp only [p1, p2, p3, p4]
  refine sq_nil ?_
  refine k47 _ _ ?_
  try clear k47 K47
  refine wp_seq_k (fun K48 k48 => ?_)
  refine wp_cond_false rfl ?_
  refine wp_exit ?_
  simp only [Exit.then, Exit.inBlock, ↓reduceIte]
  refine k7 _ _ ?_
  try clear k7 K7
  refine wp_seq_k (fun K49 k49 => ?_)
  refine wp_region ?_
  simp only [List.size_toArray, List.length_cons, List.length_nil, Nat.reduceAdd, List.range, List.range.loop]
  refine sq_val (some 24) (.agg #[t38_0, t38_1, t38_2, t38_3, t38_4, t38_5, t38_6, t38_7, t38_8, t38_9, t38_10, t38_11, t42_0, t42_1, t42_2, t42_3, t42_4, t42_5, t42_6, t42_7, t42_8, t42_9, t42_10, t42_11]) rfl rfl (by kernel_rfl) (rv_load 40 _ b6 0 _ _ [t38_0, t38_1, t38_2, t38_3, t38_4, t38_5, t38_6, t38_7, t38_8, t38_9, t38_10, t38_11, t42_0, t42_1, t42_2, t42_3, t42_4, t42_5, t42_6, t42_7, t42_8, t42_9, t42_10, t42_11] rfl rfl L6 rfl (by kernel_rfl)) ?_
  simp only [p1, p2, p3, p4]
  refine sq_eff rfl (by kernel_rfl) (fun K50 k50 => ?_)
  replace L3 := st46.lc ((st34.lc (L3.gr g32) ne3_32).gr (gd36.trans (g38.trans g42))) ne3_6
  refine eff_store 40 _ _ b3 0 (.agg #[t38_0, t38_1, t38_2, t38_3, t38_4, t38_5, t38_6, t38_7, t38_8, t38_9, t38_10, t38_11, t42_0, t42_1, t42_2, t42_3, t42_4, t42_5, t42_6, t42_7, t42_8, t42_9, t42_10, t42_11]) [t38_0, t38_1, t38_2, t38_3, t38_4, t38_5, t38_6, t38_7, t38_8, t38_9, t38_10, t38_11, t42_0, t42_1, t42_2, t42_3, t42_4, t42_5, t42_6, t42_7, t42_8, t42_9, t42_10, t42_11] _ #[t38_0, t38_1, t38_2, t38_3, t38_4, t38_5, t38_6, t38_7, t38_8, t38_9, t38_10, t38_11, t42_0, t42_1, t42_2, t42_3, t42_4, t42_5, t42_6, t42_7, t42_8, t42_9, t42_10, t42_11] _ rfl rfl rfl rfl rfl L3 (by kernel_rfl) (Nat.le_of_ble_eq_true rfl) ⟨h38a.one0, h38a.one1, h38a.one2, h38a.one3, h38b.one0, h38b.one1, h38b.one2, h38b.one3, h38c.one0, h38c.one1, h38c.one2, h38c.one3, h42a.one0, h42a.one1, h42a.one2, h42a.one3, h42b.one0, h42b.one1, h42b.one2, h42b.one3, h42c.one0, h42c.one1, h42c.one2, h42c.one3, trivial⟩ (by kernel_rfl) (fun w51 st51 N51 => ?_)
  have kp51 := st51.kp L3 (by decide)
  replace hB := st51.gr hB q3
  replace L3 := N51
  refine k50 _ _ ?_
  try clear k50 K50
  refine sq_nil ?_
  refine k49 _ _ ?_
  try clear k49 K49
  refine wp_ret ?_
  refine bodyPost_ret (v := (.agg #[t38_0, t38_1, t38_2, t38_3, t38_4, t38_5, t38_6, t38_7, t38_8, t38_9, t38_10, t38_11, t42_0, t42_1, t42_2, t42_3, t42_4, t42_5, t42_6, t42_7, t42_8, t42_9, t42_10, t42_11])) (ret_cell _ _ _ rfl rfl L3 (by kernel_rfl)) rfl ⟨?_, hB⟩
  have kq52 := g42.kp.trans (kp46.trans kp51)
  replace h38a := h38a.kp kq52
  replace h38b := h38b.kp kq52
  replace h38c := h38c.kp kq52
  have kq53 := kp46.trans kp51
  replace h42a := h42a.kp kq53
  replace h42b := h42b.kp kq53
  replace h42c := h42c.kp kq53
  exact ⟨_, _, _, _, _, _, _, _, _, _, _, _, _, _, _, _, _, _, _, _, _, _, _, _, rfl, h38a, h38b, h38c, h42a, h42b, h42c⟩

set_option maxRecDepth 100000 in
set_option maxHeartbeats 1000000 in
theorem wsum_0 (w : World) :
    Calls Tryz.prog 8 #[(.slice none 0 0)] w fun e w' => e = .returned (.agg #[(.bool false), (.slice none 0 0), (.bool false), (.slice none 0 0), (.bool false), (.slice none 0 0), (.bool false), (.slice none 0 0), (.bool false), (.slice none 0 0), (.bool false), (.slice none 0 0), (.bool false), (.slice none 0 0), (.bool false), (.slice none 0 0), (.bool false), (.slice none 0 0), (.bool false), (.slice none 0 0), (.bool false), (.slice none 0 0), (.bool false), (.slice none 0 0)]) ∧ Gr w w' := by
  go_enter Tryz.func8, Tryz.ntmps8
  have hB := Gr.refl w
  refine wp_seq_k (fun K1 k1 => ?_)
  refine wp_region ?_
  simp only [List.size_toArray, List.length_cons, List.length_nil, Nat.reduceAdd, List.range, List.range.loop]
  refine sq_eff rfl (by kernel_rfl) (fun K2 k2 => ?_)
  refine eff_alloc 40 (.agg #[(.bool false), (.slice none 0 0), (.bool false), (.slice none 0 0), (.bool false), (.slice none 0 0), (.bool false), (.slice none 0 0), (.bool false), (.slice none 0 0), (.bool false), (.slice none 0 0), (.bool false), (.slice none 0 0), (.bool false), (.slice none 0 0), (.bool false), (.slice none 0 0), (.bool false), (.slice none 0 0), (.bool false), (.slice none 0 0), (.bool false), (.slice none 0 0)]) #[(.bool false), (.slice none 0 0), (.bool false), (.slice none 0 0), (.bool false), (.slice none 0 0), (.bool false), (.slice none 0 0), (.bool false), (.slice none 0 0), (.bool false), (.slice none 0 0), (.bool false), (.slice none 0 0), (.bool false), (.slice none 0 0), (.bool false), (.slice none 0 0), (.bool false), (.slice none 0 0), (.bool false), (.slice none 0 0), (.bool false), (.slice none 0 0)] (some 2) rfl rfl (by kernel_rfl) rfl (fun b3 w3 g3 L3 q3 => ?_)
  replace q3 := Nat.le_trans (Below.size hB) q3
  replace hB := Gr.trans hB g3
  refine k2 _ _ ?_
  try clear k2 K2
  simp only [p1, p2, p3, p4]
  refine sq_nil ?_
  refine k1 _ _ ?_
  try clear k1 K1
  refine wp_seq_k (fun K4 k4 => ?_)
  refine wp_region ?_
  simp only [List.size_toArray, List.length_cons, List.length_nil, Nat.reduceAdd, List.range, List.range.loop]
  refine sq_eff rfl (by kernel_rfl) (fun K5 k5 => ?_)
  refine eff_alloc 40 (.agg #[(.bool false), (.slice none 0 0), (.bool false), (.slice none 0 0), (.bool false), (.slice none 0 0), (.bool false), (.slice none 0 0), (.bool false), (.slice none 0 0), (.bool false), (.slice none 0 0), (.bool false), (.slice none 0 0), (.bool false), (.slice none 0 0), (.bool false), (.slice none 0 0), (.bool false), (.slice none 0 0), (.bool false), (.slice none 0 0), (.bool false), (.slice none 0 0)]) #[(.bool false), (.slice none 0 0), (.bool false), (.slice none 0 0), (.bool false), (.slice none 0 0), (.bool false), (.slice none 0 0), (.bool false), (.slice none 0 0), (.bool false), (.slice none 0 0), (.bool false), (.slice none 0 0), (.bool false), (.slice none 0 0), (.bool false), (.slice none 0 0), (.bool false), (.slice none 0 0), (.bool false), (.slice none 0 0), (.bool false), (.slice none 0 0)] (some 3) rfl rfl (by kernel_rfl) rfl (fun b6 w6 g6 L6 q6 => ?_)
  have ne3_6 := L3.ne q6
  replace q6 := Nat.le_trans (Below.size hB) q6
  replace hB := Gr.trans hB g6
  refine k5 _ _ ?_
  try clear k5 K5
  simp only [p1, p2, p3, p4]
  refine sq_nil ?_
  refine k4 _ _ ?_
  try clear k4 K4
  refine wp_seq_k (fun K7 k7 => ?_)
  refine wp_seq_k (fun K8 k8 => ?_)
  refine wp_region ?_
  simp only [List.size_toArray, List.length_cons, List.length_nil, Nat.reduceAdd, List.range, List.range.loop]
  refine sq_val (some 6) (.slice none 0 0) rfl rfl (by kernel_rfl) (rvk (by kernel_rfl)) ?_
  simp only [p1, p2, p3, p4]
  refine sq_val (some 7) (.int .i64 0) rfl rfl (by kernel_rfl) (rvk (by kernel_rfl)) ?_
  simp only [p1, p2, p3, p4]
  refine sq_val (some 8) (.int .i64 0) rfl rfl (by kernel_rfl) (rvk (by kernel_rfl)) ?_
  simp only [p1, p2, p3, p4]
  refine sq_nil ?_
  refine k8 _ _ ?_
  try clear k8 K8
  refine wp_block ?_
  refine wp_loop_rounds 4 ?_
  show Code.wp _ _ _ _ _
  refine wp_seq_k (fun K9 k9 => ?_)
  refine wp_region ?_
  simp only [List.size_toArray, List.length_cons, List.length_nil, Nat.reduceAdd, List.range, List.range.loop]
  refine sq_val (some 9) (.bool false) rfl rfl (by kernel_rfl) (rvk (by kernel_rfl)) ?_
  simp only [p1, p2, p3, p4]
  refine sq_nil ?_
  refine k9 _ _ ?_
  try clear k9 K9
  refine wp_seq_k (fun K10 k10 => ?_)
  refine wp_cond_false rfl ?_
  refine wp_exit ?_
  simp only [Exit.then, Exit.inBlock, ↓reduceIte]
  refine k7 _ _ ?_
  try clear k7 K7
  refine wp_seq_k (fun K11 k11 => ?_)
  refine wp_region ?_
  simp only [List.size_toArray, List.length_cons, List.length_nil, Nat.reduceAdd, List.range, List.range.loop]
  refine sq_val (some 24) (.agg #[(.bool false), (.slice none 0 0), (.bool false), (.slice none 0 0), (.bool false), (.slice none 0 0), (.bool false), (.slice none 0 0), (.bool false), (.slice none 0 0), (.bool false), (.slice none 0 0), (.bool false), (.slice none 0 0), (.bool false), (.slice none 0 0), (.bool false), (.slice none 0 0), (.bool false), (.slice none 0 0), (.bool false), (.slice none 0 0), (.bool false), (.slice none 0 0)]) rfl rfl (by kernel_rfl) (rv_load 40 _ b6 0 _ _ [(.bool false), (.slice none 0 0), (.bool false), (.slice none 0 0), (.bool false), (.slice none 0 0), (.bool false), (.slice none 0 0), (.bool false), (.slice none 0 0), (.bool false), (.slice none 0 0), (.bool false), (.slice none 0 0), (.bool false), (.slice none 0 0), (.bool false), (.slice none 0 0), (.bool false), (.slice none 0 0), (.bool false), (.slice none 0 0), (.bool false), (.slice none 0 0)] rfl rfl L6 rfl (by kernel_rfl)) ?_
  simp only [p1, p2, p3, p4]
  refine sq_eff rfl (by kernel_rfl) (fun K12 k12 => ?_)
  replace L3 := L3.gr g6
  refine eff_store 40 _ _ b3 0 (.agg #[(.bool false), (.slice none 0 0), (.bool false), (.slice none 0 0), (.bool false), (.slice none 0 0), (.bool false), (.slice none 0 0), (.bool false), (.slice none 0 0), (.bool false), (.slice none 0 0), (.bool false), (.slice none 0 0), (.bool false), (.slice none 0 0), (.bool false), (.slice none 0 0), (.bool false), (.slice none 0 0), (.bool false), (.slice none 0 0), (.bool false), (.slice none 0 0)]) [(.bool false), (.slice none 0 0), (.bool false), (.slice none 0 0), (.bool false), (.slice none 0 0), (.bool false), (.slice none 0 0), (.bool false), (.slice none 0 0), (.bool false), (.slice none 0 0), (.bool false), (.slice none 0 0), (.bool false), (.slice none 0 0), (.bool false), (.slice none 0 0), (.bool false), (.slice none 0 0), (.bool false), (.slice none 0 0), (.bool false), (.slice none 0 0)] _ #[(.bool false), (.slice none 0 0), (.bool false), (.slice none 0 0), (.bool false), (.slice none 0 0), (.bool false), (.slice none 0 0), (.bool false), (.slice none 0 0), (.bool false), (.slice none 0 0), (.bool false), (.slice none 0 0), (.bool false), (.slice none 0 0), (.bool false), (.slice none 0 0), (.bool false), (.slice none 0 0), (.bool false), (.slice none 0 0), (.bool false), (.slice none 0 0)] _ rfl rfl rfl rfl rfl L3 (by kernel_rfl) (Nat.le_of_ble_eq_true rfl) ⟨rfl, rfl, rfl, rfl, rfl, rfl, rfl, rfl, rfl, rfl, rfl, rfl, rfl, rfl, rfl, rfl, rfl, rfl, rfl, rfl, rfl, rfl, rfl, rfl, trivial⟩ (by kernel_rfl) (fun w13 st13 N13 => ?_)
  have kp13 := st13.kp L3 (by decide)
  replace hB := st13.gr hB q3
  replace L3 := N13
  refine k12 _ _ ?_
  try clear k12 K12
  refine sq_nil ?_
  refine k11 _ _ ?_
  try clear k11 K11
  refine wp_ret ?_
  refine bodyPost_ret (v := (.agg #[(.bool false), (.slice none 0 0), (.bool false), (.slice none 0 0), (.bool false), (.slice none 0 0), (.bool false), (.slice none 0 0), (.bool false), (.slice none 0 0), (.bool false), (.slice none 0 0), (.bool false), (.slice none 0 0), (.bool false), (.slice none 0 0), (.bool false), (.slice none 0 0), (.bool false), (.slice none 0 0), (.bool false), (.slice none 0 0), (.bool false), (.slice none 0 0)])) (ret_cell _ _ _ rfl rfl L3 (by kernel_rfl)) rfl ⟨?_, hB⟩
  exact rfl

set_option maxRecDepth 100000 in
set_option maxHeartbeats 1000000 in
theorem equal_q {k m : Nat} {u0 u1 u2 u3 v0 v1 v2 v3 : Value} {a b : Rat} {w : World} (ha : IsRat w k u0 u1 u2 u3 a) (hb : IsRat w m v0 v1 v2 v3 b) (_hk : k + m ≤ 100000) :
    Calls Tryz.prog 15 #[(.agg #[u0, u1, u2, u3]), (.agg #[v0, v1, v2, v3])] w fun e w' => e = .returned (.bool (rcmp a b == (0 : Int))) ∧ Gr w w' := by
  go_enter Tryz.func15, Tryz.ntmps15
  have hB := Gr.refl w
  refine wp_seq_k (fun K1 k1 => ?_)
  refine wp_region ?_
  simp only [List.size_toArray, List.length_cons, List.length_nil, Nat.reduceAdd, List.range, List.range.loop]
  refine sq_eff rfl (by kernel_rfl) (fun K2 k2 => ?_)
  refine eff_box 33 _ (.agg #[u0, u1, u2, u3]) #[u0, u1, u2, u3] (some 2) rfl rfl rfl rfl (fun b3 w3 g3 L3 q3 => ?_)
  replace q3 := Nat.le_trans (Below.size hB) q3
  replace hB := Gr.trans hB g3
  refine k2 _ _ ?_
  try clear k2 K2
  simp only [p1, p2, p3, p4]
  refine sq_eff rfl (by kernel_rfl) (fun K4 k4 => ?_)
  refine eff_box 33 _ (.agg #[v0, v1, v2, v3]) #[v0, v1, v2, v3] (some 3) rfl rfl rfl rfl (fun b5 w5 g5 L5 q5 => ?_)
  have ne3_5 := L3.ne q5
  replace q5 := Nat.le_trans (Below.size hB) q5
  replace hB := Gr.trans hB g5
  refine k4 _ _ ?_
  try clear k4 K4
  simp only [p1, p2, p3, p4]
  refine sq_val (some 4) (.bool false) rfl rfl (by kernel_rfl) (rvk (by kernel_rfl)) ?_
  simp only [p1, p2, p3, p4]
  refine sq_nil ?_
  refine k1 _ _ ?_
  try clear k1 K1
  refine wp_seq_k (fun K6 k6 => ?_)
  refine wp_region ?_
  simp only [List.size_toArray, List.length_cons, List.length_nil, Nat.reduceAdd, List.range, List.range.loop]
  replace L3 := L3.gr g5
  refine sq_val (some 5) (.agg #[u0, u1, u2, u3]) rfl rfl (by kernel_rfl) (rv_load 33 _ b3 0 _ _ [u0, u1, u2, u3] rfl rfl L3 rfl (by kernel_rfl)) ?_
  simp only [p1, p2, p3, p4]
  refine sq_val (some 6) (.agg #[v0, v1, v2, v3]) rfl rfl (by kernel_rfl) (rv_load 33 _ b5 0 _ _ [v0, v1, v2, v3] rfl rfl L5 rfl (by kernel_rfl)) ?_
  simp only [p1, p2, p3, p4]
  refine sq_eff rfl (by kernel_rfl) (fun K7 k7 => ?_)
  have kq9 := g3.kp.trans g5.kp
  replace ha := ha.kp kq9
  replace hb := hb.kp kq9
  refine eff_call (some 7) rfl (by kernel_rfl) (compare_r ha hb (by omega)) ?_
  rintro e8 w8 ⟨rfl, g8⟩
  refine ⟨_, rfl, ?_⟩
  replace hB := Gr.trans hB g8
  refine k7 _ _ ?_
  try clear k7 K7
  simp only [p1, p2, p3, p4]
  refine sq_val (some 8) (.bool ((rcmp a b == (0 : Int)))) rfl rfl (by kernel_rfl) (rvk (by kernel_rfl)) ?_
  simp only [p1, p2, p3, p4]
  refine sq_val (some 4) (.bool ((rcmp a b == (0 : Int)))) rfl rfl (by kernel_rfl) (rvk (by kernel_rfl)) ?_
  simp only [p1, p2, p3, p4]
  refine sq_nil ?_
  refine k6 _ _ ?_
  try clear k6 K6
  refine wp_ret ?_
  refine bodyPost_ret (v := (.bool ((rcmp a b == (0 : Int))))) (ret_tmp rfl rfl) rfl ⟨?_, hB⟩
  exact rfl

theorem lawPo0 (P0 P1 P2 S0 S1 S2 : Rat)  : (vcmp (P1 * S2 - P2 * S1) (P2 * S0 - P0 * S2) (P0 * S1 - P1 * S0) (P1 * S2 - P2 * S1) (P2 * S0 - P0 * S2) (P0 * S1 - P1 * S0) == (0 : Int)) = true := veq_t rfl rfl rfl
theorem lawPo1 (S0 S1 S2 : Rat)  : (vcmp S0 S1 S2 S0 S1 S2 == (0 : Int)) = true := veq_t rfl rfl rfl
theorem lawPo2 (S0 S1 S2 U0 U1 U2 : Rat)  : (vcmp (0 + S0 + U0) (0 + S1 + U1) (0 + S2 + U2) (S0 + U0) (S1 + U1) (S2 + U2) == (0 : Int)) = true := veq_t (by grind) (by grind) (by grind)
theorem lawPo3 (A0 A1 A2 A3 A4 A5 P0 P1 P2 Q0 Q1 Q2 S0 S1 S2 U0 U1 U2 : Rat)  : (rcmp ((0 + (0 + (P1 * S2 - P2 * S1) + (Q1 * U2 - Q2 * U1)) * A0 + (0 + (P2 * S0 - P0 * S2) + (Q2 * U0 - Q0 * U2)) * A1 + (0 + (P0 * S1 - P1 * S0) + (Q0 * U1 - Q1 * U0)) * A2) + (0 + (0 + S0 + U0) * A3 + (0 + S1 + U1) * A4 + (0 + S2 + U2) * A5)) ((0 + S0 * (A3 + (A1 * P2 - A2 * P1)) + S1 * (A4 + (A2 * P0 - A0 * P2)) + S2 * (A5 + (A0 * P1 - A1 * P0))) + (0 + U0 * (A3 + (A1 * Q2 - A2 * Q1)) + U1 * (A4 + (A2 * Q0 - A0 * Q2)) + U2 * (A5 + (A0 * Q1 - A1 * Q0)))) == (0 : Int)) = true := req_t (by grind)
theorem lawPo4 (A0 A1 A2 A3 A4 A5 P0 P1 P2 S0 S1 S2 : Rat)  : (rcmp ((0 + (P1 * S2 - P2 * S1) * A0 + (P2 * S0 - P0 * S2) * A1 + (P0 * S1 - P1 * S0) * A2) + (0 + S0 * A3 + S1 * A4 + S2 * A5)) (0 + S0 * (A3 + (A1 * P2 - A2 * P1)) + S1 * (A4 + (A2 * P0 - A0 * P2)) + S2 * (A5 + (A0 * P1 - A1 * P0))) == (0 : Int)) = true := req_t (by grind)
theorem lawPo5  : (vcmp 0 0 0 0 0 0 == (0 : Int)) = true := veq_t rfl rfl rfl
set_option maxRecDepth 100000 in
set_option maxHeartbeats 16000000 in
theorem powers_q (n0 n1 n2 n3 n4 n5 dd : Int) (_in0 : -128 ≤ n0 ∧ n0 ≤ 127) (_in1 : -128 ≤ n1 ∧ n1 ≤ 127) (_in2 : -128 ≤ n2 ∧ n2 ≤ 127) (_in3 : -128 ≤ n3 ∧ n3 ≤ 127) (_in4 : -128 ≤ n4 ∧ n4 ≤ 127) (_in5 : -128 ≤ n5 ∧ n5 ≤ 127) (_idd : 0 ≤ dd ∧ dd ≤ 255) (m0 m1 m2 : Int) (_im0 : -128 ≤ m0 ∧ m0 ≤ 127) (_im1 : -128 ≤ m1 ∧ m1 ≤ 127) (_im2 : -128 ≤ m2 ∧ m2 ≤ 127) (l0 l1 l2 : Int) (_il0 : -128 ≤ l0 ∧ l0 ≤ 127) (_il1 : -128 ≤ l1 ∧ l1 ≤ 127) (_il2 : -128 ≤ l2 ∧ l2 ≤ 127) (v0 v1 v2 : Int) (_iv0 : -128 ≤ v0 ∧ v0 ≤ 127) (_iv1 : -128 ≤ v1 ∧ v1 ≤ 127) (_iv2 : -128 ≤ v2 ∧ v2 ≤ 127) (y0 y1 y2 : Int) (_iy0 : -128 ≤ y0 ∧ y0 ≤ 127) (_iy1 : -128 ≤ y1 ∧ y1 ≤ 127) (_iy2 : -128 ≤ y2 ∧ y2 ≤ 127) (A0 A1 A2 A3 A4 A5 : Rat) (eA0 : A0 = (((n0 : Int) : Rat) / ((1 + dd % 3 : Int) : Rat))) (eA1 : A1 = (((n1 : Int) : Rat) / ((1 + dd % 3 : Int) : Rat))) (eA2 : A2 = (((n2 : Int) : Rat) / ((1 + dd % 3 : Int) : Rat))) (eA3 : A3 = (((n3 : Int) : Rat) / ((1 + dd % 3 : Int) : Rat))) (eA4 : A4 = (((n4 : Int) : Rat) / ((1 + dd % 3 : Int) : Rat))) (eA5 : A5 = (((n5 : Int) : Rat) / ((1 + dd % 3 : Int) : Rat))) (P0 P1 P2 : Rat) (eP0 : P0 = ((m0 : Int) : Rat)) (eP1 : P1 = ((m1 : Int) : Rat)) (eP2 : P2 = ((m2 : Int) : Rat)) (Q0 Q1 Q2 : Rat) (eQ0 : Q0 = ((l0 : Int) : Rat)) (eQ1 : Q1 = ((l1 : Int) : Rat)) (eQ2 : Q2 = ((l2 : Int) : Rat)) (S0 S1 S2 : Rat) (eS0 : S0 = ((v0 : Int) : Rat)) (eS1 : S1 = ((v1 : Int) : Rat)) (eS2 : S2 = ((v2 : Int) : Rat)) (U0 U1 U2 : Rat) (eU0 : U0 = ((y0 : Int) : Rat)) (eU1 : U1 = ((y1 : Int) : Rat)) (eU2 : U2 = ((y2 : Int) : Rat)) (w : World) (ht : Tab w) :
    Calls Tryz.prog 3 #[(.agg #[(.int .i8 (n0)), (.int .i8 (n1)), (.int .i8 (n2)), (.int .i8 (n3)), (.int .i8 (n4)), (.int .i8 (n5)), (.int .u8 (dd))]), (.agg #[(.int .i8 (m0)), (.int .i8 (m1)), (.int .i8 (m2)), (.int .i8 (l0)), (.int .i8 (l1)), (.int .i8 (l2))]), (.agg #[(.int .i8 (v0)), (.int .i8 (v1)), (.int .i8 (v2)), (.int .i8 (y0)), (.int .i8 (y1)), (.int .i8 (y2))])] w fun e w' => e = .returned (.bool true) ∧ Gr w w' := by
  go_enter Tryz.func3, Tryz.ntmps3
  have hB := Gr.refl w
  refine wp_seq_k (fun K1 k1 => ?_)
  refine wp_region ?_
  simp only [List.size_toArray, List.length_cons, List.length_nil, Nat.reduceAdd, List.range, List.range.loop]
  refine sq_eff rfl (by kernel_rfl) (fun K2 k2 => ?_)
  refine eff_box 25 _ (.agg #[(.int .i8 (n0)), (.int .i8 (n1)), (.int .i8 (n2)), (.int .i8 (n3)), (.int .i8 (n4)), (.int .i8 (n5)), (.int .u8 (dd))]) #[(.int .i8 (n0)), (.int .i8 (n1)), (.int .i8 (n2)), (.int .i8 (n3)), (.int .i8 (n4)), (.int .i8 (n5)), (.int .u8 (dd))] (some 3) rfl rfl rfl rfl (fun b3 w3 g3 L3 q3 => ?_)
  replace q3 := Nat.le_trans (Below.size hB) q3
  replace hB := Gr.trans hB g3
  refine k2 _ _ ?_
  try clear k2 K2
  simp only [p1, p2, p3, p4]
  refine sq_eff rfl (by kernel_rfl) (fun K4 k4 => ?_)
  refine eff_box 27 _ (.agg #[(.int .i8 (m0)), (.int .i8 (m1)), (.int .i8 (m2)), (.int .i8 (l0)), (.int .i8 (l1)), (.int .i8 (l2))]) #[(.int .i8 (m0)), (.int .i8 (m1)), (.int .i8 (m2)), (.int .i8 (l0)), (.int .i8 (l1)), (.int .i8 (l2))] (some 4) rfl rfl rfl rfl (fun b5 w5 g5 L5 q5 => ?_)
  have ne3_5 := L3.ne q5
  replace q5 := Nat.le_trans (Below.size hB) q5
  replace hB := Gr.trans hB g5
  refine k4 _ _ ?_
  try clear k4 K4
  simp only [p1, p2, p3, p4]
  refine sq_eff rfl (by kernel_rfl) (fun K6 k6 => ?_)
  refine eff_box 27 _ (.agg #[(.int .i8 (v0)), (.int .i8 (v1)), (.int .i8 (v2)), (.int .i8 (y0)), (.int .i8 (y1)), (.int .i8 (y2))]) #[(.int .i8 (v0)), (.int .i8 (v1)), (.int .i8 (v2)), (.int .i8 (y0)), (.int .i8 (y1)), (.int .i8 (y2))] (some 5) rfl rfl rfl rfl (fun b7 w7 g7 L7 q7 => ?_)
  replace L3 := L3.gr g5
  have ne3_7 := L3.ne q7
  have ne5_7 := L5.ne q7
  replace q7 := Nat.le_trans (Below.size hB) q7
  replace hB := Gr.trans hB g7
  refine k6 _ _ ?_
  try clear k6 K6
  simp only [p1, p2, p3, p4]
  refine sq_val (some 6) (.bool false) rfl rfl (by kernel_rfl) (rvk (by kernel_rfl)) ?_
  simp only [p1, p2, p3, p4]
  refine sq_nil ?_
  refine k1 _ _ ?_
  try clear k1 K1
  refine wp_seq_k (fun K8 k8 => ?_)
  refine wp_seq_k (fun K9 k9 => ?_)
  refine wp_region ?_
  simp only [List.size_toArray, List.length_cons, List.length_nil, Nat.reduceAdd, List.range, List.range.loop]
  refine sq_eff rfl (by kernel_rfl) (fun K10 k10 => ?_)
  refine eff_call (some 13) rfl (by kernel_rfl) (known_t _ (ht.gr hB)) ?_
  rintro e11 w11 ⟨rfl, g11⟩
  refine ⟨_, rfl, ?_⟩
  replace hB := Gr.trans hB g11
  refine k10 _ _ ?_
  try clear k10 K10
  simp only [p1, p2, p3, p4]
  refine sq_val (some 14) (.bool false) rfl rfl (by kernel_rfl) (rvk (by kernel_rfl)) ?_
  simp only [p1, p2, p3, p4]
  refine sq_nil ?_
  refine k9 _ _ ?_
  try clear k9 K9
  refine wp_cond_false rfl ?_
  refine wp_skip ?_
  refine k8 _ _ ?_
  try clear k8 K8
  refine wp_seq_k (fun K12 k12 => ?_)
  refine wp_region ?_
  simp only [List.size_toArray, List.length_cons, List.length_nil, Nat.reduceAdd, List.range, List.range.loop]
  replace L3 := L3.gr (g7.trans g11)
  refine sq_val (some 15) (.agg #[(.int .i8 (n0)), (.int .i8 (n1)), (.int .i8 (n2)), (.int .i8 (n3)), (.int .i8 (n4)), (.int .i8 (n5)), (.int .u8 (dd))]) rfl rfl (by kernel_rfl) (rv_load 25 _ b3 0 _ _ [(.int .i8 (n0)), (.int .i8 (n1)), (.int .i8 (n2)), (.int .i8 (n3)), (.int .i8 (n4)), (.int .i8 (n5)), (.int .u8 (dd))] rfl rfl L3 rfl (by kernel_rfl)) ?_
  simp only [p1, p2, p3, p4]
  refine sq_eff rfl (by kernel_rfl) (fun K13 k13 => ?_)
  refine eff_call (some 16) rfl (by kernel_rfl) (of_v (n0) (n1) (n2) (n3) (n4) (n5) (dd) (by omega) (by omega) (by omega) (by omega) (by omega) (by omega) (by omega) _) ?_
  rintro e14 w14 ⟨⟨t14_0, t14_1, t14_2, t14_3, t14_4, t14_5, t14_6, t14_7, t14_8, t14_9, t14_10, t14_11, t14_12, t14_13, t14_14, t14_15, t14_16, t14_17, t14_18, t14_19, t14_20, t14_21, t14_22, t14_23, rfl, h14a, h14b, h14c, h14d, h14e, h14f⟩, g14⟩
  refine ⟨_, rfl, ?_⟩
  replace hB := Gr.trans hB g14
  rw [← eA0] at h14a
  rw [← eA1] at h14b
  rw [← eA2] at h14c
  rw [← eA3] at h14d
  rw [← eA4] at h14e
  rw [← eA5] at h14f
  refine k13 _ _ ?_
  try clear k13 K13
  simp only [p1, p2, p3, p4]
  refine sq_eff rfl (by kernel_rfl) (fun K15 k15 => ?_)
  refine eff_alloc 37 (.agg #[(.bool false), (.slice none 0 0), (.bool false), (.slice none 0 0), (.bool false), (.slice none 0 0), (.bool false), (.slice none 0 0), (.bool false), (.slice none 0 0), (.bool false), (.slice none 0 0), (.bool false), (.slice none 0 0), (.bool false), (.slice none 0 0), (.bool false), (.slice none 0 0), (.bool false), (.slice none 0 0), (.bool false), (.slice none 0 0), (.bool false), (.slice none 0 0)]) #[(.bool false), (.slice none 0 0), (.bool false), (.slice none 0 0), (.bool false), (.slice none 0 0), (.bool false), (.slice none 0 0), (.bool false), (.slice none 0 0), (.bool false), (.slice none 0 0), (.bool false), (.slice none 0 0), (.bool false), (.slice none 0 0), (.bool false), (.slice none 0 0), (.bool false), (.slice none 0 0), (.bool false), (.slice none 0 0), (.bool false), (.slice none 0 0)] (some 7) rfl rfl (by kernel_rfl) rfl (fun b16 w16 g16 L16 q16 => ?_)
  replace L3 := L3.gr g14
  have ne3_16 := L3.ne q16
  replace L5 := L5.gr (g7.trans (g11.trans g14))
  have ne5_16 := L5.ne q16
  replace L7 := L7.gr (g11.trans g14)
  have ne7_16 := L7.ne q16
  replace q16 := Nat.le_trans (Below.size hB) q16
  replace hB := Gr.trans hB g16
  refine k15 _ _ ?_
  try clear k15 K15
  simp only [p1, p2, p3, p4]
  refine sq_eff rfl (by kernel_rfl) (fun K17 k17 => ?_)
  refine eff_store 37 _ _ b16 0 (.agg #[t14_0, t14_1, t14_2, t14_3, t14_4, t14_5, t14_6, t14_7, t14_8, t14_9, t14_10, t14_11, t14_12, t14_13, t14_14, t14_15, t14_16, t14_17, t14_18, t14_19, t14_20, t14_21, t14_22, t14_23]) [t14_0, t14_1, t14_2, t14_3, t14_4, t14_5, t14_6, t14_7, t14_8, t14_9, t14_10, t14_11, t14_12, t14_13, t14_14, t14_15, t14_16, t14_17, t14_18, t14_19, t14_20, t14_21, t14_22, t14_23] _ #[t14_0, t14_1, t14_2, t14_3, t14_4, t14_5, t14_6, t14_7, t14_8, t14_9, t14_10, t14_11, t14_12, t14_13, t14_14, t14_15, t14_16, t14_17, t14_18, t14_19, t14_20, t14_21, t14_22, t14_23] _ rfl rfl rfl rfl rfl L16 (by kernel_rfl) (Nat.le_of_ble_eq_true rfl) ⟨h14a.one0, h14a.one1, h14a.one2, h14a.one3, h14b.one0, h14b.one1, h14b.one2, h14b.one3, h14c.one0, h14c.one1, h14c.one2, h14c.one3, h14d.one0, h14d.one1, h14d.one2, h14d.one3, h14e.one0, h14e.one1, h14e.one2, h14e.one3, h14f.one0, h14f.one1, h14f.one2, h14f.one3, trivial⟩ (by kernel_rfl) (fun w18 st18 N18 => ?_)
  have kp18 := st18.kp L16 (by decide)
  replace hB := st18.gr hB q16
  replace L16 := N18
  refine k17 _ _ ?_
  try clear k17 K17
  refine sq_nil ?_
  refine k12 _ _ ?_
  try clear k12 K12
  refine wp_seq_k (fun K19 k19 => ?_)
  have hz20 := Below.size hB
  replace L3 := st18.lc (L3.gr g16) ne3_16
  have lt3_20 := L3.lt
  replace L5 := st18.lc (L5.gr g16) ne5_16
  have lt5_20 := L5.lt
  replace L7 := st18.lc (L7.gr g16) ne7_16
  have lt7_20 := L7.lt
  have lt16_20 := L16.lt
  have gd20 := Gr.drew w18
  replace hB := Gr.trans hB gd20
  replace L5 := L5.gr gd20
  replace L7 := L7.gr gd20
  refine wp_region_flo (fun w' => Lc w' b5 #[(.int .i8 (m0)), (.int .i8 (m1)), (.int .i8 (m2)), (.int .i8 (l0)), (.int .i8 (l1)), (.int .i8 (l2))] 27 ∧ Lc w' b7 #[(.int .i8 (v0)), (.int .i8 (v1)), (.int .i8 (v2)), (.int .i8 (y0)), (.int .i8 (y1)), (.int .i8 (y2))] 27) [(true, 0), (true, 1), (true, 3), (true, 4), (true, 7), (true, 8), (true, 10), (true, 11), (false, 2), (false, 5), (false, 6), (false, 9), (false, 12), (false, 13)] [⟨14, 8, 40, #[(.bool false), (.slice none 0 0), (.bool false), (.slice none 0 0), (.bool false), (.slice none 0 0), (.bool false), (.slice none 0 0), (.bool false), (.slice none 0 0), (.bool false), (.slice none 0 0), (.bool false), (.slice none 0 0), (.bool false), (.slice none 0 0), (.bool false), (.slice none 0 0), (.bool false), (.slice none 0 0), (.bool false), (.slice none 0 0), (.bool false), (.slice none 0 0)]⟩, ⟨15, 9, 40, #[(.bool false), (.slice none 0 0), (.bool false), (.slice none 0 0), (.bool false), (.slice none 0 0), (.bool false), (.slice none 0 0), (.bool false), (.slice none 0 0), (.bool false), (.slice none 0 0), (.bool false), (.slice none 0 0), (.bool false), (.slice none 0 0), (.bool false), (.slice none 0 0), (.bool false), (.slice none 0 0), (.bool false), (.slice none 0 0), (.bool false), (.slice none 0 0)]⟩] [(false, 16), (false, 17)] (by kernel_rfl) (by kernel_rfl) (by kernel_rfl) (by kernel_rfl) (by kernel_rfl) (by decide) (fun _ _ _ _ _ h => h) (fun _ _ _ _ _ h => h) (fun w' o h => ⟨Lc.gr h.1 (Gr.alloc w' o), Lc.gr h.2 (Gr.alloc w' o)⟩) ⟨L5, L7⟩ (by intro f hf; simp only [List.mem_cons, List.not_mem_nil, or_false] at hf; rcases hf with rfl | rfl <;> first | exact alloc_zero (z := (.agg #[(.bool false), (.slice none 0 0), (.bool false), (.slice none 0 0), (.bool false), (.slice none 0 0), (.bool false), (.slice none 0 0), (.bool false), (.slice none 0 0), (.bool false), (.slice none 0 0), (.bool false), (.slice none 0 0), (.bool false), (.slice none 0 0), (.bool false), (.slice none 0 0), (.bool false), (.slice none 0 0), (.bool false), (.slice none 0 0), (.bool false), (.slice none 0 0)])) (by kernel_rfl) rfl | exact alloc_zero (z := (.agg #[(.bool false), (.slice none 0 0), (.bool false), (.slice none 0 0), (.bool false), (.slice none 0 0), (.bool false), (.slice none 0 0), (.bool false), (.slice none 0 0), (.bool false), (.slice none 0 0), (.bool false), (.slice none 0 0), (.bool false), (.slice none 0 0), (.bool false), (.slice none 0 0), (.bool false), (.slice none 0 0), (.bool false), (.slice none 0 0), (.bool false), (.slice none 0 0)])) (by kernel_rfl) rfl) ?_
  refine flo_pure (some 17) (.pointer (some ⟨b5, 0, none⟩)) rfl rfl rfl (fun w' hS => (rvk (by kernel_rfl))) ?_
  simp only [p1, p2, p3, p4]
  refine flo_pure (some 18) (.agg #[(.int .i8 (m0)), (.int .i8 (m1)), (.int .i8 (m2))]) rfl rfl rfl (fun w' hS => (rv_load 26 _ b5 0 _ _ [(.int .i8 (m0)), (.int .i8 (m1)), (.int .i8 (m2))] rfl rfl hS.1 rfl (by kernel_rfl))) ?_
  simp only [p1, p2, p3, p4]
  refine flo_pure (some 20) (.pointer (some ⟨b7, 0, none⟩)) rfl rfl rfl (fun w' hS => (rvk (by kernel_rfl))) ?_
  simp only [p1, p2, p3, p4]
  refine flo_pure (some 21) (.agg #[(.int .i8 (v0)), (.int .i8 (v1)), (.int .i8 (v2))]) rfl rfl rfl (fun w' hS => (rv_load 26 _ b7 0 _ _ [(.int .i8 (v0)), (.int .i8 (v1)), (.int .i8 (v2))] rfl rfl hS.2 rfl (by kernel_rfl))) ?_
  simp only [p1, p2, p3, p4]
  refine flo_pure (some 24) (.pointer (some ⟨b5, 3, none⟩)) rfl rfl rfl (fun w' hS => (rvk (by kernel_rfl))) ?_
  simp only [p1, p2, p3, p4]
  refine flo_pure (some 25) (.agg #[(.int .i8 (l0)), (.int .i8 (l1)), (.int .i8 (l2))]) rfl rfl rfl (fun w' hS => (rv_load 26 _ b5 3 _ _ [(.int .i8 (l0)), (.int .i8 (l1)), (.int .i8 (l2))] rfl rfl hS.1 rfl (by kernel_rfl))) ?_
  simp only [p1, p2, p3, p4]
  refine flo_pure (some 27) (.pointer (some ⟨b7, 3, none⟩)) rfl rfl rfl (fun w' hS => (rvk (by kernel_rfl))) ?_
  simp only [p1, p2, p3, p4]
  refine flo_pure (some 28) (.agg #[(.int .i8 (y0)), (.int .i8 (y1)), (.int .i8 (y2))]) rfl rfl rfl (fun w' hS => (rv_load 26 _ b7 3 _ _ [(.int .i8 (y0)), (.int .i8 (y1)), (.int .i8 (y2))] rfl rfl hS.2 rfl (by kernel_rfl))) ?_
  simp only [p1, p2, p3, p4]
  refine flo_eff rfl rfl (fun w21 g21 _ K21 k21 => ?_)
  replace hB := Gr.trans hB g21
  refine eff_call (some 19) rfl (by kernel_rfl) (point_v (m0) (m1) (m2) (by omega) (by omega) (by omega) _) ?_
  rintro e22 w22 ⟨⟨t22_0, t22_1, t22_2, t22_3, t22_4, t22_5, t22_6, t22_7, t22_8, t22_9, t22_10, t22_11, rfl, h22a, h22b, h22c⟩, g22⟩
  refine ⟨_, rfl, ?_⟩
  replace hB := Gr.trans hB g22
  rw [← eP0] at h22a
  rw [← eP1] at h22b
  rw [← eP2] at h22c
  replace L5 := L5.gr (g21.trans g22)
  replace L7 := L7.gr (g21.trans g22)
  refine k21 _ _ g22 ⟨L5, L7⟩ ?_
  try clear k21 K21
  simp only [p1, p2, p3, p4]
  refine flo_eff rfl rfl (fun w23 g23 _ K23 k23 => ?_)
  replace hB := Gr.trans hB g23
  refine eff_call (some 22) rfl (by kernel_rfl) (point_v (v0) (v1) (v2) (by omega) (by omega) (by omega) _) ?_
  rintro e24 w24 ⟨⟨t24_0, t24_1, t24_2, t24_3, t24_4, t24_5, t24_6, t24_7, t24_8, t24_9, t24_10, t24_11, rfl, h24a, h24b, h24c⟩, g24⟩
  refine ⟨_, rfl, ?_⟩
  replace hB := Gr.trans hB g24
  rw [← eS0] at h24a
  rw [← eS1] at h24b
  rw [← eS2] at h24c
  replace L5 := L5.gr (g23.trans g24)
  replace L7 := L7.gr (g23.trans g24)
  refine k23 _ _ g24 ⟨L5, L7⟩ ?_
  try clear k23 K23
  simp only [p1, p2, p3, p4]
  refine flo_eff rfl rfl (fun w25 g25 _ K25 k25 => ?_)
  replace hB := Gr.trans hB g25
  have kq27 := g23.kp.trans (g24.kp.trans g25.kp)
  replace h22a := h22a.kp kq27
  replace h22b := h22b.kp kq27
  replace h22c := h22c.kp kq27
  replace h24a := h24a.kp g25.kp
  replace h24b := h24b.kp g25.kp
  replace h24c := h24c.kp g25.kp
  refine eff_call (some 23) rfl (by kernel_rfl) (force_v h22a h22b h22c h24a h24b h24c (by omega)) ?_
  rintro e26 w26 ⟨⟨t26_0, t26_1, t26_2, t26_3, t26_4, t26_5, t26_6, t26_7, t26_8, t26_9, t26_10, t26_11, t26_12, t26_13, t26_14, t26_15, t26_16, t26_17, t26_18, t26_19, t26_20, t26_21, t26_22, t26_23, rfl, h26a, h26b, h26c, h26d, h26e, h26f⟩, g26⟩
  refine ⟨_, rfl, ?_⟩
  replace hB := Gr.trans hB g26
  replace L5 := L5.gr (g25.trans g26)
  replace L7 := L7.gr (g25.trans g26)
  refine k25 _ _ g26 ⟨L5, L7⟩ ?_
  try clear k25 K25
  simp only [p1, p2, p3, p4]
  refine flo_eff rfl rfl (fun w28 g28 _ K28 k28 => ?_)
  replace hB := Gr.trans hB g28
  refine eff_call (some 26) rfl (by kernel_rfl) (point_v (l0) (l1) (l2) (by omega) (by omega) (by omega) _) ?_
  rintro e29 w29 ⟨⟨t29_0, t29_1, t29_2, t29_3, t29_4, t29_5, t29_6, t29_7, t29_8, t29_9, t29_10, t29_11, rfl, h29a, h29b, h29c⟩, g29⟩
  refine ⟨_, rfl, ?_⟩
  replace hB := Gr.trans hB g29
  rw [← eQ0] at h29a
  rw [← eQ1] at h29b
  rw [← eQ2] at h29c
  replace L5 := L5.gr (g28.trans g29)
  replace L7 := L7.gr (g28.trans g29)
  refine k28 _ _ g29 ⟨L5, L7⟩ ?_
  try clear k28 K28
  simp only [p1, p2, p3, p4]
  refine flo_eff rfl rfl (fun w30 g30 _ K30 k30 => ?_)
  replace hB := Gr.trans hB g30
  refine eff_call (some 29) rfl (by kernel_rfl) (point_v (y0) (y1) (y2) (by omega) (by omega) (by omega) _) ?_
  rintro e31 w31 ⟨⟨t31_0, t31_1, t31_2, t31_3, t31_4, t31_5, t31_6, t31_7, t31_8, t31_9, t31_10, t31_11, rfl, h31a, h31b, h31c⟩, g31⟩
  refine ⟨_, rfl, ?_⟩
  replace hB := Gr.trans hB g31
  rw [← eU0] at h31a
  rw [← eU1] at h31b
  rw [← eU2] at h31c
  replace L5 := L5.gr (g30.trans g31)
  replace L7 := L7.gr (g30.trans g31)
  refine k30 _ _ g31 ⟨L5, L7⟩ ?_
  try clear k30 K30
  simp only [p1, p2, p3, p4]
  refine flo_eff rfl rfl (fun w32 g32 _ K32 k32 => ?_)
  replace hB := Gr.trans hB g32
  have kq34 := g30.kp.trans (g31.kp.trans g32.kp)
  replace h29a := h29a.kp kq34
  replace h29b := h29b.kp kq34
  replace h29c := h29c.kp kq34
  replace h31a := h31a.kp g32.kp
  replace h31b := h31b.kp g32.kp
  replace h31c := h31c.kp g32.kp
  refine eff_call (some 30) rfl (by kernel_rfl) (force_v h29a h29b h29c h31a h31b h31c (by omega)) ?_
  rintro e33 w33 ⟨⟨t33_0, t33_1, t33_2, t33_3, t33_4, t33_5, t33_6, t33_7, t33_8, t33_9, t33_10, t33_11, t33_12, t33_13, t33_14, t33_15, t33_16, t33_17, t33_18, t33_19, t33_20, t33_21, t33_22, t33_23, rfl, h33a, h33b, h33c, h33d, h33e, h33f⟩, g33⟩
  refine ⟨_, rfl, ?_⟩
  replace hB := Gr.trans hB g33
  replace L5 := L5.gr (g32.trans g33)
  replace L7 := L7.gr (g32.trans g33)
  refine k32 _ _ g33 ⟨L5, L7⟩ ?_
  try clear k32 K32
  simp only [p1, p2, p3, p4]
  refine flo_nil (fun w35 g35 _ => ?_)
  replace hB := Gr.trans hB g35
  refine floFin2 (fun b36 b37 (L36 : Lc w35 b36 #[(.bool false), (.slice none 0 0), (.bool false), (.slice none 0 0), (.bool false), (.slice none 0 0), (.bool false), (.slice none 0 0), (.bool false), (.slice none 0 0), (.bool false), (.slice none 0 0), (.bool false), (.slice none 0 0), (.bool false), (.slice none 0 0), (.bool false), (.slice none 0 0), (.bool false), (.slice none 0 0), (.bool false), (.slice none 0 0), (.bool false), (.slice none 0 0)] 40) q36 (L37 : Lc w35 b37 #[(.bool false), (.slice none 0 0), (.bool false), (.slice none 0 0), (.bool false), (.slice none 0 0), (.bool false), (.slice none 0 0), (.bool false), (.slice none 0 0), (.bool false), (.slice none 0 0), (.bool false), (.slice none 0 0), (.bool false), (.slice none 0 0), (.bool false), (.slice none 0 0), (.bool false), (.slice none 0 0), (.bool false), (.slice none 0 0), (.bool false), (.slice none 0 0)] 40) q37 ne36_37 => ?_)
  have ne3_36 : b3 ≠ b36 := Nat.ne_of_lt (Nat.lt_of_lt_of_le lt3_20 q36)
  have ne5_36 : b5 ≠ b36 := Nat.ne_of_lt (Nat.lt_of_lt_of_le lt5_20 q36)
  have ne7_36 : b7 ≠ b36 := Nat.ne_of_lt (Nat.lt_of_lt_of_le lt7_20 q36)
  have ne16_36 : b16 ≠ b36 := Nat.ne_of_lt (Nat.lt_of_lt_of_le lt16_20 q36)
  replace q36 := Nat.le_trans hz20 q36
  have ne3_37 : b3 ≠ b37 := Nat.ne_of_lt (Nat.lt_of_lt_of_le lt3_20 q37)
  have ne5_37 : b5 ≠ b37 := Nat.ne_of_lt (Nat.lt_of_lt_of_le lt5_20 q37)
  have ne7_37 : b7 ≠ b37 := Nat.ne_of_lt (Nat.lt_of_lt_of_le lt7_20 q37)
  have ne16_37 : b16 ≠ b37 := Nat.ne_of_lt (Nat.lt_of_lt_of_le lt16_20 q37)
  replace q37 := Nat.le_trans hz20 q37
  simp only [p1, p2, p3, p4]
  refine ord_eff rfl rfl (fun K38 k38 => ?_)
  refine eff_store 40 _ _ b36 0 (.agg #[t26_0, t26_1, t26_2, t26_3, t26_4, t26_5, t26_6, t26_7, t26_8, t26_9, t26_10, t26_11, t26_12, t26_13, t26_14, t26_15, t26_16, t26_17, t26_18, t26_19, t26_20, t26_21, t26_22, t26_23]) [t26_0, t26_1, t26_2, t26_3, t26_4, t26_5, t26_6, t26_7, t26_8, t26_9, t26_10, t26_11, t26_12, t26_13, t26_14, t26_15, t26_16, t26_17, t26_18, t26_19, t26_20, t26_21, t26_22, t26_23] _ #[t26_0, t26_1, t26_2, t26_3, t26_4, t26_5, t26_6, t26_7, t26_8, t26_9, t26_10, t26_11, t26_12, t26_13, t26_14, t26_15, t26_16, t26_17, t26_18, t26_19, t26_20, t26_21, t26_22, t26_23] _ rfl rfl rfl rfl rfl L36 (by kernel_rfl) (Nat.le_of_ble_eq_true rfl) ⟨h26a.one0, h26a.one1, h26a.one2, h26a.one3, h26b.one0, h26b.one1, h26b.one2, h26b.one3, h26c.one0, h26c.one1, h26c.one2, h26c.one3, h26d.one0, h26d.one1, h26d.one2, h26d.one3, h26e.one0, h26e.one1, h26e.one2, h26e.one3, h26f.one0, h26f.one1, h26f.one2, h26f.one3, trivial⟩ (by kernel_rfl) (fun w39 st39 N39 => ?_)
  have kp39 := st39.kp L36 (by decide)
  replace hB := st39.gr hB q36
  replace L36 := N39
  replace L5 := st39.lc (L5.gr g35) ne5_36
  replace L7 := st39.lc (L7.gr g35) ne7_36
  refine k38 _ _ ⟨L5, L7⟩ ?_
  try clear k38 K38
  refine ord_eff rfl rfl (fun K40 k40 => ?_)
  replace L37 := st39.lc L37 (Ne.symm ne36_37)
  refine eff_store 40 _ _ b37 0 (.agg #[t33_0, t33_1, t33_2, t33_3, t33_4, t33_5, t33_6, t33_7, t33_8, t33_9, t33_10, t33_11, t33_12, t33_13, t33_14, t33_15, t33_16, t33_17, t33_18, t33_19, t33_20, t33_21, t33_22, t33_23]) [t33_0, t33_1, t33_2, t33_3, t33_4, t33_5, t33_6, t33_7, t33_8, t33_9, t33_10, t33_11, t33_12, t33_13, t33_14, t33_15, t33_16, t33_17, t33_18, t33_19, t33_20, t33_21, t33_22, t33_23] _ #[t33_0, t33_1, t33_2, t33_3, t33_4, t33_5, t33_6, t33_7, t33_8, t33_9, t33_10, t33_11, t33_12, t33_13, t33_14, t33_15, t33_16, t33_17, t33_18, t33_19, t33_20, t33_21, t33_22, t33_23] _ rfl rfl rfl rfl rfl L37 (by kernel_rfl) (Nat.le_of_ble_eq_true rfl) ⟨h33a.one0, h33a.one1, h33a.one2, h33a.one3, h33b.one0, h33b.one1, h33b.one2, h33b.one3, h33c.one0, h33c.one1, h33c.one2, h33c.one3, h33d.one0, h33d.one1, h33d.one2, h33d.one3, h33e.one0, h33e.one1, h33e.one2, h33e.one3, h33f.one0, h33f.one1, h33f.one2, h33f.one3, trivial⟩ (by kernel_rfl) (fun w41 st41 N41 => ?_)
  have kp41 := st41.kp L37 (by decide)
  replace hB := st41.gr hB q37
  replace L37 := N41
  replace L5 := st41.lc L5 ne5_37
  replace L7 := st41.lc L7 ne7_37
  refine k40 _ _ ⟨L5, L7⟩ ?_
  try clear k40 K40
  refine ord_nil ?_
  refine k19 _ _ ?_
  try clear k19 K19
  refine wp_seq_k (fun K42 k42 => ?_)
  refine wp_region ?_
  simp only [List.size_toArray, List.length_cons, List.length_nil, Nat.reduceAdd, List.range, List.range.loop]
  replace L36 := st41.lc L36 ne36_37
  refine sq_val (some 31) (.agg #[t26_0, t26_1, t26_2, t26_3, t26_4, t26_5, t26_6, t26_7, t26_8, t26_9, t26_10, t26_11, t26_12, t26_13, t26_14, t26_15, t26_16, t26_17, t26_18, t26_19, t26_20, t26_21, t26_22, t26_23]) rfl rfl (by kernel_rfl) (rv_load 40 _ b36 0 _ _ [t26_0, t26_1, t26_2, t26_3, t26_4, t26_5, t26_6, t26_7, t26_8, t26_9, t26_10, t26_11, t26_12, t26_13, t26_14, t26_15, t26_16, t26_17, t26_18, t26_19, t26_20, t26_21, t26_22, t26_23] rfl rfl L36 rfl (by kernel_rfl)) ?_
  simp only [p1, p2, p3, p4]
  refine sq_val (some 32) (.agg #[t33_0, t33_1, t33_2, t33_3, t33_4, t33_5, t33_6, t33_7, t33_8, t33_9, t33_10, t33_11, t33_12, t33_13, t33_14, t33_15, t33_16, t33_17, t33_18, t33_19, t33_20, t33_21, t33_22, t33_23]) rfl rfl (by kernel_rfl) (rv_load 40 _ b37 0 _ _ [t33_0, t33_1, t33_2, t33_3, t33_4, t33_5, t33_6, t33_7, t33_8, t33_9, t33_10, t33_11, t33_12, t33_13, t33_14, t33_15, t33_16, t33_17, t33_18, t33_19, t33_20, t33_21, t33_22, t33_23] rfl rfl L37 rfl (by kernel_rfl)) ?_
  simp only [p1, p2, p3, p4]
  refine sq_eff rfl (by kernel_rfl) (fun K43 k43 => ?_)
  refine eff_bs 40 2 #[t26_0, t26_1, t26_2, t26_3, t26_4, t26_5, t26_6, t26_7, t26_8, t26_9, t26_10, t26_11, t26_12, t26_13, t26_14, t26_15, t26_16, t26_17, t26_18, t26_19, t26_20, t26_21, t26_22, t26_23, t33_0, t33_1, t33_2, t33_3, t33_4, t33_5, t33_6, t33_7, t33_8, t33_9, t33_10, t33_11, t33_12, t33_13, t33_14, t33_15, t33_16, t33_17, t33_18, t33_19, t33_20, t33_21, t33_22, t33_23] (some 33) rfl (fun _ => by kernel_rfl) (fun b44 w44 g44 L44 q44 => ?_)
  replace L3 := st41.lc (st39.lc (L3.gr (gd20.trans (g21.trans (g22.trans (g23.trans (g24.trans (g25.trans (g26.trans (g28.trans (g29.trans (g30.trans (g31.trans (g32.trans (g33.trans g35)))))))))))))) ne3_36) ne3_37
  have ne3_44 := L3.ne q44
  have ne5_44 := L5.ne q44
  have ne7_44 := L7.ne q44
  replace L16 := st41.lc (st39.lc (L16.gr (gd20.trans (g21.trans (g22.trans (g23.trans (g24.trans (g25.trans (g26.trans (g28.trans (g29.trans (g30.trans (g31.trans (g32.trans (g33.trans g35)))))))))))))) ne16_36) ne16_37
  have ne16_44 := L16.ne q44
  have ne36_44 := L36.ne q44
  have ne37_44 := L37.ne q44
  replace q44 := Nat.le_trans (Below.size hB) q44
  replace hB := Gr.trans hB g44
  refine k43 _ _ ?_
  try clear k43 K43
  simp only [p1, p2, p3, p4]
  refine sq_eff rfl (by kernel_rfl) (fun K45 k45 => ?_)
  have kq47 := g28.kp.trans (g29.kp.trans (g30.kp.trans (g31.kp.trans (g32.kp.trans (g33.kp.trans (g35.kp.trans (kp39.trans (kp41.trans g44.kp))))))))
  replace h26a := h26a.kp kq47
  replace h26b := h26b.kp kq47
  replace h26c := h26c.kp kq47
  replace h26d := h26d.kp kq47
  replace h26e := h26e.kp kq47
  replace h26f := h26f.kp kq47
  have kq48 := g35.kp.trans (kp39.trans (kp41.trans g44.kp))
  replace h33a := h33a.kp kq48
  replace h33b := h33b.kp kq48
  replace h33c := h33c.kp kq48
  replace h33d := h33d.kp kq48
  replace h33e := h33e.kp kq48
  replace h33f := h33f.kp kq48
  refine eff_call (some 34) rfl (by kernel_rfl) (wsum_2 h26a h26b h26c (h26d.mono (show _ ≤ 257 by omega)) (h26e.mono (show _ ≤ 257 by omega)) (h26f.mono (show _ ≤ 257 by omega)) h33a h33b h33c (h33d.mono (show _ ≤ 257 by omega)) (h33e.mono (show _ ≤ 257 by omega)) (h33f.mono (show _ ≤ 257 by omega)) L44 (by omega)) ?_
  rintro e46 w46 ⟨⟨t46_0, t46_1, t46_2, t46_3, t46_4, t46_5, t46_6, t46_7, t46_8, t46_9, t46_10, t46_11, t46_12, t46_13, t46_14, t46_15, t46_16, t46_17, t46_18, t46_19, t46_20, t46_21, t46_22, t46_23, rfl, h46a, h46b, h46c, h46d, h46e, h46f⟩, g46⟩
  refine ⟨_, rfl, ?_⟩
  replace hB := Gr.trans hB g46
  refine k45 _ _ ?_
  try clear k45 K45
  simp only [p1, p2, p3, p4]
  refine sq_eff rfl (by kernel_rfl) (fun K49 k49 => ?_)
  refine eff_alloc 40 (.agg #[(.bool false), (.slice none 0 0), (.bool false), (.slice none 0 0), (.bool false), (.slice none 0 0), (.bool false), (.slice none 0 0), (.bool false), (.slice none 0 0), (.bool false), (.slice none 0 0), (.bool false), (.slice none 0 0), (.bool false), (.slice none 0 0), (.bool false), (.slice none 0 0), (.bool false), (.slice none 0 0), (.bool false), (.slice none 0 0), (.bool false), (.slice none 0 0)]) #[(.bool false), (.slice none 0 0), (.bool false), (.slice none 0 0), (.bool false), (.slice none 0 0), (.bool false), (.slice none 0 0), (.bool false), (.slice none 0 0), (.bool false), (.slice none 0 0), (.bool false), (.slice none 0 0), (.bool false), (.slice none 0 0), (.bool false), (.slice none 0 0), (.bool false), (.slice none 0 0), (.bool false), (.slice none 0 0), (.bool false), (.slice none 0 0)] (some 10) rfl rfl (by kernel_rfl) rfl (fun b50 w50 g50 L50 q50 => ?_)
  replace L3 := L3.gr (g44.trans g46)
  have ne3_50 := L3.ne q50
  replace L5 := L5.gr (g44.trans g46)
  have ne5_50 := L5.ne q50
  replace L7 := L7.gr (g44.trans g46)
  have ne7_50 := L7.ne q50
  replace L16 := L16.gr (g44.trans g46)
  have ne16_50 := L16.ne q50
  replace L36 := L36.gr (g44.trans g46)
  have ne36_50 := L36.ne q50
  replace L37 := L37.gr (g44.trans g46)
  have ne37_50 := L37.ne q50
  replace L44 := L44.gr g46
  have ne44_50 := L44.ne q50
  replace q50 := Nat.le_trans (Below.size hB) q50
  replace hB := Gr.trans hB g50
  refine k49 _ _ ?_
  try clear k49 K49
  simp only [p1, p2, p3, p4]
  refine sq_eff rfl (by kernel_rfl) (fun K51 k51 => ?_)
  refine eff_store 40 _ _ b50 0 (.agg #[t46_0, t46_1, t46_2, t46_3, t46_4, t46_5, t46_6, t46_7, t46_8, t46_9, t46_10, t46_11, t46_12, t46_13, t46_14, t46_15, t46_16, t46_17, t46_18, t46_19, t46_20, t46_21, t46_22, t46_23]) [t46_0, t46_1, t46_2, t46_3, t46_4, t46_5, t46_6, t46_7, t46_8, t46_9, t46_10, t46_11, t46_12, t46_13, t46_14, t46_15, t46_16, t46_17, t46_18, t46_19, t46_20, t46_21, t46_22, t46_23] _ #[t46_0, t46_1, t46_2, t46_3, t46_4, t46_5, t46_6, t46_7, t46_8, t46_9, t46_10, t46_11, t46_12, t46_13, t46_14, t46_15, t46_16, t46_17, t46_18, t46_19, t46_20, t46_21, t46_22, t46_23] _ rfl rfl rfl rfl rfl L50 (by kernel_rfl) (Nat.le_of_ble_eq_true rfl) ⟨h46a.one0, h46a.one1, h46a.one2, h46a.one3, h46b.one0, h46b.one1, h46b.one2, h46b.one3, h46c.one0, h46c.one1, h46c.one2, h46c.one3, h46d.one0, h46d.one1, h46d.one2, h46d.one3, h46e.one0, h46e.one1, h46e.one2, h46e.one3, h46f.one0, h46f.one1, h46f.one2, h46f.one3, trivial⟩ (by kernel_rfl) (fun w52 st52 N52 => ?_)
  have kp52 := st52.kp L50 (by decide)
  replace hB := st52.gr hB q50
  replace L50 := N52
  refine k51 _ _ ?_
  try clear k51 K51
  refine sq_nil ?_
  refine k42 _ _ ?_
  try clear k42 K42
  refine wp_seq_k (fun K53 k53 => ?_)
  have hz54 := Below.size hB
  replace L3 := st52.lc (L3.gr g50) ne3_50
  have lt3_54 := L3.lt
  replace L5 := st52.lc (L5.gr g50) ne5_50
  have lt5_54 := L5.lt
  replace L7 := st52.lc (L7.gr g50) ne7_50
  have lt7_54 := L7.lt
  replace L16 := st52.lc (L16.gr g50) ne16_50
  have lt16_54 := L16.lt
  replace L36 := st52.lc (L36.gr g50) ne36_50
  have lt36_54 := L36.lt
  replace L37 := st52.lc (L37.gr g50) ne37_50
  have lt37_54 := L37.lt
  replace L44 := st52.lc (L44.gr g50) ne44_50
  have lt44_54 := L44.lt
  have lt50_54 := L50.lt
  have gd54 := Gr.drew w52
  replace hB := Gr.trans hB gd54
  replace L5 := L5.gr gd54
  replace L7 := L7.gr gd54
  replace L16 := L16.gr gd54
  refine wp_region_flo (fun w' => Lc w' b5 #[(.int .i8 (m0)), (.int .i8 (m1)), (.int .i8 (m2)), (.int .i8 (l0)), (.int .i8 (l1)), (.int .i8 (l2))] 27 ∧ Lc w' b7 #[(.int .i8 (v0)), (.int .i8 (v1)), (.int .i8 (v2)), (.int .i8 (y0)), (.int .i8 (y1)), (.int .i8 (y2))] 27 ∧ Lc w' b16 #[t14_0, t14_1, t14_2, t14_3, t14_4, t14_5, t14_6, t14_7, t14_8, t14_9, t14_10, t14_11, t14_12, t14_13, t14_14, t14_15, t14_16, t14_17, t14_18, t14_19, t14_20, t14_21, t14_22, t14_23] 37) [(true, 0), (true, 1), (true, 3), (true, 4), (true, 5), (true, 9), (true, 10), (true, 12), (true, 13), (true, 14), (false, 2), (false, 6), (false, 7), (false, 8), (false, 11), (false, 15), (false, 16), (false, 17), (false, 18)] [⟨19, 11, 33, #[(.bool false), (.slice none 0 0), (.bool false), (.slice none 0 0)]⟩] [(false, 20)] (by kernel_rfl) (by kernel_rfl) (by kernel_rfl) (by kernel_rfl) (by kernel_rfl) (by decide) (fun _ _ _ _ _ h => h) (fun _ _ _ _ _ h => h) (fun w' o h => ⟨Lc.gr h.1 (Gr.alloc w' o), Lc.gr h.2.1 (Gr.alloc w' o), Lc.gr h.2.2 (Gr.alloc w' o)⟩) ⟨L5, L7, L16⟩ (by intro f hf; simp only [List.mem_cons, List.not_mem_nil, or_false] at hf; rcases hf with rfl <;> first | exact alloc_zero (z := (.agg #[(.bool false), (.slice none 0 0), (.bool false), (.slice none 0 0)])) (by kernel_rfl) rfl) ?_
  refine flo_pure (some 35) (.pointer (some ⟨b7, 0, none⟩)) rfl rfl rfl (fun w' hS => (rvk (by kernel_rfl))) ?_
  simp only [p1, p2, p3, p4]
  refine flo_pure (some 36) (.agg #[(.int .i8 (v0)), (.int .i8 (v1)), (.int .i8 (v2))]) rfl rfl rfl (fun w' hS => (rv_load 26 _ b7 0 _ _ [(.int .i8 (v0)), (.int .i8 (v1)), (.int .i8 (v2))] rfl rfl hS.2.1 rfl (by kernel_rfl))) ?_
  simp only [p1, p2, p3, p4]
  refine flo_pure (some 38) (.agg #[t14_0, t14_1, t14_2, t14_3, t14_4, t14_5, t14_6, t14_7, t14_8, t14_9, t14_10, t14_11, t14_12, t14_13, t14_14, t14_15, t14_16, t14_17, t14_18, t14_19, t14_20, t14_21, t14_22, t14_23]) rfl rfl rfl (fun w' hS => (rv_load 37 _ b16 0 _ _ [t14_0, t14_1, t14_2, t14_3, t14_4, t14_5, t14_6, t14_7, t14_8, t14_9, t14_10, t14_11, t14_12, t14_13, t14_14, t14_15, t14_16, t14_17, t14_18, t14_19, t14_20, t14_21, t14_22, t14_23] rfl rfl hS.2.2 rfl (by kernel_rfl))) ?_
  simp only [p1, p2, p3, p4]
  refine flo_pure (some 39) (.pointer (some ⟨b5, 0, none⟩)) rfl rfl rfl (fun w' hS => (rvk (by kernel_rfl))) ?_
  simp only [p1, p2, p3, p4]
  refine flo_pure (some 40) (.agg #[(.int .i8 (m0)), (.int .i8 (m1)), (.int .i8 (m2))]) rfl rfl rfl (fun w' hS => (rv_load 26 _ b5 0 _ _ [(.int .i8 (m0)), (.int .i8 (m1)), (.int .i8 (m2))] rfl rfl hS.1 rfl (by kernel_rfl))) ?_
  simp only [p1, p2, p3, p4]
  refine flo_pure (some 44) (.pointer (some ⟨b7, 3, none⟩)) rfl rfl rfl (fun w' hS => (rvk (by kernel_rfl))) ?_
  simp only [p1, p2, p3, p4]
  refine flo_pure (some 45) (.agg #[(.int .i8 (y0)), (.int .i8 (y1)), (.int .i8 (y2))]) rfl rfl rfl (fun w' hS => (rv_load 26 _ b7 3 _ _ [(.int .i8 (y0)), (.int .i8 (y1)), (.int .i8 (y2))] rfl rfl hS.2.1 rfl (by kernel_rfl))) ?_
  simp only [p1, p2, p3, p4]
  refine flo_pure (some 47) (.agg #[t14_0, t14_1, t14_2, t14_3, t14_4, t14_5, t14_6, t14_7, t14_8, t14_9, t14_10, t14_11, t14_12, t14_13, t14_14, t14_15, t14_16, t14_17, t14_18, t14_19, t14_20, t14_21, t14_22, t14_23]) rfl rfl rfl (fun w' hS => (rv_load 37 _ b16 0 _ _ [t14_0, t14_1, t14_2, t14_3, t14_4, t14_5, t14_6, t14_7, t14_8, t14_9, t14_10, t14_11, t14_12, t14_13, t14_14, t14_15, t14_16, t14_17, t14_18, t14_19, t14_20, t14_21, t14_22, t14_23] rfl rfl hS.2.2 rfl (by kernel_rfl))) ?_
  simp only [p1, p2, p3, p4]
  refine flo_pure (some 48) (.pointer (some ⟨b5, 3, none⟩)) rfl rfl rfl (fun w' hS => (rvk (by kernel_rfl))) ?_
  simp only [p1, p2, p3, p4]
  refine flo_pure (some 49) (.agg #[(.int .i8 (l0)), (.int .i8 (l1)), (.int .i8 (l2))]) rfl rfl rfl (fun w' hS => (rv_load 26 _ b5 3 _ _ [(.int .i8 (l0)), (.int .i8 (l1)), (.int .i8 (l2))] rfl rfl hS.1 rfl (by kernel_rfl))) ?_
  simp only [p1, p2, p3, p4]
  refine flo_eff rfl rfl (fun w55 g55 _ K55 k55 => ?_)
  replace hB := Gr.trans hB g55
  refine eff_call (some 37) rfl (by kernel_rfl) (point_v (v0) (v1) (v2) (by omega) (by omega) (by omega) _) ?_
  rintro e56 w56 ⟨⟨t56_0, t56_1, t56_2, t56_3, t56_4, t56_5, t56_6, t56_7, t56_8, t56_9, t56_10, t56_11, rfl, h56a, h56b, h56c⟩, g56⟩
  refine ⟨_, rfl, ?_⟩
  replace hB := Gr.trans hB g56
  rw [← eS0] at h56a
  rw [← eS1] at h56b
  rw [← eS2] at h56c
  replace L5 := L5.gr (g55.trans g56)
  replace L7 := L7.gr (g55.trans g56)
  replace L16 := L16.gr (g55.trans g56)
  refine k55 _ _ g56 ⟨L5, L7, L16⟩ ?_
  try clear k55 K55
  simp only [p1, p2, p3, p4]
  refine flo_eff rfl rfl (fun w57 g57 _ K57 k57 => ?_)
  replace hB := Gr.trans hB g57
  refine eff_call (some 41) rfl (by kernel_rfl) (point_v (m0) (m1) (m2) (by omega) (by omega) (by omega) _) ?_
  rintro e58 w58 ⟨⟨t58_0, t58_1, t58_2, t58_3, t58_4, t58_5, t58_6, t58_7, t58_8, t58_9, t58_10, t58_11, rfl, h58a, h58b, h58c⟩, g58⟩
  refine ⟨_, rfl, ?_⟩
  replace hB := Gr.trans hB g58
  rw [← eP0] at h58a
  rw [← eP1] at h58b
  rw [← eP2] at h58c
  replace L5 := L5.gr (g57.trans g58)
  replace L7 := L7.gr (g57.trans g58)
  replace L16 := L16.gr (g57.trans g58)
  refine k57 _ _ g58 ⟨L5, L7, L16⟩ ?_
  try clear k57 K57
  simp only [p1, p2, p3, p4]
  refine flo_eff rfl rfl (fun w59 g59 _ K59 k59 => ?_)
  replace hB := Gr.trans hB g59
  have kq61 := g16.kp.trans (kp18.trans (gd20.kp.trans (g21.kp.trans (g22.kp.trans (g23.kp.trans (g24.kp.trans (g25.kp.trans (g26.kp.trans (g28.kp.trans (g29.kp.trans (g30.kp.trans (g31.kp.trans (g32.kp.trans (g33.kp.trans (g35.kp.trans (kp39.trans (kp41.trans (g44.kp.trans (g46.kp.trans (g50.kp.trans (kp52.trans (gd54.kp.trans (g55.kp.trans (g56.kp.trans (g57.kp.trans (g58.kp.trans g59.kp))))))))))))))))))))))))))
  replace h14a := h14a.kp kq61
  replace h14b := h14b.kp kq61
  replace h14c := h14c.kp kq61
  replace h14d := h14d.kp kq61
  replace h14e := h14e.kp kq61
  replace h14f := h14f.kp kq61
  replace h58a := h58a.kp g59.kp
  replace h58b := h58b.kp g59.kp
  replace h58c := h58c.kp g59.kp
  refine eff_call (some 42) rfl (by kernel_rfl) (lvel_v h14a h14b h14c h14d h14e h14f h58a h58b h58c (by omega)) ?_
  rintro e60 w60 ⟨⟨t60_0, t60_1, t60_2, t60_3, t60_4, t60_5, t60_6, t60_7, t60_8, t60_9, t60_10, t60_11, rfl, h60a, h60b, h60c⟩, g60⟩
  refine ⟨_, rfl, ?_⟩
  replace hB := Gr.trans hB g60
  replace L5 := L5.gr (g59.trans g60)
  replace L7 := L7.gr (g59.trans g60)
  replace L16 := L16.gr (g59.trans g60)
  refine k59 _ _ g60 ⟨L5, L7, L16⟩ ?_
  try clear k59 K59
  simp only [p1, p2, p3, p4]
  refine flo_eff rfl rfl (fun w62 g62 _ K62 k62 => ?_)
  replace hB := Gr.trans hB g62
  have kq64 := g57.kp.trans (g58.kp.trans (g59.kp.trans (g60.kp.trans g62.kp)))
  replace h56a := h56a.kp kq64
  replace h56b := h56b.kp kq64
  replace h56c := h56c.kp kq64
  replace h60a := h60a.kp g62.kp
  replace h60b := h60b.kp g62.kp
  replace h60c := h60c.kp g62.kp
  refine eff_call (some 43) rfl (by kernel_rfl) (dot_v h56a h56b h56c h60a h60b h60c (by omega)) ?_
  rintro e63 w63 ⟨⟨p63, q63, r63, s63, rfl, h63⟩, g63⟩
  refine ⟨_, rfl, ?_⟩
  replace hB := Gr.trans hB g63
  replace L5 := L5.gr (g62.trans g63)
  replace L7 := L7.gr (g62.trans g63)
  replace L16 := L16.gr (g62.trans g63)
  refine k62 _ _ g63 ⟨L5, L7, L16⟩ ?_
  try clear k62 K62
  simp only [p1, p2, p3, p4]
  refine flo_eff rfl rfl (fun w65 g65 _ K65 k65 => ?_)
  replace hB := Gr.trans hB g65
  refine eff_call (some 46) rfl (by kernel_rfl) (point_v (y0) (y1) (y2) (by omega) (by omega) (by omega) _) ?_
  rintro e66 w66 ⟨⟨t66_0, t66_1, t66_2, t66_3, t66_4, t66_5, t66_6, t66_7, t66_8, t66_9, t66_10, t66_11, rfl, h66a, h66b, h66c⟩, g66⟩
  refine ⟨_, rfl, ?_⟩
  replace hB := Gr.trans hB g66
  rw [← eU0] at h66a
  rw [← eU1] at h66b
  rw [← eU2] at h66c
  replace L5 := L5.gr (g65.trans g66)
  replace L7 := L7.gr (g65.trans g66)
  replace L16 := L16.gr (g65.trans g66)
  refine k65 _ _ g66 ⟨L5, L7, L16⟩ ?_
  try clear k65 K65
  simp only [p1, p2, p3, p4]
  refine flo_eff rfl rfl (fun w67 g67 _ K67 k67 => ?_)
  replace hB := Gr.trans hB g67
  refine eff_call (some 50) rfl (by kernel_rfl) (point_v (l0) (l1) (l2) (by omega) (by omega) (by omega) _) ?_
  rintro e68 w68 ⟨⟨t68_0, t68_1, t68_2, t68_3, t68_4, t68_5, t68_6, t68_7, t68_8, t68_9, t68_10, t68_11, rfl, h68a, h68b, h68c⟩, g68⟩
  refine ⟨_, rfl, ?_⟩
  replace hB := Gr.trans hB g68
  rw [← eQ0] at h68a
  rw [← eQ1] at h68b
  rw [← eQ2] at h68c
  replace L5 := L5.gr (g67.trans g68)
  replace L7 := L7.gr (g67.trans g68)
  replace L16 := L16.gr (g67.trans g68)
  refine k67 _ _ g68 ⟨L5, L7, L16⟩ ?_
  try clear k67 K67
  simp only [p1, p2, p3, p4]
  refine flo_eff rfl rfl (fun w69 g69 _ K69 k69 => ?_)
  replace hB := Gr.trans hB g69
  have kq71 := g60.kp.trans (g62.kp.trans (g63.kp.trans (g65.kp.trans (g66.kp.trans (g67.kp.trans (g68.kp.trans g69.kp))))))
  replace h14a := h14a.kp kq71
  replace h14b := h14b.kp kq71
  replace h14c := h14c.kp kq71
  replace h14d := h14d.kp kq71
  replace h14e := h14e.kp kq71
  replace h14f := h14f.kp kq71
  replace h68a := h68a.kp g69.kp
  replace h68b := h68b.kp g69.kp
  replace h68c := h68c.kp g69.kp
  refine eff_call (some 51) rfl (by kernel_rfl) (lvel_v h14a h14b h14c h14d h14e h14f h68a h68b h68c (by omega)) ?_
  rintro e70 w70 ⟨⟨t70_0, t70_1, t70_2, t70_3, t70_4, t70_5, t70_6, t70_7, t70_8, t70_9, t70_10, t70_11, rfl, h70a, h70b, h70c⟩, g70⟩
  refine ⟨_, rfl, ?_⟩
  replace hB := Gr.trans hB g70
  replace L5 := L5.gr (g69.trans g70)
  replace L7 := L7.gr (g69.trans g70)
  replace L16 := L16.gr (g69.trans g70)
  refine k69 _ _ g70 ⟨L5, L7, L16⟩ ?_
  try clear k69 K69
  simp only [p1, p2, p3, p4]
  refine flo_eff rfl rfl (fun w72 g72 _ K72 k72 => ?_)
  replace hB := Gr.trans hB g72
  have kq74 := g67.kp.trans (g68.kp.trans (g69.kp.trans (g70.kp.trans g72.kp)))
  replace h66a := h66a.kp kq74
  replace h66b := h66b.kp kq74
  replace h66c := h66c.kp kq74
  replace h70a := h70a.kp g72.kp
  replace h70b := h70b.kp g72.kp
  replace h70c := h70c.kp g72.kp
  refine eff_call (some 52) rfl (by kernel_rfl) (dot_v h66a h66b h66c h70a h70b h70c (by omega)) ?_
  rintro e73 w73 ⟨⟨p73, q73, r73, s73, rfl, h73⟩, g73⟩
  refine ⟨_, rfl, ?_⟩
  replace hB := Gr.trans hB g73
  replace L5 := L5.gr (g72.trans g73)
  replace L7 := L7.gr (g72.trans g73)
  replace L16 := L16.gr (g72.trans g73)
  refine k72 _ _ g73 ⟨L5, L7, L16⟩ ?_
  try clear k72 K72
  simp only [p1, p2, p3, p4]
  refine flo_eff rfl rfl (fun w75 g75 _ K75 k75 => ?_)
  replace hB := Gr.trans hB g75
  have kq77 := g65.kp.trans (g66.kp.trans (g67.kp.trans (g68.kp.trans (g69.kp.trans (g70.kp.trans (g72.kp.trans (g73.kp.trans g75.kp)))))))
  replace h63 := h63.kp kq77
  replace h73 := h73.kp g75.kp
  refine eff_call (some 53) rfl (by kernel_rfl) (add_r h63 h73 (by omega)) ?_
  rintro e76 w76 ⟨⟨p76, q76, r76, s76, rfl, h76⟩, g76⟩
  refine ⟨_, rfl, ?_⟩
  replace hB := Gr.trans hB g76
  replace L5 := L5.gr (g75.trans g76)
  replace L7 := L7.gr (g75.trans g76)
  replace L16 := L16.gr (g75.trans g76)
  refine k75 _ _ g76 ⟨L5, L7, L16⟩ ?_
  try clear k75 K75
  simp only [p1, p2, p3, p4]
  refine flo_nil (fun w78 g78 _ => ?_)
  replace hB := Gr.trans hB g78
  refine floFin1 (fun b79 (L79 : Lc w78 b79 #[(.bool false), (.slice none 0 0), (.bool false), (.slice none 0 0)] 33) q79  => ?_)
  have ne3_79 : b3 ≠ b79 := Nat.ne_of_lt (Nat.lt_of_lt_of_le lt3_54 q79)
  have ne5_79 : b5 ≠ b79 := Nat.ne_of_lt (Nat.lt_of_lt_of_le lt5_54 q79)
  have ne7_79 : b7 ≠ b79 := Nat.ne_of_lt (Nat.lt_of_lt_of_le lt7_54 q79)
  have ne16_79 : b16 ≠ b79 := Nat.ne_of_lt (Nat.lt_of_lt_of_le lt16_54 q79)
  have ne36_79 : b36 ≠ b79 := Nat.ne_of_lt (Nat.lt_of_lt_of_le lt36_54 q79)
  have ne37_79 : b37 ≠ b79 := Nat.ne_of_lt (Nat.lt_of_lt_of_le lt37_54 q79)
  have ne44_79 : b44 ≠ b79 := Nat.ne_of_lt (Nat.lt_of_lt_of_le lt44_54 q79)
  have ne50_79 : b50 ≠ b79 := Nat.ne_of_lt (Nat.lt_of_lt_of_le lt50_54 q79)
  replace q79 := Nat.le_trans hz54 q79
  simp only [p1, p2, p3, p4]
  refine ord_eff rfl rfl (fun K80 k80 => ?_)
  refine eff_store 33 _ _ b79 0 (.agg #[p76, q76, r76, s76]) [p76, q76, r76, s76] _ #[p76, q76, r76, s76] _ rfl rfl rfl rfl rfl L79 (by kernel_rfl) (Nat.le_of_ble_eq_true rfl) ⟨h76.one0, h76.one1, h76.one2, h76.one3, trivial⟩ (by kernel_rfl) (fun w81 st81 N81 => ?_)
  have kp81 := st81.kp L79 (by decide)
  replace hB := st81.gr hB q79
  replace L79 := N81
  replace L5 := st81.lc (L5.gr g78) ne5_79
  replace L7 := st81.lc (L7.gr g78) ne7_79
  replace L16 := st81.lc (L16.gr g78) ne16_79
  refine k80 _ _ ⟨L5, L7, L16⟩ ?_
  try clear k80 K80
  refine ord_nil ?_
  refine k53 _ _ ?_
  try clear k53 K53
  refine wp_seq_k (fun K82 k82 => ?_)
  refine wp_region ?_
  simp only [List.size_toArray, List.length_cons, List.length_nil, Nat.reduceAdd, List.range, List.range.loop]
  refine sq_eff rfl (by kernel_rfl) (fun K83 k83 => ?_)
  refine eff_call (some 54) rfl (by kernel_rfl) (wsum_0 _) ?_
  rintro e84 w84 ⟨rfl, g84⟩
  refine ⟨_, rfl, ?_⟩
  replace hB := Gr.trans hB g84
  refine k83 _ _ ?_
  try clear k83 K83
  simp only [p1, p2, p3, p4]
  refine sq_eff rfl (by kernel_rfl) (fun K85 k85 => ?_)
  refine eff_alloc 40 (.agg #[(.bool false), (.slice none 0 0), (.bool false), (.slice none 0 0), (.bool false), (.slice none 0 0), (.bool false), (.slice none 0 0), (.bool false), (.slice none 0 0), (.bool false), (.slice none 0 0), (.bool false), (.slice none 0 0), (.bool false), (.slice none 0 0), (.bool false), (.slice none 0 0), (.bool false), (.slice none 0 0), (.bool false), (.slice none 0 0), (.bool false), (.slice none 0 0)]) #[(.bool false), (.slice none 0 0), (.bool false), (.slice none 0 0), (.bool false), (.slice none 0 0), (.bool false), (.slice none 0 0), (.bool false), (.slice none 0 0), (.bool false), (.slice none 0 0), (.bool false), (.slice none 0 0), (.bool false), (.slice none 0 0), (.bool false), (.slice none 0 0), (.bool false), (.slice none 0 0), (.bool false), (.slice none 0 0), (.bool false), (.slice none 0 0)] (some 12) rfl rfl (by kernel_rfl) rfl (fun b86 w86 g86 L86 q86 => ?_)
  replace L3 := (st81.lc (L3.gr (gd54.trans (g55.trans (g56.trans (g57.trans (g58.trans (g59.trans (g60.trans (g62.trans (g63.trans (g65.trans (g66.trans (g67.trans (g68.trans (g69.trans (g70.trans (g72.trans (g73.trans (g75.trans (g76.trans g78)))))))))))))))))))) ne3_79).gr g84
  have ne3_86 := L3.ne q86
  replace L5 := L5.gr g84
  have ne5_86 := L5.ne q86
  replace L7 := L7.gr g84
  have ne7_86 := L7.ne q86
  replace L16 := L16.gr g84
  have ne16_86 := L16.ne q86
  replace L36 := (st81.lc (L36.gr (gd54.trans (g55.trans (g56.trans (g57.trans (g58.trans (g59.trans (g60.trans (g62.trans (g63.trans (g65.trans (g66.trans (g67.trans (g68.trans (g69.trans (g70.trans (g72.trans (g73.trans (g75.trans (g76.trans g78)))))))))))))))))))) ne36_79).gr g84
  have ne36_86 := L36.ne q86
  replace L37 := (st81.lc (L37.gr (gd54.trans (g55.trans (g56.trans (g57.trans (g58.trans (g59.trans (g60.trans (g62.trans (g63.trans (g65.trans (g66.trans (g67.trans (g68.trans (g69.trans (g70.trans (g72.trans (g73.trans (g75.trans (g76.trans g78)))))))))))))))))))) ne37_79).gr g84
  have ne37_86 := L37.ne q86
  replace L44 := (st81.lc (L44.gr (gd54.trans (g55.trans (g56.trans (g57.trans (g58.trans (g59.trans (g60.trans (g62.trans (g63.trans (g65.trans (g66.trans (g67.trans (g68.trans (g69.trans (g70.trans (g72.trans (g73.trans (g75.trans (g76.trans g78)))))))))))))))))))) ne44_79).gr g84
  have ne44_86 := L44.ne q86
  replace L50 := (st81.lc (L50.gr (gd54.trans (g55.trans (g56.trans (g57.trans (g58.trans (g59.trans (g60.trans (g62.trans (g63.trans (g65.trans (g66.trans (g67.trans (g68.trans (g69.trans (g70.trans (g72.trans (g73.trans (g75.trans (g76.trans g78)))))))))))))))))))) ne50_79).gr g84
  have ne50_86 := L50.ne q86
  replace L79 := L79.gr g84
  have ne79_86 := L79.ne q86
  replace q86 := Nat.le_trans (Below.size hB) q86
  replace hB := Gr.trans hB g86
  refine k85 _ _ ?_
  try clear k85 K85
  simp only [p1, p2, p3, p4]
  refine sq_eff rfl (by kernel_rfl) (fun K87 k87 => ?_)
  refine eff_store 40 _ _ b86 0 (.agg #[(.bool false), (.slice none 0 0), (.bool false), (.slice none 0 0), (.bool false), (.slice none 0 0), (.bool false), (.slice none 0 0), (.bool false), (.slice none 0 0), (.bool false), (.slice none 0 0), (.bool false), (.slice none 0 0), (.bool false), (.slice none 0 0), (.bool false), (.slice none 0 0), (.bool false), (.slice none 0 0), (.bool false), (.slice none 0 0), (.bool false), (.slice none 0 0)]) [(.bool false), (.slice none 0 0), (.bool false), (.slice none 0 0), (.bool false), (.slice none 0 0), (.bool false), (.slice none 0 0), (.bool false), (.slice none 0 0), (.bool false), (.slice none 0 0), (.bool false), (.slice none 0 0), (.bool false), (.slice none 0 0), (.bool false), (.slice none 0 0), (.bool false), (.slice none 0 0), (.bool false), (.slice none 0 0), (.bool false), (.slice none 0 0)] _ #[(.bool false), (.slice none 0 0), (.bool false), (.slice none 0 0), (.bool false), (.slice none 0 0), (.bool false), (.slice none 0 0), (.bool false), (.slice none 0 0), (.bool false), (.slice none 0 0), (.bool false), (.slice none 0 0), (.bool false), (.slice none 0 0), (.bool false), (.slice none 0 0), (.bool false), (.slice none 0 0), (.bool false), (.slice none 0 0), (.bool false), (.slice none 0 0)] _ rfl rfl rfl rfl rfl L86 (by kernel_rfl) (Nat.le_of_ble_eq_true rfl) ⟨rfl, rfl, rfl, rfl, rfl, rfl, rfl, rfl, rfl, rfl, rfl, rfl, rfl, rfl, rfl, rfl, rfl, rfl, rfl, rfl, rfl, rfl, rfl, rfl, trivial⟩ (by kernel_rfl) (fun w88 st88 N88 => ?_)
  have kp88 := st88.kp L86 (by decide)
  replace hB := st88.gr hB q86
  replace L86 := N88
  refine k87 _ _ ?_
  try clear k87 K87
  refine sq_nil ?_
  refine k82 _ _ ?_
  try clear k82 K82
  refine wp_seq_k (fun K89 k89 => ?_)
  have gd149 := Gr.drew w88
  replace hB := Gr.trans hB gd149
  replace L5 := (st88.lc (L5.gr g86) ne5_86).gr gd149
  replace L7 := (st88.lc (L7.gr g86) ne7_86).gr gd149
  replace L16 := (st88.lc (L16.gr g86) ne16_86).gr gd149
  replace L36 := (st88.lc (L36.gr g86) ne36_86).gr gd149
  replace L50 := (st88.lc (L50.gr g86) ne50_86).gr gd149
  replace L79 := (st88.lc (L79.gr g86) ne79_86).gr gd149
  replace L86 := L86.gr gd149
  refine wp_region_ord (fun w' => Lc w' b5 #[(.int .i8 (m0)), (.int .i8 (m1)), (.int .i8 (m2)), (.int .i8 (l0)), (.int .i8 (l1)), (.int .i8 (l2))] 27 ∧ Lc w' b7 #[(.int .i8 (v0)), (.int .i8 (v1)), (.int .i8 (v2)), (.int .i8 (y0)), (.int .i8 (y1)), (.int .i8 (y2))] 27 ∧ Lc w' b16 #[t14_0, t14_1, t14_2, t14_3, t14_4, t14_5, t14_6, t14_7, t14_8, t14_9, t14_10, t14_11, t14_12, t14_13, t14_14, t14_15, t14_16, t14_17, t14_18, t14_19, t14_20, t14_21, t14_22, t14_23] 37 ∧ Lc w' b36 #[t26_0, t26_1, t26_2, t26_3, t26_4, t26_5, t26_6, t26_7, t26_8, t26_9, t26_10, t26_11, t26_12, t26_13, t26_14, t26_15, t26_16, t26_17, t26_18, t26_19, t26_20, t26_21, t26_22, t26_23] 40 ∧ Lc w' b50 #[t46_0, t46_1, t46_2, t46_3, t46_4, t46_5, t46_6, t46_7, t46_8, t46_9, t46_10, t46_11, t46_12, t46_13, t46_14, t46_15, t46_16, t46_17, t46_18, t46_19, t46_20, t46_21, t46_22, t46_23] 40 ∧ Lc w' b79 #[p76, q76, r76, s76] 33 ∧ Lc w' b86 #[(.bool false), (.slice none 0 0), (.bool false), (.slice none 0 0), (.bool false), (.slice none 0 0), (.bool false), (.slice none 0 0), (.bool false), (.slice none 0 0), (.bool false), (.slice none 0 0), (.bool false), (.slice none 0 0), (.bool false), (.slice none 0 0), (.bool false), (.slice none 0 0), (.bool false), (.slice none 0 0), (.bool false), (.slice none 0 0), (.bool false), (.slice none 0 0)] 40) [(true, 0), (true, 1), (true, 2), (true, 3), (true, 5), (true, 6), (false, 4), (false, 7), (false, 8), (false, 9), (true, 10), (true, 11), (true, 12), (true, 13), (true, 14), (false, 15), (false, 16), (true, 17), (true, 18), (true, 19), (true, 20), (true, 21), (true, 22), (true, 24), (true, 25), (false, 23), (false, 26), (false, 27), (false, 28), (true, 29), (true, 30), (true, 31), (true, 32), (true, 34), (false, 33), (false, 35), (true, 36), (true, 37), (true, 38), (true, 39), (true, 41), (true, 42), (true, 44), (true, 45), (true, 46), (false, 40), (false, 43), (false, 47), (false, 48), (false, 49), (false, 50), (true, 51), (true, 52), (true, 53), (true, 54), (false, 55), (true, 56), (true, 57), (true, 58), (true, 59), (false, 60), (true, 61), (true, 62)] (by kernel_rfl) (by kernel_rfl) (by kernel_rfl) (by decide) (fun _ _ _ _ _ h => h) ⟨L5, L7, L16, L36, L50, L79, L86⟩ ?_
  refine ord_pure (some 55) (.pointer (some ⟨b36, 0, none⟩)) rfl rfl rfl (fun w' hS => (rvk (by kernel_rfl))) ?_
  simp only [p1, p2, p3, p4]
  refine ord_pure (some 56) (.agg #[t26_0, t26_1, t26_2, t26_3, t26_4, t26_5, t26_6, t26_7, t26_8, t26_9, t26_10, t26_11]) rfl rfl rfl (fun w' hS => (rv_load 35 _ b36 0 _ _ [t26_0, t26_1, t26_2, t26_3, t26_4, t26_5, t26_6, t26_7, t26_8, t26_9, t26_10, t26_11] rfl rfl hS.2.2.2.1 rfl (by kernel_rfl))) ?_
  simp only [p1, p2, p3, p4]
  refine ord_pure (some 57) (.pointer (some ⟨b5, 0, none⟩)) rfl rfl rfl (fun w' hS => (rvk (by kernel_rfl))) ?_
  simp only [p1, p2, p3, p4]
  refine ord_pure (some 58) (.agg #[(.int .i8 (m0)), (.int .i8 (m1)), (.int .i8 (m2))]) rfl rfl rfl (fun w' hS => (rv_load 26 _ b5 0 _ _ [(.int .i8 (m0)), (.int .i8 (m1)), (.int .i8 (m2))] rfl rfl hS.1 rfl (by kernel_rfl))) ?_
  simp only [p1, p2, p3, p4]
  refine ord_pure (some 60) (.pointer (some ⟨b7, 0, none⟩)) rfl rfl rfl (fun w' hS => (rvk (by kernel_rfl))) ?_
  simp only [p1, p2, p3, p4]
  refine ord_pure (some 61) (.agg #[(.int .i8 (v0)), (.int .i8 (v1)), (.int .i8 (v2))]) rfl rfl rfl (fun w' hS => (rv_load 26 _ b7 0 _ _ [(.int .i8 (v0)), (.int .i8 (v1)), (.int .i8 (v2))] rfl rfl hS.2.1 rfl (by kernel_rfl))) ?_
  simp only [p1, p2, p3, p4]
  refine ord_eff rfl rfl (fun K150 k150 => ?_)
  refine eff_call (some 59) rfl (by kernel_rfl) (point_v (m0) (m1) (m2) (by omega) (by omega) (by omega) _) ?_
  rintro e151 w151 ⟨⟨t151_0, t151_1, t151_2, t151_3, t151_4, t151_5, t151_6, t151_7, t151_8, t151_9, t151_10, t151_11, rfl, h151a, h151b, h151c⟩, g151⟩
  refine ⟨_, rfl, ?_⟩
  replace hB := Gr.trans hB g151
  rw [← eP0] at h151a
  rw [← eP1] at h151b
  rw [← eP2] at h151c
  replace L5 := L5.gr g151
  replace L7 := L7.gr g151
  replace L16 := L16.gr g151
  replace L36 := L36.gr g151
  replace L50 := L50.gr g151
  replace L79 := L79.gr g151
  replace L86 := L86.gr g151
  refine k150 _ _ ⟨L5, L7, L16, L36, L50, L79, L86⟩ ?_
  try clear k150 K150
  simp only [p1, p2, p3, p4]
  refine ord_eff rfl rfl (fun K152 k152 => ?_)
  refine eff_call (some 62) rfl (by kernel_rfl) (point_v (v0) (v1) (v2) (by omega) (by omega) (by omega) _) ?_
  rintro e153 w153 ⟨⟨t153_0, t153_1, t153_2, t153_3, t153_4, t153_5, t153_6, t153_7, t153_8, t153_9, t153_10, t153_11, rfl, h153a, h153b, h153c⟩, g153⟩
  refine ⟨_, rfl, ?_⟩
  replace hB := Gr.trans hB g153
  rw [← eS0] at h153a
  rw [← eS1] at h153b
  rw [← eS2] at h153c
  replace L5 := L5.gr g153
  replace L7 := L7.gr g153
  replace L16 := L16.gr g153
  replace L36 := L36.gr g153
  replace L50 := L50.gr g153
  replace L79 := L79.gr g153
  replace L86 := L86.gr g153
  refine k152 _ _ ⟨L5, L7, L16, L36, L50, L79, L86⟩ ?_
  try clear k152 K152
  simp only [p1, p2, p3, p4]
  refine ord_eff rfl rfl (fun K154 k154 => ?_)
  replace h151a := h151a.kp g153.kp
  replace h151b := h151b.kp g153.kp
  replace h151c := h151c.kp g153.kp
  refine eff_call (some 63) rfl (by kernel_rfl) (cross_v h151a h151b h151c h153a h153b h153c (by omega)) ?_
  rintro e155 w155 ⟨⟨t155_0, t155_1, t155_2, t155_3, t155_4, t155_5, t155_6, t155_7, t155_8, t155_9, t155_10, t155_11, rfl, h155a, h155b, h155c⟩, g155⟩
  refine ⟨_, rfl, ?_⟩
  replace hB := Gr.trans hB g155
  replace L5 := L5.gr g155
  replace L7 := L7.gr g155
  replace L16 := L16.gr g155
  replace L36 := L36.gr g155
  replace L50 := L50.gr g155
  replace L79 := L79.gr g155
  replace L86 := L86.gr g155
  refine k154 _ _ ⟨L5, L7, L16, L36, L50, L79, L86⟩ ?_
  try clear k154 K154
  simp only [p1, p2, p3, p4]
  refine ord_eff rfl rfl (fun K156 k156 => ?_)
  have kq158 := g46.kp.trans (g50.kp.trans (kp52.trans (gd54.kp.trans (g55.kp.trans (g56.kp.trans (g57.kp.trans (g58.kp.trans (g59.kp.trans (g60.kp.trans (g62.kp.trans (g63.kp.trans (g65.kp.trans (g66.kp.trans (g67.kp.trans (g68.kp.trans (g69.kp.trans (g70.kp.trans (g72.kp.trans (g73.kp.trans (g75.kp.trans (g76.kp.trans (g78.kp.trans (kp81.trans (g84.kp.trans (g86.kp.trans (kp88.trans (gd149.kp.trans (g151.kp.trans (g153.kp.trans g155.kp)))))))))))))))))))))))))))))
  replace h26a := h26a.kp kq158
  replace h26b := h26b.kp kq158
  replace h26c := h26c.kp kq158
  refine eff_call (some 64) rfl (by kernel_rfl) (vequal_v h26a h26b h26c h155a h155b h155c (by omega)) ?_
  rintro e157 w157 ⟨rfl, g157⟩
  refine ⟨_, rfl, ?_⟩
  replace hB := Gr.trans hB g157
  replace L5 := L5.gr g157
  replace L7 := L7.gr g157
  replace L16 := L16.gr g157
  replace L36 := L36.gr g157
  replace L50 := L50.gr g157
  replace L79 := L79.gr g157
  replace L86 := L86.gr g157
  refine k156 _ _ ⟨L5, L7, L16, L36, L50, L79, L86⟩ ?_
  try clear k156 K156
  simp only [p1, p2, p3, p4]
  have hb159 : (vcmp (P1 * S2 - P2 * S1) (P2 * S0 - P0 * S2) (P0 * S1 - P1 * S0) (P1 * S2 - P2 * S1) (P2 * S0 - P0 * S2) (P0 * S1 - P1 * S0) == (0 : Int)) = true := (lawPo0 P0 P1 P2 S0 S1 S2 )
  refine ord_pure (some 65) (.bool true) rfl rfl rfl (fun w' hS => (RunV.bool (x := vcmp (P1 * S2 - P2 * S1) (P2 * S0 - P0 * S2) (P0 * S1 - P1 * S0) (P1 * S2 - P2 * S1) (P2 * S0 - P0 * S2) (P0 * S1 - P1 * S0) == (0 : Int)) (rvk (by kernel_rfl)) hb159)) ?_
  simp only [p1, p2, p3, p4]
  refine ord_pureg (some 66) (.pointer (some ⟨b36, 12, none⟩)) rfl rfl (by kernel_rfl) (fun w' hS => (rvk (by kernel_rfl))) ?_
  simp only [p1, p2, p3, p4]
  refine ord_pureg (some 67) (.agg #[t26_12, t26_13, t26_14, t26_15, t26_16, t26_17, t26_18, t26_19, t26_20, t26_21, t26_22, t26_23]) rfl rfl (by kernel_rfl) (fun w' hS => (rv_load 35 _ b36 12 _ _ [t26_12, t26_13, t26_14, t26_15, t26_16, t26_17, t26_18, t26_19, t26_20, t26_21, t26_22, t26_23] rfl rfl hS.2.2.2.1 rfl (by kernel_rfl))) ?_
  simp only [p1, p2, p3, p4]
  refine ord_pureg (some 68) (.pointer (some ⟨b7, 0, none⟩)) rfl rfl (by kernel_rfl) (fun w' hS => (rvk (by kernel_rfl))) ?_
  simp only [p1, p2, p3, p4]
  refine ord_pureg (some 69) (.agg #[(.int .i8 (v0)), (.int .i8 (v1)), (.int .i8 (v2))]) rfl rfl (by kernel_rfl) (fun w' hS => (rv_load 26 _ b7 0 _ _ [(.int .i8 (v0)), (.int .i8 (v1)), (.int .i8 (v2))] rfl rfl hS.2.1 rfl (by kernel_rfl))) ?_
  simp only [p1, p2, p3, p4]
  refine ord_effg rfl (by kernel_rfl) (fun K160 k160 => ?_)
  refine eff_call (some 70) rfl (by kernel_rfl) (point_v (v0) (v1) (v2) (by omega) (by omega) (by omega) _) ?_
  rintro e161 w161 ⟨⟨t161_0, t161_1, t161_2, t161_3, t161_4, t161_5, t161_6, t161_7, t161_8, t161_9, t161_10, t161_11, rfl, h161a, h161b, h161c⟩, g161⟩
  refine ⟨_, rfl, ?_⟩
  replace hB := Gr.trans hB g161
  rw [← eS0] at h161a
  rw [← eS1] at h161b
  rw [← eS2] at h161c
  replace L5 := L5.gr g161
  replace L7 := L7.gr g161
  replace L16 := L16.gr g161
  replace L36 := L36.gr g161
  replace L50 := L50.gr g161
  replace L79 := L79.gr g161
  replace L86 := L86.gr g161
  refine k160 _ _ ⟨L5, L7, L16, L36, L50, L79, L86⟩ ?_
  try clear k160 K160
  simp only [p1, p2, p3, p4]
  refine ord_effg rfl (by kernel_rfl) (fun K162 k162 => ?_)
  have kq164 := g46.kp.trans (g50.kp.trans (kp52.trans (gd54.kp.trans (g55.kp.trans (g56.kp.trans (g57.kp.trans (g58.kp.trans (g59.kp.trans (g60.kp.trans (g62.kp.trans (g63.kp.trans (g65.kp.trans (g66.kp.trans (g67.kp.trans (g68.kp.trans (g69.kp.trans (g70.kp.trans (g72.kp.trans (g73.kp.trans (g75.kp.trans (g76.kp.trans (g78.kp.trans (kp81.trans (g84.kp.trans (g86.kp.trans (kp88.trans (gd149.kp.trans (g151.kp.trans (g153.kp.trans (g155.kp.trans (g157.kp.trans g161.kp)))))))))))))))))))))))))))))))
  replace h26d := h26d.kp kq164
  replace h26e := h26e.kp kq164
  replace h26f := h26f.kp kq164
  refine eff_call (some 71) rfl (by kernel_rfl) (vequal_v h26d h26e h26f h161a h161b h161c (by omega)) ?_
  rintro e163 w163 ⟨rfl, g163⟩
  refine ⟨_, rfl, ?_⟩
  replace hB := Gr.trans hB g163
  replace L5 := L5.gr g163
  replace L7 := L7.gr g163
  replace L16 := L16.gr g163
  replace L36 := L36.gr g163
  replace L50 := L50.gr g163
  replace L79 := L79.gr g163
  replace L86 := L86.gr g163
  refine k162 _ _ ⟨L5, L7, L16, L36, L50, L79, L86⟩ ?_
  try clear k162 K162
  simp only [p1, p2, p3, p4]
  have hb165 : (vcmp S0 S1 S2 S0 S1 S2 == (0 : Int)) = true := (lawPo1 S0 S1 S2 )
  refine ord_pure (some 72) (.bool true) rfl rfl rfl (fun w' hS => (RunV.bool (x := vcmp S0 S1 S2 S0 S1 S2 == (0 : Int)) (rvk (by kernel_rfl)) hb165)) ?_
  simp only [p1, p2, p3, p4]
  refine ord_pure (some 73) (.bool true) rfl rfl rfl (fun w' hS => (rvk (by kernel_rfl))) ?_
  simp only [p1, p2, p3, p4]
  refine ord_pureg (some 74) (.pointer (some ⟨b50, 12, none⟩)) rfl rfl (by kernel_rfl) (fun w' hS => (rvk (by kernel_rfl))) ?_
  simp only [p1, p2, p3, p4]
  refine ord_pureg (some 75) (.agg #[t46_12, t46_13, t46_14, t46_15, t46_16, t46_17, t46_18, t46_19, t46_20, t46_21, t46_22, t46_23]) rfl rfl (by kernel_rfl) (fun w' hS => (rv_load 35 _ b50 12 _ _ [t46_12, t46_13, t46_14, t46_15, t46_16, t46_17, t46_18, t46_19, t46_20, t46_21, t46_22, t46_23] rfl rfl hS.2.2.2.2.1 rfl (by kernel_rfl))) ?_
  simp only [p1, p2, p3, p4]
  refine ord_pureg (some 76) (.pointer (some ⟨b7, 0, none⟩)) rfl rfl (by kernel_rfl) (fun w' hS => (rvk (by kernel_rfl))) ?_
  simp only [p1, p2, p3, p4]
  refine ord_pureg (some 77) (.agg #[(.int .i8 (v0)), (.int .i8 (v1)), (.int .i8 (v2))]) rfl rfl (by kernel_rfl) (fun w' hS => (rv_load 26 _ b7 0 _ _ [(.int .i8 (v0)), (.int .i8 (v1)), (.int .i8 (v2))] rfl rfl hS.2.1 rfl (by kernel_rfl))) ?_
  simp only [p1, p2, p3, p4]
  refine ord_pureg (some 79) (.pointer (some ⟨b7, 3, none⟩)) rfl rfl (by kernel_rfl) (fun w' hS => (rvk (by kernel_rfl))) ?_
  simp only [p1, p2, p3, p4]
  refine ord_pureg (some 80) (.agg #[(.int .i8 (y0)), (.int .i8 (y1)), (.int .i8 (y2))]) rfl rfl (by kernel_rfl) (fun w' hS => (rv_load 26 _ b7 3 _ _ [(.int .i8 (y0)), (.int .i8 (y1)), (.int .i8 (y2))] rfl rfl hS.2.1 rfl (by kernel_rfl))) ?_
  simp only [p1, p2, p3, p4]
  refine ord_effg rfl (by kernel_rfl) (fun K166 k166 => ?_)
  refine eff_call (some 78) rfl (by kernel_rfl) (point_v (v0) (v1) (v2) (by omega) (by omega) (by omega) _) ?_
  rintro e167 w167 ⟨⟨t167_0, t167_1, t167_2, t167_3, t167_4, t167_5, t167_6, t167_7, t167_8, t167_9, t167_10, t167_11, rfl, h167a, h167b, h167c⟩, g167⟩
  refine ⟨_, rfl, ?_⟩
  replace hB := Gr.trans hB g167
  rw [← eS0] at h167a
  rw [← eS1] at h167b
  rw [← eS2] at h167c
  replace L5 := L5.gr g167
  replace L7 := L7.gr g167
  replace L16 := L16.gr g167
  replace L36 := L36.gr g167
  replace L50 := L50.gr g167
  replace L79 := L79.gr g167
  replace L86 := L86.gr g167
  refine k166 _ _ ⟨L5, L7, L16, L36, L50, L79, L86⟩ ?_
  try clear k166 K166
  simp only [p1, p2, p3, p4]
  refine ord_effg rfl (by kernel_rfl) (fun K168 k168 => ?_)
  refine eff_call (some 81) rfl (by kernel_rfl) (point_v (y0) (y1) (y2) (by omega) (by omega) (by omega) _) ?_
  rintro e169 w169 ⟨⟨t169_0, t169_1, t169_2, t169_3, t169_4, t169_5, t169_6, t169_7, t169_8, t169_9, t169_10, t169_11, rfl, h169a, h169b, h169c⟩, g169⟩
  refine ⟨_, rfl, ?_⟩
  replace hB := Gr.trans hB g169
  rw [← eU0] at h169a
  rw [← eU1] at h169b
  rw [← eU2] at h169c
  replace L5 := L5.gr g169
  replace L7 := L7.gr g169
  replace L16 := L16.gr g169
  replace L36 := L36.gr g169
  replace L50 := L50.gr g169
  replace L79 := L79.gr g169
  replace L86 := L86.gr g169
  refine k168 _ _ ⟨L5, L7, L16, L36, L50, L79, L86⟩ ?_
  try clear k168 K168
  simp only [p1, p2, p3, p4]
  refine ord_effg rfl (by kernel_rfl) (fun K170 k170 => ?_)
  replace h167a := h167a.kp g169.kp
  replace h167b := h167b.kp g169.kp
  replace h167c := h167c.kp g169.kp
  refine eff_call (some 82) rfl (by kernel_rfl) (vadd_v h167a h167b h167c h169a h169b h169c (by omega)) ?_
  rintro e171 w171 ⟨⟨t171_0, t171_1, t171_2, t171_3, t171_4, t171_5, t171_6, t171_7, t171_8, t171_9, t171_10, t171_11, rfl, h171a, h171b, h171c⟩, g171⟩
  refine ⟨_, rfl, ?_⟩
  replace hB := Gr.trans hB g171
  replace L5 := L5.gr g171
  replace L7 := L7.gr g171
  replace L16 := L16.gr g171
  replace L36 := L36.gr g171
  replace L50 := L50.gr g171
  replace L79 := L79.gr g171
  replace L86 := L86.gr g171
  refine k170 _ _ ⟨L5, L7, L16, L36, L50, L79, L86⟩ ?_
  try clear k170 K170
  simp only [p1, p2, p3, p4]
  refine ord_effg rfl (by kernel_rfl) (fun K172 k172 => ?_)
  have kq174 := g50.kp.trans (kp52.trans (gd54.kp.trans (g55.kp.trans (g56.kp.trans (g57.kp.trans (g58.kp.trans (g59.kp.trans (g60.kp.trans (g62.kp.trans (g63.kp.trans (g65.kp.trans (g66.kp.trans (g67.kp.trans (g68.kp.trans (g69.kp.trans (g70.kp.trans (g72.kp.trans (g73.kp.trans (g75.kp.trans (g76.kp.trans (g78.kp.trans (kp81.trans (g84.kp.trans (g86.kp.trans (kp88.trans (gd149.kp.trans (g151.kp.trans (g153.kp.trans (g155.kp.trans (g157.kp.trans (g161.kp.trans (g163.kp.trans (g167.kp.trans (g169.kp.trans g171.kp))))))))))))))))))))))))))))))))))
  replace h46d := h46d.kp kq174
  replace h46e := h46e.kp kq174
  replace h46f := h46f.kp kq174
  refine eff_call (some 83) rfl (by kernel_rfl) (vequal_v h46d h46e h46f h171a h171b h171c (by omega)) ?_
  rintro e173 w173 ⟨rfl, g173⟩
  refine ⟨_, rfl, ?_⟩
  replace hB := Gr.trans hB g173
  replace L5 := L5.gr g173
  replace L7 := L7.gr g173
  replace L16 := L16.gr g173
  replace L36 := L36.gr g173
  replace L50 := L50.gr g173
  replace L79 := L79.gr g173
  replace L86 := L86.gr g173
  refine k172 _ _ ⟨L5, L7, L16, L36, L50, L79, L86⟩ ?_
  try clear k172 K172
  simp only [p1, p2, p3, p4]
  have hb175 : (vcmp (0 + S0 + U0) (0 + S1 + U1) (0 + S2 + U2) (S0 + U0) (S1 + U1) (S2 + U2) == (0 : Int)) = true := (lawPo2 S0 S1 S2 U0 U1 U2 )
  refine ord_pure (some 84) (.bool true) rfl rfl rfl (fun w' hS => (RunV.bool (x := vcmp (0 + S0 + U0) (0 + S1 + U1) (0 + S2 + U2) (S0 + U0) (S1 + U1) (S2 + U2) == (0 : Int)) (rvk (by kernel_rfl)) hb175)) ?_
  simp only [p1, p2, p3, p4]
  refine ord_pure (some 85) (.bool true) rfl rfl rfl (fun w' hS => (rvk (by kernel_rfl))) ?_
  simp only [p1, p2, p3, p4]
  refine ord_pureg (some 86) (.agg #[t14_0, t14_1, t14_2, t14_3, t14_4, t14_5, t14_6, t14_7, t14_8, t14_9, t14_10, t14_11, t14_12, t14_13, t14_14, t14_15, t14_16, t14_17, t14_18, t14_19, t14_20, t14_21, t14_22, t14_23]) rfl rfl (by kernel_rfl) (fun w' hS => (rv_load 37 _ b16 0 _ _ [t14_0, t14_1, t14_2, t14_3, t14_4, t14_5, t14_6, t14_7, t14_8, t14_9, t14_10, t14_11, t14_12, t14_13, t14_14, t14_15, t14_16, t14_17, t14_18, t14_19, t14_20, t14_21, t14_22, t14_23] rfl rfl hS.2.2.1 rfl (by kernel_rfl))) ?_
  simp only [p1, p2, p3, p4]
  refine ord_pureg (some 87) (.agg #[t46_0, t46_1, t46_2, t46_3, t46_4, t46_5, t46_6, t46_7, t46_8, t46_9, t46_10, t46_11, t46_12, t46_13, t46_14, t46_15, t46_16, t46_17, t46_18, t46_19, t46_20, t46_21, t46_22, t46_23]) rfl rfl (by kernel_rfl) (fun w' hS => (rv_load 40 _ b50 0 _ _ [t46_0, t46_1, t46_2, t46_3, t46_4, t46_5, t46_6, t46_7, t46_8, t46_9, t46_10, t46_11, t46_12, t46_13, t46_14, t46_15, t46_16, t46_17, t46_18, t46_19, t46_20, t46_21, t46_22, t46_23] rfl rfl hS.2.2.2.2.1 rfl (by kernel_rfl))) ?_
  simp only [p1, p2, p3, p4]
  refine ord_pureg (some 89) (.agg #[p76, q76, r76, s76]) rfl rfl (by kernel_rfl) (fun w' hS => (rv_load 33 _ b79 0 _ _ [p76, q76, r76, s76] rfl rfl hS.2.2.2.2.2.1 rfl (by kernel_rfl))) ?_
  simp only [p1, p2, p3, p4]
  refine ord_effg rfl (by kernel_rfl) (fun K176 k176 => ?_)
  have kq178 := g70.kp.trans (g72.kp.trans (g73.kp.trans (g75.kp.trans (g76.kp.trans (g78.kp.trans (kp81.trans (g84.kp.trans (g86.kp.trans (kp88.trans (gd149.kp.trans (g151.kp.trans (g153.kp.trans (g155.kp.trans (g157.kp.trans (g161.kp.trans (g163.kp.trans (g167.kp.trans (g169.kp.trans (g171.kp.trans g173.kp)))))))))))))))))))
  replace h14a := h14a.kp kq178
  replace h14b := h14b.kp kq178
  replace h14c := h14c.kp kq178
  replace h14d := h14d.kp kq178
  replace h14e := h14e.kp kq178
  replace h14f := h14f.kp kq178
  have kq179 := g50.kp.trans (kp52.trans (gd54.kp.trans (g55.kp.trans (g56.kp.trans (g57.kp.trans (g58.kp.trans (g59.kp.trans (g60.kp.trans (g62.kp.trans (g63.kp.trans (g65.kp.trans (g66.kp.trans (g67.kp.trans (g68.kp.trans (g69.kp.trans (g70.kp.trans (g72.kp.trans (g73.kp.trans (g75.kp.trans (g76.kp.trans (g78.kp.trans (kp81.trans (g84.kp.trans (g86.kp.trans (kp88.trans (gd149.kp.trans (g151.kp.trans (g153.kp.trans (g155.kp.trans (g157.kp.trans (g161.kp.trans (g163.kp.trans (g167.kp.trans (g169.kp.trans (g171.kp.trans g173.kp)))))))))))))))))))))))))))))))))))
  replace h46a := h46a.kp kq179
  replace h46b := h46b.kp kq179
  replace h46c := h46c.kp kq179
  replace h46d := h46d.kp g173.kp
  replace h46e := h46e.kp g173.kp
  replace h46f := h46f.kp g173.kp
  refine eff_call (some 88) rfl (by kernel_rfl) (power_v h14a h14b h14c h14d h14e h14f h46a h46b h46c h46d h46e h46f (by omega)) ?_
  rintro e177 w177 ⟨⟨p177, q177, r177, s177, rfl, h177⟩, g177⟩
  refine ⟨_, rfl, ?_⟩
  replace hB := Gr.trans hB g177
  replace L5 := L5.gr g177
  replace L7 := L7.gr g177
  replace L16 := L16.gr g177
  replace L36 := L36.gr g177
  replace L50 := L50.gr g177
  replace L79 := L79.gr g177
  replace L86 := L86.gr g177
  refine k176 _ _ ⟨L5, L7, L16, L36, L50, L79, L86⟩ ?_
  try clear k176 K176
  simp only [p1, p2, p3, p4]
  refine ord_effg rfl (by kernel_rfl) (fun K180 k180 => ?_)
  have kq182 := g78.kp.trans (kp81.trans (g84.kp.trans (g86.kp.trans (kp88.trans (gd149.kp.trans (g151.kp.trans (g153.kp.trans (g155.kp.trans (g157.kp.trans (g161.kp.trans (g163.kp.trans (g167.kp.trans (g169.kp.trans (g171.kp.trans (g173.kp.trans g177.kp)))))))))))))))
  replace h76 := h76.kp kq182
  refine eff_call (some 90) rfl (by kernel_rfl) (equal_q h177 h76 (by omega)) ?_
  rintro e181 w181 ⟨rfl, g181⟩
  refine ⟨_, rfl, ?_⟩
  replace hB := Gr.trans hB g181
  replace L5 := L5.gr g181
  replace L7 := L7.gr g181
  replace L16 := L16.gr g181
  replace L36 := L36.gr g181
  replace L50 := L50.gr g181
  replace L79 := L79.gr g181
  replace L86 := L86.gr g181
  refine k180 _ _ ⟨L5, L7, L16, L36, L50, L79, L86⟩ ?_
  try clear k180 K180
  simp only [p1, p2, p3, p4]
  have hb183 : (rcmp ((0 + (0 + (P1 * S2 - P2 * S1) + (Q1 * U2 - Q2 * U1)) * A0 + (0 + (P2 * S0 - P0 * S2) + (Q2 * U0 - Q0 * U2)) * A1 + (0 + (P0 * S1 - P1 * S0) + (Q0 * U1 - Q1 * U0)) * A2) + (0 + (0 + S0 + U0) * A3 + (0 + S1 + U1) * A4 + (0 + S2 + U2) * A5)) ((0 + S0 * (A3 + (A1 * P2 - A2 * P1)) + S1 * (A4 + (A2 * P0 - A0 * P2)) + S2 * (A5 + (A0 * P1 - A1 * P0))) + (0 + U0 * (A3 + (A1 * Q2 - A2 * Q1)) + U1 * (A4 + (A2 * Q0 - A0 * Q2)) + U2 * (A5 + (A0 * Q1 - A1 * Q0)))) == (0 : Int)) = true := (lawPo3 A0 A1 A2 A3 A4 A5 P0 P1 P2 Q0 Q1 Q2 S0 S1 S2 U0 U1 U2 )
  refine ord_pure (some 91) (.bool true) rfl rfl rfl (fun w' hS => (RunV.bool (x := rcmp ((0 + (0 + (P1 * S2 - P2 * S1) + (Q1 * U2 - Q2 * U1)) * A0 + (0 + (P2 * S0 - P0 * S2) + (Q2 * U0 - Q0 * U2)) * A1 + (0 + (P0 * S1 - P1 * S0) + (Q0 * U1 - Q1 * U0)) * A2) + (0 + (0 + S0 + U0) * A3 + (0 + S1 + U1) * A4 + (0 + S2 + U2) * A5)) ((0 + S0 * (A3 + (A1 * P2 - A2 * P1)) + S1 * (A4 + (A2 * P0 - A0 * P2)) + S2 * (A5 + (A0 * P1 - A1 * P0))) + (0 + U0 * (A3 + (A1 * Q2 - A2 * Q1)) + U1 * (A4 + (A2 * Q0 - A0 * Q2)) + U2 * (A5 + (A0 * Q1 - A1 * Q0)))) == (0 : Int)) (rvk (by kernel_rfl)) hb183)) ?_
  simp only [p1, p2, p3, p4]
  refine ord_pure (some 92) (.bool true) rfl rfl rfl (fun w' hS => (rvk (by kernel_rfl))) ?_
  simp only [p1, p2, p3, p4]
  refine ord_pureg (some 93) (.agg #[t14_0, t14_1, t14_2, t14_3, t14_4, t14_5, t14_6, t14_7, t14_8, t14_9, t14_10, t14_11, t14_12, t14_13, t14_14, t14_15, t14_16, t14_17, t14_18, t14_19, t14_20, t14_21, t14_22, t14_23]) rfl rfl (by kernel_rfl) (fun w' hS => (rv_load 37 _ b16 0 _ _ [t14_0, t14_1, t14_2, t14_3, t14_4, t14_5, t14_6, t14_7, t14_8, t14_9, t14_10, t14_11, t14_12, t14_13, t14_14, t14_15, t14_16, t14_17, t14_18, t14_19, t14_20, t14_21, t14_22, t14_23] rfl rfl hS.2.2.1 rfl (by kernel_rfl))) ?_
  simp only [p1, p2, p3, p4]
  refine ord_pureg (some 94) (.agg #[t26_0, t26_1, t26_2, t26_3, t26_4, t26_5, t26_6, t26_7, t26_8, t26_9, t26_10, t26_11, t26_12, t26_13, t26_14, t26_15, t26_16, t26_17, t26_18, t26_19, t26_20, t26_21, t26_22, t26_23]) rfl rfl (by kernel_rfl) (fun w' hS => (rv_load 40 _ b36 0 _ _ [t26_0, t26_1, t26_2, t26_3, t26_4, t26_5, t26_6, t26_7, t26_8, t26_9, t26_10, t26_11, t26_12, t26_13, t26_14, t26_15, t26_16, t26_17, t26_18, t26_19, t26_20, t26_21, t26_22, t26_23] rfl rfl hS.2.2.2.1 rfl (by kernel_rfl))) ?_
  simp only [p1, p2, p3, p4]
  refine ord_pureg (some 96) (.pointer (some ⟨b7, 0, none⟩)) rfl rfl (by kernel_rfl) (fun w' hS => (rvk (by kernel_rfl))) ?_
  simp only [p1, p2, p3, p4]
  refine ord_pureg (some 97) (.agg #[(.int .i8 (v0)), (.int .i8 (v1)), (.int .i8 (v2))]) rfl rfl (by kernel_rfl) (fun w' hS => (rv_load 26 _ b7 0 _ _ [(.int .i8 (v0)), (.int .i8 (v1)), (.int .i8 (v2))] rfl rfl hS.2.1 rfl (by kernel_rfl))) ?_
  simp only [p1, p2, p3, p4]
  refine ord_pureg (some 99) (.agg #[t14_0, t14_1, t14_2, t14_3, t14_4, t14_5, t14_6, t14_7, t14_8, t14_9, t14_10, t14_11, t14_12, t14_13, t14_14, t14_15, t14_16, t14_17, t14_18, t14_19, t14_20, t14_21, t14_22, t14_23]) rfl rfl (by kernel_rfl) (fun w' hS => (rv_load 37 _ b16 0 _ _ [t14_0, t14_1, t14_2, t14_3, t14_4, t14_5, t14_6, t14_7, t14_8, t14_9, t14_10, t14_11, t14_12, t14_13, t14_14, t14_15, t14_16, t14_17, t14_18, t14_19, t14_20, t14_21, t14_22, t14_23] rfl rfl hS.2.2.1 rfl (by kernel_rfl))) ?_
  simp only [p1, p2, p3, p4]
  refine ord_pureg (some 100) (.pointer (some ⟨b5, 0, none⟩)) rfl rfl (by kernel_rfl) (fun w' hS => (rvk (by kernel_rfl))) ?_
  simp only [p1, p2, p3, p4]
  refine ord_pureg (some 101) (.agg #[(.int .i8 (m0)), (.int .i8 (m1)), (.int .i8 (m2))]) rfl rfl (by kernel_rfl) (fun w' hS => (rv_load 26 _ b5 0 _ _ [(.int .i8 (m0)), (.int .i8 (m1)), (.int .i8 (m2))] rfl rfl hS.1 rfl (by kernel_rfl))) ?_
  simp only [p1, p2, p3, p4]
  refine ord_effg rfl (by kernel_rfl) (fun K184 k184 => ?_)
  have kq186 := g177.kp.trans g181.kp
  replace h14a := h14a.kp kq186
  replace h14b := h14b.kp kq186
  replace h14c := h14c.kp kq186
  replace h14d := h14d.kp kq186
  replace h14e := h14e.kp kq186
  replace h14f := h14f.kp kq186
  have kq187 := g157.kp.trans (g161.kp.trans (g163.kp.trans (g167.kp.trans (g169.kp.trans (g171.kp.trans (g173.kp.trans (g177.kp.trans g181.kp)))))))
  replace h26a := h26a.kp kq187
  replace h26b := h26b.kp kq187
  replace h26c := h26c.kp kq187
  have kq188 := g163.kp.trans (g167.kp.trans (g169.kp.trans (g171.kp.trans (g173.kp.trans (g177.kp.trans g181.kp)))))
  replace h26d := h26d.kp kq188
  replace h26e := h26e.kp kq188
  replace h26f := h26f.kp kq188
  refine eff_call (some 95) rfl (by kernel_rfl) (power_v h14a h14b h14c h14d h14e h14f h26a h26b h26c (h26d.mono (show _ ≤ 257 by omega)) (h26e.mono (show _ ≤ 257 by omega)) (h26f.mono (show _ ≤ 257 by omega)) (by omega)) ?_
  rintro e185 w185 ⟨⟨p185, q185, r185, s185, rfl, h185⟩, g185⟩
  refine ⟨_, rfl, ?_⟩
  replace hB := Gr.trans hB g185
  replace L5 := L5.gr g185
  replace L7 := L7.gr g185
  replace L16 := L16.gr g185
  replace L36 := L36.gr g185
  replace L50 := L50.gr g185
  replace L79 := L79.gr g185
  replace L86 := L86.gr g185
  refine k184 _ _ ⟨L5, L7, L16, L36, L50, L79, L86⟩ ?_
  try clear k184 K184
  simp only [p1, p2, p3, p4]
  refine ord_effg rfl (by kernel_rfl) (fun K189 k189 => ?_)
  refine eff_call (some 98) rfl (by kernel_rfl) (point_v (v0) (v1) (v2) (by omega) (by omega) (by omega) _) ?_
  rintro e190 w190 ⟨⟨t190_0, t190_1, t190_2, t190_3, t190_4, t190_5, t190_6, t190_7, t190_8, t190_9, t190_10, t190_11, rfl, h190a, h190b, h190c⟩, g190⟩
  refine ⟨_, rfl, ?_⟩
  replace hB := Gr.trans hB g190
  rw [← eS0] at h190a
  rw [← eS1] at h190b
  rw [← eS2] at h190c
  replace L5 := L5.gr g190
  replace L7 := L7.gr g190
  replace L16 := L16.gr g190
  replace L36 := L36.gr g190
  replace L50 := L50.gr g190
  replace L79 := L79.gr g190
  replace L86 := L86.gr g190
  refine k189 _ _ ⟨L5, L7, L16, L36, L50, L79, L86⟩ ?_
  try clear k189 K189
  simp only [p1, p2, p3, p4]
  refine ord_effg rfl (by kernel_rfl) (fun K191 k191 => ?_)
  refine eff_call (some 102) rfl (by kernel_rfl) (point_v (m0) (m1) (m2) (by omega) (by omega) (by omega) _) ?_
  rintro e192 w192 ⟨⟨t192_0, t192_1, t192_2, t192_3, t192_4, t192_5, t192_6, t192_7, t192_8, t192_9, t192_10, t192_11, rfl, h192a, h192b, h192c⟩, g192⟩
  refine ⟨_, rfl, ?_⟩
  replace hB := Gr.trans hB g192
  rw [← eP0] at h192a
  rw [← eP1] at h192b
  rw [← eP2] at h192c
  replace L5 := L5.gr g192
  replace L7 := L7.gr g192
  replace L16 := L16.gr g192
  replace L36 := L36.gr g192
  replace L50 := L50.gr g192
  replace L79 := L79.gr g192
  replace L86 := L86.gr g192
  refine k191 _ _ ⟨L5, L7, L16, L36, L50, L79, L86⟩ ?_
  try clear k191 K191
  simp only [p1, p2, p3, p4]
  refine ord_effg rfl (by kernel_rfl) (fun K193 k193 => ?_)
  have kq195 := g185.kp.trans (g190.kp.trans g192.kp)
  replace h14a := h14a.kp kq195
  replace h14b := h14b.kp kq195
  replace h14c := h14c.kp kq195
  replace h14d := h14d.kp kq195
  replace h14e := h14e.kp kq195
  replace h14f := h14f.kp kq195
  refine eff_call (some 103) rfl (by kernel_rfl) (lvel_v h14a h14b h14c h14d h14e h14f h192a h192b h192c (by omega)) ?_
  rintro e194 w194 ⟨⟨t194_0, t194_1, t194_2, t194_3, t194_4, t194_5, t194_6, t194_7, t194_8, t194_9, t194_10, t194_11, rfl, h194a, h194b, h194c⟩, g194⟩
  refine ⟨_, rfl, ?_⟩
  replace hB := Gr.trans hB g194
  replace L5 := L5.gr g194
  replace L7 := L7.gr g194
  replace L16 := L16.gr g194
  replace L36 := L36.gr g194
  replace L50 := L50.gr g194
  replace L79 := L79.gr g194
  replace L86 := L86.gr g194
  refine k193 _ _ ⟨L5, L7, L16, L36, L50, L79, L86⟩ ?_
  try clear k193 K193
  simp only [p1, p2, p3, p4]
  refine ord_effg rfl (by kernel_rfl) (fun K196 k196 => ?_)
  have kq198 := g192.kp.trans g194.kp
  replace h190a := h190a.kp kq198
  replace h190b := h190b.kp kq198
  replace h190c := h190c.kp kq198
  refine eff_call (some 104) rfl (by kernel_rfl) (dot_v h190a h190b h190c h194a h194b h194c (by omega)) ?_
  rintro e197 w197 ⟨⟨p197, q197, r197, s197, rfl, h197⟩, g197⟩
  refine ⟨_, rfl, ?_⟩
  replace hB := Gr.trans hB g197
  replace L5 := L5.gr g197
  replace L7 := L7.gr g197
  replace L16 := L16.gr g197
  replace L36 := L36.gr g197
  replace L50 := L50.gr g197
  replace L79 := L79.gr g197
  replace L86 := L86.gr g197
  refine k196 _ _ ⟨L5, L7, L16, L36, L50, L79, L86⟩ ?_
  try clear k196 K196
  simp only [p1, p2, p3, p4]
  refine ord_effg rfl (by kernel_rfl) (fun K199 k199 => ?_)
  have kq201 := g190.kp.trans (g192.kp.trans (g194.kp.trans g197.kp))
  replace h185 := h185.kp kq201
  refine eff_call (some 105) rfl (by kernel_rfl) (equal_q h185 h197 (by omega)) ?_
  rintro e200 w200 ⟨rfl, g200⟩
  refine ⟨_, rfl, ?_⟩
  replace hB := Gr.trans hB g200
  replace L5 := L5.gr g200
  replace L7 := L7.gr g200
  replace L16 := L16.gr g200
  replace L36 := L36.gr g200
  replace L50 := L50.gr g200
  replace L79 := L79.gr g200
  replace L86 := L86.gr g200
  refine k199 _ _ ⟨L5, L7, L16, L36, L50, L79, L86⟩ ?_
  try clear k199 K199
  simp only [p1, p2, p3, p4]
  have hb202 : (rcmp ((0 + (P1 * S2 - P2 * S1) * A0 + (P2 * S0 - P0 * S2) * A1 + (P0 * S1 - P1 * S0) * A2) + (0 + S0 * A3 + S1 * A4 + S2 * A5)) (0 + S0 * (A3 + (A1 * P2 - A2 * P1)) + S1 * (A4 + (A2 * P0 - A0 * P2)) + S2 * (A5 + (A0 * P1 - A1 * P0))) == (0 : Int)) = true := (lawPo4 A0 A1 A2 A3 A4 A5 P0 P1 P2 S0 S1 S2 )
  refine ord_pure (some 106) (.bool true) rfl rfl rfl (fun w' hS => (RunV.bool (x := rcmp ((0 + (P1 * S2 - P2 * S1) * A0 + (P2 * S0 - P0 * S2) * A1 + (P0 * S1 - P1 * S0) * A2) + (0 + S0 * A3 + S1 * A4 + S2 * A5)) (0 + S0 * (A3 + (A1 * P2 - A2 * P1)) + S1 * (A4 + (A2 * P0 - A0 * P2)) + S2 * (A5 + (A0 * P1 - A1 * P0))) == (0 : Int)) (rvk (by kernel_rfl)) hb202)) ?_
  simp only [p1, p2, p3, p4]
  refine ord_pure (some 107) (.bool true) rfl rfl rfl (fun w' hS => (rvk (by kernel_rfl))) ?_
  simp only [p1, p2, p3, p4]
  refine ord_pureg (some 108) (.pointer (some ⟨b86, 12, none⟩)) rfl rfl (by kernel_rfl) (fun w' hS => (rvk (by kernel_rfl))) ?_
  simp only [p1, p2, p3, p4]
  refine ord_pureg (some 109) (.agg #[(.bool false), (.slice none 0 0), (.bool false), (.slice none 0 0), (.bool false), (.slice none 0 0), (.bool false), (.slice none 0 0), (.bool false), (.slice none 0 0), (.bool false), (.slice none 0 0)]) rfl rfl (by kernel_rfl) (fun w' hS => (rv_load 35 _ b86 12 _ _ [(.bool false), (.slice none 0 0), (.bool false), (.slice none 0 0), (.bool false), (.slice none 0 0), (.bool false), (.slice none 0 0), (.bool false), (.slice none 0 0), (.bool false), (.slice none 0 0)] rfl rfl hS.2.2.2.2.2.2 rfl (by kernel_rfl))) ?_
  simp only [p1, p2, p3, p4]
  refine ord_effg rfl (by kernel_rfl) (fun K203 k203 => ?_)
  refine eff_call (some 110) rfl (by kernel_rfl) (vzero_v (IsRat.zero _ (k := 64) (Nat.le_refl _)) (IsRat.zero _ (k := 64) (Nat.le_refl _)) (IsRat.zero _ (k := 64) (Nat.le_refl _)) (by omega)) ?_
  rintro e204 w204 ⟨rfl, g204⟩
  refine ⟨_, rfl, ?_⟩
  replace hB := Gr.trans hB g204
  replace L5 := L5.gr g204
  replace L7 := L7.gr g204
  replace L16 := L16.gr g204
  replace L36 := L36.gr g204
  replace L50 := L50.gr g204
  replace L79 := L79.gr g204
  replace L86 := L86.gr g204
  refine k203 _ _ ⟨L5, L7, L16, L36, L50, L79, L86⟩ ?_
  try clear k203 K203
  simp only [p1, p2, p3, p4]
  have hb205 : (vcmp 0 0 0 0 0 0 == (0 : Int)) = true := (lawPo5  )
  refine ord_pure (some 111) (.bool true) rfl rfl rfl (fun w' hS => (RunV.bool (x := vcmp 0 0 0 0 0 0 == (0 : Int)) (rvk (by kernel_rfl)) hb205)) ?_
  simp only [p1, p2, p3, p4]
  refine ord_pure (some 112) (.bool true) rfl rfl rfl (fun w' hS => (rvk (by kernel_rfl))) ?_
  simp only [p1, p2, p3, p4]
  refine ord_pureg (some 113) (.pointer (some ⟨b86, 0, none⟩)) rfl rfl (by kernel_rfl) (fun w' hS => (rvk (by kernel_rfl))) ?_
  simp only [p1, p2, p3, p4]
  refine ord_pureg (some 114) (.agg #[(.bool false), (.slice none 0 0), (.bool false), (.slice none 0 0), (.bool false), (.slice none 0 0), (.bool false), (.slice none 0 0), (.bool false), (.slice none 0 0), (.bool false), (.slice none 0 0)]) rfl rfl (by kernel_rfl) (fun w' hS => (rv_load 35 _ b86 0 _ _ [(.bool false), (.slice none 0 0), (.bool false), (.slice none 0 0), (.bool false), (.slice none 0 0), (.bool false), (.slice none 0 0), (.bool false), (.slice none 0 0), (.bool false), (.slice none 0 0)] rfl rfl hS.2.2.2.2.2.2 rfl (by kernel_rfl))) ?_
  simp only [p1, p2, p3, p4]
  refine ord_effg rfl (by kernel_rfl) (fun K206 k206 => ?_)
  refine eff_call (some 115) rfl (by kernel_rfl) (vzero_v (IsRat.zero _ (k := 64) (Nat.le_refl _)) (IsRat.zero _ (k := 64) (Nat.le_refl _)) (IsRat.zero _ (k := 64) (Nat.le_refl _)) (by omega)) ?_
  rintro e207 w207 ⟨rfl, g207⟩
  refine ⟨_, rfl, ?_⟩
  replace hB := Gr.trans hB g207
  replace L5 := L5.gr g207
  replace L7 := L7.gr g207
  replace L16 := L16.gr g207
  replace L36 := L36.gr g207
  replace L50 := L50.gr g207
  replace L79 := L79.gr g207
  replace L86 := L86.gr g207
  refine k206 _ _ ⟨L5, L7, L16, L36, L50, L79, L86⟩ ?_
  try clear k206 K206
  simp only [p1, p2, p3, p4]
  refine ord_pure (some 116) (.bool true) rfl rfl rfl (fun w' hS => (RunV.bool (x := vcmp 0 0 0 0 0 0 == (0 : Int)) (rvk (by kernel_rfl)) hb205)) ?_
  simp only [p1, p2, p3, p4]
  refine ord_pure (some 6) (.bool true) rfl rfl rfl (fun w' hS => (rvk (by kernel_rfl))) ?_
  simp only [p1, p2, p3, p4]
  refine ord_nil ?_
  refine k89 _ _ ?_
  try clear k89 K89
  refine wp_ret ?_
  refine bodyPost_ret (v := (.bool true)) (ret_tmp rfl rfl) rfl ⟨?_, hB⟩
  exact rfl

theorem twist_powers (n0 n1 n2 n3 n4 n5 dd : Int) (in0 : -128 ≤ n0 ∧ n0 ≤ 127) (in1 : -128 ≤ n1 ∧ n1 ≤ 127) (in2 : -128 ≤ n2 ∧ n2 ≤ 127) (in3 : -128 ≤ n3 ∧ n3 ≤ 127) (in4 : -128 ≤ n4 ∧ n4 ≤ 127) (in5 : -128 ≤ n5 ∧ n5 ≤ 127) (idd : 0 ≤ dd ∧ dd ≤ 255) (m0 m1 m2 : Int) (im0 : -128 ≤ m0 ∧ m0 ≤ 127) (im1 : -128 ≤ m1 ∧ m1 ≤ 127) (im2 : -128 ≤ m2 ∧ m2 ≤ 127) (l0 l1 l2 : Int) (il0 : -128 ≤ l0 ∧ l0 ≤ 127) (il1 : -128 ≤ l1 ∧ l1 ≤ 127) (il2 : -128 ≤ l2 ∧ l2 ≤ 127) (v0 v1 v2 : Int) (iv0 : -128 ≤ v0 ∧ v0 ≤ 127) (iv1 : -128 ≤ v1 ∧ v1 ≤ 127) (iv2 : -128 ≤ v2 ∧ v2 ≤ 127) (y0 y1 y2 : Int) (iy0 : -128 ≤ y0 ∧ y0 ≤ 127) (iy1 : -128 ≤ y1 ∧ y1 ≤ 127) (iy2 : -128 ≤ y2 ∧ y2 ≤ 127) (w : World) (ht : Tab w) :
    Calls Tryz.prog 3 #[(.agg #[(.int .i8 (n0)), (.int .i8 (n1)), (.int .i8 (n2)), (.int .i8 (n3)), (.int .i8 (n4)), (.int .i8 (n5)), (.int .u8 (dd))]), (.agg #[(.int .i8 (m0)), (.int .i8 (m1)), (.int .i8 (m2)), (.int .i8 (l0)), (.int .i8 (l1)), (.int .i8 (l2))]), (.agg #[(.int .i8 (v0)), (.int .i8 (v1)), (.int .i8 (v2)), (.int .i8 (y0)), (.int .i8 (y1)), (.int .i8 (y2))])] w fun e w' => e = .returned (.bool true) ∧ Gr w w' :=
  powers_q n0 n1 n2 n3 n4 n5 dd in0 in1 in2 in3 in4 in5 idd m0 m1 m2 im0 im1 im2 l0 l1 l2 il0 il1 il2 v0 v1 v2 iv0 iv1 iv2 y0 y1 y2 iy0 iy1 iy2 _ _ _ _ _ _ rfl rfl rfl rfl rfl rfl _ _ _ rfl rfl rfl _ _ _ rfl rfl rfl _ _ _ rfl rfl rfl _ _ _ rfl rfl rfl w ht

end Go.Proofs.YtgopfikljndklaaGreatDoor
