/- Printed by a program of the prover's: Primitive, AxisOf. -/
import Derived.Test.YtgopfikljndklaaDoorPrim
namespace Go.Proofs.YtgopfikljndklaaDoor
open Go.RowKit

set_option maxRecDepth 100000 in
set_option maxHeartbeats 8000000 in
theorem vprim_ok {k : Nat} {uaa0 uaa1 uaa2 uaa3 uab0 uab1 uab2 uab3 uac0 uac1 uac2 uac3 : Value} {a1 a2 a3 : Rat} {w : World} (hua1 : IsRat w k uaa0 uaa1 uaa2 uaa3 a1) (hua2 : IsRat w k uab0 uab1 uab2 uab3 a2) (hua3 : IsRat w k uac0 uac1 uac2 uac3 a3) (_hk : k ≤ 2500) (hz0 : ¬(a1 = 0 ∧ a2 = 0 ∧ a3 = 0)) :
    Calls Tryd.prog 14 #[(.agg #[uaa0, uaa1, uaa2, uaa3, uab0, uab1, uab2, uab3, uac0, uac1, uac2, uac3])] w fun e w' => (∃ t0 t1 t2 t3 t4 t5 t6 t7 t8 t9 t10 t11, e = .returned (.tuple #[.agg #[t0, t1, t2, t3, t4, t5, t6, t7, t8, t9, t10, t11], .int .i64 0]) ∧ IsRat w' ((64 + (64 + (64 + k + k + k + k)) + (64 + (64 + k + k + k + k)) + (64 + (64 + k + k + k + k))) + (64 + k + k + k + k)) t0 t1 t2 t3 (prim a1 a2 a3 a1) ∧ IsRat w' ((64 + (64 + (64 + k + k + k + k)) + (64 + (64 + k + k + k + k)) + (64 + (64 + k + k + k + k))) + (64 + k + k + k + k)) t4 t5 t6 t7 (prim a1 a2 a3 a2) ∧ IsRat w' ((64 + (64 + (64 + k + k + k + k)) + (64 + (64 + k + k + k + k)) + (64 + (64 + k + k + k + k))) + (64 + k + k + k + k)) t8 t9 t10 t11 (prim a1 a2 a3 a3)) ∧ Gr w w' := by
  have e1 := vzero_false.2 hz0
  have hbig := hua1.big
  have hdp := pden_pos a1 a2 a3
  go_enter Tryd.func14, Tryd.ntmps14
  have hB := Gr.refl w
  refine wp_seq_k (fun K1 k1 => ?_)
  refine wp_region ?_
  simp only [List.size_toArray, List.length_cons, List.length_nil, Nat.reduceAdd, List.range, List.range.loop]
  refine sq_eff rfl (by kernel_rfl) (fun K2 k2 => ?_)
  refine eff_box 33 _ (.agg #[uaa0, uaa1, uaa2, uaa3, uab0, uab1, uab2, uab3, uac0, uac1, uac2, uac3]) #[uaa0, uaa1, uaa2, uaa3, uab0, uab1, uab2, uab3, uac0, uac1, uac2, uac3] (some 1) rfl rfl rfl rfl (fun b3 w3 g3 L3 q3 => ?_)
  replace q3 := Nat.le_trans (Below.size hB) q3
  replace hB := Gr.trans hB g3
  refine k2 _ _ ?_
  try clear k2 K2
  simp only [p1, p2, p3, p4]
  refine sq_eff rfl (by kernel_rfl) (fun K4 k4 => ?_)
  refine eff_alloc 33 (.agg #[(.bool false), (.slice none 0 0), (.bool false), (.slice none 0 0), (.bool false), (.slice none 0 0), (.bool false), (.slice none 0 0), (.bool false), (.slice none 0 0), (.bool false), (.slice none 0 0)]) #[(.bool false), (.slice none 0 0), (.bool false), (.slice none 0 0), (.bool false), (.slice none 0 0), (.bool false), (.slice none 0 0), (.bool false), (.slice none 0 0), (.bool false), (.slice none 0 0)] (some 2) rfl rfl (by kernel_rfl) rfl (fun b5 w5 g5 L5 q5 => ?_)
  have ne3_5 := L3.ne q5
  replace q5 := Nat.le_trans (Below.size hB) q5
  replace hB := Gr.trans hB g5
  refine k4 _ _ ?_
  try clear k4 K4
  simp only [p1, p2, p3, p4]
  refine sq_val (some 3) (.int .i64 0) rfl rfl (by kernel_rfl) (rvk (by kernel_rfl)) ?_
  simp only [p1, p2, p3, p4]
  refine sq_nil ?_
  refine k1 _ _ ?_
  try clear k1 K1
  refine wp_seq_k (fun K6 k6 => ?_)
  refine wp_seq_k (fun K7 k7 => ?_)
  refine wp_region ?_
  simp only [List.size_toArray, List.length_cons, List.length_nil, Nat.reduceAdd, List.range, List.range.loop]
  replace L3 := L3.gr g5
  refine sq_val (some 17) (.agg #[uaa0, uaa1, uaa2, uaa3, uab0, uab1, uab2, uab3, uac0, uac1, uac2, uac3]) rfl rfl (by kernel_rfl) (rv_load 33 _ b3 0 _ _ [uaa0, uaa1, uaa2, uaa3, uab0, uab1, uab2, uab3, uac0, uac1, uac2, uac3] rfl rfl L3 rfl (by kernel_rfl)) ?_
  simp only [p1, p2, p3, p4]
  refine sq_eff rfl (by kernel_rfl) (fun K8 k8 => ?_)
  have kq10 := g3.kp.trans g5.kp
  replace hua1 := hua1.kp kq10
  replace hua2 := hua2.kp kq10
  replace hua3 := hua3.kp kq10
  refine eff_call (some 18) rfl (by kernel_rfl) (vzero_b hua1 hua2 hua3 (by omega) false e1) ?_
  rintro e9 w9 ⟨rfl, g9⟩
  refine ⟨_, rfl, ?_⟩
  replace hB := Gr.trans hB g9
  refine k8 _ _ ?_
  try clear k8 K8
  simp only [p1, p2, p3, p4]
  refine sq_nil ?_
  refine k7 _ _ ?_
  try clear k7 K7
  refine wp_cond_false rfl ?_
  refine wp_skip ?_
  refine k6 _ _ ?_
  try clear k6 K6
  refine wp_seq_k (fun K11 k11 => ?_)
  refine wp_region ?_
  simp only [List.size_toArray, List.length_cons, List.length_nil, Nat.reduceAdd, List.range, List.range.loop]
  refine sq_eff rfl (by kernel_rfl) (fun K12 k12 => ?_)
  refine eff_call (some 20) rfl (by kernel_rfl) (from_i (1) (by omega) (by omega) _) ?_
  rintro e13 w13 ⟨⟨x13, y13, rfl, h13⟩, g13⟩
  refine ⟨_, rfl, ?_⟩
  replace hB := Gr.trans hB g13
  refine k12 _ _ ?_
  try clear k12 K12
  simp only [p1, p2, p3, p4]
  refine sq_eff rfl (by kernel_rfl) (fun K14 k14 => ?_)
  refine eff_alloc 29 (.agg #[(.bool false), (.slice none 0 0)]) #[(.bool false), (.slice none 0 0)] (some 4) rfl rfl (by kernel_rfl) rfl (fun b15 w15 g15 L15 q15 => ?_)
  replace L3 := L3.gr (g9.trans g13)
  have ne3_15 := L3.ne q15
  replace L5 := L5.gr (g9.trans g13)
  have ne5_15 := L5.ne q15
  replace q15 := Nat.le_trans (Below.size hB) q15
  replace hB := Gr.trans hB g15
  refine k14 _ _ ?_
  try clear k14 K14
  simp only [p1, p2, p3, p4]
  refine sq_eff rfl (by kernel_rfl) (fun K16 k16 => ?_)
  refine eff_store 29 _ _ b15 0 (.agg #[x13, y13]) [x13, y13] _ #[x13, y13] _ rfl rfl rfl rfl rfl L15 (by kernel_rfl) (Nat.le_of_ble_eq_true rfl) ⟨h13.one0, h13.one1, trivial⟩ (by kernel_rfl) (fun w17 st17 N17 => ?_)
  have kp17 := st17.kp L15 (by decide)
  replace hB := st17.gr hB q15
  replace L15 := N17
  refine k16 _ _ ?_
  try clear k16 K16
  refine sq_nil ?_
  refine k11 _ _ ?_
  try clear k11 K11
  refine wp_seq_k (fun K18 k18 => ?_)
  refine wp_seq_k (fun K19 k19 => ?_)
  refine wp_region ?_
  simp only [List.size_toArray, List.length_cons, List.length_nil, Nat.reduceAdd, List.range, List.range.loop]
  replace L3 := st17.lc (L3.gr g15) ne3_15
  refine sq_val (some 21) (.agg #[uaa0, uaa1, uaa2, uaa3, uab0, uab1, uab2, uab3, uac0, uac1, uac2, uac3]) rfl rfl (by kernel_rfl) (rv_load 33 _ b3 0 _ _ [uaa0, uaa1, uaa2, uaa3, uab0, uab1, uab2, uab3, uac0, uac1, uac2, uac3] rfl rfl L3 rfl (by kernel_rfl)) ?_
  simp only [p1, p2, p3, p4]
  refine sq_val (some 22) (.int .i64 0) rfl rfl (by kernel_rfl) (rvk (by kernel_rfl)) ?_
  simp only [p1, p2, p3, p4]
  refine sq_nil ?_
  refine k19 _ _ ?_
  try clear k19 K19
  refine wp_block ?_
  refine wp_loop_rounds 4 ?_
  show Code.wp _ _ _ _ _
  refine wp_seq_k (fun K20 k20 => ?_)
  refine wp_region ?_
  simp only [List.size_toArray, List.length_cons, List.length_nil, Nat.reduceAdd, List.range, List.range.loop]
  refine sq_val (some 23) (.bool true) rfl rfl (by kernel_rfl) (rvk (by kernel_rfl)) ?_
  simp only [p1, p2, p3, p4]
  refine sq_nil ?_
  refine k20 _ _ ?_
  try clear k20 K20
  refine wp_seq_k (fun K21 k21 => ?_)
  refine wp_cond_true rfl ?_
  refine wp_skip ?_
  refine k21 _ _ ?_
  try clear k21 K21
  refine wp_seq_k (fun K22 k22 => ?_)
  refine wp_block ?_
  refine wp_seq_k (fun K23 k23 => ?_)
  refine wp_region ?_
  simp only [List.size_toArray, List.length_cons, List.length_nil, Nat.reduceAdd, List.range, List.range.loop]
  refine sq_val (some 24) (.agg #[uaa0, uaa1, uaa2, uaa3]) rfl rfl (by kernel_rfl) (rvk (by kernel_rfl)) ?_
  simp only [p1, p2, p3, p4]
  refine sq_eff rfl (by kernel_rfl) (fun K24 k24 => ?_)
  refine eff_alloc 31 (.agg #[(.bool false), (.slice none 0 0), (.bool false), (.slice none 0 0)]) #[(.bool false), (.slice none 0 0), (.bool false), (.slice none 0 0)] (some 6) rfl rfl (by kernel_rfl) rfl (fun b25 w25 g25 L25 q25 => ?_)
  have ne3_25 := L3.ne q25
  replace L5 := st17.lc (L5.gr g15) ne5_15
  have ne5_25 := L5.ne q25
  have ne15_25 := L15.ne q25
  replace q25 := Nat.le_trans (Below.size hB) q25
  replace hB := Gr.trans hB g25
  refine k24 _ _ ?_
  try clear k24 K24
  simp only [p1, p2, p3, p4]
  refine sq_eff rfl (by kernel_rfl) (fun K26 k26 => ?_)
  refine eff_store 31 _ _ b25 0 (.agg #[uaa0, uaa1, uaa2, uaa3]) [uaa0, uaa1, uaa2, uaa3] _ #[uaa0, uaa1, uaa2, uaa3] _ rfl rfl rfl rfl rfl L25 (by kernel_rfl) (Nat.le_of_ble_eq_true rfl) ⟨hua1.one0, hua1.one1, hua1.one2, hua1.one3, trivial⟩ (by kernel_rfl) (fun w27 st27 N27 => ?_)
  have kp27 := st27.kp L25 (by decide)
  replace hB := st27.gr hB q25
  replace L25 := N27
  refine k26 _ _ ?_
  try clear k26 K26
  refine sq_nil ?_
  refine k23 _ _ ?_
  try clear k23 K23
  refine wp_seq_k (fun K28 k28 => ?_)
  have hz29 := Below.size hB
  replace L3 := st27.lc (L3.gr g25) ne3_25
  have lt3_29 := L3.lt
  replace L5 := st27.lc (L5.gr g25) ne5_25
  have lt5_29 := L5.lt
  replace L15 := st27.lc (L15.gr g25) ne15_25
  have lt15_29 := L15.lt
  have lt25_29 := L25.lt
  have gd29 := Gr.drew w27
  replace hB := Gr.trans hB gd29
  replace L15 := L15.gr gd29
  replace L25 := L25.gr gd29
  refine wp_region_flo (fun w' => Lc w' b15 #[x13, y13] 29 ∧ Lc w' b25 #[uaa0, uaa1, uaa2, uaa3] 31) [(true, 0), (true, 1), (true, 2), (false, 3), (false, 4), (false, 5), (true, 6), (true, 7), (true, 8), (true, 9)] [⟨10, 7, 29, #[(.bool false), (.slice none 0 0)]⟩, ⟨11, 8, 29, #[(.bool false), (.slice none 0 0)]⟩] [(false, 12), (false, 13), (true, 14)] (by kernel_rfl) (by kernel_rfl) (by kernel_rfl) (by kernel_rfl) (by kernel_rfl) (by decide) (fun _ _ _ _ _ h => h) (fun _ _ _ _ _ h => h) (fun w' o h => ⟨Lc.gr h.1 (Gr.alloc w' o), Lc.gr h.2 (Gr.alloc w' o)⟩) ⟨L15, L25⟩ (by intro f hf; simp only [List.mem_cons, List.not_mem_nil, or_false] at hf; rcases hf with rfl | rfl <;> first | exact alloc_zero (z := (.agg #[(.bool false), (.slice none 0 0)])) (by kernel_rfl) rfl | exact alloc_zero (z := (.agg #[(.bool false), (.slice none 0 0)])) (by kernel_rfl) rfl) ?_
  refine flo_pure (some 26) (.agg #[x13, y13]) rfl rfl rfl (fun w' hS => (rv_load 29 _ b15 0 _ _ [x13, y13] rfl rfl hS.1 rfl (by kernel_rfl))) ?_
  simp only [p1, p2, p3, p4]
  refine flo_pure (some 27) (.agg #[x13, y13]) rfl rfl rfl (fun w' hS => (rv_load 29 _ b15 0 _ _ [x13, y13] rfl rfl hS.1 rfl (by kernel_rfl))) ?_
  simp only [p1, p2, p3, p4]
  refine flo_pure (some 28) (.agg #[uaa0, uaa1, uaa2, uaa3]) rfl rfl rfl (fun w' hS => (rv_load 31 _ b25 0 _ _ [uaa0, uaa1, uaa2, uaa3] rfl rfl hS.2 rfl (by kernel_rfl))) ?_
  simp only [p1, p2, p3, p4]
  refine flo_eff rfl rfl (fun w30 g30 _ K30 k30 => ?_)
  replace hB := Gr.trans hB g30
  have kq32 := g9.kp.trans (g13.kp.trans (g15.kp.trans (kp17.trans (g25.kp.trans (kp27.trans (gd29.kp.trans g30.kp))))))
  replace hua1 := hua1.kp kq32
  refine eff_call (some 29) rfl (by kernel_rfl) (den_i hua1) ?_
  rintro e31 w31 ⟨⟨x31, y31, rfl, h31⟩, g31⟩
  refine ⟨_, rfl, ?_⟩
  replace hB := Gr.trans hB g31
  replace L15 := L15.gr (g30.trans g31)
  replace L25 := L25.gr (g30.trans g31)
  refine k30 _ _ g31 ⟨L15, L25⟩ ?_
  try clear k30 K30
  simp only [p1, p2, p3, p4]
  refine flo_eff rfl rfl (fun w33 g33 _ K33 k33 => ?_)
  replace hB := Gr.trans hB g33
  have kq35 := g15.kp.trans (kp17.trans (g25.kp.trans (kp27.trans (gd29.kp.trans (g30.kp.trans (g31.kp.trans g33.kp))))))
  replace h13 := h13.kp kq35
  replace h31 := h31.kp g33.kp
  refine eff_call (some 30) rfl (by kernel_rfl) (gcd_i h13 h31 (by omega)) ?_
  rintro e34 w34 ⟨⟨x34, y34, rfl, h34⟩, g34⟩
  refine ⟨_, rfl, ?_⟩
  replace hB := Gr.trans hB g34
  replace L15 := L15.gr (g33.trans g34)
  replace L25 := L25.gr (g33.trans g34)
  refine k33 _ _ g34 ⟨L15, L25⟩ ?_
  try clear k33 K33
  simp only [p1, p2, p3, p4]
  refine flo_eff rfl rfl (fun w36 g36 _ K36 k36 => ?_)
  replace hB := Gr.trans hB g36
  have kq38 := g34.kp.trans g36.kp
  replace h13 := h13.kp kq38
  replace h34 := h34.kp g36.kp
  refine eff_call (some 31) rfl (by kernel_rfl) (divmod_i h13 h34 (gcd_ex _ _).1 (by omega)) ?_
  rintro e37 w37 ⟨⟨x37, y37, xr37, yr37, rfl, h37, hr37⟩, g37⟩
  refine ⟨_, rfl, ?_⟩
  replace hB := Gr.trans hB g37
  replace L15 := L15.gr (g36.trans g37)
  replace L25 := L25.gr (g36.trans g37)
  refine k36 _ _ g37 ⟨L15, L25⟩ ?_
  try clear k36 K36
  simp only [p1, p2, p3, p4]
  refine flo_pure (some 25) (.tuple #[(.agg #[x37, y37]), (.agg #[xr37, yr37]), (.int .i64 0)]) rfl rfl rfl (fun w' hS => (rvk (by kernel_rfl))) ?_
  simp only [p1, p2, p3, p4]
  refine flo_pure (some 32) (.agg #[x37, y37]) rfl rfl rfl (fun w' hS => (rvk (by kernel_rfl))) ?_
  simp only [p1, p2, p3, p4]
  refine flo_pure (some 33) (.agg #[xr37, yr37]) rfl rfl rfl (fun w' hS => (rvk (by kernel_rfl))) ?_
  simp only [p1, p2, p3, p4]
  refine flo_pure (some 34) (.int .i64 0) rfl rfl rfl (fun w' hS => (rvk (by kernel_rfl))) ?_
  simp only [p1, p2, p3, p4]
  refine flo_nil (fun w39 g39 _ => ?_)
  replace hB := Gr.trans hB g39
  refine floFin2 (fun b40 b41 (L40 : Lc w39 b40 #[(.bool false), (.slice none 0 0)] 29) q40 (L41 : Lc w39 b41 #[(.bool false), (.slice none 0 0)] 29) q41 ne40_41 => ?_)
  have ne3_40 : b3 ≠ b40 := Nat.ne_of_lt (Nat.lt_of_lt_of_le lt3_29 q40)
  have ne5_40 : b5 ≠ b40 := Nat.ne_of_lt (Nat.lt_of_lt_of_le lt5_29 q40)
  have ne15_40 : b15 ≠ b40 := Nat.ne_of_lt (Nat.lt_of_lt_of_le lt15_29 q40)
  have ne25_40 : b25 ≠ b40 := Nat.ne_of_lt (Nat.lt_of_lt_of_le lt25_29 q40)
  replace q40 := Nat.le_trans hz29 q40
  have ne3_41 : b3 ≠ b41 := Nat.ne_of_lt (Nat.lt_of_lt_of_le lt3_29 q41)
  have ne5_41 : b5 ≠ b41 := Nat.ne_of_lt (Nat.lt_of_lt_of_le lt5_29 q41)
  have ne15_41 : b15 ≠ b41 := Nat.ne_of_lt (Nat.lt_of_lt_of_le lt15_29 q41)
  have ne25_41 : b25 ≠ b41 := Nat.ne_of_lt (Nat.lt_of_lt_of_le lt25_29 q41)
  replace q41 := Nat.le_trans hz29 q41
  simp only [p1, p2, p3, p4]
  refine ord_eff rfl rfl (fun K42 k42 => ?_)
  refine eff_store 29 _ _ b40 0 (.agg #[x37, y37]) [x37, y37] _ #[x37, y37] _ rfl rfl rfl rfl rfl L40 (by kernel_rfl) (Nat.le_of_ble_eq_true rfl) ⟨h37.one0, h37.one1, trivial⟩ (by kernel_rfl) (fun w43 st43 N43 => ?_)
  have kp43 := st43.kp L40 (by decide)
  replace hB := st43.gr hB q40
  replace L40 := N43
  replace L15 := st43.lc (L15.gr g39) ne15_40
  replace L25 := st43.lc (L25.gr g39) ne25_40
  refine k42 _ _ ⟨L15, L25⟩ ?_
  try clear k42 K42
  refine ord_eff rfl rfl (fun K44 k44 => ?_)
  replace L41 := st43.lc L41 (Ne.symm ne40_41)
  refine eff_store 29 _ _ b41 0 (.agg #[xr37, yr37]) [xr37, yr37] _ #[xr37, yr37] _ rfl rfl rfl rfl rfl L41 (by kernel_rfl) (Nat.le_of_ble_eq_true rfl) ⟨hr37.one0, hr37.one1, trivial⟩ (by kernel_rfl) (fun w45 st45 N45 => ?_)
  have kp45 := st45.kp L41 (by decide)
  replace hB := st45.gr hB q41
  replace L41 := N45
  replace L15 := st45.lc L15 ne15_41
  replace L25 := st45.lc L25 ne25_41
  refine k44 _ _ ⟨L15, L25⟩ ?_
  try clear k44 K44
  refine ord_pure (some 9) (.int .i64 0) rfl rfl rfl (fun w' hS => (rvk (by kernel_rfl))) ?_
  simp only [p1, p2, p3, p4]
  refine ord_nil ?_
  refine k28 _ _ ?_
  try clear k28 K28
  have gd55 := Gr.drew w45
  replace hB := Gr.trans hB gd55
  replace L25 := L25.gr gd55
  replace L40 := (st45.lc L40 ne40_41).gr gd55
  refine wp_region_ord (fun w' => Lc w' b25 #[uaa0, uaa1, uaa2, uaa3] 31 ∧ Lc w' b40 #[x37, y37] 29) [(true, 0), (true, 1), (false, 2), (false, 3), (false, 4)] (by kernel_rfl) (by kernel_rfl) (by kernel_rfl) (by decide) (fun _ _ _ _ _ h => h) ⟨L25, L40⟩ ?_
  refine ord_pure (some 35) (.agg #[x37, y37]) rfl rfl rfl (fun w' hS => (rv_load 29 _ b40 0 _ _ [x37, y37] rfl rfl hS.2 rfl (by kernel_rfl))) ?_
  simp only [p1, p2, p3, p4]
  refine ord_pure (some 36) (.agg #[uaa0, uaa1, uaa2, uaa3]) rfl rfl rfl (fun w' hS => (rv_load 31 _ b25 0 _ _ [uaa0, uaa1, uaa2, uaa3] rfl rfl hS.1 rfl (by kernel_rfl))) ?_
  simp only [p1, p2, p3, p4]
  refine ord_eff rfl rfl (fun K56 k56 => ?_)
  have kq58 := g31.kp.trans (g33.kp.trans (g34.kp.trans (g36.kp.trans (g37.kp.trans (g39.kp.trans (kp43.trans (kp45.trans gd55.kp)))))))
  replace hua1 := hua1.kp kq58
  refine eff_call (some 37) rfl (by kernel_rfl) (den_i hua1) ?_
  rintro e57 w57 ⟨⟨x57, y57, rfl, h57⟩, g57⟩
  refine ⟨_, rfl, ?_⟩
  replace hB := Gr.trans hB g57
  replace L25 := L25.gr g57
  replace L40 := L40.gr g57
  refine k56 _ _ ⟨L25, L40⟩ ?_
  try clear k56 K56
  simp only [p1, p2, p3, p4]
  refine ord_eff rfl rfl (fun K59 k59 => ?_)
  have kq61 := g39.kp.trans (kp43.trans (kp45.trans (gd55.kp.trans g57.kp)))
  replace h37 := h37.kp kq61
  refine eff_call (some 38) rfl (by kernel_rfl) (mul_i h37 h57 (by omega)) ?_
  rintro e60 w60 ⟨⟨x60, y60, rfl, h60⟩, g60⟩
  refine ⟨_, rfl, ?_⟩
  replace hB := Gr.trans hB g60
  replace h60 := (show IsInt _ _ _ _ (lcmS (1) (a1.den : Int)) from h60)
  replace L25 := L25.gr g60
  replace L40 := L40.gr g60
  refine k59 _ _ ⟨L25, L40⟩ ?_
  try clear k59 K59
  simp only [p1, p2, p3, p4]
  refine ord_eff rfl rfl (fun K62 k62 => ?_)
  replace L15 := L15.gr (gd55.trans (g57.trans g60))
  refine eff_store 29 _ _ b15 0 (.agg #[x60, y60]) [x60, y60] _ #[x60, y60] _ rfl rfl rfl rfl rfl L15 (by kernel_rfl) (Nat.le_of_ble_eq_true rfl) ⟨h60.one0, h60.one1, trivial⟩ (by kernel_rfl) (fun w63 st63 N63 => ?_)
  have kp63 := st63.kp L15 (by decide)
  replace hB := st63.gr hB q15
  replace L15 := N63
  replace L25 := st63.lc L25 (Ne.symm ne15_25)
  replace L40 := st63.lc L40 (Ne.symm ne15_40)
  refine k62 _ _ ⟨L25, L40⟩ ?_
  try clear k62 K62
  refine ord_nil ?_
  refine k22 _ _ ?_
  try clear k22 K22
  refine wp_region ?_
  simp only [List.size_toArray, List.length_cons, List.length_nil, Nat.reduceAdd, List.range, List.range.loop]
  refine sq_val (some 39) (.int .i64 1) rfl rfl (by kernel_rfl) (rvk (by kernel_rfl)) ?_
  simp only [p1, p2, p3, p4]
  refine sq_val (some 22) (.int .i64 1) rfl rfl (by kernel_rfl) (rvk (by kernel_rfl)) ?_
  simp only [p1, p2, p3, p4]
  refine sq_nil ?_
  show Code.rounds _ _ _ _ _ _
  show Code.wp _ _ _ _ _
  refine wp_seq_k (fun K64 k64 => ?_)
  refine wp_region ?_
  simp only [List.size_toArray, List.length_cons, List.length_nil, Nat.reduceAdd, List.range, List.range.loop]
  refine sq_val (some 23) (.bool true) rfl rfl (by kernel_rfl) (rvk (by kernel_rfl)) ?_
  simp only [p1, p2, p3, p4]
  refine sq_nil ?_
  refine k64 _ _ ?_
  try clear k64 K64
  refine wp_seq_k (fun K65 k65 => ?_)
  refine wp_cond_true rfl ?_
  refine wp_skip ?_
  refine k65 _ _ ?_
  try clear k65 K65
  refine wp_seq_k (fun K66 k66 => ?_)
  refine wp_block ?_
  refine wp_seq_k (fun K67 k67 => ?_)
  refine wp_region ?_
  simp only [List.size_toArray, List.length_cons, List.length_nil, Nat.reduceAdd, List.range, List.range.loop]
  refine sq_val (some 24) (.agg #[uab0, uab1, uab2, uab3]) rfl rfl (by kernel_rfl) (rvk (by kernel_rfl)) ?_
  simp only [p1, p2, p3, p4]
  refine sq_eff rfl (by kernel_rfl) (fun K68 k68 => ?_)
  refine eff_alloc 31 (.agg #[(.bool false), (.slice none 0 0), (.bool false), (.slice none 0 0)]) #[(.bool false), (.slice none 0 0), (.bool false), (.slice none 0 0)] (some 6) rfl rfl (by kernel_rfl) rfl (fun b69 w69 g69 L69 q69 => ?_)
  replace L3 := st63.lc ((st45.lc (st43.lc (L3.gr (gd29.trans (g30.trans (g31.trans (g33.trans (g34.trans (g36.trans (g37.trans g39)))))))) ne3_40) ne3_41).gr (gd55.trans (g57.trans g60))) ne3_15
  have ne3_69 := L3.ne q69
  replace L5 := st63.lc ((st45.lc (st43.lc (L5.gr (gd29.trans (g30.trans (g31.trans (g33.trans (g34.trans (g36.trans (g37.trans g39)))))))) ne5_40) ne5_41).gr (gd55.trans (g57.trans g60))) ne5_15
  have ne5_69 := L5.ne q69
  have ne15_69 := L15.ne q69
  have ne25_69 := L25.ne q69
  have ne40_69 := L40.ne q69
  replace L41 := st63.lc (L41.gr (gd55.trans (g57.trans g60))) (Ne.symm ne15_41)
  have ne41_69 := L41.ne q69
  replace q69 := Nat.le_trans (Below.size hB) q69
  replace hB := Gr.trans hB g69
  refine k68 _ _ ?_
  try clear k68 K68
  simp only [p1, p2, p3, p4]
  refine sq_eff rfl (by kernel_rfl) (fun K70 k70 => ?_)
  refine eff_store 31 _ _ b69 0 (.agg #[uab0, uab1, uab2, uab3]) [uab0, uab1, uab2, uab3] _ #[uab0, uab1, uab2, uab3] _ rfl rfl rfl rfl rfl L69 (by kernel_rfl) (Nat.le_of_ble_eq_true rfl) ⟨hua2.one0, hua2.one1, hua2.one2, hua2.one3, trivial⟩ (by kernel_rfl) (fun w71 st71 N71 => ?_)
  have kp71 := st71.kp L69 (by decide)
  replace hB := st71.gr hB q69
  replace L69 := N71
  refine k70 _ _ ?_
  try clear k70 K70
  refine sq_nil ?_
  refine k67 _ _ ?_
  try clear k67 K67
  refine wp_seq_k (fun K72 k72 => ?_)
  have hz73 := Below.size hB
  replace L3 := st71.lc (L3.gr g69) ne3_69
  have lt3_73 := L3.lt
  replace L5 := st71.lc (L5.gr g69) ne5_69
  have lt5_73 := L5.lt
  replace L15 := st71.lc (L15.gr g69) ne15_69
  have lt15_73 := L15.lt
  replace L25 := st71.lc (L25.gr g69) ne25_69
  have lt25_73 := L25.lt
  replace L40 := st71.lc (L40.gr g69) ne40_69
  have lt40_73 := L40.lt
  replace L41 := st71.lc (L41.gr g69) ne41_69
  have lt41_73 := L41.lt
  have lt69_73 := L69.lt
  have gd73 := Gr.drew w71
  replace hB := Gr.trans hB gd73
  replace L15 := L15.gr gd73
  replace L69 := L69.gr gd73
  refine wp_region_flo (fun w' => Lc w' b15 #[x60, y60] 29 ∧ Lc w' b69 #[uab0, uab1, uab2, uab3] 31) [(true, 0), (true, 1), (true, 2), (false, 3), (false, 4), (false, 5), (true, 6), (true, 7), (true, 8), (true, 9)] [⟨10, 7, 29, #[(.bool false), (.slice none 0 0)]⟩, ⟨11, 8, 29, #[(.bool false), (.slice none 0 0)]⟩] [(false, 12), (false, 13), (true, 14)] (by kernel_rfl) (by kernel_rfl) (by kernel_rfl) (by kernel_rfl) (by kernel_rfl) (by decide) (fun _ _ _ _ _ h => h) (fun _ _ _ _ _ h => h) (fun w' o h => ⟨Lc.gr h.1 (Gr.alloc w' o), Lc.gr h.2 (Gr.alloc w' o)⟩) ⟨L15, L69⟩ (by intro f hf; simp only [List.mem_cons, List.not_mem_nil, or_false] at hf; rcases hf with rfl | rfl <;> first | exact alloc_zero (z := (.agg #[(.bool false), (.slice none 0 0)])) (by kernel_rfl) rfl | exact alloc_zero (z := (.agg #[(.bool false), (.slice none 0 0)])) (by kernel_rfl) rfl) ?_
  refine flo_pure (some 26) (.agg #[x60, y60]) rfl rfl rfl (fun w' hS => (rv_load 29 _ b15 0 _ _ [x60, y60] rfl rfl hS.1 rfl (by kernel_rfl))) ?_
  simp only [p1, p2, p3, p4]
  refine flo_pure (some 27) (.agg #[x60, y60]) rfl rfl rfl (fun w' hS => (rv_load 29 _ b15 0 _ _ [x60, y60] rfl rfl hS.1 rfl (by kernel_rfl))) ?_
  simp only [p1, p2, p3, p4]
  refine flo_pure (some 28) (.agg #[uab0, uab1, uab2, uab3]) rfl rfl rfl (fun w' hS => (rv_load 31 _ b69 0 _ _ [uab0, uab1, uab2, uab3] rfl rfl hS.2 rfl (by kernel_rfl))) ?_
  simp only [p1, p2, p3, p4]
  refine flo_eff rfl rfl (fun w74 g74 _ K74 k74 => ?_)
  replace hB := Gr.trans hB g74
  have kq76 := g9.kp.trans (g13.kp.trans (g15.kp.trans (kp17.trans (g25.kp.trans (kp27.trans (gd29.kp.trans (g30.kp.trans (g31.kp.trans (g33.kp.trans (g34.kp.trans (g36.kp.trans (g37.kp.trans (g39.kp.trans (kp43.trans (kp45.trans (gd55.kp.trans (g57.kp.trans (g60.kp.trans (kp63.trans (g69.kp.trans (kp71.trans (gd73.kp.trans g74.kp))))))))))))))))))))))
  replace hua2 := hua2.kp kq76
  refine eff_call (some 29) rfl (by kernel_rfl) (den_i hua2) ?_
  rintro e75 w75 ⟨⟨x75, y75, rfl, h75⟩, g75⟩
  refine ⟨_, rfl, ?_⟩
  replace hB := Gr.trans hB g75
  replace L15 := L15.gr (g74.trans g75)
  replace L69 := L69.gr (g74.trans g75)
  refine k74 _ _ g75 ⟨L15, L69⟩ ?_
  try clear k74 K74
  simp only [p1, p2, p3, p4]
  refine flo_eff rfl rfl (fun w77 g77 _ K77 k77 => ?_)
  replace hB := Gr.trans hB g77
  have kq79 := kp63.trans (g69.kp.trans (kp71.trans (gd73.kp.trans (g74.kp.trans (g75.kp.trans g77.kp)))))
  replace h60 := h60.kp kq79
  replace h75 := h75.kp g77.kp
  refine eff_call (some 30) rfl (by kernel_rfl) (gcd_i h60 h75 (by omega)) ?_
  rintro e78 w78 ⟨⟨x78, y78, rfl, h78⟩, g78⟩
  refine ⟨_, rfl, ?_⟩
  replace hB := Gr.trans hB g78
  replace L15 := L15.gr (g77.trans g78)
  replace L69 := L69.gr (g77.trans g78)
  refine k77 _ _ g78 ⟨L15, L69⟩ ?_
  try clear k77 K77
  simp only [p1, p2, p3, p4]
  refine flo_eff rfl rfl (fun w80 g80 _ K80 k80 => ?_)
  replace hB := Gr.trans hB g80
  have kq82 := g78.kp.trans g80.kp
  replace h60 := h60.kp kq82
  replace h78 := h78.kp g80.kp
  refine eff_call (some 31) rfl (by kernel_rfl) (divmod_i h60 h78 (gcd_ex _ _).1 (by omega)) ?_
  rintro e81 w81 ⟨⟨x81, y81, xr81, yr81, rfl, h81, hr81⟩, g81⟩
  refine ⟨_, rfl, ?_⟩
  replace hB := Gr.trans hB g81
  replace L15 := L15.gr (g80.trans g81)
  replace L69 := L69.gr (g80.trans g81)
  refine k80 _ _ g81 ⟨L15, L69⟩ ?_
  try clear k80 K80
  simp only [p1, p2, p3, p4]
  refine flo_pure (some 25) (.tuple #[(.agg #[x81, y81]), (.agg #[xr81, yr81]), (.int .i64 0)]) rfl rfl rfl (fun w' hS => (rvk (by kernel_rfl))) ?_
  simp only [p1, p2, p3, p4]
  refine flo_pure (some 32) (.agg #[x81, y81]) rfl rfl rfl (fun w' hS => (rvk (by kernel_rfl))) ?_
  simp only [p1, p2, p3, p4]
  refine flo_pure (some 33) (.agg #[xr81, yr81]) rfl rfl rfl (fun w' hS => (rvk (by kernel_rfl))) ?_
  simp only [p1, p2, p3, p4]
  refine flo_pure (some 34) (.int .i64 0) rfl rfl rfl (fun w' hS => (rvk (by kernel_rfl))) ?_
  simp only [p1, p2, p3, p4]
  refine flo_nil (fun w83 g83 _ => ?_)
  replace hB := Gr.trans hB g83
  refine floFin2 (fun b84 b85 (L84 : Lc w83 b84 #[(.bool false), (.slice none 0 0)] 29) q84 (L85 : Lc w83 b85 #[(.bool false), (.slice none 0 0)] 29) q85 ne84_85 => ?_)
  have ne3_84 : b3 ≠ b84 := Nat.ne_of_lt (Nat.lt_of_lt_of_le lt3_73 q84)
  have ne5_84 : b5 ≠ b84 := Nat.ne_of_lt (Nat.lt_of_lt_of_le lt5_73 q84)
  have ne15_84 : b15 ≠ b84 := Nat.ne_of_lt (Nat.lt_of_lt_of_le lt15_73 q84)
  have ne25_84 : b25 ≠ b84 := Nat.ne_of_lt (Nat.lt_of_lt_of_le lt25_73 q84)
  have ne40_84 : b40 ≠ b84 := Nat.ne_of_lt (Nat.lt_of_lt_of_le lt40_73 q84)
  have ne41_84 : b41 ≠ b84 := Nat.ne_of_lt (Nat.lt_of_lt_of_le lt41_73 q84)
  have ne69_84 : b69 ≠ b84 := Nat.ne_of_lt (Nat.lt_of_lt_of_le lt69_73 q84)
  replace q84 := Nat.le_trans hz73 q84
  have ne3_85 : b3 ≠ b85 := Nat.ne_of_lt (Nat.lt_of_lt_of_le lt3_73 q85)
  have ne5_85 : b5 ≠ b85 := Nat.ne_of_lt (Nat.lt_of_lt_of_le lt5_73 q85)
  have ne15_85 : b15 ≠ b85 := Nat.ne_of_lt (Nat.lt_of_lt_of_le lt15_73 q85)
  have ne25_85 : b25 ≠ b85 := Nat.ne_of_lt (Nat.lt_of_lt_of_le lt25_73 q85)
  have ne40_85 : b40 ≠ b85 := Nat.ne_of_lt (Nat.lt_of_lt_of_le lt40_73 q85)
  have ne41_85 : b41 ≠ b85 := Nat.ne_of_lt (Nat.lt_of_lt_of_le lt41_73 q85)
  have ne69_85 : b69 ≠ b85 := Nat.ne_of_lt (Nat.lt_of_lt_of_le lt69_73 q85)
  replace q85 := Nat.le_trans hz73 q85
  simp only [p1, p2, p3, p4]
  refine ord_eff rfl rfl (fun K86 k86 => ?_)
  refine eff_store 29 _ _ b84 0 (.agg #[x81, y81]) [x81, y81] _ #[x81, y81] _ rfl rfl rfl rfl rfl L84 (by kernel_rfl) (Nat.le_of_ble_eq_true rfl) ⟨h81.one0, h81.one1, trivial⟩ (by kernel_rfl) (fun w87 st87 N87 => ?_)
  have kp87 := st87.kp L84 (by decide)
  replace hB := st87.gr hB q84
  replace L84 := N87
  replace L15 := st87.lc (L15.gr g83) ne15_84
  replace L69 := st87.lc (L69.gr g83) ne69_84
  refine k86 _ _ ⟨L15, L69⟩ ?_
  try clear k86 K86
  refine ord_eff rfl rfl (fun K88 k88 => ?_)
  replace L85 := st87.lc L85 (Ne.symm ne84_85)
  refine eff_store 29 _ _ b85 0 (.agg #[xr81, yr81]) [xr81, yr81] _ #[xr81, yr81] _ rfl rfl rfl rfl rfl L85 (by kernel_rfl) (Nat.le_of_ble_eq_true rfl) ⟨hr81.one0, hr81.one1, trivial⟩ (by kernel_rfl) (fun w89 st89 N89 => ?_)
  have kp89 := st89.kp L85 (by decide)
  replace hB := st89.gr hB q85
  replace L85 := N89
  replace L15 := st89.lc L15 ne15_85
  replace L69 := st89.lc L69 ne69_85
  refine k88 _ _ ⟨L15, L69⟩ ?_
  try clear k88 K88
  refine ord_pure (some 9) (.int .i64 0) rfl rfl rfl (fun w' hS => (rvk (by kernel_rfl))) ?_
  simp only [p1, p2, p3, p4]
  refine ord_nil ?_
  refine k72 _ _ ?_
  try clear k72 K72
  have gd99 := Gr.drew w89
  replace hB := Gr.trans hB gd99
  replace L69 := L69.gr gd99
  replace L84 := (st89.lc L84 ne84_85).gr gd99
  refine wp_region_ord (fun w' => Lc w' b69 #[uab0, uab1, uab2, uab3] 31 ∧ Lc w' b84 #[x81, y81] 29) [(true, 0), (true, 1), (false, 2), (false, 3), (false, 4)] (by kernel_rfl) (by kernel_rfl) (by kernel_rfl) (by decide) (fun _ _ _ _ _ h => h) ⟨L69, L84⟩ ?_
  refine ord_pure (some 35) (.agg #[x81, y81]) rfl rfl rfl (fun w' hS => (rv_load 29 _ b84 0 _ _ [x81, y81] rfl rfl hS.2 rfl (by kernel_rfl))) ?_
  simp only [p1, p2, p3, p4]
  refine ord_pure (some 36) (.agg #[uab0, uab1, uab2, uab3]) rfl rfl rfl (fun w' hS => (rv_load 31 _ b69 0 _ _ [uab0, uab1, uab2, uab3] rfl rfl hS.1 rfl (by kernel_rfl))) ?_
  simp only [p1, p2, p3, p4]
  refine ord_eff rfl rfl (fun K100 k100 => ?_)
  have kq102 := g75.kp.trans (g77.kp.trans (g78.kp.trans (g80.kp.trans (g81.kp.trans (g83.kp.trans (kp87.trans (kp89.trans gd99.kp)))))))
  replace hua2 := hua2.kp kq102
  refine eff_call (some 37) rfl (by kernel_rfl) (den_i hua2) ?_
  rintro e101 w101 ⟨⟨x101, y101, rfl, h101⟩, g101⟩
  refine ⟨_, rfl, ?_⟩
  replace hB := Gr.trans hB g101
  replace L69 := L69.gr g101
  replace L84 := L84.gr g101
  refine k100 _ _ ⟨L69, L84⟩ ?_
  try clear k100 K100
  simp only [p1, p2, p3, p4]
  refine ord_eff rfl rfl (fun K103 k103 => ?_)
  have kq105 := g83.kp.trans (kp87.trans (kp89.trans (gd99.kp.trans g101.kp)))
  replace h81 := h81.kp kq105
  refine eff_call (some 38) rfl (by kernel_rfl) (mul_i h81 h101 (by omega)) ?_
  rintro e104 w104 ⟨⟨x104, y104, rfl, h104⟩, g104⟩
  refine ⟨_, rfl, ?_⟩
  replace hB := Gr.trans hB g104
  replace h104 := (show IsInt _ _ _ _ (lcmS (lcmS (1) (a1.den : Int)) (a2.den : Int)) from h104)
  replace L69 := L69.gr g104
  replace L84 := L84.gr g104
  refine k103 _ _ ⟨L69, L84⟩ ?_
  try clear k103 K103
  simp only [p1, p2, p3, p4]
  refine ord_eff rfl rfl (fun K106 k106 => ?_)
  replace L15 := L15.gr (gd99.trans (g101.trans g104))
  refine eff_store 29 _ _ b15 0 (.agg #[x104, y104]) [x104, y104] _ #[x104, y104] _ rfl rfl rfl rfl rfl L15 (by kernel_rfl) (Nat.le_of_ble_eq_true rfl) ⟨h104.one0, h104.one1, trivial⟩ (by kernel_rfl) (fun w107 st107 N107 => ?_)
  have kp107 := st107.kp L15 (by decide)
  replace hB := st107.gr hB q15
  replace L15 := N107
  replace L69 := st107.lc L69 (Ne.symm ne15_69)
  replace L84 := st107.lc L84 (Ne.symm ne15_84)
  refine k106 _ _ ⟨L69, L84⟩ ?_
  try clear k106 K106
  refine ord_nil ?_
  refine k66 _ _ ?_
  try clear k66 K66
  refine wp_region ?_
  simp only [List.size_toArray, List.length_cons, List.length_nil, Nat.reduceAdd, List.range, List.range.loop]
  refine sq_val (some 39) (.int .i64 2) rfl rfl (by kernel_rfl) (rvk (by kernel_rfl)) ?_
  simp only [p1, p2, p3, p4]
  refine sq_val (some 22) (.int .i64 2) rfl rfl (by kernel_rfl) (rvk (by kernel_rfl)) ?_
  simp only [p1, p2, p3, p4]
  refine sq_nil ?_
  show Code.rounds _ _ _ _ _ _
  show Code.wp _ _ _ _ _
  refine wp_seq_k (fun K108 k108 => ?_)
  refine wp_region ?_
  simp only [List.size_toArray, List.length_cons, List.length_nil, Nat.reduceAdd, List.range, List.range.loop]
  refine sq_val (some 23) (.bool true) rfl rfl (by kernel_rfl) (rvk (by kernel_rfl)) ?_
  simp only [p1, p2, p3, p4]
  refine sq_nil ?_
  refine k108 _ _ ?_
  try clear k108 K108
  refine wp_seq_k (fun K109 k109 => ?_)
  refine wp_cond_true rfl ?_
  refine wp_skip ?_
  refine k109 _ _ ?_
  try clear k109 K109
  refine wp_seq_k (fun K110 k110 => ?_)
  refine wp_block ?_
  refine wp_seq_k (fun K111 k111 => ?_)
  refine wp_region ?_
  simp only [List.size_toArray, List.length_cons, List.length_nil, Nat.reduceAdd, List.range, List.range.loop]
  refine sq_val (some 24) (.agg #[uac0, uac1, uac2, uac3]) rfl rfl (by kernel_rfl) (rvk (by kernel_rfl)) ?_
  simp only [p1, p2, p3, p4]
  refine sq_eff rfl (by kernel_rfl) (fun K112 k112 => ?_)
  refine eff_alloc 31 (.agg #[(.bool false), (.slice none 0 0), (.bool false), (.slice none 0 0)]) #[(.bool false), (.slice none 0 0), (.bool false), (.slice none 0 0)] (some 6) rfl rfl (by kernel_rfl) rfl (fun b113 w113 g113 L113 q113 => ?_)
  replace L3 := st107.lc ((st89.lc (st87.lc (L3.gr (gd73.trans (g74.trans (g75.trans (g77.trans (g78.trans (g80.trans (g81.trans g83)))))))) ne3_84) ne3_85).gr (gd99.trans (g101.trans g104))) ne3_15
  have ne3_113 := L3.ne q113
  replace L5 := st107.lc ((st89.lc (st87.lc (L5.gr (gd73.trans (g74.trans (g75.trans (g77.trans (g78.trans (g80.trans (g81.trans g83)))))))) ne5_84) ne5_85).gr (gd99.trans (g101.trans g104))) ne5_15
  have ne5_113 := L5.ne q113
  have ne15_113 := L15.ne q113
  replace L25 := st107.lc ((st89.lc (st87.lc (L25.gr (gd73.trans (g74.trans (g75.trans (g77.trans (g78.trans (g80.trans (g81.trans g83)))))))) ne25_84) ne25_85).gr (gd99.trans (g101.trans g104))) (Ne.symm ne15_25)
  have ne25_113 := L25.ne q113
  replace L40 := st107.lc ((st89.lc (st87.lc (L40.gr (gd73.trans (g74.trans (g75.trans (g77.trans (g78.trans (g80.trans (g81.trans g83)))))))) ne40_84) ne40_85).gr (gd99.trans (g101.trans g104))) (Ne.symm ne15_40)
  have ne40_113 := L40.ne q113
  replace L41 := st107.lc ((st89.lc (st87.lc (L41.gr (gd73.trans (g74.trans (g75.trans (g77.trans (g78.trans (g80.trans (g81.trans g83)))))))) ne41_84) ne41_85).gr (gd99.trans (g101.trans g104))) (Ne.symm ne15_41)
  have ne41_113 := L41.ne q113
  have ne69_113 := L69.ne q113
  have ne84_113 := L84.ne q113
  replace L85 := st107.lc (L85.gr (gd99.trans (g101.trans g104))) (Ne.symm ne15_85)
  have ne85_113 := L85.ne q113
  replace q113 := Nat.le_trans (Below.size hB) q113
  replace hB := Gr.trans hB g113
  refine k112 _ _ ?_
  try clear k112 K112
  simp only [p1, p2, p3, p4]
  refine sq_eff rfl (by kernel_rfl) (fun K114 k114 => ?_)
  refine eff_store 31 _ _ b113 0 (.agg #[uac0, uac1, uac2, uac3]) [uac0, uac1, uac2, uac3] _ #[uac0, uac1, uac2, uac3] _ rfl rfl rfl rfl rfl L113 (by kernel_rfl) (Nat.le_of_ble_eq_true rfl) ⟨hua3.one0, hua3.one1, hua3.one2, hua3.one3, trivial⟩ (by kernel_rfl) (fun w115 st115 N115 => ?_)
  have kp115 := st115.kp L113 (by decide)
  replace hB := st115.gr hB q113
  replace L113 := N115
  refine k114 _ _ ?_
  try clear k114 K114
  refine sq_nil ?_
  refine k111 _ _ ?_
  try clear k111 K111
  refine wp_seq_k (fun K116 k116 => ?_)
  have hz117 := Below.size hB
  replace L3 := st115.lc (L3.gr g113) ne3_113
  have lt3_117 := L3.lt
  replace L5 := st115.lc (L5.gr g113) ne5_113
  have lt5_117 := L5.lt
  replace L15 := st115.lc (L15.gr g113) ne15_113
  have lt15_117 := L15.lt
  replace L25 := st115.lc (L25.gr g113) ne25_113
  have lt25_117 := L25.lt
  replace L40 := st115.lc (L40.gr g113) ne40_113
  have lt40_117 := L40.lt
  replace L41 := st115.lc (L41.gr g113) ne41_113
  have lt41_117 := L41.lt
  replace L69 := st115.lc (L69.gr g113) ne69_113
  have lt69_117 := L69.lt
  replace L84 := st115.lc (L84.gr g113) ne84_113
  have lt84_117 := L84.lt
  replace L85 := st115.lc (L85.gr g113) ne85_113
  have lt85_117 := L85.lt
  have lt113_117 := L113.lt
  have gd117 := Gr.drew w115
  replace hB := Gr.trans hB gd117
  replace L15 := L15.gr gd117
  replace L113 := L113.gr gd117
  refine wp_region_flo (fun w' => Lc w' b15 #[x104, y104] 29 ∧ Lc w' b113 #[uac0, uac1, uac2, uac3] 31) [(true, 0), (true, 1), (true, 2), (false, 3), (false, 4), (false, 5), (true, 6), (true, 7), (true, 8), (true, 9)] [⟨10, 7, 29, #[(.bool false), (.slice none 0 0)]⟩, ⟨11, 8, 29, #[(.bool false), (.slice none 0 0)]⟩] [(false, 12), (false, 13), (true, 14)] (by kernel_rfl) (by kernel_rfl) (by kernel_rfl) (by kernel_rfl) (by kernel_rfl) (by decide) (fun _ _ _ _ _ h => h) (fun _ _ _ _ _ h => h) (fun w' o h => ⟨Lc.gr h.1 (Gr.alloc w' o), Lc.gr h.2 (Gr.alloc w' o)⟩) ⟨L15, L113⟩ (by intro f hf; simp only [List.mem_cons, List.not_mem_nil, or_false] at hf; rcases hf with rfl | rfl <;> first | exact alloc_zero (z := (.agg #[(.bool false), (.slice none 0 0)])) (by kernel_rfl) rfl | exact alloc_zero (z := (.agg #[(.bool false), (.slice none 0 0)])) (by kernel_rfl) rfl) ?_
  refine flo_pure (some 26) (.agg #[x104, y104]) rfl rfl rfl (fun w' hS => (rv_load 29 _ b15 0 _ _ [x104, y104] rfl rfl hS.1 rfl (by kernel_rfl))) ?_
  simp only [p1, p2, p3, p4]
  refine flo_pure (some 27) (.agg #[x104, y104]) rfl rfl rfl (fun w' hS => (rv_load 29 _ b15 0 _ _ [x104, y104] rfl rfl hS.1 rfl (by kernel_rfl))) ?_
  simp only [p1, p2, p3, p4]
  refine flo_pure (some 28) (.agg #[uac0, uac1, uac2, uac3]) rfl rfl rfl (fun w' hS => (rv_load 31 _ b113 0 _ _ [uac0, uac1, uac2, uac3] rfl rfl hS.2 rfl (by kernel_rfl))) ?_
  simp only [p1, p2, p3, p4]
  refine flo_eff rfl rfl (fun w118 g118 _ K118 k118 => ?_)
  replace hB := Gr.trans hB g118
  have kq120 := g9.kp.trans (g13.kp.trans (g15.kp.trans (kp17.trans (g25.kp.trans (kp27.trans (gd29.kp.trans (g30.kp.trans (g31.kp.trans (g33.kp.trans (g34.kp.trans (g36.kp.trans (g37.kp.trans (g39.kp.trans (kp43.trans (kp45.trans (gd55.kp.trans (g57.kp.trans (g60.kp.trans (kp63.trans (g69.kp.trans (kp71.trans (gd73.kp.trans (g74.kp.trans (g75.kp.trans (g77.kp.trans (g78.kp.trans (g80.kp.trans (g81.kp.trans (g83.kp.trans (kp87.trans (kp89.trans (gd99.kp.trans (g101.kp.trans (g104.kp.trans (kp107.trans (g113.kp.trans (kp115.trans (gd117.kp.trans g118.kp))))))))))))))))))))))))))))))))))))))
  replace hua3 := hua3.kp kq120
  refine eff_call (some 29) rfl (by kernel_rfl) (den_i hua3) ?_
  rintro e119 w119 ⟨⟨x119, y119, rfl, h119⟩, g119⟩
  refine ⟨_, rfl, ?_⟩
  replace hB := Gr.trans hB g119
  replace L15 := L15.gr (g118.trans g119)
  replace L113 := L113.gr (g118.trans g119)
  refine k118 _ _ g119 ⟨L15, L113⟩ ?_
  try clear k118 K118
  simp only [p1, p2, p3, p4]
  refine flo_eff rfl rfl (fun w121 g121 _ K121 k121 => ?_)
  replace hB := Gr.trans hB g121
  have kq123 := kp107.trans (g113.kp.trans (kp115.trans (gd117.kp.trans (g118.kp.trans (g119.kp.trans g121.kp)))))
  replace h104 := h104.kp kq123
  replace h119 := h119.kp g121.kp
  refine eff_call (some 30) rfl (by kernel_rfl) (gcd_i h104 h119 (by omega)) ?_
  rintro e122 w122 ⟨⟨x122, y122, rfl, h122⟩, g122⟩
  refine ⟨_, rfl, ?_⟩
  replace hB := Gr.trans hB g122
  replace L15 := L15.gr (g121.trans g122)
  replace L113 := L113.gr (g121.trans g122)
  refine k121 _ _ g122 ⟨L15, L113⟩ ?_
  try clear k121 K121
  simp only [p1, p2, p3, p4]
  refine flo_eff rfl rfl (fun w124 g124 _ K124 k124 => ?_)
  replace hB := Gr.trans hB g124
  have kq126 := g122.kp.trans g124.kp
  replace h104 := h104.kp kq126
  replace h122 := h122.kp g124.kp
  refine eff_call (some 31) rfl (by kernel_rfl) (divmod_i h104 h122 (gcd_ex _ _).1 (by omega)) ?_
  rintro e125 w125 ⟨⟨x125, y125, xr125, yr125, rfl, h125, hr125⟩, g125⟩
  refine ⟨_, rfl, ?_⟩
  replace hB := Gr.trans hB g125
  replace L15 := L15.gr (g124.trans g125)
  replace L113 := L113.gr (g124.trans g125)
  refine k124 _ _ g125 ⟨L15, L113⟩ ?_
  try clear k124 K124
  simp only [p1, p2, p3, p4]
  refine flo_pure (some 25) (.tuple #[(.agg #[x125, y125]), (.agg #[xr125, yr125]), (.int .i64 0)]) rfl rfl rfl (fun w' hS => (rvk (by kernel_rfl))) ?_
  simp only [p1, p2, p3, p4]
  refine flo_pure (some 32) (.agg #[x125, y125]) rfl rfl rfl (fun w' hS => (rvk (by kernel_rfl))) ?_
  simp only [p1, p2, p3, p4]
  refine flo_pure (some 33) (.agg #[xr125, yr125]) rfl rfl rfl (fun w' hS => (rvk (by kernel_rfl))) ?_
  simp only [p1, p2, p3, p4]
  refine flo_pure (some 34) (.int .i64 0) rfl rfl rfl (fun w' hS => (rvk (by kernel_rfl))) ?_
  simp only [p1, p2, p3, p4]
  refine flo_nil (fun w127 g127 _ => ?_)
  replace hB := Gr.trans hB g127
  refine floFin2 (fun b128 b129 (L128 : Lc w127 b128 #[(.bool false), (.slice none 0 0)] 29) q128 (L129 : Lc w127 b129 #[(.bool false), (.slice none 0 0)] 29) q129 ne128_129 => ?_)
  have ne3_128 : b3 ≠ b128 := Nat.ne_of_lt (Nat.lt_of_lt_of_le lt3_117 q128)
  have ne5_128 : b5 ≠ b128 := Nat.ne_of_lt (Nat.lt_of_lt_of_le lt5_117 q128)
  have ne15_128 : b15 ≠ b128 := Nat.ne_of_lt (Nat.lt_of_lt_of_le lt15_117 q128)
  have ne25_128 : b25 ≠ b128 := Nat.ne_of_lt (Nat.lt_of_lt_of_le lt25_117 q128)
  have ne40_128 : b40 ≠ b128 := Nat.ne_of_lt (Nat.lt_of_lt_of_le lt40_117 q128)
  have ne41_128 : b41 ≠ b128 := Nat.ne_of_lt (Nat.lt_of_lt_of_le lt41_117 q128)
  have ne69_128 : b69 ≠ b128 := Nat.ne_of_lt (Nat.lt_of_lt_of_le lt69_117 q128)
  have ne84_128 : b84 ≠ b128 := Nat.ne_of_lt (Nat.lt_of_lt_of_le lt84_117 q128)
  have ne85_128 : b85 ≠ b128 := Nat.ne_of_lt (Nat.lt_of_lt_of_le lt85_117 q128)
  have ne113_128 : b113 ≠ b128 := Nat.ne_of_lt (Nat.lt_of_lt_of_le lt113_117 q128)
  replace q128 := Nat.le_trans hz117 q128
  have ne3_129 : b3 ≠ b129 := Nat.ne_of_lt (Nat.lt_of_lt_of_le lt3_117 q129)
  have ne5_129 : b5 ≠ b129 := Nat.ne_of_lt (Nat.lt_of_lt_of_le lt5_117 q129)
  have ne15_129 : b15 ≠ b129 := Nat.ne_of_lt (Nat.lt_of_lt_of_le lt15_117 q129)
  have ne25_129 : b25 ≠ b129 := Nat.ne_of_lt (Nat.lt_of_lt_of_le lt25_117 q129)
  have ne40_129 : b40 ≠ b129 := Nat.ne_of_lt (Nat.lt_of_lt_of_le lt40_117 q129)
  have ne41_129 : b41 ≠ b129 := Nat.ne_of_lt (Nat.lt_of_lt_of_le lt41_117 q129)
  have ne69_129 : b69 ≠ b129 := Nat.ne_of_lt (Nat.lt_of_lt_of_le lt69_117 q129)
  have ne84_129 : b84 ≠ b129 := Nat.ne_of_lt (Nat.lt_of_lt_of_le lt84_117 q129)
  have ne85_129 : b85 ≠ b129 := Nat.ne_of_lt (Nat.lt_of_lt_of_le lt85_117 q129)
  have ne113_129 : b113 ≠ b129 := Nat.ne_of_lt (Nat.lt_of_lt_of_le lt113_117 q129)
  replace q129 := Nat.le_trans hz117 q129
  simp only [p1, p2, p3, p4]
  refine ord_eff rfl rfl (fun K130 k130 => ?_)
  refine eff_store 29 _ _ b128 0 (.agg #[x125, y125]) [x125, y125] _ #[x125, y125] _ rfl rfl rfl rfl rfl L128 (by kernel_rfl) (Nat.le_of_ble_eq_true rfl) ⟨h125.one0, h125.one1, trivial⟩ (by kernel_rfl) (fun w131 st131 N131 => ?_)
  have kp131 := st131.kp L128 (by decide)
  replace hB := st131.gr hB q128
  replace L128 := N131
  replace L15 := st131.lc (L15.gr g127) ne15_128
  replace L113 := st131.lc (L113.gr g127) ne113_128
  refine k130 _ _ ⟨L15, L113⟩ ?_
  try clear k130 K130
  refine ord_eff rfl rfl (fun K132 k132 => ?_)
  replace L129 := st131.lc L129 (Ne.symm ne128_129)
  refine eff_store 29 _ _ b129 0 (.agg #[xr125, yr125]) [xr125, yr125] _ #[xr125, yr125] _ rfl rfl rfl rfl rfl L129 (by kernel_rfl) (Nat.le_of_ble_eq_true rfl) ⟨hr125.one0, hr125.one1, trivial⟩ (by kernel_rfl) (fun w133 st133 N133 => ?_)
  have kp133 := st133.kp L129 (by decide)
  replace hB := st133.gr hB q129
  replace L129 := N133
  replace L15 := st133.lc L15 ne15_129
  replace L113 := st133.lc L113 ne113_129
  refine k132 _ _ ⟨L15, L113⟩ ?_
  try clear k132 K132
  refine ord_pure (some 9) (.int .i64 0) rfl rfl rfl (fun w' hS => (rvk (by kernel_rfl))) ?_
  simp only [p1, p2, p3, p4]
  refine ord_nil ?_
  refine k116 _ _ ?_
  try clear k116 K116
  have gd143 := Gr.drew w133
  replace hB := Gr.trans hB gd143
  replace L113 := L113.gr gd143
  replace L128 := (st133.lc L128 ne128_129).gr gd143
  refine wp_region_ord (fun w' => Lc w' b113 #[uac0, uac1, uac2, uac3] 31 ∧ Lc w' b128 #[x125, y125] 29) [(true, 0), (true, 1), (false, 2), (false, 3), (false, 4)] (by kernel_rfl) (by kernel_rfl) (by kernel_rfl) (by decide) (fun _ _ _ _ _ h => h) ⟨L113, L128⟩ ?_
  refine ord_pure (some 35) (.agg #[x125, y125]) rfl rfl rfl (fun w' hS => (rv_load 29 _ b128 0 _ _ [x125, y125] rfl rfl hS.2 rfl (by kernel_rfl))) ?_
  simp only [p1, p2, p3, p4]
  refine ord_pure (some 36) (.agg #[uac0, uac1, uac2, uac3]) rfl rfl rfl (fun w' hS => (rv_load 31 _ b113 0 _ _ [uac0, uac1, uac2, uac3] rfl rfl hS.1 rfl (by kernel_rfl))) ?_
  simp only [p1, p2, p3, p4]
  refine ord_eff rfl rfl (fun K144 k144 => ?_)
  have kq146 := g119.kp.trans (g121.kp.trans (g122.kp.trans (g124.kp.trans (g125.kp.trans (g127.kp.trans (kp131.trans (kp133.trans gd143.kp)))))))
  replace hua3 := hua3.kp kq146
  refine eff_call (some 37) rfl (by kernel_rfl) (den_i hua3) ?_
  rintro e145 w145 ⟨⟨x145, y145, rfl, h145⟩, g145⟩
  refine ⟨_, rfl, ?_⟩
  replace hB := Gr.trans hB g145
  replace L113 := L113.gr g145
  replace L128 := L128.gr g145
  refine k144 _ _ ⟨L113, L128⟩ ?_
  try clear k144 K144
  simp only [p1, p2, p3, p4]
  refine ord_eff rfl rfl (fun K147 k147 => ?_)
  have kq149 := g127.kp.trans (kp131.trans (kp133.trans (gd143.kp.trans g145.kp)))
  replace h125 := h125.kp kq149
  refine eff_call (some 38) rfl (by kernel_rfl) (mul_i h125 h145 (by omega)) ?_
  rintro e148 w148 ⟨⟨x148, y148, rfl, h148⟩, g148⟩
  refine ⟨_, rfl, ?_⟩
  replace hB := Gr.trans hB g148
  replace h148 := (show IsInt _ _ _ _ (pden a1 a2 a3) from h148)
  replace L113 := L113.gr g148
  replace L128 := L128.gr g148
  refine k147 _ _ ⟨L113, L128⟩ ?_
  try clear k147 K147
  simp only [p1, p2, p3, p4]
  refine ord_eff rfl rfl (fun K150 k150 => ?_)
  replace L15 := L15.gr (gd143.trans (g145.trans g148))
  refine eff_store 29 _ _ b15 0 (.agg #[x148, y148]) [x148, y148] _ #[x148, y148] _ rfl rfl rfl rfl rfl L15 (by kernel_rfl) (Nat.le_of_ble_eq_true rfl) ⟨h148.one0, h148.one1, trivial⟩ (by kernel_rfl) (fun w151 st151 N151 => ?_)
  have kp151 := st151.kp L15 (by decide)
  replace hB := st151.gr hB q15
  replace L15 := N151
  replace L113 := st151.lc L113 (Ne.symm ne15_113)
  replace L128 := st151.lc L128 (Ne.symm ne15_128)
  refine k150 _ _ ⟨L113, L128⟩ ?_
  try clear k150 K150
  refine ord_nil ?_
  refine k110 _ _ ?_
  try clear k110 K110
  refine wp_region ?_
  simp only [List.size_toArray, List.length_cons, List.length_nil, Nat.reduceAdd, List.range, List.range.loop]
  refine sq_val (some 39) (.int .i64 3) rfl rfl (by kernel_rfl) (rvk (by kernel_rfl)) ?_
  simp only [p1, p2, p3, p4]
  refine sq_val (some 22) (.int .i64 3) rfl rfl (by kernel_rfl) (rvk (by kernel_rfl)) ?_
  simp only [p1, p2, p3, p4]
  refine sq_nil ?_
  show Code.rounds _ _ _ _ _ _
  show Code.wp _ _ _ _ _
  refine wp_seq_k (fun K152 k152 => ?_)
  refine wp_region ?_
  simp only [List.size_toArray, List.length_cons, List.length_nil, Nat.reduceAdd, List.range, List.range.loop]
  refine sq_val (some 23) (.bool false) rfl rfl (by kernel_rfl) (rvk (by kernel_rfl)) ?_
  simp only [p1, p2, p3, p4]
  refine sq_nil ?_
  refine k152 _ _ ?_
  try clear k152 K152
  refine wp_seq_k (fun K153 k153 => ?_)
  refine wp_cond_false rfl ?_
  refine wp_exit ?_
  simp only [Exit.then, Exit.inBlock, ↓reduceIte]
  refine k18 _ _ ?_
  try clear k18 K18
  refine wp_seq_k (fun K154 k154 => ?_)
  have hz155 := Below.size hB
  replace L3 := st151.lc ((st133.lc (st131.lc (L3.gr (gd117.trans (g118.trans (g119.trans (g121.trans (g122.trans (g124.trans (g125.trans g127)))))))) ne3_128) ne3_129).gr (gd143.trans (g145.trans g148))) ne3_15
  have lt3_155 := L3.lt
  replace L5 := st151.lc ((st133.lc (st131.lc (L5.gr (gd117.trans (g118.trans (g119.trans (g121.trans (g122.trans (g124.trans (g125.trans g127)))))))) ne5_128) ne5_129).gr (gd143.trans (g145.trans g148))) ne5_15
  have lt5_155 := L5.lt
  have lt15_155 := L15.lt
  replace L25 := st151.lc ((st133.lc (st131.lc (L25.gr (gd117.trans (g118.trans (g119.trans (g121.trans (g122.trans (g124.trans (g125.trans g127)))))))) ne25_128) ne25_129).gr (gd143.trans (g145.trans g148))) (Ne.symm ne15_25)
  have lt25_155 := L25.lt
  replace L40 := st151.lc ((st133.lc (st131.lc (L40.gr (gd117.trans (g118.trans (g119.trans (g121.trans (g122.trans (g124.trans (g125.trans g127)))))))) ne40_128) ne40_129).gr (gd143.trans (g145.trans g148))) (Ne.symm ne15_40)
  have lt40_155 := L40.lt
  replace L41 := st151.lc ((st133.lc (st131.lc (L41.gr (gd117.trans (g118.trans (g119.trans (g121.trans (g122.trans (g124.trans (g125.trans g127)))))))) ne41_128) ne41_129).gr (gd143.trans (g145.trans g148))) (Ne.symm ne15_41)
  have lt41_155 := L41.lt
  replace L69 := st151.lc ((st133.lc (st131.lc (L69.gr (gd117.trans (g118.trans (g119.trans (g121.trans (g122.trans (g124.trans (g125.trans g127)))))))) ne69_128) ne69_129).gr (gd143.trans (g145.trans g148))) (Ne.symm ne15_69)
  have lt69_155 := L69.lt
  replace L84 := st151.lc ((st133.lc (st131.lc (L84.gr (gd117.trans (g118.trans (g119.trans (g121.trans (g122.trans (g124.trans (g125.trans g127)))))))) ne84_128) ne84_129).gr (gd143.trans (g145.trans g148))) (Ne.symm ne15_84)
  have lt84_155 := L84.lt
  replace L85 := st151.lc ((st133.lc (st131.lc (L85.gr (gd117.trans (g118.trans (g119.trans (g121.trans (g122.trans (g124.trans (g125.trans g127)))))))) ne85_128) ne85_129).gr (gd143.trans (g145.trans g148))) (Ne.symm ne15_85)
  have lt85_155 := L85.lt
  have lt113_155 := L113.lt
  have lt128_155 := L128.lt
  replace L129 := st151.lc (L129.gr (gd143.trans (g145.trans g148))) (Ne.symm ne15_129)
  have lt129_155 := L129.lt
  have gd155 := Gr.drew w151
  replace hB := Gr.trans hB gd155
  replace L15 := L15.gr gd155
  refine wp_region_flo (fun w' => Lc w' b15 #[x148, y148] 29) [(true, 0), (false, 1), (false, 2), (true, 3), (true, 4), (true, 5)] [⟨6, 10, 31, #[(.bool false), (.slice none 0 0), (.bool false), (.slice none 0 0)]⟩] [(false, 7), (true, 8)] (by kernel_rfl) (by kernel_rfl) (by kernel_rfl) (by kernel_rfl) (by kernel_rfl) (by decide) (fun _ _ _ _ _ h => h) (fun _ _ _ _ _ h => h) (fun w' o h => Lc.gr h (Gr.alloc w' o)) L15 (by intro f hf; simp only [List.mem_cons, List.not_mem_nil, or_false] at hf; rcases hf with rfl <;> first | exact alloc_zero (z := (.agg #[(.bool false), (.slice none 0 0), (.bool false), (.slice none 0 0)])) (by kernel_rfl) rfl) ?_
  refine flo_pure (some 41) (.agg #[x148, y148]) rfl rfl rfl (fun w' hS => (rv_load 29 _ b15 0 _ _ [x148, y148] rfl rfl hS rfl (by kernel_rfl))) ?_
  simp only [p1, p2, p3, p4]
  refine flo_eff rfl rfl (fun w156 g156 _ K156 k156 => ?_)
  replace hB := Gr.trans hB g156
  refine eff_call (some 42) rfl (by kernel_rfl) (from_i (1) (by omega) (by omega) _) ?_
  rintro e157 w157 ⟨⟨x157, y157, rfl, h157⟩, g157⟩
  refine ⟨_, rfl, ?_⟩
  replace hB := Gr.trans hB g157
  replace L15 := L15.gr (g156.trans g157)
  refine k156 _ _ g157 L15 ?_
  try clear k156 K156
  simp only [p1, p2, p3, p4]
  refine flo_eff rfl rfl (fun w158 g158 _ K158 k158 => ?_)
  replace hB := Gr.trans hB g158
  have kq160 := kp151.trans (gd155.kp.trans (g156.kp.trans (g157.kp.trans g158.kp)))
  replace h148 := h148.kp kq160
  replace h157 := h157.kp g158.kp
  refine eff_call (some 43) rfl (by kernel_rfl) (make_r (64 + k + k + k) h148 h157 (by omega) (by omega) (by omega) (by omega) (by omega)) ?_
  rintro e159 w159 ⟨⟨p159, q159, r159, s159, rfl, h159⟩, g159⟩
  refine ⟨_, rfl, ?_⟩
  replace hB := Gr.trans hB g159
  replace L15 := L15.gr (g158.trans g159)
  refine k158 _ _ g159 L15 ?_
  try clear k158 K158
  simp only [p1, p2, p3, p4]
  refine flo_pure (some 40) (.tuple #[(.agg #[p159, q159, r159, s159]), (.int .i64 0)]) rfl rfl rfl (fun w' hS => (rvk (by kernel_rfl))) ?_
  simp only [p1, p2, p3, p4]
  refine flo_pure (some 44) (.agg #[p159, q159, r159, s159]) rfl rfl rfl (fun w' hS => (rvk (by kernel_rfl))) ?_
  simp only [p1, p2, p3, p4]
  refine flo_pure (some 45) (.int .i64 0) rfl rfl rfl (fun w' hS => (rvk (by kernel_rfl))) ?_
  simp only [p1, p2, p3, p4]
  refine flo_nil (fun w161 g161 _ => ?_)
  replace hB := Gr.trans hB g161
  refine floFin1 (fun b162 (L162 : Lc w161 b162 #[(.bool false), (.slice none 0 0), (.bool false), (.slice none 0 0)] 31) q162  => ?_)
  have ne3_162 : b3 ≠ b162 := Nat.ne_of_lt (Nat.lt_of_lt_of_le lt3_155 q162)
  have ne5_162 : b5 ≠ b162 := Nat.ne_of_lt (Nat.lt_of_lt_of_le lt5_155 q162)
  have ne15_162 : b15 ≠ b162 := Nat.ne_of_lt (Nat.lt_of_lt_of_le lt15_155 q162)
  have ne25_162 : b25 ≠ b162 := Nat.ne_of_lt (Nat.lt_of_lt_of_le lt25_155 q162)
  have ne40_162 : b40 ≠ b162 := Nat.ne_of_lt (Nat.lt_of_lt_of_le lt40_155 q162)
  have ne41_162 : b41 ≠ b162 := Nat.ne_of_lt (Nat.lt_of_lt_of_le lt41_155 q162)
  have ne69_162 : b69 ≠ b162 := Nat.ne_of_lt (Nat.lt_of_lt_of_le lt69_155 q162)
  have ne84_162 : b84 ≠ b162 := Nat.ne_of_lt (Nat.lt_of_lt_of_le lt84_155 q162)
  have ne85_162 : b85 ≠ b162 := Nat.ne_of_lt (Nat.lt_of_lt_of_le lt85_155 q162)
  have ne113_162 : b113 ≠ b162 := Nat.ne_of_lt (Nat.lt_of_lt_of_le lt113_155 q162)
  have ne128_162 : b128 ≠ b162 := Nat.ne_of_lt (Nat.lt_of_lt_of_le lt128_155 q162)
  have ne129_162 : b129 ≠ b162 := Nat.ne_of_lt (Nat.lt_of_lt_of_le lt129_155 q162)
  replace q162 := Nat.le_trans hz155 q162
  simp only [p1, p2, p3, p4]
  refine ord_eff rfl rfl (fun K163 k163 => ?_)
  refine eff_store 31 _ _ b162 0 (.agg #[p159, q159, r159, s159]) [p159, q159, r159, s159] _ #[p159, q159, r159, s159] _ rfl rfl rfl rfl rfl L162 (by kernel_rfl) (Nat.le_of_ble_eq_true rfl) ⟨h159.one0, h159.one1, h159.one2, h159.one3, trivial⟩ (by kernel_rfl) (fun w164 st164 N164 => ?_)
  have kp164 := st164.kp L162 (by decide)
  replace hB := st164.gr hB q162
  replace L162 := N164
  replace L15 := st164.lc (L15.gr g161) ne15_162
  refine k163 _ _ L15 ?_
  try clear k163 K163
  refine ord_pure (some 11) (.int .i64 0) rfl rfl rfl (fun w' hS => (rvk (by kernel_rfl))) ?_
  simp only [p1, p2, p3, p4]
  refine ord_nil ?_
  refine k154 _ _ ?_
  try clear k154 K154
  refine wp_seq_k (fun K165 k165 => ?_)
  refine wp_region ?_
  simp only [List.size_toArray, List.length_cons, List.length_nil, Nat.reduceAdd, List.range, List.range.loop]
  replace L3 := st164.lc (L3.gr (gd155.trans (g156.trans (g157.trans (g158.trans (g159.trans g161)))))) ne3_162
  refine sq_val (some 46) (.agg #[uaa0, uaa1, uaa2, uaa3, uab0, uab1, uab2, uab3, uac0, uac1, uac2, uac3]) rfl rfl (by kernel_rfl) (rv_load 33 _ b3 0 _ _ [uaa0, uaa1, uaa2, uaa3, uab0, uab1, uab2, uab3, uac0, uac1, uac2, uac3] rfl rfl L3 rfl (by kernel_rfl)) ?_
  simp only [p1, p2, p3, p4]
  refine sq_val (some 47) (.agg #[p159, q159, r159, s159]) rfl rfl (by kernel_rfl) (rv_load 31 _ b162 0 _ _ [p159, q159, r159, s159] rfl rfl L162 rfl (by kernel_rfl)) ?_
  simp only [p1, p2, p3, p4]
  refine sq_eff rfl (by kernel_rfl) (fun K166 k166 => ?_)
  have kq168 := g57.kp.trans (g60.kp.trans (kp63.trans (g69.kp.trans (kp71.trans (gd73.kp.trans (g74.kp.trans (g75.kp.trans (g77.kp.trans (g78.kp.trans (g80.kp.trans (g81.kp.trans (g83.kp.trans (kp87.trans (kp89.trans (gd99.kp.trans (g101.kp.trans (g104.kp.trans (kp107.trans (g113.kp.trans (kp115.trans (gd117.kp.trans (g118.kp.trans (g119.kp.trans (g121.kp.trans (g122.kp.trans (g124.kp.trans (g125.kp.trans (g127.kp.trans (kp131.trans (kp133.trans (gd143.kp.trans (g145.kp.trans (g148.kp.trans (kp151.trans (gd155.kp.trans (g156.kp.trans (g157.kp.trans (g158.kp.trans (g159.kp.trans (g161.kp.trans kp164))))))))))))))))))))))))))))))))))))))))
  replace hua1 := hua1.kp kq168
  have kq169 := g101.kp.trans (g104.kp.trans (kp107.trans (g113.kp.trans (kp115.trans (gd117.kp.trans (g118.kp.trans (g119.kp.trans (g121.kp.trans (g122.kp.trans (g124.kp.trans (g125.kp.trans (g127.kp.trans (kp131.trans (kp133.trans (gd143.kp.trans (g145.kp.trans (g148.kp.trans (kp151.trans (gd155.kp.trans (g156.kp.trans (g157.kp.trans (g158.kp.trans (g159.kp.trans (g161.kp.trans kp164))))))))))))))))))))))))
  replace hua2 := hua2.kp kq169
  have kq170 := g145.kp.trans (g148.kp.trans (kp151.trans (gd155.kp.trans (g156.kp.trans (g157.kp.trans (g158.kp.trans (g159.kp.trans (g161.kp.trans kp164))))))))
  replace hua3 := hua3.kp kq170
  have kq171 := g161.kp.trans kp164
  replace h159 := h159.kp kq171
  refine eff_call (some 48) rfl (by kernel_rfl) (vscale_v hua1 hua2 hua3 h159 (by omega)) ?_
  rintro e167 w167 ⟨⟨t167_0, t167_1, t167_2, t167_3, t167_4, t167_5, t167_6, t167_7, t167_8, t167_9, t167_10, t167_11, rfl, h167a, h167b, h167c⟩, g167⟩
  refine ⟨_, rfl, ?_⟩
  replace hB := Gr.trans hB g167
  refine k166 _ _ ?_
  try clear k166 K166
  simp only [p1, p2, p3, p4]
  refine sq_eff rfl (by kernel_rfl) (fun K172 k172 => ?_)
  replace L3 := L3.gr g167
  refine eff_store 33 _ _ b3 0 (.agg #[t167_0, t167_1, t167_2, t167_3, t167_4, t167_5, t167_6, t167_7, t167_8, t167_9, t167_10, t167_11]) [t167_0, t167_1, t167_2, t167_3, t167_4, t167_5, t167_6, t167_7, t167_8, t167_9, t167_10, t167_11] _ #[t167_0, t167_1, t167_2, t167_3, t167_4, t167_5, t167_6, t167_7, t167_8, t167_9, t167_10, t167_11] _ rfl rfl rfl rfl rfl L3 (by kernel_rfl) (Nat.le_of_ble_eq_true rfl) ⟨h167a.one0, h167a.one1, h167a.one2, h167a.one3, h167b.one0, h167b.one1, h167b.one2, h167b.one3, h167c.one0, h167c.one1, h167c.one2, h167c.one3, trivial⟩ (by kernel_rfl) (fun w173 st173 N173 => ?_)
  have kp173 := st173.kp L3 (by decide)
  replace hB := st173.gr hB q3
  replace L3 := N173
  refine k172 _ _ ?_
  try clear k172 K172
  refine sq_nil ?_
  refine k165 _ _ ?_
  try clear k165 K165
  refine wp_seq_k (fun K174 k174 => ?_)
  refine wp_region ?_
  simp only [List.size_toArray, List.length_cons, List.length_nil, Nat.reduceAdd, List.range, List.range.loop]
  refine sq_eff rfl (by kernel_rfl) (fun K175 k175 => ?_)
  refine eff_alloc 29 (.agg #[(.bool false), (.slice none 0 0)]) #[(.bool false), (.slice none 0 0)] (some 12) rfl rfl (by kernel_rfl) rfl (fun b176 w176 g176 L176 q176 => ?_)
  have ne3_176 := L3.ne q176
  replace L5 := st173.lc ((st164.lc (L5.gr (gd155.trans (g156.trans (g157.trans (g158.trans (g159.trans g161)))))) ne5_162).gr g167) (Ne.symm ne3_5)
  have ne5_176 := L5.ne q176
  replace L15 := st173.lc (L15.gr g167) (Ne.symm ne3_15)
  have ne15_176 := L15.ne q176
  replace L25 := st173.lc ((st164.lc (L25.gr (gd155.trans (g156.trans (g157.trans (g158.trans (g159.trans g161)))))) ne25_162).gr g167) (Ne.symm ne3_25)
  have ne25_176 := L25.ne q176
  replace L40 := st173.lc ((st164.lc (L40.gr (gd155.trans (g156.trans (g157.trans (g158.trans (g159.trans g161)))))) ne40_162).gr g167) (Ne.symm ne3_40)
  have ne40_176 := L40.ne q176
  replace L41 := st173.lc ((st164.lc (L41.gr (gd155.trans (g156.trans (g157.trans (g158.trans (g159.trans g161)))))) ne41_162).gr g167) (Ne.symm ne3_41)
  have ne41_176 := L41.ne q176
  replace L69 := st173.lc ((st164.lc (L69.gr (gd155.trans (g156.trans (g157.trans (g158.trans (g159.trans g161)))))) ne69_162).gr g167) (Ne.symm ne3_69)
  have ne69_176 := L69.ne q176
  replace L84 := st173.lc ((st164.lc (L84.gr (gd155.trans (g156.trans (g157.trans (g158.trans (g159.trans g161)))))) ne84_162).gr g167) (Ne.symm ne3_84)
  have ne84_176 := L84.ne q176
  replace L85 := st173.lc ((st164.lc (L85.gr (gd155.trans (g156.trans (g157.trans (g158.trans (g159.trans g161)))))) ne85_162).gr g167) (Ne.symm ne3_85)
  have ne85_176 := L85.ne q176
  replace L113 := st173.lc ((st164.lc (L113.gr (gd155.trans (g156.trans (g157.trans (g158.trans (g159.trans g161)))))) ne113_162).gr g167) (Ne.symm ne3_113)
  have ne113_176 := L113.ne q176
  replace L128 := st173.lc ((st164.lc (L128.gr (gd155.trans (g156.trans (g157.trans (g158.trans (g159.trans g161)))))) ne128_162).gr g167) (Ne.symm ne3_128)
  have ne128_176 := L128.ne q176
  replace L129 := st173.lc ((st164.lc (L129.gr (gd155.trans (g156.trans (g157.trans (g158.trans (g159.trans g161)))))) ne129_162).gr g167) (Ne.symm ne3_129)
  have ne129_176 := L129.ne q176
  replace L162 := st173.lc (L162.gr g167) (Ne.symm ne3_162)
  have ne162_176 := L162.ne q176
  replace q176 := Nat.le_trans (Below.size hB) q176
  replace hB := Gr.trans hB g176
  refine k175 _ _ ?_
  try clear k175 K175
  simp only [p1, p2, p3, p4]
  refine sq_nil ?_
  refine k174 _ _ ?_
  try clear k174 K174
  refine wp_seq_k (fun K177 k177 => ?_)
  refine wp_seq_k (fun K178 k178 => ?_)
  refine wp_region ?_
  simp only [List.size_toArray, List.length_cons, List.length_nil, Nat.reduceAdd, List.range, List.range.loop]
  replace L3 := L3.gr g176
  refine sq_val (some 49) (.agg #[t167_0, t167_1, t167_2, t167_3, t167_4, t167_5, t167_6, t167_7, t167_8, t167_9, t167_10, t167_11]) rfl rfl (by kernel_rfl) (rv_load 33 _ b3 0 _ _ [t167_0, t167_1, t167_2, t167_3, t167_4, t167_5, t167_6, t167_7, t167_8, t167_9, t167_10, t167_11] rfl rfl L3 rfl (by kernel_rfl)) ?_
  simp only [p1, p2, p3, p4]
  refine sq_val (some 50) (.int .i64 0) rfl rfl (by kernel_rfl) (rvk (by kernel_rfl)) ?_
  simp only [p1, p2, p3, p4]
  refine sq_nil ?_
  refine k178 _ _ ?_
  try clear k178 K178
  refine wp_block ?_
  refine wp_loop_rounds 4 ?_
  show Code.wp _ _ _ _ _
  refine wp_seq_k (fun K179 k179 => ?_)
  refine wp_region ?_
  simp only [List.size_toArray, List.length_cons, List.length_nil, Nat.reduceAdd, List.range, List.range.loop]
  refine sq_val (some 51) (.bool true) rfl rfl (by kernel_rfl) (rvk (by kernel_rfl)) ?_
  simp only [p1, p2, p3, p4]
  refine sq_nil ?_
  refine k179 _ _ ?_
  try clear k179 K179
  refine wp_seq_k (fun K180 k180 => ?_)
  refine wp_cond_true rfl ?_
  refine wp_skip ?_
  refine k180 _ _ ?_
  try clear k180 K180
  refine wp_seq_k (fun K181 k181 => ?_)
  refine wp_block ?_
  refine wp_seq_k (fun K182 k182 => ?_)
  refine wp_region ?_
  simp only [List.size_toArray, List.length_cons, List.length_nil, Nat.reduceAdd, List.range, List.range.loop]
  refine sq_val (some 52) (.agg #[t167_0, t167_1, t167_2, t167_3]) rfl rfl (by kernel_rfl) (rvk (by kernel_rfl)) ?_
  simp only [p1, p2, p3, p4]
  refine sq_eff rfl (by kernel_rfl) (fun K183 k183 => ?_)
  refine eff_alloc 31 (.agg #[(.bool false), (.slice none 0 0), (.bool false), (.slice none 0 0)]) #[(.bool false), (.slice none 0 0), (.bool false), (.slice none 0 0)] (some 14) rfl rfl (by kernel_rfl) rfl (fun b184 w184 g184 L184 q184 => ?_)
  have ne3_184 := L3.ne q184
  replace L5 := L5.gr g176
  have ne5_184 := L5.ne q184
  replace L15 := L15.gr g176
  have ne15_184 := L15.ne q184
  replace L25 := L25.gr g176
  have ne25_184 := L25.ne q184
  replace L40 := L40.gr g176
  have ne40_184 := L40.ne q184
  replace L41 := L41.gr g176
  have ne41_184 := L41.ne q184
  replace L69 := L69.gr g176
  have ne69_184 := L69.ne q184
  replace L84 := L84.gr g176
  have ne84_184 := L84.ne q184
  replace L85 := L85.gr g176
  have ne85_184 := L85.ne q184
  replace L113 := L113.gr g176
  have ne113_184 := L113.ne q184
  replace L128 := L128.gr g176
  have ne128_184 := L128.ne q184
  replace L129 := L129.gr g176
  have ne129_184 := L129.ne q184
  replace L162 := L162.gr g176
  have ne162_184 := L162.ne q184
  have ne176_184 := L176.ne q184
  replace q184 := Nat.le_trans (Below.size hB) q184
  replace hB := Gr.trans hB g184
  refine k183 _ _ ?_
  try clear k183 K183
  simp only [p1, p2, p3, p4]
  refine sq_eff rfl (by kernel_rfl) (fun K185 k185 => ?_)
  refine eff_store 31 _ _ b184 0 (.agg #[t167_0, t167_1, t167_2, t167_3]) [t167_0, t167_1, t167_2, t167_3] _ #[t167_0, t167_1, t167_2, t167_3] _ rfl rfl rfl rfl rfl L184 (by kernel_rfl) (Nat.le_of_ble_eq_true rfl) ⟨h167a.one0, h167a.one1, h167a.one2, h167a.one3, trivial⟩ (by kernel_rfl) (fun w186 st186 N186 => ?_)
  have kp186 := st186.kp L184 (by decide)
  replace hB := st186.gr hB q184
  replace L184 := N186
  refine k185 _ _ ?_
  try clear k185 K185
  refine sq_nil ?_
  refine k182 _ _ ?_
  try clear k182 K182
  have gd188 := Gr.drew w186
  replace hB := Gr.trans hB gd188
  replace L184 := L184.gr gd188
  replace L176 := (st186.lc (L176.gr g184) ne176_184).gr gd188
  refine wp_region_ort (fun w' => Lc w' b184 #[t167_0, t167_1, t167_2, t167_3] 31) [([4], (fun w' => Lc w' b176 #[(.bool false), (.slice none 0 0)] 29))] [(true, 0), (true, 1), (false, 2), (false, 3), (false, 4)] (by kernel_rfl) (by kernel_rfl) (by kernel_rfl) (by decide) (fun _ _ _ _ _ h => h) L184 ⟨fun _ => L176, trivial⟩ ?_
  refine ort_pure (some 53) (.agg #[(.bool false), (.slice none 0 0)]) rfl rfl (by kernel_rfl) (fun w' hS => (rv_load 29 _ b176 0 _ _ [(.bool false), (.slice none 0 0)] rfl rfl (hS.2.1 (by kernel_rfl)) rfl (by kernel_rfl))) ?_
  simp only [p1, p2, p3, p4]
  refine ort_pure (some 54) (.agg #[t167_0, t167_1, t167_2, t167_3]) rfl rfl (by kernel_rfl) (fun w' hS => (rv_load 31 _ b184 0 _ _ [t167_0, t167_1, t167_2, t167_3] rfl rfl hS.1 rfl (by kernel_rfl))) ?_
  simp only [p1, p2, p3, p4]
  refine ort_eff rfl (by kernel_rfl) (fun K189 k189 => ?_)
  have kq191 := kp173.trans (g176.kp.trans (g184.kp.trans (kp186.trans gd188.kp)))
  replace h167a := h167a.kp kq191
  refine eff_call (some 55) rfl (by kernel_rfl) (num_r h167a) ?_
  rintro e190 w190 ⟨⟨x190, y190, rfl, h190⟩, g190⟩
  refine ⟨_, rfl, ?_⟩
  replace hB := Gr.trans hB g190
  replace L184 := L184.gr g190
  replace L176 := L176.gr g190
  refine k189 _ _ L184 ⟨fun _ => L176, trivial⟩ ?_
  try clear k189 K189
  simp only [p1, p2, p3, p4]
  refine ort_eff rfl (by kernel_rfl) (fun K192 k192 => ?_)
  refine eff_call (some 56) rfl (by kernel_rfl) (gcd_i (IsInt.zero _ 64) h190 (by omega)) ?_
  rintro e193 w193 ⟨⟨x193, y193, rfl, h193⟩, g193⟩
  refine ⟨_, rfl, ?_⟩
  replace hB := Gr.trans hB g193
  replace h193 := (show IsInt _ _ _ _ ((Int.gcd (0) (Rat.divInt (pden a1 a2 a3) 1 * a1).num : Int)) from h193)
  replace L184 := L184.gr g193
  replace L176 := L176.gr g193
  refine k192 _ _ L184 ⟨fun _ => L176, trivial⟩ ?_
  try clear k192 K192
  simp only [p1, p2, p3, p4]
  refine ort_eff rfl (by kernel_rfl) (fun K194 k194 => ?_)
  refine eff_store 29 _ _ b176 0 (.agg #[x193, y193]) [x193, y193] _ #[x193, y193] _ rfl rfl rfl rfl rfl L176 (by kernel_rfl) (Nat.le_of_ble_eq_true rfl) ⟨h193.one0, h193.one1, trivial⟩ (by kernel_rfl) (fun w195 st195 N195 => ?_)
  have kp195 := st195.kp L176 (by decide)
  replace hB := st195.gr hB q176
  replace L176 := N195
  replace L184 := st195.lc L184 (Ne.symm ne176_184)
  refine k194 _ _ L184 ⟨cameT (by kernel_rfl), trivial⟩ ?_
  try clear k194 K194
  refine ort_nil ?_
  refine k181 _ _ ?_
  try clear k181 K181
  refine wp_region ?_
  simp only [List.size_toArray, List.length_cons, List.length_nil, Nat.reduceAdd, List.range, List.range.loop]
  refine sq_val (some 57) (.int .i64 1) rfl rfl (by kernel_rfl) (rvk (by kernel_rfl)) ?_
  simp only [p1, p2, p3, p4]
  refine sq_val (some 50) (.int .i64 1) rfl rfl (by kernel_rfl) (rvk (by kernel_rfl)) ?_
  simp only [p1, p2, p3, p4]
  refine sq_nil ?_
  show Code.rounds _ _ _ _ _ _
  show Code.wp _ _ _ _ _
  refine wp_seq_k (fun K196 k196 => ?_)
  refine wp_region ?_
  simp only [List.size_toArray, List.length_cons, List.length_nil, Nat.reduceAdd, List.range, List.range.loop]
  refine sq_val (some 51) (.bool true) rfl rfl (by kernel_rfl) (rvk (by kernel_rfl)) ?_
  simp only [p1, p2, p3, p4]
  refine sq_nil ?_
  refine k196 _ _ ?_
  try clear k196 K196
  refine wp_seq_k (fun K197 k197 => ?_)
  refine wp_cond_true rfl ?_
  refine wp_skip ?_
  refine k197 _ _ ?_
  try clear k197 K197
  refine wp_seq_k (fun K198 k198 => ?_)
  refine wp_block ?_
  refine wp_seq_k (fun K199 k199 => ?_)
  refine wp_region ?_
  simp only [List.size_toArray, List.length_cons, List.length_nil, Nat.reduceAdd, List.range, List.range.loop]
  refine sq_val (some 52) (.agg #[t167_4, t167_5, t167_6, t167_7]) rfl rfl (by kernel_rfl) (rvk (by kernel_rfl)) ?_
  simp only [p1, p2, p3, p4]
  refine sq_eff rfl (by kernel_rfl) (fun K200 k200 => ?_)
  refine eff_alloc 31 (.agg #[(.bool false), (.slice none 0 0), (.bool false), (.slice none 0 0)]) #[(.bool false), (.slice none 0 0), (.bool false), (.slice none 0 0)] (some 14) rfl rfl (by kernel_rfl) rfl (fun b201 w201 g201 L201 q201 => ?_)
  replace L3 := st195.lc ((st186.lc (L3.gr g184) ne3_184).gr (gd188.trans (g190.trans g193))) ne3_176
  have ne3_201 := L3.ne q201
  replace L5 := st195.lc ((st186.lc (L5.gr g184) ne5_184).gr (gd188.trans (g190.trans g193))) ne5_176
  have ne5_201 := L5.ne q201
  replace L15 := st195.lc ((st186.lc (L15.gr g184) ne15_184).gr (gd188.trans (g190.trans g193))) ne15_176
  have ne15_201 := L15.ne q201
  replace L25 := st195.lc ((st186.lc (L25.gr g184) ne25_184).gr (gd188.trans (g190.trans g193))) ne25_176
  have ne25_201 := L25.ne q201
  replace L40 := st195.lc ((st186.lc (L40.gr g184) ne40_184).gr (gd188.trans (g190.trans g193))) ne40_176
  have ne40_201 := L40.ne q201
  replace L41 := st195.lc ((st186.lc (L41.gr g184) ne41_184).gr (gd188.trans (g190.trans g193))) ne41_176
  have ne41_201 := L41.ne q201
  replace L69 := st195.lc ((st186.lc (L69.gr g184) ne69_184).gr (gd188.trans (g190.trans g193))) ne69_176
  have ne69_201 := L69.ne q201
  replace L84 := st195.lc ((st186.lc (L84.gr g184) ne84_184).gr (gd188.trans (g190.trans g193))) ne84_176
  have ne84_201 := L84.ne q201
  replace L85 := st195.lc ((st186.lc (L85.gr g184) ne85_184).gr (gd188.trans (g190.trans g193))) ne85_176
  have ne85_201 := L85.ne q201
  replace L113 := st195.lc ((st186.lc (L113.gr g184) ne113_184).gr (gd188.trans (g190.trans g193))) ne113_176
  have ne113_201 := L113.ne q201
  replace L128 := st195.lc ((st186.lc (L128.gr g184) ne128_184).gr (gd188.trans (g190.trans g193))) ne128_176
  have ne128_201 := L128.ne q201
  replace L129 := st195.lc ((st186.lc (L129.gr g184) ne129_184).gr (gd188.trans (g190.trans g193))) ne129_176
  have ne129_201 := L129.ne q201
  replace L162 := st195.lc ((st186.lc (L162.gr g184) ne162_184).gr (gd188.trans (g190.trans g193))) ne162_176
  have ne162_201 := L162.ne q201
  have ne176_201 := L176.ne q201
  have ne184_201 := L184.ne q201
  replace q201 := Nat.le_trans (Below.size hB) q201
  replace hB := Gr.trans hB g201
  refine k200 _ _ ?_
  try clear k200 K200
  simp only [p1, p2, p3, p4]
  refine sq_eff rfl (by kernel_rfl) (fun K202 k202 => ?_)
  refine eff_store 31 _ _ b201 0 (.agg #[t167_4, t167_5, t167_6, t167_7]) [t167_4, t167_5, t167_6, t167_7] _ #[t167_4, t167_5, t167_6, t167_7] _ rfl rfl rfl rfl rfl L201 (by kernel_rfl) (Nat.le_of_ble_eq_true rfl) ⟨h167b.one0, h167b.one1, h167b.one2, h167b.one3, trivial⟩ (by kernel_rfl) (fun w203 st203 N203 => ?_)
  have kp203 := st203.kp L201 (by decide)
  replace hB := st203.gr hB q201
  replace L201 := N203
  refine k202 _ _ ?_
  try clear k202 K202
  refine sq_nil ?_
  refine k199 _ _ ?_
  try clear k199 K199
  have gd205 := Gr.drew w203
  replace hB := Gr.trans hB gd205
  replace L201 := L201.gr gd205
  replace L176 := (st203.lc (L176.gr g201) ne176_201).gr gd205
  refine wp_region_ort (fun w' => Lc w' b201 #[t167_4, t167_5, t167_6, t167_7] 31) [([4], (fun w' => Lc w' b176 #[x193, y193] 29))] [(true, 0), (true, 1), (false, 2), (false, 3), (false, 4)] (by kernel_rfl) (by kernel_rfl) (by kernel_rfl) (by decide) (fun _ _ _ _ _ h => h) L201 ⟨fun _ => L176, trivial⟩ ?_
  refine ort_pure (some 53) (.agg #[x193, y193]) rfl rfl (by kernel_rfl) (fun w' hS => (rv_load 29 _ b176 0 _ _ [x193, y193] rfl rfl (hS.2.1 (by kernel_rfl)) rfl (by kernel_rfl))) ?_
  simp only [p1, p2, p3, p4]
  refine ort_pure (some 54) (.agg #[t167_4, t167_5, t167_6, t167_7]) rfl rfl (by kernel_rfl) (fun w' hS => (rv_load 31 _ b201 0 _ _ [t167_4, t167_5, t167_6, t167_7] rfl rfl hS.1 rfl (by kernel_rfl))) ?_
  simp only [p1, p2, p3, p4]
  refine ort_eff rfl (by kernel_rfl) (fun K206 k206 => ?_)
  have kq208 := kp173.trans (g176.kp.trans (g184.kp.trans (kp186.trans (gd188.kp.trans (g190.kp.trans (g193.kp.trans (kp195.trans (g201.kp.trans (kp203.trans gd205.kp)))))))))
  replace h167b := h167b.kp kq208
  refine eff_call (some 55) rfl (by kernel_rfl) (num_r h167b) ?_
  rintro e207 w207 ⟨⟨x207, y207, rfl, h207⟩, g207⟩
  refine ⟨_, rfl, ?_⟩
  replace hB := Gr.trans hB g207
  replace L201 := L201.gr g207
  replace L176 := L176.gr g207
  refine k206 _ _ L201 ⟨fun _ => L176, trivial⟩ ?_
  try clear k206 K206
  simp only [p1, p2, p3, p4]
  refine ort_eff rfl (by kernel_rfl) (fun K209 k209 => ?_)
  have kq211 := kp195.trans (g201.kp.trans (kp203.trans (gd205.kp.trans g207.kp)))
  replace h193 := h193.kp kq211
  refine eff_call (some 56) rfl (by kernel_rfl) (gcd_i h193 h207 (by omega)) ?_
  rintro e210 w210 ⟨⟨x210, y210, rfl, h210⟩, g210⟩
  refine ⟨_, rfl, ?_⟩
  replace hB := Gr.trans hB g210
  replace h210 := (show IsInt _ _ _ _ ((Int.gcd ((Int.gcd (0) (Rat.divInt (pden a1 a2 a3) 1 * a1).num : Int)) (Rat.divInt (pden a1 a2 a3) 1 * a2).num : Int)) from h210)
  replace L201 := L201.gr g210
  replace L176 := L176.gr g210
  refine k209 _ _ L201 ⟨fun _ => L176, trivial⟩ ?_
  try clear k209 K209
  simp only [p1, p2, p3, p4]
  refine ort_eff rfl (by kernel_rfl) (fun K212 k212 => ?_)
  refine eff_store 29 _ _ b176 0 (.agg #[x210, y210]) [x210, y210] _ #[x210, y210] _ rfl rfl rfl rfl rfl L176 (by kernel_rfl) (Nat.le_of_ble_eq_true rfl) ⟨h210.one0, h210.one1, trivial⟩ (by kernel_rfl) (fun w213 st213 N213 => ?_)
  have kp213 := st213.kp L176 (by decide)
  replace hB := st213.gr hB q176
  replace L176 := N213
  replace L201 := st213.lc L201 (Ne.symm ne176_201)
  refine k212 _ _ L201 ⟨cameT (by kernel_rfl), trivial⟩ ?_
  try clear k212 K212
  refine ort_nil ?_
  refine k198 _ _ ?_
  try clear k198 K198
  refine wp_region ?_
  simp only [List.size_toArray, List.length_cons, List.length_nil, Nat.reduceAdd, List.range, List.range.loop]
  refine sq_val (some 57) (.int .i64 2) rfl rfl (by kernel_rfl) (rvk (by kernel_rfl)) ?_
  simp only [p1, p2, p3, p4]
  refine sq_val (some 50) (.int .i64 2) rfl rfl (by kernel_rfl) (rvk (by kernel_rfl)) ?_
  simp only [p1, p2, p3, p4]
  refine sq_nil ?_
  show Code.rounds _ _ _ _ _ _
  show Code.wp _ _ _ _ _
  refine wp_seq_k (fun K214 k214 => ?_)
  refine wp_region ?_
  simp only [List.size_toArray, List.length_cons, List.length_nil, Nat.reduceAdd, List.range, List.range.loop]
  refine sq_val (some 51) (.bool true) rfl rfl (by kernel_rfl) (rvk (by kernel_rfl)) ?_
  simp only [p1, p2, p3, p4]
  refine sq_nil ?_
  refine k214 _ _ ?_
  try clear k214 K214
  refine wp_seq_k (fun K215 k215 => ?_)
  refine wp_cond_true rfl ?_
  refine wp_skip ?_
  refine k215 _ _ ?_
  try clear k215 K215
  refine wp_seq_k (fun K216 k216 => ?_)
  refine wp_block ?_
  refine wp_seq_k (fun K217 k217 => ?_)
  refine wp_region ?_
  simp only [List.size_toArray, List.length_cons, List.length_nil, Nat.reduceAdd, List.range, List.range.loop]
  refine sq_val (some 52) (.agg #[t167_8, t167_9, t167_10, t167_11]) rfl rfl (by kernel_rfl) (rvk (by kernel_rfl)) ?_
  simp only [p1, p2, p3, p4]
  refine sq_eff rfl (by kernel_rfl) (fun K218 k218 => ?_)
  refine eff_alloc 31 (.agg #[(.bool false), (.slice none 0 0), (.bool false), (.slice none 0 0)]) #[(.bool false), (.slice none 0 0), (.bool false), (.slice none 0 0)] (some 14) rfl rfl (by kernel_rfl) rfl (fun b219 w219 g219 L219 q219 => ?_)
  replace L3 := st213.lc ((st203.lc (L3.gr g201) ne3_201).gr (gd205.trans (g207.trans g210))) ne3_176
  have ne3_219 := L3.ne q219
  replace L5 := st213.lc ((st203.lc (L5.gr g201) ne5_201).gr (gd205.trans (g207.trans g210))) ne5_176
  have ne5_219 := L5.ne q219
  replace L15 := st213.lc ((st203.lc (L15.gr g201) ne15_201).gr (gd205.trans (g207.trans g210))) ne15_176
  have ne15_219 := L15.ne q219
  replace L25 := st213.lc ((st203.lc (L25.gr g201) ne25_201).gr (gd205.trans (g207.trans g210))) ne25_176
  have ne25_219 := L25.ne q219
  replace L40 := st213.lc ((st203.lc (L40.gr g201) ne40_201).gr (gd205.trans (g207.trans g210))) ne40_176
  have ne40_219 := L40.ne q219
  replace L41 := st213.lc ((st203.lc (L41.gr g201) ne41_201).gr (gd205.trans (g207.trans g210))) ne41_176
  have ne41_219 := L41.ne q219
  replace L69 := st213.lc ((st203.lc (L69.gr g201) ne69_201).gr (gd205.trans (g207.trans g210))) ne69_176
  have ne69_219 := L69.ne q219
  replace L84 := st213.lc ((st203.lc (L84.gr g201) ne84_201).gr (gd205.trans (g207.trans g210))) ne84_176
  have ne84_219 := L84.ne q219
  replace L85 := st213.lc ((st203.lc (L85.gr g201) ne85_201).gr (gd205.trans (g207.trans g210))) ne85_176
  have ne85_219 := L85.ne q219
  replace L113 := st213.lc ((st203.lc (L113.gr g201) ne113_201).gr (gd205.trans (g207.trans g210))) ne113_176
  have ne113_219 := L113.ne q219
  replace L128 := st213.lc ((st203.lc (L128.gr g201) ne128_201).gr (gd205.trans (g207.trans g210))) ne128_176
  have ne128_219 := L128.ne q219
  replace L129 := st213.lc ((st203.lc (L129.gr g201) ne129_201).gr (gd205.trans (g207.trans g210))) ne129_176
  have ne129_219 := L129.ne q219
  replace L162 := st213.lc ((st203.lc (L162.gr g201) ne162_201).gr (gd205.trans (g207.trans g210))) ne162_176
  have ne162_219 := L162.ne q219
  have ne176_219 := L176.ne q219
  replace L184 := st213.lc ((st203.lc (L184.gr g201) ne184_201).gr (gd205.trans (g207.trans g210))) (Ne.symm ne176_184)
  have ne184_219 := L184.ne q219
  have ne201_219 := L201.ne q219
  replace q219 := Nat.le_trans (Below.size hB) q219
  replace hB := Gr.trans hB g219
  refine k218 _ _ ?_
  try clear k218 K218
  simp only [p1, p2, p3, p4]
  refine sq_eff rfl (by kernel_rfl) (fun K220 k220 => ?_)
  refine eff_store 31 _ _ b219 0 (.agg #[t167_8, t167_9, t167_10, t167_11]) [t167_8, t167_9, t167_10, t167_11] _ #[t167_8, t167_9, t167_10, t167_11] _ rfl rfl rfl rfl rfl L219 (by kernel_rfl) (Nat.le_of_ble_eq_true rfl) ⟨h167c.one0, h167c.one1, h167c.one2, h167c.one3, trivial⟩ (by kernel_rfl) (fun w221 st221 N221 => ?_)
  have kp221 := st221.kp L219 (by decide)
  replace hB := st221.gr hB q219
  replace L219 := N221
  refine k220 _ _ ?_
  try clear k220 K220
  refine sq_nil ?_
  refine k217 _ _ ?_
  try clear k217 K217
  have gd223 := Gr.drew w221
  replace hB := Gr.trans hB gd223
  replace L219 := L219.gr gd223
  replace L176 := (st221.lc (L176.gr g219) ne176_219).gr gd223
  refine wp_region_ort (fun w' => Lc w' b219 #[t167_8, t167_9, t167_10, t167_11] 31) [([4], (fun w' => Lc w' b176 #[x210, y210] 29))] [(true, 0), (true, 1), (false, 2), (false, 3), (false, 4)] (by kernel_rfl) (by kernel_rfl) (by kernel_rfl) (by decide) (fun _ _ _ _ _ h => h) L219 ⟨fun _ => L176, trivial⟩ ?_
  refine ort_pure (some 53) (.agg #[x210, y210]) rfl rfl (by kernel_rfl) (fun w' hS => (rv_load 29 _ b176 0 _ _ [x210, y210] rfl rfl (hS.2.1 (by kernel_rfl)) rfl (by kernel_rfl))) ?_
  simp only [p1, p2, p3, p4]
  refine ort_pure (some 54) (.agg #[t167_8, t167_9, t167_10, t167_11]) rfl rfl (by kernel_rfl) (fun w' hS => (rv_load 31 _ b219 0 _ _ [t167_8, t167_9, t167_10, t167_11] rfl rfl hS.1 rfl (by kernel_rfl))) ?_
  simp only [p1, p2, p3, p4]
  refine ort_eff rfl (by kernel_rfl) (fun K224 k224 => ?_)
  have kq226 := kp173.trans (g176.kp.trans (g184.kp.trans (kp186.trans (gd188.kp.trans (g190.kp.trans (g193.kp.trans (kp195.trans (g201.kp.trans (kp203.trans (gd205.kp.trans (g207.kp.trans (g210.kp.trans (kp213.trans (g219.kp.trans (kp221.trans gd223.kp)))))))))))))))
  replace h167c := h167c.kp kq226
  refine eff_call (some 55) rfl (by kernel_rfl) (num_r h167c) ?_
  rintro e225 w225 ⟨⟨x225, y225, rfl, h225⟩, g225⟩
  refine ⟨_, rfl, ?_⟩
  replace hB := Gr.trans hB g225
  replace L219 := L219.gr g225
  replace L176 := L176.gr g225
  refine k224 _ _ L219 ⟨fun _ => L176, trivial⟩ ?_
  try clear k224 K224
  simp only [p1, p2, p3, p4]
  refine ort_eff rfl (by kernel_rfl) (fun K227 k227 => ?_)
  have kq229 := kp213.trans (g219.kp.trans (kp221.trans (gd223.kp.trans g225.kp)))
  replace h210 := h210.kp kq229
  refine eff_call (some 56) rfl (by kernel_rfl) (gcd_i h210 h225 (by omega)) ?_
  rintro e228 w228 ⟨⟨x228, y228, rfl, h228⟩, g228⟩
  refine ⟨_, rfl, ?_⟩
  replace hB := Gr.trans hB g228
  replace h228 := (show IsInt _ _ _ _ (pgcd a1 a2 a3) from h228)
  replace L219 := L219.gr g228
  replace L176 := L176.gr g228
  refine k227 _ _ L219 ⟨fun _ => L176, trivial⟩ ?_
  try clear k227 K227
  simp only [p1, p2, p3, p4]
  refine ort_eff rfl (by kernel_rfl) (fun K230 k230 => ?_)
  refine eff_store 29 _ _ b176 0 (.agg #[x228, y228]) [x228, y228] _ #[x228, y228] _ rfl rfl rfl rfl rfl L176 (by kernel_rfl) (Nat.le_of_ble_eq_true rfl) ⟨h228.one0, h228.one1, trivial⟩ (by kernel_rfl) (fun w231 st231 N231 => ?_)
  have kp231 := st231.kp L176 (by decide)
  replace hB := st231.gr hB q176
  replace L176 := N231
  replace L219 := st231.lc L219 (Ne.symm ne176_219)
  refine k230 _ _ L219 ⟨cameT (by kernel_rfl), trivial⟩ ?_
  try clear k230 K230
  refine ort_nil ?_
  refine k216 _ _ ?_
  try clear k216 K216
  refine wp_region ?_
  simp only [List.size_toArray, List.length_cons, List.length_nil, Nat.reduceAdd, List.range, List.range.loop]
  refine sq_val (some 57) (.int .i64 3) rfl rfl (by kernel_rfl) (rvk (by kernel_rfl)) ?_
  simp only [p1, p2, p3, p4]
  refine sq_val (some 50) (.int .i64 3) rfl rfl (by kernel_rfl) (rvk (by kernel_rfl)) ?_
  simp only [p1, p2, p3, p4]
  refine sq_nil ?_
  show Code.rounds _ _ _ _ _ _
  show Code.wp _ _ _ _ _
  refine wp_seq_k (fun K232 k232 => ?_)
  refine wp_region ?_
  simp only [List.size_toArray, List.length_cons, List.length_nil, Nat.reduceAdd, List.range, List.range.loop]
  refine sq_val (some 51) (.bool false) rfl rfl (by kernel_rfl) (rvk (by kernel_rfl)) ?_
  simp only [p1, p2, p3, p4]
  refine sq_nil ?_
  refine k232 _ _ ?_
  try clear k232 K232
  refine wp_seq_k (fun K233 k233 => ?_)
  refine wp_cond_false rfl ?_
  refine wp_exit ?_
  simp only [Exit.then, Exit.inBlock, ↓reduceIte]
  refine k177 _ _ ?_
  try clear k177 K177
  refine wp_seq_k (fun K234 k234 => ?_)
  have hz235 := Below.size hB
  replace L3 := st231.lc ((st221.lc (L3.gr g219) ne3_219).gr (gd223.trans (g225.trans g228))) ne3_176
  have lt3_235 := L3.lt
  replace L5 := st231.lc ((st221.lc (L5.gr g219) ne5_219).gr (gd223.trans (g225.trans g228))) ne5_176
  have lt5_235 := L5.lt
  replace L15 := st231.lc ((st221.lc (L15.gr g219) ne15_219).gr (gd223.trans (g225.trans g228))) ne15_176
  have lt15_235 := L15.lt
  replace L25 := st231.lc ((st221.lc (L25.gr g219) ne25_219).gr (gd223.trans (g225.trans g228))) ne25_176
  have lt25_235 := L25.lt
  replace L40 := st231.lc ((st221.lc (L40.gr g219) ne40_219).gr (gd223.trans (g225.trans g228))) ne40_176
  have lt40_235 := L40.lt
  replace L41 := st231.lc ((st221.lc (L41.gr g219) ne41_219).gr (gd223.trans (g225.trans g228))) ne41_176
  have lt41_235 := L41.lt
  replace L69 := st231.lc ((st221.lc (L69.gr g219) ne69_219).gr (gd223.trans (g225.trans g228))) ne69_176
  have lt69_235 := L69.lt
  replace L84 := st231.lc ((st221.lc (L84.gr g219) ne84_219).gr (gd223.trans (g225.trans g228))) ne84_176
  have lt84_235 := L84.lt
  replace L85 := st231.lc ((st221.lc (L85.gr g219) ne85_219).gr (gd223.trans (g225.trans g228))) ne85_176
  have lt85_235 := L85.lt
  replace L113 := st231.lc ((st221.lc (L113.gr g219) ne113_219).gr (gd223.trans (g225.trans g228))) ne113_176
  have lt113_235 := L113.lt
  replace L128 := st231.lc ((st221.lc (L128.gr g219) ne128_219).gr (gd223.trans (g225.trans g228))) ne128_176
  have lt128_235 := L128.lt
  replace L129 := st231.lc ((st221.lc (L129.gr g219) ne129_219).gr (gd223.trans (g225.trans g228))) ne129_176
  have lt129_235 := L129.lt
  replace L162 := st231.lc ((st221.lc (L162.gr g219) ne162_219).gr (gd223.trans (g225.trans g228))) ne162_176
  have lt162_235 := L162.lt
  have lt176_235 := L176.lt
  replace L184 := st231.lc ((st221.lc (L184.gr g219) ne184_219).gr (gd223.trans (g225.trans g228))) (Ne.symm ne176_184)
  have lt184_235 := L184.lt
  replace L201 := st231.lc ((st221.lc (L201.gr g219) ne201_219).gr (gd223.trans (g225.trans g228))) (Ne.symm ne176_201)
  have lt201_235 := L201.lt
  have lt219_235 := L219.lt
  have gd235 := Gr.drew w231
  replace hB := Gr.trans hB gd235
  replace L176 := L176.gr gd235
  refine wp_region_flo (fun w' => Lc w' b176 #[x228, y228] 29) [(true, 1), (false, 0), (false, 2), (true, 3), (true, 4), (true, 5)] [⟨6, 15, 31, #[(.bool false), (.slice none 0 0), (.bool false), (.slice none 0 0)]⟩] [(false, 7), (true, 8)] (by kernel_rfl) (by kernel_rfl) (by kernel_rfl) (by kernel_rfl) (by kernel_rfl) (by decide) (fun _ _ _ _ _ h => h) (fun _ _ _ _ _ h => h) (fun w' o h => Lc.gr h (Gr.alloc w' o)) L176 (by intro f hf; simp only [List.mem_cons, List.not_mem_nil, or_false] at hf; rcases hf with rfl <;> first | exact alloc_zero (z := (.agg #[(.bool false), (.slice none 0 0), (.bool false), (.slice none 0 0)])) (by kernel_rfl) rfl) ?_
  refine flo_pure (some 60) (.agg #[x228, y228]) rfl rfl rfl (fun w' hS => (rv_load 29 _ b176 0 _ _ [x228, y228] rfl rfl hS rfl (by kernel_rfl))) ?_
  simp only [p1, p2, p3, p4]
  refine flo_eff rfl rfl (fun w236 g236 _ K236 k236 => ?_)
  replace hB := Gr.trans hB g236
  refine eff_call (some 59) rfl (by kernel_rfl) (from_i (1) (by omega) (by omega) _) ?_
  rintro e237 w237 ⟨⟨x237, y237, rfl, h237⟩, g237⟩
  refine ⟨_, rfl, ?_⟩
  replace hB := Gr.trans hB g237
  replace L176 := L176.gr (g236.trans g237)
  refine k236 _ _ g237 L176 ?_
  try clear k236 K236
  simp only [p1, p2, p3, p4]
  refine flo_eff rfl rfl (fun w238 g238 _ K238 k238 => ?_)
  replace hB := Gr.trans hB g238
  replace h237 := h237.kp g238.kp
  have kq240 := kp231.trans (gd235.kp.trans (g236.kp.trans (g237.kp.trans g238.kp)))
  replace h228 := h228.kp kq240
  refine eff_call (some 61) rfl (by kernel_rfl) (make_r ((64 + (64 + (64 + k + k + k + k)) + (64 + (64 + k + k + k + k)) + (64 + (64 + k + k + k + k)))) h237 h228 (pgcd_pos hz0) (by omega) (by omega) (by omega) (by omega)) ?_
  rintro e239 w239 ⟨⟨p239, q239, r239, s239, rfl, h239⟩, g239⟩
  refine ⟨_, rfl, ?_⟩
  replace hB := Gr.trans hB g239
  replace L176 := L176.gr (g238.trans g239)
  refine k238 _ _ g239 L176 ?_
  try clear k238 K238
  simp only [p1, p2, p3, p4]
  refine flo_pure (some 58) (.tuple #[(.agg #[p239, q239, r239, s239]), (.int .i64 0)]) rfl rfl rfl (fun w' hS => (rvk (by kernel_rfl))) ?_
  simp only [p1, p2, p3, p4]
  refine flo_pure (some 62) (.agg #[p239, q239, r239, s239]) rfl rfl rfl (fun w' hS => (rvk (by kernel_rfl))) ?_
  simp only [p1, p2, p3, p4]
  refine flo_pure (some 63) (.int .i64 0) rfl rfl rfl (fun w' hS => (rvk (by kernel_rfl))) ?_
  simp only [p1, p2, p3, p4]
  refine flo_nil (fun w241 g241 _ => ?_)
  replace hB := Gr.trans hB g241
  refine floFin1 (fun b242 (L242 : Lc w241 b242 #[(.bool false), (.slice none 0 0), (.bool false), (.slice none 0 0)] 31) q242  => ?_)
  have ne3_242 : b3 ≠ b242 := Nat.ne_of_lt (Nat.lt_of_lt_of_le lt3_235 q242)
  have ne5_242 : b5 ≠ b242 := Nat.ne_of_lt (Nat.lt_of_lt_of_le lt5_235 q242)
  have ne15_242 : b15 ≠ b242 := Nat.ne_of_lt (Nat.lt_of_lt_of_le lt15_235 q242)
  have ne25_242 : b25 ≠ b242 := Nat.ne_of_lt (Nat.lt_of_lt_of_le lt25_235 q242)
  have ne40_242 : b40 ≠ b242 := Nat.ne_of_lt (Nat.lt_of_lt_of_le lt40_235 q242)
  have ne41_242 : b41 ≠ b242 := Nat.ne_of_lt (Nat.lt_of_lt_of_le lt41_235 q242)
  have ne69_242 : b69 ≠ b242 := Nat.ne_of_lt (Nat.lt_of_lt_of_le lt69_235 q242)
  have ne84_242 : b84 ≠ b242 := Nat.ne_of_lt (Nat.lt_of_lt_of_le lt84_235 q242)
  have ne85_242 : b85 ≠ b242 := Nat.ne_of_lt (Nat.lt_of_lt_of_le lt85_235 q242)
  have ne113_242 : b113 ≠ b242 := Nat.ne_of_lt (Nat.lt_of_lt_of_le lt113_235 q242)
  have ne128_242 : b128 ≠ b242 := Nat.ne_of_lt (Nat.lt_of_lt_of_le lt128_235 q242)
  have ne129_242 : b129 ≠ b242 := Nat.ne_of_lt (Nat.lt_of_lt_of_le lt129_235 q242)
  have ne162_242 : b162 ≠ b242 := Nat.ne_of_lt (Nat.lt_of_lt_of_le lt162_235 q242)
  have ne176_242 : b176 ≠ b242 := Nat.ne_of_lt (Nat.lt_of_lt_of_le lt176_235 q242)
  have ne184_242 : b184 ≠ b242 := Nat.ne_of_lt (Nat.lt_of_lt_of_le lt184_235 q242)
  have ne201_242 : b201 ≠ b242 := Nat.ne_of_lt (Nat.lt_of_lt_of_le lt201_235 q242)
  have ne219_242 : b219 ≠ b242 := Nat.ne_of_lt (Nat.lt_of_lt_of_le lt219_235 q242)
  replace q242 := Nat.le_trans hz235 q242
  simp only [p1, p2, p3, p4]
  refine ord_eff rfl rfl (fun K243 k243 => ?_)
  refine eff_store 31 _ _ b242 0 (.agg #[p239, q239, r239, s239]) [p239, q239, r239, s239] _ #[p239, q239, r239, s239] _ rfl rfl rfl rfl rfl L242 (by kernel_rfl) (Nat.le_of_ble_eq_true rfl) ⟨h239.one0, h239.one1, h239.one2, h239.one3, trivial⟩ (by kernel_rfl) (fun w244 st244 N244 => ?_)
  have kp244 := st244.kp L242 (by decide)
  replace hB := st244.gr hB q242
  replace L242 := N244
  replace L176 := st244.lc (L176.gr g241) ne176_242
  refine k243 _ _ L176 ?_
  try clear k243 K243
  refine ord_pure (some 16) (.int .i64 0) rfl rfl rfl (fun w' hS => (rvk (by kernel_rfl))) ?_
  simp only [p1, p2, p3, p4]
  refine ord_nil ?_
  refine k234 _ _ ?_
  try clear k234 K234
  refine wp_seq_k (fun K245 k245 => ?_)
  refine wp_region ?_
  simp only [List.size_toArray, List.length_cons, List.length_nil, Nat.reduceAdd, List.range, List.range.loop]
  replace L3 := st244.lc (L3.gr (gd235.trans (g236.trans (g237.trans (g238.trans (g239.trans g241)))))) ne3_242
  refine sq_val (some 64) (.agg #[t167_0, t167_1, t167_2, t167_3, t167_4, t167_5, t167_6, t167_7, t167_8, t167_9, t167_10, t167_11]) rfl rfl (by kernel_rfl) (rv_load 33 _ b3 0 _ _ [t167_0, t167_1, t167_2, t167_3, t167_4, t167_5, t167_6, t167_7, t167_8, t167_9, t167_10, t167_11] rfl rfl L3 rfl (by kernel_rfl)) ?_
  simp only [p1, p2, p3, p4]
  refine sq_val (some 65) (.agg #[p239, q239, r239, s239]) rfl rfl (by kernel_rfl) (rv_load 31 _ b242 0 _ _ [p239, q239, r239, s239] rfl rfl L242 rfl (by kernel_rfl)) ?_
  simp only [p1, p2, p3, p4]
  refine sq_eff rfl (by kernel_rfl) (fun K246 k246 => ?_)
  have kq248 := g190.kp.trans (g193.kp.trans (kp195.trans (g201.kp.trans (kp203.trans (gd205.kp.trans (g207.kp.trans (g210.kp.trans (kp213.trans (g219.kp.trans (kp221.trans (gd223.kp.trans (g225.kp.trans (g228.kp.trans (kp231.trans (gd235.kp.trans (g236.kp.trans (g237.kp.trans (g238.kp.trans (g239.kp.trans (g241.kp.trans kp244))))))))))))))))))))
  replace h167a := h167a.kp kq248
  have kq249 := g207.kp.trans (g210.kp.trans (kp213.trans (g219.kp.trans (kp221.trans (gd223.kp.trans (g225.kp.trans (g228.kp.trans (kp231.trans (gd235.kp.trans (g236.kp.trans (g237.kp.trans (g238.kp.trans (g239.kp.trans (g241.kp.trans kp244))))))))))))))
  replace h167b := h167b.kp kq249
  have kq250 := g225.kp.trans (g228.kp.trans (kp231.trans (gd235.kp.trans (g236.kp.trans (g237.kp.trans (g238.kp.trans (g239.kp.trans (g241.kp.trans kp244))))))))
  replace h167c := h167c.kp kq250
  have kq251 := g241.kp.trans kp244
  replace h239 := h239.kp kq251
  refine eff_call (some 66) rfl (by kernel_rfl) (vscale_v h167a h167b h167c h239 (by omega)) ?_
  rintro e247 w247 ⟨⟨t247_0, t247_1, t247_2, t247_3, t247_4, t247_5, t247_6, t247_7, t247_8, t247_9, t247_10, t247_11, rfl, h247a, h247b, h247c⟩, g247⟩
  refine ⟨_, rfl, ?_⟩
  replace hB := Gr.trans hB g247
  refine k246 _ _ ?_
  try clear k246 K246
  simp only [p1, p2, p3, p4]
  refine sq_eff rfl (by kernel_rfl) (fun K252 k252 => ?_)
  replace L5 := (st244.lc (L5.gr (gd235.trans (g236.trans (g237.trans (g238.trans (g239.trans g241)))))) ne5_242).gr g247
  refine eff_store 33 _ _ b5 0 (.agg #[t247_0, t247_1, t247_2, t247_3, t247_4, t247_5, t247_6, t247_7, t247_8, t247_9, t247_10, t247_11]) [t247_0, t247_1, t247_2, t247_3, t247_4, t247_5, t247_6, t247_7, t247_8, t247_9, t247_10, t247_11] _ #[t247_0, t247_1, t247_2, t247_3, t247_4, t247_5, t247_6, t247_7, t247_8, t247_9, t247_10, t247_11] _ rfl rfl rfl rfl rfl L5 (by kernel_rfl) (Nat.le_of_ble_eq_true rfl) ⟨h247a.one0, h247a.one1, h247a.one2, h247a.one3, h247b.one0, h247b.one1, h247b.one2, h247b.one3, h247c.one0, h247c.one1, h247c.one2, h247c.one3, trivial⟩ (by kernel_rfl) (fun w253 st253 N253 => ?_)
  have kp253 := st253.kp L5 (by decide)
  replace hB := st253.gr hB q5
  replace L5 := N253
  refine k252 _ _ ?_
  try clear k252 K252
  refine sq_val (some 3) (.int .i64 0) rfl rfl (by kernel_rfl) (rvk (by kernel_rfl)) ?_
  simp only [p1, p2, p3, p4]
  refine sq_nil ?_
  refine k245 _ _ ?_
  try clear k245 K245
  refine wp_ret ?_
  refine bodyPost_ret (v := (.tuple #[(.agg #[t247_0, t247_1, t247_2, t247_3, t247_4, t247_5, t247_6, t247_7, t247_8, t247_9, t247_10, t247_11]), (.int .i64 0)])) (ret_cell_tmp' _ _ _ rfl rfl L5 (by kernel_rfl) rfl) rfl ⟨?_, hB⟩
  replace h247a := h247a.kp kp253
  replace h247b := h247b.kp kp253
  replace h247c := h247c.kp kp253
  exact ⟨_, _, _, _, _, _, _, _, _, _, _, _, rfl, h247a, h247b, h247c⟩

set_option maxRecDepth 100000 in
set_option maxHeartbeats 1000000 in
theorem vprim_zero {k : Nat} {uaa0 uaa1 uaa2 uaa3 uab0 uab1 uab2 uab3 uac0 uac1 uac2 uac3 : Value} {a1 a2 a3 : Rat} {w : World} (hua1 : IsRat w k uaa0 uaa1 uaa2 uaa3 a1) (hua2 : IsRat w k uab0 uab1 uab2 uab3 a2) (hua3 : IsRat w k uac0 uac1 uac2 uac3 a3) (_hk : k ≤ 25000) (hz0 : (a1 = 0 ∧ a2 = 0 ∧ a3 = 0)) :
    Calls Tryd.prog 14 #[(.agg #[uaa0, uaa1, uaa2, uaa3, uab0, uab1, uab2, uab3, uac0, uac1, uac2, uac3])] w fun e w' => (∃ t0 t1 t2 t3 t4 t5 t6 t7 t8 t9 t10 t11, e = .returned (.tuple #[.agg #[t0, t1, t2, t3, t4, t5, t6, t7, t8, t9, t10, t11], .int .i64 19]) ∧ IsRat w' 64 t0 t1 t2 t3 (0) ∧ IsRat w' 64 t4 t5 t6 t7 (0) ∧ IsRat w' 64 t8 t9 t10 t11 (0)) ∧ Gr w w' := by
  have e1 := vzero_iff.2 hz0
  go_enter Tryd.func14, Tryd.ntmps14
  have hB := Gr.refl w
  refine wp_seq_k (fun K1 k1 => ?_)
  refine wp_region ?_
  simp only [List.size_toArray, List.length_cons, List.length_nil, Nat.reduceAdd, List.range, List.range.loop]
  refine sq_eff rfl (by kernel_rfl) (fun K2 k2 => ?_)
  refine eff_box 33 _ (.agg #[uaa0, uaa1, uaa2, uaa3, uab0, uab1, uab2, uab3, uac0, uac1, uac2, uac3]) #[uaa0, uaa1, uaa2, uaa3, uab0, uab1, uab2, uab3, uac0, uac1, uac2, uac3] (some 1) rfl rfl rfl rfl (fun b3 w3 g3 L3 q3 => ?_)
  replace q3 := Nat.le_trans (Below.size hB) q3
  replace hB := Gr.trans hB g3
  refine k2 _ _ ?_
  try clear k2 K2
  simp only [p1, p2, p3, p4]
  refine sq_eff rfl (by kernel_rfl) (fun K4 k4 => ?_)
  refine eff_alloc 33 (.agg #[(.bool false), (.slice none 0 0), (.bool false), (.slice none 0 0), (.bool false), (.slice none 0 0), (.bool false), (.slice none 0 0), (.bool false), (.slice none 0 0), (.bool false), (.slice none 0 0)]) #[(.bool false), (.slice none 0 0), (.bool false), (.slice none 0 0), (.bool false), (.slice none 0 0), (.bool false), (.slice none 0 0), (.bool false), (.slice none 0 0), (.bool false), (.slice none 0 0)] (some 2) rfl rfl (by kernel_rfl) rfl (fun b5 w5 g5 L5 q5 => ?_)
  have ne3_5 := L3.ne q5
  replace q5 := Nat.le_trans (Below.size hB) q5
  replace hB := Gr.trans hB g5
  refine k4 _ _ ?_
  try clear k4 K4
  simp only [p1, p2, p3, p4]
  refine sq_val (some 3) (.int .i64 0) rfl rfl (by kernel_rfl) (rvk (by kernel_rfl)) ?_
  simp only [p1, p2, p3, p4]
  refine sq_nil ?_
  refine k1 _ _ ?_
  try clear k1 K1
  refine wp_seq_k (fun K6 k6 => ?_)
  refine wp_seq_k (fun K7 k7 => ?_)
  refine wp_region ?_
  simp only [List.size_toArray, List.length_cons, List.length_nil, Nat.reduceAdd, List.range, List.range.loop]
  replace L3 := L3.gr g5
  refine sq_val (some 17) (.agg #[uaa0, uaa1, uaa2, uaa3, uab0, uab1, uab2, uab3, uac0, uac1, uac2, uac3]) rfl rfl (by kernel_rfl) (rv_load 33 _ b3 0 _ _ [uaa0, uaa1, uaa2, uaa3, uab0, uab1, uab2, uab3, uac0, uac1, uac2, uac3] rfl rfl L3 rfl (by kernel_rfl)) ?_
  simp only [p1, p2, p3, p4]
  refine sq_eff rfl (by kernel_rfl) (fun K8 k8 => ?_)
  have kq10 := g3.kp.trans g5.kp
  replace hua1 := hua1.kp kq10
  replace hua2 := hua2.kp kq10
  replace hua3 := hua3.kp kq10
  refine eff_call (some 18) rfl (by kernel_rfl) (vzero_b hua1 hua2 hua3 (by omega) true e1) ?_
  rintro e9 w9 ⟨rfl, g9⟩
  refine ⟨_, rfl, ?_⟩
  replace hB := Gr.trans hB g9
  refine k8 _ _ ?_
  try clear k8 K8
  simp only [p1, p2, p3, p4]
  refine sq_nil ?_
  refine k7 _ _ ?_
  try clear k7 K7
  refine wp_cond_true rfl ?_
  refine wp_seq_k (fun K11 k11 => ?_)
  refine wp_region ?_
  simp only [List.size_toArray, List.length_cons, List.length_nil, Nat.reduceAdd, List.range, List.range.loop]
  refine sq_val (some 19) (.agg #[(.bool false), (.slice none 0 0), (.bool false), (.slice none 0 0), (.bool false), (.slice none 0 0), (.bool false), (.slice none 0 0), (.bool false), (.slice none 0 0), (.bool false), (.slice none 0 0)]) rfl rfl (by kernel_rfl) (rvk (by kernel_rfl)) ?_
  simp only [p1, p2, p3, p4]
  refine sq_eff rfl (by kernel_rfl) (fun K12 k12 => ?_)
  replace L5 := L5.gr g9
  refine eff_store 33 _ _ b5 0 (.agg #[(.bool false), (.slice none 0 0), (.bool false), (.slice none 0 0), (.bool false), (.slice none 0 0), (.bool false), (.slice none 0 0), (.bool false), (.slice none 0 0), (.bool false), (.slice none 0 0)]) [(.bool false), (.slice none 0 0), (.bool false), (.slice none 0 0), (.bool false), (.slice none 0 0), (.bool false), (.slice none 0 0), (.bool false), (.slice none 0 0), (.bool false), (.slice none 0 0)] _ #[(.bool false), (.slice none 0 0), (.bool false), (.slice none 0 0), (.bool false), (.slice none 0 0), (.bool false), (.slice none 0 0), (.bool false), (.slice none 0 0), (.bool false), (.slice none 0 0)] _ rfl rfl rfl rfl rfl L5 (by kernel_rfl) (Nat.le_of_ble_eq_true rfl) ⟨rfl, rfl, rfl, rfl, rfl, rfl, rfl, rfl, rfl, rfl, rfl, rfl, trivial⟩ (by kernel_rfl) (fun w13 st13 N13 => ?_)
  have kp13 := st13.kp L5 (by decide)
  replace hB := st13.gr hB q5
  replace L5 := N13
  refine k12 _ _ ?_
  try clear k12 K12
  refine sq_val (some 3) (.int .i64 19) rfl rfl (by kernel_rfl) (rvk (by kernel_rfl)) ?_
  simp only [p1, p2, p3, p4]
  refine sq_nil ?_
  refine k11 _ _ ?_
  try clear k11 K11
  refine wp_ret ?_
  simp only [Exit.then]
  refine bodyPost_ret (v := (.tuple #[(.agg #[(.bool false), (.slice none 0 0), (.bool false), (.slice none 0 0), (.bool false), (.slice none 0 0), (.bool false), (.slice none 0 0), (.bool false), (.slice none 0 0), (.bool false), (.slice none 0 0)]), (.int .i64 19)])) (ret_cell_tmp' _ _ _ rfl rfl L5 (by kernel_rfl) rfl) rfl ⟨?_, hB⟩
  exact ⟨_, _, _, _, _, _, _, _, _, _, _, _, rfl, (IsRat.zero _ (k := 64) (Nat.le_refl _)), (IsRat.zero _ (k := 64) (Nat.le_refl _)), (IsRat.zero _ (k := 64) (Nat.le_refl _))⟩

end Go.Proofs.YtgopfikljndklaaDoor
