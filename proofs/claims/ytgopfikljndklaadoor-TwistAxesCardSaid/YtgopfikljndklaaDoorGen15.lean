/- Printed by a program of the prover's: TwistAxes. -/
import Derived.Test.YtgopfikljndklaaDoorGen14
namespace Go.Proofs.YtgopfikljndklaaDoor
open Go.RowKit

set_option maxRecDepth 100000 in
set_option maxHeartbeats 1000000 in
theorem equal_q {k m : Nat} {u0 u1 u2 u3 v0 v1 v2 v3 : Value} {a b : Rat} {w : World} (ha : IsRat w k u0 u1 u2 u3 a) (hb : IsRat w m v0 v1 v2 v3 b) (hk : k + m ≤ 100000) :
    Calls Tryd.prog 19 #[(.agg #[u0, u1, u2, u3]), (.agg #[v0, v1, v2, v3])] w fun e w' => e = .returned (.bool (rcmp a b == (0 : Int))) ∧ Gr w w' := by
  go_enter Tryd.func19, Tryd.ntmps19
  have hB := Gr.refl w
  refine wp_seq_k (fun K1 k1 => ?_)
  refine wp_region ?_
  simp only [List.size_toArray, List.length_cons, List.length_nil, Nat.reduceAdd, List.range, List.range.loop]
  refine sq_eff rfl (by kernel_rfl) (fun K2 k2 => ?_)
  refine eff_box 31 _ (.agg #[u0, u1, u2, u3]) #[u0, u1, u2, u3] (some 2) rfl rfl rfl rfl (fun b3 w3 g3 L3 q3 => ?_)
  replace q3 := Nat.le_trans (Below.size hB) q3
  replace hB := Gr.trans hB g3
  refine k2 _ _ ?_
  try clear k2 K2
  simp only [p1, p2, p3, p4]
  refine sq_eff rfl (by kernel_rfl) (fun K4 k4 => ?_)
  refine eff_box 31 _ (.agg #[v0, v1, v2, v3]) #[v0, v1, v2, v3] (some 3) rfl rfl rfl rfl (fun b5 w5 g5 L5 q5 => ?_)
  have ne3_5 := L3.ne q5
  replace q5 := Nat.le_trans (Below.size hB) q5
  replace hB := Gr.trans hB g5
  refine k4 _ _ ?_
  try clear k4 K4
  simp only [p1, p2, p3, p4]
  refine sq_val (some 4) (.bool false) rfl rfl (by kernel_rfl) (rvk (by kernel_rfl)) ?_
  simp only [p1, p2, p3, p4]
  refine sq_nil ?_
  refine k1 _ _ ?_
  try clear k1 K1
  refine wp_seq_k (fun K6 k6 => ?_)
  refine wp_region ?_
  simp only [List.size_toArray, List.length_cons, List.length_nil, Nat.reduceAdd, List.range, List.range.loop]
  replace L3 := L3.gr g5
  refine sq_val (some 5) (.agg #[u0, u1, u2, u3]) rfl rfl (by kernel_rfl) (rv_load 31 _ b3 0 _ _ [u0, u1, u2, u3] rfl rfl L3 rfl (by kernel_rfl)) ?_
  simp only [p1, p2, p3, p4]
  refine sq_val (some 6) (.agg #[v0, v1, v2, v3]) rfl rfl (by kernel_rfl) (rv_load 31 _ b5 0 _ _ [v0, v1, v2, v3] rfl rfl L5 rfl (by kernel_rfl)) ?_
  simp only [p1, p2, p3, p4]
  refine sq_eff rfl (by kernel_rfl) (fun K7 k7 => ?_)
  have kq9 := g3.kp.trans g5.kp
  replace ha := ha.kp kq9
  replace hb := hb.kp kq9
  refine eff_call (some 7) rfl (by kernel_rfl) (compare_r ha hb (by omega)) ?_
  rintro e8 w8 ⟨rfl, g8⟩
  refine ⟨_, rfl, ?_⟩
  replace hB := Gr.trans hB g8
  refine k7 _ _ ?_
  try clear k7 K7
  simp only [p1, p2, p3, p4]
  refine sq_val (some 8) (.bool ((rcmp a b == (0 : Int)))) rfl rfl (by kernel_rfl) (rvk (by kernel_rfl)) ?_
  simp only [p1, p2, p3, p4]
  refine sq_val (some 4) (.bool ((rcmp a b == (0 : Int)))) rfl rfl (by kernel_rfl) (rvk (by kernel_rfl)) ?_
  simp only [p1, p2, p3, p4]
  refine sq_nil ?_
  refine k6 _ _ ?_
  try clear k6 K6
  refine wp_ret ?_
  try simp only [Exit.then, Exit.inBlock]
  refine bodyPost_ret (v := (.bool ((rcmp a b == (0 : Int))))) (ret_tmp rfl rfl) rfl ⟨?_, hB⟩
  exact rfl

theorem lawAx0 (A0 A1 A2 A3 A4 A5 : Rat) (ha : (A0 = 0 ∧ A1 = 0 ∧ A2 = 0)) (hd : (A3 = 0 ∧ A4 = 0 ∧ A5 = 0)) : (vcmp A0 A1 A2 0 0 0 == (0 : Int)) = true := veq_t (by grind) (by grind) (by grind)
theorem lawAx1 (A0 A1 A2 A3 A4 A5 : Rat) (ha : (A0 = 0 ∧ A1 = 0 ∧ A2 = 0)) (hd : (A3 = 0 ∧ A4 = 0 ∧ A5 = 0)) : (vcmp A3 A4 A5 0 0 0 == (0 : Int)) = true := veq_t (by grind) (by grind) (by grind)
theorem lawAx2 (A0 A1 A2 A3 A4 A5 : Rat) (ha : (A0 = 0 ∧ A1 = 0 ∧ A2 = 0)) (hd : (A3 = 0 ∧ A4 = 0 ∧ A5 = 0)) : (vcmp (0 : Rat) (0 : Rat) (0 : Rat) 0 0 0 == (0 : Int)) = true := veq_t (by grind) (by grind) (by grind)
theorem lawAx3 (A0 A1 A2 A3 A4 A5 : Rat) (ha : (A0 = 0 ∧ A1 = 0 ∧ A2 = 0)) (hd : (A3 = 0 ∧ A4 = 0 ∧ A5 = 0)) : (sgn ((0 : Rat)).num == (0 : Int)) = true := sgne_t (by grind)
set_option maxRecDepth 100000 in
set_option maxHeartbeats 8000000 in
theorem axes_n (n0 n1 n2 n3 n4 n5 dd : Int) (in0 : -128 ≤ n0 ∧ n0 ≤ 127) (in1 : -128 ≤ n1 ∧ n1 ≤ 127) (in2 : -128 ≤ n2 ∧ n2 ≤ 127) (in3 : -128 ≤ n3 ∧ n3 ≤ 127) (in4 : -128 ≤ n4 ∧ n4 ≤ 127) (in5 : -128 ≤ n5 ∧ n5 ≤ 127) (idd : 0 ≤ dd ∧ dd ≤ 255) (A0 A1 A2 A3 A4 A5 : Rat) (eA0 : A0 = (((n0 : Int) : Rat) / ((1 + dd % 3 : Int) : Rat))) (eA1 : A1 = (((n1 : Int) : Rat) / ((1 + dd % 3 : Int) : Rat))) (eA2 : A2 = (((n2 : Int) : Rat) / ((1 + dd % 3 : Int) : Rat))) (eA3 : A3 = (((n3 : Int) : Rat) / ((1 + dd % 3 : Int) : Rat))) (eA4 : A4 = (((n4 : Int) : Rat) / ((1 + dd % 3 : Int) : Rat))) (eA5 : A5 = (((n5 : Int) : Rat) / ((1 + dd % 3 : Int) : Rat))) (w : World) (ht : Tab w)(ha : (A0 = 0 ∧ A1 = 0 ∧ A2 = 0)) (hd : (A3 = 0 ∧ A4 = 0 ∧ A5 = 0)) :
    Calls Tryd.prog 3 #[(.agg #[(.int .i8 (n0)), (.int .i8 (n1)), (.int .i8 (n2)), (.int .i8 (n3)), (.int .i8 (n4)), (.int .i8 (n5)), (.int .u8 (dd))])] w fun e w' => e = .returned (.bool true) ∧ Gr w w' := by
  go_enter Tryd.func3, Tryd.ntmps3
  have hB := Gr.refl w
  refine wp_seq_k (fun K1 k1 => ?_)
  refine wp_region ?_
  simp only [List.size_toArray, List.length_cons, List.length_nil, Nat.reduceAdd, List.range, List.range.loop]
  refine sq_eff rfl (by kernel_rfl) (fun K2 k2 => ?_)
  refine eff_box 25 _ (.agg #[(.int .i8 (n0)), (.int .i8 (n1)), (.int .i8 (n2)), (.int .i8 (n3)), (.int .i8 (n4)), (.int .i8 (n5)), (.int .u8 (dd))]) #[(.int .i8 (n0)), (.int .i8 (n1)), (.int .i8 (n2)), (.int .i8 (n3)), (.int .i8 (n4)), (.int .i8 (n5)), (.int .u8 (dd))] (some 1) rfl rfl rfl rfl (fun b3 w3 g3 L3 q3 => ?_)
  replace q3 := Nat.le_trans (Below.size hB) q3
  replace hB := Gr.trans hB g3
  refine k2 _ _ ?_
  try clear k2 K2
  simp only [p1, p2, p3, p4]
  refine sq_val (some 2) (.bool false) rfl rfl (by kernel_rfl) (rvk (by kernel_rfl)) ?_
  simp only [p1, p2, p3, p4]
  refine sq_nil ?_
  refine k1 _ _ ?_
  try clear k1 K1
  refine wp_seq_k (fun K4 k4 => ?_)
  refine wp_seq_k (fun K5 k5 => ?_)
  refine wp_region ?_
  simp only [List.size_toArray, List.length_cons, List.length_nil, Nat.reduceAdd, List.range, List.range.loop]
  refine sq_eff rfl (by kernel_rfl) (fun K6 k6 => ?_)
  refine eff_call (some 15) rfl (by kernel_rfl) (known_t _ (ht.gr hB)) ?_
  rintro e7 w7 ⟨rfl, g7⟩
  refine ⟨_, rfl, ?_⟩
  replace hB := Gr.trans hB g7
  refine k6 _ _ ?_
  try clear k6 K6
  simp only [p1, p2, p3, p4]
  refine sq_val (some 16) (.bool false) rfl rfl (by kernel_rfl) (rvk (by kernel_rfl)) ?_
  simp only [p1, p2, p3, p4]
  refine sq_nil ?_
  refine k5 _ _ ?_
  try clear k5 K5
  refine wp_cond_false rfl ?_
  refine wp_skip ?_
  refine k4 _ _ ?_
  try clear k4 K4
  refine wp_seq_k (fun K8 k8 => ?_)
  refine wp_region ?_
  simp only [List.size_toArray, List.length_cons, List.length_nil, Nat.reduceAdd, List.range, List.range.loop]
  replace L3 := L3.gr g7
  refine sq_val (some 17) (.agg #[(.int .i8 (n0)), (.int .i8 (n1)), (.int .i8 (n2)), (.int .i8 (n3)), (.int .i8 (n4)), (.int .i8 (n5)), (.int .u8 (dd))]) rfl rfl (by kernel_rfl) (rv_load 25 _ b3 0 _ _ [(.int .i8 (n0)), (.int .i8 (n1)), (.int .i8 (n2)), (.int .i8 (n3)), (.int .i8 (n4)), (.int .i8 (n5)), (.int .u8 (dd))] rfl rfl L3 rfl (by kernel_rfl)) ?_
  simp only [p1, p2, p3, p4]
  refine sq_eff rfl (by kernel_rfl) (fun K9 k9 => ?_)
  refine eff_call (some 18) rfl (by kernel_rfl) (of_v (n0) (n1) (n2) (n3) (n4) (n5) (dd) (by omega) (by omega) (by omega) (by omega) (by omega) (by omega) (by omega) _) ?_
  rintro e10 w10 ⟨⟨t10_0, t10_1, t10_2, t10_3, t10_4, t10_5, t10_6, t10_7, t10_8, t10_9, t10_10, t10_11, t10_12, t10_13, t10_14, t10_15, t10_16, t10_17, t10_18, t10_19, t10_20, t10_21, t10_22, t10_23, rfl, h10a, h10b, h10c, h10d, h10e, h10f⟩, g10⟩
  refine ⟨_, rfl, ?_⟩
  replace hB := Gr.trans hB g10
  rw [← eA0] at h10a
  rw [← eA1] at h10b
  rw [← eA2] at h10c
  rw [← eA3] at h10d
  rw [← eA4] at h10e
  rw [← eA5] at h10f
  refine k9 _ _ ?_
  try clear k9 K9
  simp only [p1, p2, p3, p4]
  refine sq_eff rfl (by kernel_rfl) (fun K11 k11 => ?_)
  refine eff_alloc 35 (.agg #[(.bool false), (.slice none 0 0), (.bool false), (.slice none 0 0), (.bool false), (.slice none 0 0), (.bool false), (.slice none 0 0), (.bool false), (.slice none 0 0), (.bool false), (.slice none 0 0), (.bool false), (.slice none 0 0), (.bool false), (.slice none 0 0), (.bool false), (.slice none 0 0), (.bool false), (.slice none 0 0), (.bool false), (.slice none 0 0), (.bool false), (.slice none 0 0)]) #[(.bool false), (.slice none 0 0), (.bool false), (.slice none 0 0), (.bool false), (.slice none 0 0), (.bool false), (.slice none 0 0), (.bool false), (.slice none 0 0), (.bool false), (.slice none 0 0), (.bool false), (.slice none 0 0), (.bool false), (.slice none 0 0), (.bool false), (.slice none 0 0), (.bool false), (.slice none 0 0), (.bool false), (.slice none 0 0), (.bool false), (.slice none 0 0)] (some 3) rfl rfl (by kernel_rfl) rfl (fun b12 w12 g12 L12 q12 => ?_)
  replace L3 := L3.gr g10
  have ne3_12 := L3.ne q12
  replace q12 := Nat.le_trans (Below.size hB) q12
  replace hB := Gr.trans hB g12
  refine k11 _ _ ?_
  try clear k11 K11
  simp only [p1, p2, p3, p4]
  refine sq_eff rfl (by kernel_rfl) (fun K13 k13 => ?_)
  refine eff_store 35 _ _ b12 0 (.agg #[t10_0, t10_1, t10_2, t10_3, t10_4, t10_5, t10_6, t10_7, t10_8, t10_9, t10_10, t10_11, t10_12, t10_13, t10_14, t10_15, t10_16, t10_17, t10_18, t10_19, t10_20, t10_21, t10_22, t10_23]) [t10_0, t10_1, t10_2, t10_3, t10_4, t10_5, t10_6, t10_7, t10_8, t10_9, t10_10, t10_11, t10_12, t10_13, t10_14, t10_15, t10_16, t10_17, t10_18, t10_19, t10_20, t10_21, t10_22, t10_23] _ #[t10_0, t10_1, t10_2, t10_3, t10_4, t10_5, t10_6, t10_7, t10_8, t10_9, t10_10, t10_11, t10_12, t10_13, t10_14, t10_15, t10_16, t10_17, t10_18, t10_19, t10_20, t10_21, t10_22, t10_23] _ rfl rfl rfl rfl rfl L12 (by kernel_rfl) (Nat.le_of_ble_eq_true rfl) ⟨h10a.one0, h10a.one1, h10a.one2, h10a.one3, h10b.one0, h10b.one1, h10b.one2, h10b.one3, h10c.one0, h10c.one1, h10c.one2, h10c.one3, h10d.one0, h10d.one1, h10d.one2, h10d.one3, h10e.one0, h10e.one1, h10e.one2, h10e.one3, h10f.one0, h10f.one1, h10f.one2, h10f.one3, trivial⟩ (by kernel_rfl) (fun w14 st14 N14 => ?_)
  have kp14 := st14.kp L12 (by decide)
  replace hB := st14.gr hB q12
  replace L12 := N14
  refine k13 _ _ ?_
  try clear k13 K13
  refine sq_nil ?_
  refine k8 _ _ ?_
  try clear k8 K8
  refine wp_seq_k (fun K15 k15 => ?_)
  refine wp_region ?_
  simp only [List.size_toArray, List.length_cons, List.length_nil, Nat.reduceAdd, List.range, List.range.loop]
  refine sq_val (some 19) (.agg #[t10_0, t10_1, t10_2, t10_3, t10_4, t10_5, t10_6, t10_7, t10_8, t10_9, t10_10, t10_11, t10_12, t10_13, t10_14, t10_15, t10_16, t10_17, t10_18, t10_19, t10_20, t10_21, t10_22, t10_23]) rfl rfl (by kernel_rfl) (rv_load 35 _ b12 0 _ _ [t10_0, t10_1, t10_2, t10_3, t10_4, t10_5, t10_6, t10_7, t10_8, t10_9, t10_10, t10_11, t10_12, t10_13, t10_14, t10_15, t10_16, t10_17, t10_18, t10_19, t10_20, t10_21, t10_22, t10_23] rfl rfl L12 rfl (by kernel_rfl)) ?_
  simp only [p1, p2, p3, p4]
  refine sq_eff rfl (by kernel_rfl) (fun K16 k16 => ?_)
  have kq18 := g12.kp.trans kp14
  replace h10a := h10a.kp kq18
  replace h10b := h10b.kp kq18
  replace h10c := h10c.kp kq18
  replace h10d := h10d.kp kq18
  replace h10e := h10e.kp kq18
  replace h10f := h10f.kp kq18
  refine eff_call (some 20) rfl (by kernel_rfl) (axis_n h10a h10b h10c h10d h10e h10f (by omega) ha hd) ?_
  rintro e17 w17 ⟨⟨t17_0, t17_1, t17_2, t17_3, t17_4, t17_5, t17_6, t17_7, t17_8, t17_9, t17_10, t17_11, t17_12, t17_13, t17_14, t17_15, t17_16, t17_17, t17_18, t17_19, t17_20, t17_21, t17_22, t17_23, t17_24, t17_25, t17_26, t17_27, rfl, h17a, h17b, h17c, h17d, h17e, h17f, h17g⟩, g17⟩
  refine ⟨_, rfl, ?_⟩
  replace hB := Gr.trans hB g17
  refine k16 _ _ ?_
  try clear k16 K16
  simp only [p1, p2, p3, p4]
  refine sq_eff rfl (by kernel_rfl) (fun K19 k19 => ?_)
  refine eff_alloc 38 (.agg #[(.int .i64 0), (.bool false), (.slice none 0 0), (.bool false), (.slice none 0 0), (.bool false), (.slice none 0 0), (.bool false), (.slice none 0 0), (.bool false), (.slice none 0 0), (.bool false), (.slice none 0 0), (.bool false), (.slice none 0 0), (.bool false), (.slice none 0 0), (.bool false), (.slice none 0 0), (.bool false), (.slice none 0 0), (.bool false), (.slice none 0 0), (.bool false), (.slice none 0 0), (.bool false), (.slice none 0 0), (.bool false), (.slice none 0 0)]) #[(.int .i64 0), (.bool false), (.slice none 0 0), (.bool false), (.slice none 0 0), (.bool false), (.slice none 0 0), (.bool false), (.slice none 0 0), (.bool false), (.slice none 0 0), (.bool false), (.slice none 0 0), (.bool false), (.slice none 0 0), (.bool false), (.slice none 0 0), (.bool false), (.slice none 0 0), (.bool false), (.slice none 0 0), (.bool false), (.slice none 0 0), (.bool false), (.slice none 0 0), (.bool false), (.slice none 0 0), (.bool false), (.slice none 0 0)] (some 4) rfl rfl (by kernel_rfl) rfl (fun b20 w20 g20 L20 q20 => ?_)
  replace L3 := (st14.lc (L3.gr g12) ne3_12).gr g17
  have ne3_20 := L3.ne q20
  replace L12 := L12.gr g17
  have ne12_20 := L12.ne q20
  replace q20 := Nat.le_trans (Below.size hB) q20
  replace hB := Gr.trans hB g20
  refine k19 _ _ ?_
  try clear k19 K19
  simp only [p1, p2, p3, p4]
  refine sq_eff rfl (by kernel_rfl) (fun K21 k21 => ?_)
  refine eff_store 38 _ _ b20 0 (.agg #[(.int .i64 0), t17_0, t17_1, t17_2, t17_3, t17_4, t17_5, t17_6, t17_7, t17_8, t17_9, t17_10, t17_11, t17_12, t17_13, t17_14, t17_15, t17_16, t17_17, t17_18, t17_19, t17_20, t17_21, t17_22, t17_23, t17_24, t17_25, t17_26, t17_27]) [(.int .i64 0), t17_0, t17_1, t17_2, t17_3, t17_4, t17_5, t17_6, t17_7, t17_8, t17_9, t17_10, t17_11, t17_12, t17_13, t17_14, t17_15, t17_16, t17_17, t17_18, t17_19, t17_20, t17_21, t17_22, t17_23, t17_24, t17_25, t17_26, t17_27] _ #[(.int .i64 0), t17_0, t17_1, t17_2, t17_3, t17_4, t17_5, t17_6, t17_7, t17_8, t17_9, t17_10, t17_11, t17_12, t17_13, t17_14, t17_15, t17_16, t17_17, t17_18, t17_19, t17_20, t17_21, t17_22, t17_23, t17_24, t17_25, t17_26, t17_27] _ rfl rfl rfl rfl rfl L20 (by kernel_rfl) (Nat.le_of_ble_eq_true rfl) ⟨rfl, h17a.one0, h17a.one1, h17a.one2, h17a.one3, h17b.one0, h17b.one1, h17b.one2, h17b.one3, h17c.one0, h17c.one1, h17c.one2, h17c.one3, h17d.one0, h17d.one1, h17d.one2, h17d.one3, h17e.one0, h17e.one1, h17e.one2, h17e.one3, h17f.one0, h17f.one1, h17f.one2, h17f.one3, h17g.one0, h17g.one1, h17g.one2, h17g.one3, trivial⟩ (by kernel_rfl) (fun w22 st22 N22 => ?_)
  have kp22 := st22.kp L20 (by decide)
  replace hB := st22.gr hB q20
  replace L20 := N22
  refine k21 _ _ ?_
  try clear k21 K21
  refine sq_nil ?_
  refine k15 _ _ ?_
  try clear k15 K15
  refine wp_seq_k (fun K23 k23 => ?_)
  refine wp_block ?_
  refine wp_seq_k (fun K24 k24 => ?_)
  refine wp_region ?_
  simp only [List.size_toArray, List.length_cons, List.length_nil, Nat.reduceAdd, List.range, List.range.loop]
  refine sq_val (some 22) (.pointer (some ⟨b12, 0, none⟩)) rfl rfl (by kernel_rfl) (rvk (by kernel_rfl)) ?_
  simp only [p1, p2, p3, p4]
  replace L12 := st22.lc (L12.gr g20) ne12_20
  refine sq_val (some 23) (.agg #[t10_0, t10_1, t10_2, t10_3, t10_4, t10_5, t10_6, t10_7, t10_8, t10_9, t10_10, t10_11]) rfl rfl (by kernel_rfl) (rv_load 33 _ b12 0 _ _ [t10_0, t10_1, t10_2, t10_3, t10_4, t10_5, t10_6, t10_7, t10_8, t10_9, t10_10, t10_11] rfl rfl L12 rfl (by kernel_rfl)) ?_
  simp only [p1, p2, p3, p4]
  refine sq_eff rfl (by kernel_rfl) (fun K25 k25 => ?_)
  have kq27 := g17.kp.trans (g20.kp.trans kp22)
  replace h10a := h10a.kp kq27
  replace h10b := h10b.kp kq27
  replace h10c := h10c.kp kq27
  refine eff_call (some 24) rfl (by kernel_rfl) (vzero_v h10a h10b h10c (by omega)) ?_
  rintro e26 w26 ⟨rfl, g26⟩
  refine ⟨_, rfl, ?_⟩
  replace hB := Gr.trans hB g26
  refine k25 _ _ ?_
  try clear k25 K25
  simp only [p1, p2, p3, p4]
  have hb28 : (vcmp A0 A1 A2 0 0 0 == (0 : Int)) = true := (lawAx0 A0 A1 A2 A3 A4 A5 ha hd)
  refine sq_val (some 25) (.bool true) rfl rfl (by kernel_rfl) (RunV.bool (x := vcmp A0 A1 A2 0 0 0 == (0 : Int)) (rvk (by kernel_rfl)) hb28) ?_
  simp only [p1, p2, p3, p4]
  refine sq_val (some 26) (.pointer (some ⟨b12, 12, none⟩)) rfl rfl (by kernel_rfl) (rvk (by kernel_rfl)) ?_
  simp only [p1, p2, p3, p4]
  replace L12 := L12.gr g26
  refine sq_val (some 27) (.agg #[t10_12, t10_13, t10_14, t10_15, t10_16, t10_17, t10_18, t10_19, t10_20, t10_21, t10_22, t10_23]) rfl rfl (by kernel_rfl) (rv_load 33 _ b12 12 _ _ [t10_12, t10_13, t10_14, t10_15, t10_16, t10_17, t10_18, t10_19, t10_20, t10_21, t10_22, t10_23] rfl rfl L12 rfl (by kernel_rfl)) ?_
  simp only [p1, p2, p3, p4]
  refine sq_eff rfl (by kernel_rfl) (fun K29 k29 => ?_)
  have kq31 := g17.kp.trans (g20.kp.trans (kp22.trans g26.kp))
  replace h10d := h10d.kp kq31
  replace h10e := h10e.kp kq31
  replace h10f := h10f.kp kq31
  refine eff_call (some 28) rfl (by kernel_rfl) (vzero_v h10d h10e h10f (by omega)) ?_
  rintro e30 w30 ⟨rfl, g30⟩
  refine ⟨_, rfl, ?_⟩
  replace hB := Gr.trans hB g30
  refine k29 _ _ ?_
  try clear k29 K29
  simp only [p1, p2, p3, p4]
  have hb32 : (vcmp A3 A4 A5 0 0 0 == (0 : Int)) = true := (lawAx1 A0 A1 A2 A3 A4 A5 ha hd)
  refine sq_val (some 29) (.bool true) rfl rfl (by kernel_rfl) (RunV.bool (x := vcmp A3 A4 A5 0 0 0 == (0 : Int)) (rvk (by kernel_rfl)) hb32) ?_
  simp only [p1, p2, p3, p4]
  refine sq_val (some 21) (.bool true) rfl rfl (by kernel_rfl) (rvk (by kernel_rfl)) ?_
  simp only [p1, p2, p3, p4]
  refine sq_nil ?_
  refine k24 _ _ ?_
  try clear k24 K24
  refine wp_cond_true rfl ?_
  refine wp_seq_k (fun K33 k33 => ?_)
  refine wp_region ?_
  simp only [List.size_toArray, List.length_cons, List.length_nil, Nat.reduceAdd, List.range, List.range.loop]
  refine sq_val (some 30) (.pointer (some ⟨b20, 0, none⟩)) rfl rfl (by kernel_rfl) (rvk (by kernel_rfl)) ?_
  simp only [p1, p2, p3, p4]
  replace L20 := L20.gr (g26.trans g30)
  refine sq_val (some 31) (.int .i64 0) rfl rfl (by kernel_rfl) (rv_load1 3 _ b20 0 _ _ (.int .i64 0) rfl rfl L20 rfl (by kernel_rfl)) ?_
  simp only [p1, p2, p3, p4]
  refine sq_val (some 32) (.bool true) rfl rfl (by kernel_rfl) (rvk (by kernel_rfl)) ?_
  simp only [p1, p2, p3, p4]
  refine sq_val (some 33) (.bool true) rfl rfl (by kernel_rfl) (rvk (by kernel_rfl)) ?_
  simp only [p1, p2, p3, p4]
  refine sq_val (some 34) (.pointer (some ⟨b20, 1, none⟩)) rfl rfl (by kernel_rfl) (rvk (by kernel_rfl)) ?_
  simp only [p1, p2, p3, p4]
  refine sq_val (some 35) (.agg #[t17_0, t17_1, t17_2, t17_3, t17_4, t17_5, t17_6, t17_7, t17_8, t17_9, t17_10, t17_11]) rfl rfl (by kernel_rfl) (rv_load 33 _ b20 1 _ _ [t17_0, t17_1, t17_2, t17_3, t17_4, t17_5, t17_6, t17_7, t17_8, t17_9, t17_10, t17_11] rfl rfl L20 rfl (by kernel_rfl)) ?_
  simp only [p1, p2, p3, p4]
  refine sq_eff rfl (by kernel_rfl) (fun K34 k34 => ?_)
  have kq36 := g20.kp.trans (kp22.trans (g26.kp.trans g30.kp))
  replace h17a := h17a.kp kq36
  replace h17b := h17b.kp kq36
  replace h17c := h17c.kp kq36
  refine eff_call (some 36) rfl (by kernel_rfl) (vzero_v h17a h17b h17c (by omega)) ?_
  rintro e35 w35 ⟨rfl, g35⟩
  refine ⟨_, rfl, ?_⟩
  replace hB := Gr.trans hB g35
  refine k34 _ _ ?_
  try clear k34 K34
  simp only [p1, p2, p3, p4]
  have hb37 : (vcmp (0 : Rat) (0 : Rat) (0 : Rat) 0 0 0 == (0 : Int)) = true := (lawAx2 A0 A1 A2 A3 A4 A5 ha hd)
  refine sq_val (some 37) (.bool true) rfl rfl (by kernel_rfl) (RunV.bool (x := vcmp (0 : Rat) (0 : Rat) (0 : Rat) 0 0 0 == (0 : Int)) (rvk (by kernel_rfl)) hb37) ?_
  simp only [p1, p2, p3, p4]
  refine sq_val (some 38) (.bool true) rfl rfl (by kernel_rfl) (rvk (by kernel_rfl)) ?_
  simp only [p1, p2, p3, p4]
  refine sq_val (some 39) (.pointer (some ⟨b20, 13, none⟩)) rfl rfl (by kernel_rfl) (rvk (by kernel_rfl)) ?_
  simp only [p1, p2, p3, p4]
  replace L20 := L20.gr g35
  refine sq_val (some 40) (.agg #[t17_12, t17_13, t17_14, t17_15, t17_16, t17_17, t17_18, t17_19, t17_20, t17_21, t17_22, t17_23]) rfl rfl (by kernel_rfl) (rv_load 33 _ b20 13 _ _ [t17_12, t17_13, t17_14, t17_15, t17_16, t17_17, t17_18, t17_19, t17_20, t17_21, t17_22, t17_23] rfl rfl L20 rfl (by kernel_rfl)) ?_
  simp only [p1, p2, p3, p4]
  refine sq_eff rfl (by kernel_rfl) (fun K38 k38 => ?_)
  have kq40 := g20.kp.trans (kp22.trans (g26.kp.trans (g30.kp.trans g35.kp)))
  replace h17d := h17d.kp kq40
  replace h17e := h17e.kp kq40
  replace h17f := h17f.kp kq40
  refine eff_call (some 41) rfl (by kernel_rfl) (vzero_v h17d h17e h17f (by omega)) ?_
  rintro e39 w39 ⟨rfl, g39⟩
  refine ⟨_, rfl, ?_⟩
  replace hB := Gr.trans hB g39
  refine k38 _ _ ?_
  try clear k38 K38
  simp only [p1, p2, p3, p4]
  refine sq_val (some 42) (.bool true) rfl rfl (by kernel_rfl) (RunV.bool (x := vcmp (0 : Rat) (0 : Rat) (0 : Rat) 0 0 0 == (0 : Int)) (rvk (by kernel_rfl)) hb37) ?_
  simp only [p1, p2, p3, p4]
  refine sq_val (some 43) (.bool true) rfl rfl (by kernel_rfl) (rvk (by kernel_rfl)) ?_
  simp only [p1, p2, p3, p4]
  refine sq_val (some 44) (.pointer (some ⟨b20, 25, none⟩)) rfl rfl (by kernel_rfl) (rvk (by kernel_rfl)) ?_
  simp only [p1, p2, p3, p4]
  replace L20 := L20.gr g39
  refine sq_val (some 45) (.agg #[t17_24, t17_25, t17_26, t17_27]) rfl rfl (by kernel_rfl) (rv_load 31 _ b20 25 _ _ [t17_24, t17_25, t17_26, t17_27] rfl rfl L20 rfl (by kernel_rfl)) ?_
  simp only [p1, p2, p3, p4]
  refine sq_eff rfl (by kernel_rfl) (fun K41 k41 => ?_)
  have kq43 := g20.kp.trans (kp22.trans (g26.kp.trans (g30.kp.trans (g35.kp.trans g39.kp))))
  replace h17g := h17g.kp kq43
  refine eff_call (some 46) rfl (by kernel_rfl) (sign_r h17g) ?_
  rintro e42 w42 ⟨rfl, g42⟩
  refine ⟨_, rfl, ?_⟩
  replace hB := Gr.trans hB g42
  refine k41 _ _ ?_
  try clear k41 K41
  simp only [p1, p2, p3, p4]
  have hb44 : ((sgn ((0 : Rat)).num == (0 : Int))) = true := (lawAx3 A0 A1 A2 A3 A4 A5 ha hd)
  refine sq_val (some 47) (.bool true) rfl rfl (by kernel_rfl) (RunV.bool (x := (sgn ((0 : Rat)).num == (0 : Int))) (rvk (by kernel_rfl)) hb44) ?_
  simp only [p1, p2, p3, p4]
  refine sq_val (some 48) (.bool true) rfl rfl (by kernel_rfl) (rvk (by kernel_rfl)) ?_
  simp only [p1, p2, p3, p4]
  refine sq_val (some 2) (.bool true) rfl rfl (by kernel_rfl) (rvk (by kernel_rfl)) ?_
  simp only [p1, p2, p3, p4]
  refine sq_nil ?_
  refine k33 _ _ ?_
  try clear k33 K33
  refine wp_ret ?_
  try simp only [Exit.then, Exit.inBlock]
  refine bodyPost_ret (v := (.bool true)) (ret_tmp rfl rfl) rfl ⟨?_, hB⟩
  exact rfl

theorem lawAx4 (A0 A1 A2 A3 A4 A5 : Rat) (ha : (A0 = 0 ∧ A1 = 0 ∧ A2 = 0)) (hd : ¬(A3 = 0 ∧ A4 = 0 ∧ A5 = 0)) : (vcmp A0 A1 A2 0 0 0 == (0 : Int)) = true := veq_t (by grind) (by grind) (by grind)
theorem lawAx5 (A0 A1 A2 A3 A4 A5 : Rat) (ha : (A0 = 0 ∧ A1 = 0 ∧ A2 = 0)) (hd : ¬(A3 = 0 ∧ A4 = 0 ∧ A5 = 0)) : (vcmp A3 A4 A5 0 0 0 == (0 : Int)) = false := veq_f (by grind)
theorem lawAx6 (A0 A1 A2 A3 A4 A5 : Rat) (ha : (A0 = 0 ∧ A1 = 0 ∧ A2 = 0)) (hd : ¬(A3 = 0 ∧ A4 = 0 ∧ A5 = 0)) : (vcmp (prim (A3) (A4) (A5) (A3)) (prim (A3) (A4) (A5) (A4)) (prim (A3) (A4) (A5) (A5)) (prim (A3) (A4) (A5) (A3)) (prim (A3) (A4) (A5) (A4)) (prim (A3) (A4) (A5) (A5)) == (0 : Int)) = true := veq_t rfl rfl rfl
theorem lawAx7 (A0 A1 A2 A3 A4 A5 : Rat) (ha : (A0 = 0 ∧ A1 = 0 ∧ A2 = 0)) (hd : ¬(A3 = 0 ∧ A4 = 0 ∧ A5 = 0)) : (vcmp (0 : Rat) (0 : Rat) (0 : Rat) 0 0 0 == (0 : Int)) = true := veq_t (by grind) (by grind) (by grind)
theorem lawAx8 (A0 A1 A2 A3 A4 A5 : Rat) (ha : (A0 = 0 ∧ A1 = 0 ∧ A2 = 0)) (hd : ¬(A3 = 0 ∧ A4 = 0 ∧ A5 = 0)) : (sgn ((0 : Rat)).num == (0 : Int)) = true := sgne_t (by grind)
set_option maxRecDepth 100000 in
set_option maxHeartbeats 8000000 in
theorem axes_t (n0 n1 n2 n3 n4 n5 dd : Int) (in0 : -128 ≤ n0 ∧ n0 ≤ 127) (in1 : -128 ≤ n1 ∧ n1 ≤ 127) (in2 : -128 ≤ n2 ∧ n2 ≤ 127) (in3 : -128 ≤ n3 ∧ n3 ≤ 127) (in4 : -128 ≤ n4 ∧ n4 ≤ 127) (in5 : -128 ≤ n5 ∧ n5 ≤ 127) (idd : 0 ≤ dd ∧ dd ≤ 255) (A0 A1 A2 A3 A4 A5 : Rat) (eA0 : A0 = (((n0 : Int) : Rat) / ((1 + dd % 3 : Int) : Rat))) (eA1 : A1 = (((n1 : Int) : Rat) / ((1 + dd % 3 : Int) : Rat))) (eA2 : A2 = (((n2 : Int) : Rat) / ((1 + dd % 3 : Int) : Rat))) (eA3 : A3 = (((n3 : Int) : Rat) / ((1 + dd % 3 : Int) : Rat))) (eA4 : A4 = (((n4 : Int) : Rat) / ((1 + dd % 3 : Int) : Rat))) (eA5 : A5 = (((n5 : Int) : Rat) / ((1 + dd % 3 : Int) : Rat))) (w : World) (ht : Tab w)(ha : (A0 = 0 ∧ A1 = 0 ∧ A2 = 0)) (hd : ¬(A3 = 0 ∧ A4 = 0 ∧ A5 = 0)) :
    Calls Tryd.prog 3 #[(.agg #[(.int .i8 (n0)), (.int .i8 (n1)), (.int .i8 (n2)), (.int .i8 (n3)), (.int .i8 (n4)), (.int .i8 (n5)), (.int .u8 (dd))])] w fun e w' => e = .returned (.bool true) ∧ Gr w w' := by
  go_enter Tryd.func3, Tryd.ntmps3
  have hB := Gr.refl w
  refine wp_seq_k (fun K1 k1 => ?_)
  refine wp_region ?_
  simp only [List.size_toArray, List.length_cons, List.length_nil, Nat.reduceAdd, List.range, List.range.loop]
  refine sq_eff rfl (by kernel_rfl) (fun K2 k2 => ?_)
  refine eff_box 25 _ (.agg #[(.int .i8 (n0)), (.int .i8 (n1)), (.int .i8 (n2)), (.int .i8 (n3)), (.int .i8 (n4)), (.int .i8 (n5)), (.int .u8 (dd))]) #[(.int .i8 (n0)), (.int .i8 (n1)), (.int .i8 (n2)), (.int .i8 (n3)), (.int .i8 (n4)), (.int .i8 (n5)), (.int .u8 (dd))] (some 1) rfl rfl rfl rfl (fun b3 w3 g3 L3 q3 => ?_)
  replace q3 := Nat.le_trans (Below.size hB) q3
  replace hB := Gr.trans hB g3
  refine k2 _ _ ?_
  try clear k2 K2
  simp only [p1, p2, p3, p4]
  refine sq_val (some 2) (.bool false) rfl rfl (by kernel_rfl) (rvk (by kernel_rfl)) ?_
  simp only [p1, p2, p3, p4]
  refine sq_nil ?_
  refine k1 _ _ ?_
  try clear k1 K1
  refine wp_seq_k (fun K4 k4 => ?_)
  refine wp_seq_k (fun K5 k5 => ?_)
  refine wp_region ?_
  simp only [List.size_toArray, List.length_cons, List.length_nil, Nat.reduceAdd, List.range, List.range.loop]
  refine sq_eff rfl (by kernel_rfl) (fun K6 k6 => ?_)
  refine eff_call (some 15) rfl (by kernel_rfl) (known_t _ (ht.gr hB)) ?_
  rintro e7 w7 ⟨rfl, g7⟩
  refine ⟨_, rfl, ?_⟩
  replace hB := Gr.trans hB g7
  refine k6 _ _ ?_
  try clear k6 K6
  simp only [p1, p2, p3, p4]
  refine sq_val (some 16) (.bool false) rfl rfl (by kernel_rfl) (rvk (by kernel_rfl)) ?_
  simp only [p1, p2, p3, p4]
  refine sq_nil ?_
  refine k5 _ _ ?_
  try clear k5 K5
  refine wp_cond_false rfl ?_
  refine wp_skip ?_
  refine k4 _ _ ?_
  try clear k4 K4
  refine wp_seq_k (fun K8 k8 => ?_)
  refine wp_region ?_
  simp only [List.size_toArray, List.length_cons, List.length_nil, Nat.reduceAdd, List.range, List.range.loop]
  replace L3 := L3.gr g7
  refine sq_val (some 17) (.agg #[(.int .i8 (n0)), (.int .i8 (n1)), (.int .i8 (n2)), (.int .i8 (n3)), (.int .i8 (n4)), (.int .i8 (n5)), (.int .u8 (dd))]) rfl rfl (by kernel_rfl) (rv_load 25 _ b3 0 _ _ [(.int .i8 (n0)), (.int .i8 (n1)), (.int .i8 (n2)), (.int .i8 (n3)), (.int .i8 (n4)), (.int .i8 (n5)), (.int .u8 (dd))] rfl rfl L3 rfl (by kernel_rfl)) ?_
  simp only [p1, p2, p3, p4]
  refine sq_eff rfl (by kernel_rfl) (fun K9 k9 => ?_)
  refine eff_call (some 18) rfl (by kernel_rfl) (of_v (n0) (n1) (n2) (n3) (n4) (n5) (dd) (by omega) (by omega) (by omega) (by omega) (by omega) (by omega) (by omega) _) ?_
  rintro e10 w10 ⟨⟨t10_0, t10_1, t10_2, t10_3, t10_4, t10_5, t10_6, t10_7, t10_8, t10_9, t10_10, t10_11, t10_12, t10_13, t10_14, t10_15, t10_16, t10_17, t10_18, t10_19, t10_20, t10_21, t10_22, t10_23, rfl, h10a, h10b, h10c, h10d, h10e, h10f⟩, g10⟩
  refine ⟨_, rfl, ?_⟩
  replace hB := Gr.trans hB g10
  rw [← eA0] at h10a
  rw [← eA1] at h10b
  rw [← eA2] at h10c
  rw [← eA3] at h10d
  rw [← eA4] at h10e
  rw [← eA5] at h10f
  refine k9 _ _ ?_
  try clear k9 K9
  simp only [p1, p2, p3, p4]
  refine sq_eff rfl (by kernel_rfl) (fun K11 k11 => ?_)
  refine eff_alloc 35 (.agg #[(.bool false), (.slice none 0 0), (.bool false), (.slice none 0 0), (.bool false), (.slice none 0 0), (.bool false), (.slice none 0 0), (.bool false), (.slice none 0 0), (.bool false), (.slice none 0 0), (.bool false), (.slice none 0 0), (.bool false), (.slice none 0 0), (.bool false), (.slice none 0 0), (.bool false), (.slice none 0 0), (.bool false), (.slice none 0 0), (.bool false), (.slice none 0 0)]) #[(.bool false), (.slice none 0 0), (.bool false), (.slice none 0 0), (.bool false), (.slice none 0 0), (.bool false), (.slice none 0 0), (.bool false), (.slice none 0 0), (.bool false), (.slice none 0 0), (.bool false), (.slice none 0 0), (.bool false), (.slice none 0 0), (.bool false), (.slice none 0 0), (.bool false), (.slice none 0 0), (.bool false), (.slice none 0 0), (.bool false), (.slice none 0 0)] (some 3) rfl rfl (by kernel_rfl) rfl (fun b12 w12 g12 L12 q12 => ?_)
  replace L3 := L3.gr g10
  have ne3_12 := L3.ne q12
  replace q12 := Nat.le_trans (Below.size hB) q12
  replace hB := Gr.trans hB g12
  refine k11 _ _ ?_
  try clear k11 K11
  simp only [p1, p2, p3, p4]
  refine sq_eff rfl (by kernel_rfl) (fun K13 k13 => ?_)
  refine eff_store 35 _ _ b12 0 (.agg #[t10_0, t10_1, t10_2, t10_3, t10_4, t10_5, t10_6, t10_7, t10_8, t10_9, t10_10, t10_11, t10_12, t10_13, t10_14, t10_15, t10_16, t10_17, t10_18, t10_19, t10_20, t10_21, t10_22, t10_23]) [t10_0, t10_1, t10_2, t10_3, t10_4, t10_5, t10_6, t10_7, t10_8, t10_9, t10_10, t10_11, t10_12, t10_13, t10_14, t10_15, t10_16, t10_17, t10_18, t10_19, t10_20, t10_21, t10_22, t10_23] _ #[t10_0, t10_1, t10_2, t10_3, t10_4, t10_5, t10_6, t10_7, t10_8, t10_9, t10_10, t10_11, t10_12, t10_13, t10_14, t10_15, t10_16, t10_17, t10_18, t10_19, t10_20, t10_21, t10_22, t10_23] _ rfl rfl rfl rfl rfl L12 (by kernel_rfl) (Nat.le_of_ble_eq_true rfl) ⟨h10a.one0, h10a.one1, h10a.one2, h10a.one3, h10b.one0, h10b.one1, h10b.one2, h10b.one3, h10c.one0, h10c.one1, h10c.one2, h10c.one3, h10d.one0, h10d.one1, h10d.one2, h10d.one3, h10e.one0, h10e.one1, h10e.one2, h10e.one3, h10f.one0, h10f.one1, h10f.one2, h10f.one3, trivial⟩ (by kernel_rfl) (fun w14 st14 N14 => ?_)
  have kp14 := st14.kp L12 (by decide)
  replace hB := st14.gr hB q12
  replace L12 := N14
  refine k13 _ _ ?_
  try clear k13 K13
  refine sq_nil ?_
  refine k8 _ _ ?_
  try clear k8 K8
  refine wp_seq_k (fun K15 k15 => ?_)
  refine wp_region ?_
  simp only [List.size_toArray, List.length_cons, List.length_nil, Nat.reduceAdd, List.range, List.range.loop]
  refine sq_val (some 19) (.agg #[t10_0, t10_1, t10_2, t10_3, t10_4, t10_5, t10_6, t10_7, t10_8, t10_9, t10_10, t10_11, t10_12, t10_13, t10_14, t10_15, t10_16, t10_17, t10_18, t10_19, t10_20, t10_21, t10_22, t10_23]) rfl rfl (by kernel_rfl) (rv_load 35 _ b12 0 _ _ [t10_0, t10_1, t10_2, t10_3, t10_4, t10_5, t10_6, t10_7, t10_8, t10_9, t10_10, t10_11, t10_12, t10_13, t10_14, t10_15, t10_16, t10_17, t10_18, t10_19, t10_20, t10_21, t10_22, t10_23] rfl rfl L12 rfl (by kernel_rfl)) ?_
  simp only [p1, p2, p3, p4]
  refine sq_eff rfl (by kernel_rfl) (fun K16 k16 => ?_)
  have kq18 := g12.kp.trans kp14
  replace h10a := h10a.kp kq18
  replace h10b := h10b.kp kq18
  replace h10c := h10c.kp kq18
  replace h10d := h10d.kp kq18
  replace h10e := h10e.kp kq18
  replace h10f := h10f.kp kq18
  refine eff_call (some 20) rfl (by kernel_rfl) (axis_t h10a h10b h10c h10d h10e h10f (by omega) ha hd) ?_
  rintro e17 w17 ⟨⟨t17_0, t17_1, t17_2, t17_3, t17_4, t17_5, t17_6, t17_7, t17_8, t17_9, t17_10, t17_11, t17_12, t17_13, t17_14, t17_15, t17_16, t17_17, t17_18, t17_19, t17_20, t17_21, t17_22, t17_23, t17_24, t17_25, t17_26, t17_27, rfl, h17a, h17b, h17c, h17d, h17e, h17f, h17g⟩, g17⟩
  refine ⟨_, rfl, ?_⟩
  replace hB := Gr.trans hB g17
  refine k16 _ _ ?_
  try clear k16 K16
  simp only [p1, p2, p3, p4]
  refine sq_eff rfl (by kernel_rfl) (fun K19 k19 => ?_)
  refine eff_alloc 38 (.agg #[(.int .i64 0), (.bool false), (.slice none 0 0), (.bool false), (.slice none 0 0), (.bool false), (.slice none 0 0), (.bool false), (.slice none 0 0), (.bool false), (.slice none 0 0), (.bool false), (.slice none 0 0), (.bool false), (.slice none 0 0), (.bool false), (.slice none 0 0), (.bool false), (.slice none 0 0), (.bool false), (.slice none 0 0), (.bool false), (.slice none 0 0), (.bool false), (.slice none 0 0), (.bool false), (.slice none 0 0), (.bool false), (.slice none 0 0)]) #[(.int .i64 0), (.bool false), (.slice none 0 0), (.bool false), (.slice none 0 0), (.bool false), (.slice none 0 0), (.bool false), (.slice none 0 0), (.bool false), (.slice none 0 0), (.bool false), (.slice none 0 0), (.bool false), (.slice none 0 0), (.bool false), (.slice none 0 0), (.bool false), (.slice none 0 0), (.bool false), (.slice none 0 0), (.bool false), (.slice none 0 0), (.bool false), (.slice none 0 0), (.bool false), (.slice none 0 0), (.bool false), (.slice none 0 0)] (some 4) rfl rfl (by kernel_rfl) rfl (fun b20 w20 g20 L20 q20 => ?_)
  replace L3 := (st14.lc (L3.gr g12) ne3_12).gr g17
  have ne3_20 := L3.ne q20
  replace L12 := L12.gr g17
  have ne12_20 := L12.ne q20
  replace q20 := Nat.le_trans (Below.size hB) q20
  replace hB := Gr.trans hB g20
  refine k19 _ _ ?_
  try clear k19 K19
  simp only [p1, p2, p3, p4]
  refine sq_eff rfl (by kernel_rfl) (fun K21 k21 => ?_)
  refine eff_store 38 _ _ b20 0 (.agg #[(.int .i64 1), t17_0, t17_1, t17_2, t17_3, t17_4, t17_5, t17_6, t17_7, t17_8, t17_9, t17_10, t17_11, t17_12, t17_13, t17_14, t17_15, t17_16, t17_17, t17_18, t17_19, t17_20, t17_21, t17_22, t17_23, t17_24, t17_25, t17_26, t17_27]) [(.int .i64 1), t17_0, t17_1, t17_2, t17_3, t17_4, t17_5, t17_6, t17_7, t17_8, t17_9, t17_10, t17_11, t17_12, t17_13, t17_14, t17_15, t17_16, t17_17, t17_18, t17_19, t17_20, t17_21, t17_22, t17_23, t17_24, t17_25, t17_26, t17_27] _ #[(.int .i64 1), t17_0, t17_1, t17_2, t17_3, t17_4, t17_5, t17_6, t17_7, t17_8, t17_9, t17_10, t17_11, t17_12, t17_13, t17_14, t17_15, t17_16, t17_17, t17_18, t17_19, t17_20, t17_21, t17_22, t17_23, t17_24, t17_25, t17_26, t17_27] _ rfl rfl rfl rfl rfl L20 (by kernel_rfl) (Nat.le_of_ble_eq_true rfl) ⟨rfl, h17a.one0, h17a.one1, h17a.one2, h17a.one3, h17b.one0, h17b.one1, h17b.one2, h17b.one3, h17c.one0, h17c.one1, h17c.one2, h17c.one3, h17d.one0, h17d.one1, h17d.one2, h17d.one3, h17e.one0, h17e.one1, h17e.one2, h17e.one3, h17f.one0, h17f.one1, h17f.one2, h17f.one3, h17g.one0, h17g.one1, h17g.one2, h17g.one3, trivial⟩ (by kernel_rfl) (fun w22 st22 N22 => ?_)
  have kp22 := st22.kp L20 (by decide)
  replace hB := st22.gr hB q20
  replace L20 := N22
  refine k21 _ _ ?_
  try clear k21 K21
  refine sq_nil ?_
  refine k15 _ _ ?_
  try clear k15 K15
  refine wp_seq_k (fun K23 k23 => ?_)
  refine wp_block ?_
  refine wp_seq_k (fun K24 k24 => ?_)
  refine wp_region ?_
  simp only [List.size_toArray, List.length_cons, List.length_nil, Nat.reduceAdd, List.range, List.range.loop]
  refine sq_val (some 22) (.pointer (some ⟨b12, 0, none⟩)) rfl rfl (by kernel_rfl) (rvk (by kernel_rfl)) ?_
  simp only [p1, p2, p3, p4]
  replace L12 := st22.lc (L12.gr g20) ne12_20
  refine sq_val (some 23) (.agg #[t10_0, t10_1, t10_2, t10_3, t10_4, t10_5, t10_6, t10_7, t10_8, t10_9, t10_10, t10_11]) rfl rfl (by kernel_rfl) (rv_load 33 _ b12 0 _ _ [t10_0, t10_1, t10_2, t10_3, t10_4, t10_5, t10_6, t10_7, t10_8, t10_9, t10_10, t10_11] rfl rfl L12 rfl (by kernel_rfl)) ?_
  simp only [p1, p2, p3, p4]
  refine sq_eff rfl (by kernel_rfl) (fun K25 k25 => ?_)
  have kq27 := g17.kp.trans (g20.kp.trans kp22)
  replace h10a := h10a.kp kq27
  replace h10b := h10b.kp kq27
  replace h10c := h10c.kp kq27
  refine eff_call (some 24) rfl (by kernel_rfl) (vzero_v h10a h10b h10c (by omega)) ?_
  rintro e26 w26 ⟨rfl, g26⟩
  refine ⟨_, rfl, ?_⟩
  replace hB := Gr.trans hB g26
  refine k25 _ _ ?_
  try clear k25 K25
  simp only [p1, p2, p3, p4]
  have hb28 : (vcmp A0 A1 A2 0 0 0 == (0 : Int)) = true := (lawAx4 A0 A1 A2 A3 A4 A5 ha hd)
  refine sq_val (some 25) (.bool true) rfl rfl (by kernel_rfl) (RunV.bool (x := vcmp A0 A1 A2 0 0 0 == (0 : Int)) (rvk (by kernel_rfl)) hb28) ?_
  simp only [p1, p2, p3, p4]
  refine sq_val (some 26) (.pointer (some ⟨b12, 12, none⟩)) rfl rfl (by kernel_rfl) (rvk (by kernel_rfl)) ?_
  simp only [p1, p2, p3, p4]
  replace L12 := L12.gr g26
  refine sq_val (some 27) (.agg #[t10_12, t10_13, t10_14, t10_15, t10_16, t10_17, t10_18, t10_19, t10_20, t10_21, t10_22, t10_23]) rfl rfl (by kernel_rfl) (rv_load 33 _ b12 12 _ _ [t10_12, t10_13, t10_14, t10_15, t10_16, t10_17, t10_18, t10_19, t10_20, t10_21, t10_22, t10_23] rfl rfl L12 rfl (by kernel_rfl)) ?_
  simp only [p1, p2, p3, p4]
  refine sq_eff rfl (by kernel_rfl) (fun K29 k29 => ?_)
  have kq31 := g17.kp.trans (g20.kp.trans (kp22.trans g26.kp))
  replace h10d := h10d.kp kq31
  replace h10e := h10e.kp kq31
  replace h10f := h10f.kp kq31
  refine eff_call (some 28) rfl (by kernel_rfl) (vzero_v h10d h10e h10f (by omega)) ?_
  rintro e30 w30 ⟨rfl, g30⟩
  refine ⟨_, rfl, ?_⟩
  replace hB := Gr.trans hB g30
  refine k29 _ _ ?_
  try clear k29 K29
  simp only [p1, p2, p3, p4]
  have hb32 : (vcmp A3 A4 A5 0 0 0 == (0 : Int)) = false := (lawAx5 A0 A1 A2 A3 A4 A5 ha hd)
  refine sq_val (some 29) (.bool false) rfl rfl (by kernel_rfl) (RunV.bool (x := vcmp A3 A4 A5 0 0 0 == (0 : Int)) (rvk (by kernel_rfl)) hb32) ?_
  simp only [p1, p2, p3, p4]
  refine sq_val (some 21) (.bool false) rfl rfl (by kernel_rfl) (rvk (by kernel_rfl)) ?_
  simp only [p1, p2, p3, p4]
  refine sq_nil ?_
  refine k24 _ _ ?_
  try clear k24 K24
  refine wp_cond_false rfl ?_
  refine wp_seq_k (fun K33 k33 => ?_)
  refine wp_region ?_
  simp only [List.size_toArray, List.length_cons, List.length_nil, Nat.reduceAdd, List.range, List.range.loop]
  refine sq_val (some 50) (.pointer (some ⟨b12, 0, none⟩)) rfl rfl (by kernel_rfl) (rvk (by kernel_rfl)) ?_
  simp only [p1, p2, p3, p4]
  replace L12 := L12.gr g30
  refine sq_val (some 51) (.agg #[t10_0, t10_1, t10_2, t10_3, t10_4, t10_5, t10_6, t10_7, t10_8, t10_9, t10_10, t10_11]) rfl rfl (by kernel_rfl) (rv_load 33 _ b12 0 _ _ [t10_0, t10_1, t10_2, t10_3, t10_4, t10_5, t10_6, t10_7, t10_8, t10_9, t10_10, t10_11] rfl rfl L12 rfl (by kernel_rfl)) ?_
  simp only [p1, p2, p3, p4]
  refine sq_eff rfl (by kernel_rfl) (fun K34 k34 => ?_)
  have kq36 := g26.kp.trans g30.kp
  replace h10a := h10a.kp kq36
  replace h10b := h10b.kp kq36
  replace h10c := h10c.kp kq36
  refine eff_call (some 52) rfl (by kernel_rfl) (vzero_v h10a h10b h10c (by omega)) ?_
  rintro e35 w35 ⟨rfl, g35⟩
  refine ⟨_, rfl, ?_⟩
  replace hB := Gr.trans hB g35
  refine k34 _ _ ?_
  try clear k34 K34
  simp only [p1, p2, p3, p4]
  refine sq_val (some 49) (.bool true) rfl rfl (by kernel_rfl) (RunV.bool (x := vcmp A0 A1 A2 0 0 0 == (0 : Int)) (rvk (by kernel_rfl)) hb28) ?_
  simp only [p1, p2, p3, p4]
  refine sq_nil ?_
  refine k33 _ _ ?_
  try clear k33 K33
  refine wp_cond_true rfl ?_
  refine wp_seq_k (fun K37 k37 => ?_)
  refine wp_region ?_
  simp only [List.size_toArray, List.length_cons, List.length_nil, Nat.reduceAdd, List.range, List.range.loop]
  refine sq_val (some 54) (.pointer (some ⟨b12, 12, none⟩)) rfl rfl (by kernel_rfl) (rvk (by kernel_rfl)) ?_
  simp only [p1, p2, p3, p4]
  replace L12 := L12.gr g35
  refine sq_val (some 55) (.agg #[t10_12, t10_13, t10_14, t10_15, t10_16, t10_17, t10_18, t10_19, t10_20, t10_21, t10_22, t10_23]) rfl rfl (by kernel_rfl) (rv_load 33 _ b12 12 _ _ [t10_12, t10_13, t10_14, t10_15, t10_16, t10_17, t10_18, t10_19, t10_20, t10_21, t10_22, t10_23] rfl rfl L12 rfl (by kernel_rfl)) ?_
  simp only [p1, p2, p3, p4]
  refine sq_eff rfl (by kernel_rfl) (fun K38 k38 => ?_)
  have kq40 := g30.kp.trans g35.kp
  replace h10d := h10d.kp kq40
  replace h10e := h10e.kp kq40
  replace h10f := h10f.kp kq40
  refine eff_call (some 56) rfl (by kernel_rfl) (vprim_ok h10d h10e h10f (by omega) hd) ?_
  rintro e39 w39 ⟨⟨t39_0, t39_1, t39_2, t39_3, t39_4, t39_5, t39_6, t39_7, t39_8, t39_9, t39_10, t39_11, rfl, h39a, h39b, h39c⟩, g39⟩
  refine ⟨_, rfl, ?_⟩
  replace hB := Gr.trans hB g39
  refine k38 _ _ ?_
  try clear k38 K38
  simp only [p1, p2, p3, p4]
  refine sq_val (some 53) (.tuple #[(.agg #[t39_0, t39_1, t39_2, t39_3, t39_4, t39_5, t39_6, t39_7, t39_8, t39_9, t39_10, t39_11]), (.int .i64 0)]) rfl rfl (by kernel_rfl) (rvk (by kernel_rfl)) ?_
  simp only [p1, p2, p3, p4]
  refine sq_val (some 57) (.agg #[t39_0, t39_1, t39_2, t39_3, t39_4, t39_5, t39_6, t39_7, t39_8, t39_9, t39_10, t39_11]) rfl rfl (by kernel_rfl) (rvk (by kernel_rfl)) ?_
  simp only [p1, p2, p3, p4]
  refine sq_val (some 58) (.int .i64 0) rfl rfl (by kernel_rfl) (rvk (by kernel_rfl)) ?_
  simp only [p1, p2, p3, p4]
  refine sq_eff rfl (by kernel_rfl) (fun K41 k41 => ?_)
  refine eff_alloc 33 (.agg #[(.bool false), (.slice none 0 0), (.bool false), (.slice none 0 0), (.bool false), (.slice none 0 0), (.bool false), (.slice none 0 0), (.bool false), (.slice none 0 0), (.bool false), (.slice none 0 0)]) #[(.bool false), (.slice none 0 0), (.bool false), (.slice none 0 0), (.bool false), (.slice none 0 0), (.bool false), (.slice none 0 0), (.bool false), (.slice none 0 0), (.bool false), (.slice none 0 0)] (some 5) rfl rfl (by kernel_rfl) rfl (fun b42 w42 g42 L42 q42 => ?_)
  replace L3 := (st22.lc (L3.gr g20) ne3_20).gr (g26.trans (g30.trans (g35.trans g39)))
  have ne3_42 := L3.ne q42
  replace L12 := L12.gr g39
  have ne12_42 := L12.ne q42
  replace L20 := L20.gr (g26.trans (g30.trans (g35.trans g39)))
  have ne20_42 := L20.ne q42
  replace q42 := Nat.le_trans (Below.size hB) q42
  replace hB := Gr.trans hB g42
  refine k41 _ _ ?_
  try clear k41 K41
  simp only [p1, p2, p3, p4]
  refine sq_eff rfl (by kernel_rfl) (fun K43 k43 => ?_)
  refine eff_store 33 _ _ b42 0 (.agg #[t39_0, t39_1, t39_2, t39_3, t39_4, t39_5, t39_6, t39_7, t39_8, t39_9, t39_10, t39_11]) [t39_0, t39_1, t39_2, t39_3, t39_4, t39_5, t39_6, t39_7, t39_8, t39_9, t39_10, t39_11] _ #[t39_0, t39_1, t39_2, t39_3, t39_4, t39_5, t39_6, t39_7, t39_8, t39_9, t39_10, t39_11] _ rfl rfl rfl rfl rfl L42 (by kernel_rfl) (Nat.le_of_ble_eq_true rfl) ⟨h39a.one0, h39a.one1, h39a.one2, h39a.one3, h39b.one0, h39b.one1, h39b.one2, h39b.one3, h39c.one0, h39c.one1, h39c.one2, h39c.one3, trivial⟩ (by kernel_rfl) (fun w44 st44 N44 => ?_)
  have kp44 := st44.kp L42 (by decide)
  replace hB := st44.gr hB q42
  replace L42 := N44
  refine k43 _ _ ?_
  try clear k43 K43
  refine sq_val (some 6) (.int .i64 0) rfl rfl (by kernel_rfl) (rvk (by kernel_rfl)) ?_
  simp only [p1, p2, p3, p4]
  refine sq_nil ?_
  refine k37 _ _ ?_
  try clear k37 K37
  refine wp_seq_k (fun K45 k45 => ?_)
  refine wp_region ?_
  simp only [List.size_toArray, List.length_cons, List.length_nil, Nat.reduceAdd, List.range, List.range.loop]
  refine sq_val (some 59) (.int .i64 0) rfl rfl (by kernel_rfl) (rvk (by kernel_rfl)) ?_
  simp only [p1, p2, p3, p4]
  refine sq_val (some 60) (.bool true) rfl rfl (by kernel_rfl) (rvk (by kernel_rfl)) ?_
  simp only [p1, p2, p3, p4]
  refine sq_val (some 61) (.bool true) rfl rfl (by kernel_rfl) (rvk (by kernel_rfl)) ?_
  simp only [p1, p2, p3, p4]
  refine sq_val (some 62) (.pointer (some ⟨b20, 0, none⟩)) rfl rfl (by kernel_rfl) (rvk (by kernel_rfl)) ?_
  simp only [p1, p2, p3, p4]
  replace L20 := st44.lc (L20.gr g42) ne20_42
  refine sq_val (some 63) (.int .i64 1) rfl rfl (by kernel_rfl) (rv_load1 3 _ b20 0 _ _ (.int .i64 1) rfl rfl L20 rfl (by kernel_rfl)) ?_
  simp only [p1, p2, p3, p4]
  refine sq_val (some 64) (.bool true) rfl rfl (by kernel_rfl) (rvk (by kernel_rfl)) ?_
  simp only [p1, p2, p3, p4]
  refine sq_val (some 65) (.bool true) rfl rfl (by kernel_rfl) (rvk (by kernel_rfl)) ?_
  simp only [p1, p2, p3, p4]
  refine sq_val (some 66) (.bool true) rfl rfl (by kernel_rfl) (rvk (by kernel_rfl)) ?_
  simp only [p1, p2, p3, p4]
  refine sq_val (some 67) (.pointer (some ⟨b20, 1, none⟩)) rfl rfl (by kernel_rfl) (rvk (by kernel_rfl)) ?_
  simp only [p1, p2, p3, p4]
  refine sq_val (some 68) (.agg #[t17_0, t17_1, t17_2, t17_3, t17_4, t17_5, t17_6, t17_7, t17_8, t17_9, t17_10, t17_11]) rfl rfl (by kernel_rfl) (rv_load 33 _ b20 1 _ _ [t17_0, t17_1, t17_2, t17_3, t17_4, t17_5, t17_6, t17_7, t17_8, t17_9, t17_10, t17_11] rfl rfl L20 rfl (by kernel_rfl)) ?_
  simp only [p1, p2, p3, p4]
  refine sq_val (some 69) (.agg #[t39_0, t39_1, t39_2, t39_3, t39_4, t39_5, t39_6, t39_7, t39_8, t39_9, t39_10, t39_11]) rfl rfl (by kernel_rfl) (rv_load 33 _ b42 0 _ _ [t39_0, t39_1, t39_2, t39_3, t39_4, t39_5, t39_6, t39_7, t39_8, t39_9, t39_10, t39_11] rfl rfl L42 rfl (by kernel_rfl)) ?_
  simp only [p1, p2, p3, p4]
  refine sq_eff rfl (by kernel_rfl) (fun K46 k46 => ?_)
  have kq48 := g20.kp.trans (kp22.trans (g26.kp.trans (g30.kp.trans (g35.kp.trans (g39.kp.trans (g42.kp.trans kp44))))))
  replace h17a := h17a.kp kq48
  replace h17b := h17b.kp kq48
  replace h17c := h17c.kp kq48
  have kq49 := g42.kp.trans kp44
  replace h39a := h39a.kp kq49
  replace h39b := h39b.kp kq49
  replace h39c := h39c.kp kq49
  refine eff_call (some 70) rfl (by kernel_rfl) (vequal_v h17a h17b h17c h39a h39b h39c (by omega)) ?_
  rintro e47 w47 ⟨rfl, g47⟩
  refine ⟨_, rfl, ?_⟩
  replace hB := Gr.trans hB g47
  refine k46 _ _ ?_
  try clear k46 K46
  simp only [p1, p2, p3, p4]
  have hb50 : (vcmp (prim (A3) (A4) (A5) (A3)) (prim (A3) (A4) (A5) (A4)) (prim (A3) (A4) (A5) (A5)) (prim (A3) (A4) (A5) (A3)) (prim (A3) (A4) (A5) (A4)) (prim (A3) (A4) (A5) (A5)) == (0 : Int)) = true := (lawAx6 A0 A1 A2 A3 A4 A5 ha hd)
  refine sq_val (some 71) (.bool true) rfl rfl (by kernel_rfl) (RunV.bool (x := vcmp (prim (A3) (A4) (A5) (A3)) (prim (A3) (A4) (A5) (A4)) (prim (A3) (A4) (A5) (A5)) (prim (A3) (A4) (A5) (A3)) (prim (A3) (A4) (A5) (A4)) (prim (A3) (A4) (A5) (A5)) == (0 : Int)) (rvk (by kernel_rfl)) hb50) ?_
  simp only [p1, p2, p3, p4]
  refine sq_val (some 72) (.bool true) rfl rfl (by kernel_rfl) (rvk (by kernel_rfl)) ?_
  simp only [p1, p2, p3, p4]
  refine sq_val (some 73) (.pointer (some ⟨b20, 13, none⟩)) rfl rfl (by kernel_rfl) (rvk (by kernel_rfl)) ?_
  simp only [p1, p2, p3, p4]
  replace L20 := L20.gr g47
  refine sq_val (some 74) (.agg #[t17_12, t17_13, t17_14, t17_15, t17_16, t17_17, t17_18, t17_19, t17_20, t17_21, t17_22, t17_23]) rfl rfl (by kernel_rfl) (rv_load 33 _ b20 13 _ _ [t17_12, t17_13, t17_14, t17_15, t17_16, t17_17, t17_18, t17_19, t17_20, t17_21, t17_22, t17_23] rfl rfl L20 rfl (by kernel_rfl)) ?_
  simp only [p1, p2, p3, p4]
  refine sq_eff rfl (by kernel_rfl) (fun K51 k51 => ?_)
  have kq53 := g20.kp.trans (kp22.trans (g26.kp.trans (g30.kp.trans (g35.kp.trans (g39.kp.trans (g42.kp.trans (kp44.trans g47.kp)))))))
  replace h17d := h17d.kp kq53
  replace h17e := h17e.kp kq53
  replace h17f := h17f.kp kq53
  refine eff_call (some 75) rfl (by kernel_rfl) (vzero_v h17d h17e h17f (by omega)) ?_
  rintro e52 w52 ⟨rfl, g52⟩
  refine ⟨_, rfl, ?_⟩
  replace hB := Gr.trans hB g52
  refine k51 _ _ ?_
  try clear k51 K51
  simp only [p1, p2, p3, p4]
  have hb54 : (vcmp (0 : Rat) (0 : Rat) (0 : Rat) 0 0 0 == (0 : Int)) = true := (lawAx7 A0 A1 A2 A3 A4 A5 ha hd)
  refine sq_val (some 76) (.bool true) rfl rfl (by kernel_rfl) (RunV.bool (x := vcmp (0 : Rat) (0 : Rat) (0 : Rat) 0 0 0 == (0 : Int)) (rvk (by kernel_rfl)) hb54) ?_
  simp only [p1, p2, p3, p4]
  refine sq_val (some 77) (.bool true) rfl rfl (by kernel_rfl) (rvk (by kernel_rfl)) ?_
  simp only [p1, p2, p3, p4]
  refine sq_val (some 78) (.pointer (some ⟨b20, 25, none⟩)) rfl rfl (by kernel_rfl) (rvk (by kernel_rfl)) ?_
  simp only [p1, p2, p3, p4]
  replace L20 := L20.gr g52
  refine sq_val (some 79) (.agg #[t17_24, t17_25, t17_26, t17_27]) rfl rfl (by kernel_rfl) (rv_load 31 _ b20 25 _ _ [t17_24, t17_25, t17_26, t17_27] rfl rfl L20 rfl (by kernel_rfl)) ?_
  simp only [p1, p2, p3, p4]
  refine sq_eff rfl (by kernel_rfl) (fun K55 k55 => ?_)
  have kq57 := g20.kp.trans (kp22.trans (g26.kp.trans (g30.kp.trans (g35.kp.trans (g39.kp.trans (g42.kp.trans (kp44.trans (g47.kp.trans g52.kp))))))))
  replace h17g := h17g.kp kq57
  refine eff_call (some 80) rfl (by kernel_rfl) (sign_r h17g) ?_
  rintro e56 w56 ⟨rfl, g56⟩
  refine ⟨_, rfl, ?_⟩
  replace hB := Gr.trans hB g56
  refine k55 _ _ ?_
  try clear k55 K55
  simp only [p1, p2, p3, p4]
  have hb58 : ((sgn ((0 : Rat)).num == (0 : Int))) = true := (lawAx8 A0 A1 A2 A3 A4 A5 ha hd)
  refine sq_val (some 81) (.bool true) rfl rfl (by kernel_rfl) (RunV.bool (x := (sgn ((0 : Rat)).num == (0 : Int))) (rvk (by kernel_rfl)) hb58) ?_
  simp only [p1, p2, p3, p4]
  refine sq_val (some 82) (.bool true) rfl rfl (by kernel_rfl) (rvk (by kernel_rfl)) ?_
  simp only [p1, p2, p3, p4]
  refine sq_val (some 2) (.bool true) rfl rfl (by kernel_rfl) (rvk (by kernel_rfl)) ?_
  simp only [p1, p2, p3, p4]
  refine sq_nil ?_
  refine k45 _ _ ?_
  try clear k45 K45
  refine wp_ret ?_
  try simp only [Exit.then, Exit.inBlock]
  refine bodyPost_ret (v := (.bool true)) (ret_tmp rfl rfl) rfl ⟨?_, hB⟩
  exact rfl

theorem lawAx9 (A0 A1 A2 A3 A4 A5 : Rat) (ha : ¬(A0 = 0 ∧ A1 = 0 ∧ A2 = 0)) (hp : ((0 + A0 * A3 + A1 * A4 + A2 * A5) * (((1 : Int) : Rat) / (0 + A0 * A0 + A1 * A1 + A2 * A2))) = 0) (hsq : (0 + A0 * A0 + A1 * A1 + A2 * A2) ≠ 0) : (vcmp A0 A1 A2 0 0 0 == (0 : Int)) = false := veq_f (by grind)
theorem lawAx10 (A0 A1 A2 A3 A4 A5 : Rat) (ha : ¬(A0 = 0 ∧ A1 = 0 ∧ A2 = 0)) (hp : ((0 + A0 * A3 + A1 * A4 + A2 * A5) * (((1 : Int) : Rat) / (0 + A0 * A0 + A1 * A1 + A2 * A2))) = 0) (hsq : (0 + A0 * A0 + A1 * A1 + A2 * A2) ≠ 0) : (sgn (((0 + A0 * A3 + A1 * A4 + A2 * A5) / (0 + A0 * A0 + A1 * A1 + A2 * A2))).num == (0 : Int)) = true := sgne_t (by grind)
theorem lawAx11 (A0 A1 A2 A3 A4 A5 : Rat) (ha : ¬(A0 = 0 ∧ A1 = 0 ∧ A2 = 0)) (hp : ((0 + A0 * A3 + A1 * A4 + A2 * A5) * (((1 : Int) : Rat) / (0 + A0 * A0 + A1 * A1 + A2 * A2))) = 0) (hsq : (0 + A0 * A0 + A1 * A1 + A2 * A2) ≠ 0) : (vcmp (prim (A0) (A1) (A2) (A0)) (prim (A0) (A1) (A2) (A1)) (prim (A0) (A1) (A2) (A2)) (prim (A0) (A1) (A2) (A0)) (prim (A0) (A1) (A2) (A1)) (prim (A0) (A1) (A2) (A2)) == (0 : Int)) = true := veq_t rfl rfl rfl
theorem lawAx12 (A0 A1 A2 A3 A4 A5 : Rat) (ha : ¬(A0 = 0 ∧ A1 = 0 ∧ A2 = 0)) (hp : ((0 + A0 * A3 + A1 * A4 + A2 * A5) * (((1 : Int) : Rat) / (0 + A0 * A0 + A1 * A1 + A2 * A2))) = 0) (hsq : (0 + A0 * A0 + A1 * A1 + A2 * A2) ≠ 0) : (rcmp ((0 + A0 * A3 + A1 * A4 + A2 * A5) * (((1 : Int) : Rat) / (0 + A0 * A0 + A1 * A1 + A2 * A2))) ((0 + A0 * A3 + A1 * A4 + A2 * A5) / (0 + A0 * A0 + A1 * A1 + A2 * A2)) == (0 : Int)) = true := req_t (by grind)
theorem lawAx13 (A0 A1 A2 A3 A4 A5 : Rat) (ha : ¬(A0 = 0 ∧ A1 = 0 ∧ A2 = 0)) (hp : ((0 + A0 * A3 + A1 * A4 + A2 * A5) * (((1 : Int) : Rat) / (0 + A0 * A0 + A1 * A1 + A2 * A2))) = 0) (hsq : (0 + A0 * A0 + A1 * A1 + A2 * A2) ≠ 0) : (vcmp ((((1 : Int) : Rat) / (0 + A0 * A0 + A1 * A1 + A2 * A2)) * (A1 * A5 - A2 * A4)) ((((1 : Int) : Rat) / (0 + A0 * A0 + A1 * A1 + A2 * A2)) * (A2 * A3 - A0 * A5)) ((((1 : Int) : Rat) / (0 + A0 * A0 + A1 * A1 + A2 * A2)) * (A0 * A4 - A1 * A3)) (((((1 : Int) : Rat)) / (0 + A0 * A0 + A1 * A1 + A2 * A2)) * (A1 * A5 - A2 * A4)) (((((1 : Int) : Rat)) / (0 + A0 * A0 + A1 * A1 + A2 * A2)) * (A2 * A3 - A0 * A5)) (((((1 : Int) : Rat)) / (0 + A0 * A0 + A1 * A1 + A2 * A2)) * (A0 * A4 - A1 * A3)) == (0 : Int)) = true := veq_t rfl rfl rfl
set_option maxRecDepth 100000 in
set_option maxHeartbeats 8000000 in
theorem axes_r (n0 n1 n2 n3 n4 n5 dd : Int) (in0 : -128 ≤ n0 ∧ n0 ≤ 127) (in1 : -128 ≤ n1 ∧ n1 ≤ 127) (in2 : -128 ≤ n2 ∧ n2 ≤ 127) (in3 : -128 ≤ n3 ∧ n3 ≤ 127) (in4 : -128 ≤ n4 ∧ n4 ≤ 127) (in5 : -128 ≤ n5 ∧ n5 ≤ 127) (idd : 0 ≤ dd ∧ dd ≤ 255) (A0 A1 A2 A3 A4 A5 : Rat) (eA0 : A0 = (((n0 : Int) : Rat) / ((1 + dd % 3 : Int) : Rat))) (eA1 : A1 = (((n1 : Int) : Rat) / ((1 + dd % 3 : Int) : Rat))) (eA2 : A2 = (((n2 : Int) : Rat) / ((1 + dd % 3 : Int) : Rat))) (eA3 : A3 = (((n3 : Int) : Rat) / ((1 + dd % 3 : Int) : Rat))) (eA4 : A4 = (((n4 : Int) : Rat) / ((1 + dd % 3 : Int) : Rat))) (eA5 : A5 = (((n5 : Int) : Rat) / ((1 + dd % 3 : Int) : Rat))) (w : World) (ht : Tab w)(ha : ¬(A0 = 0 ∧ A1 = 0 ∧ A2 = 0)) (hp : ((0 + A0 * A3 + A1 * A4 + A2 * A5) * (((1 : Int) : Rat) / (0 + A0 * A0 + A1 * A1 + A2 * A2))) = 0) :
    Calls Tryd.prog 3 #[(.agg #[(.int .i8 (n0)), (.int .i8 (n1)), (.int .i8 (n2)), (.int .i8 (n3)), (.int .i8 (n4)), (.int .i8 (n5)), (.int .u8 (dd))])] w fun e w' => e = .returned (.bool true) ∧ Gr w w' := by
  have hdv := num_pos (dot_pos ha)
  have hsq : (0 + A0 * A0 + A1 * A1 + A2 * A2) ≠ 0 := by have := dot_pos ha; grind
  go_enter Tryd.func3, Tryd.ntmps3
  have hB := Gr.refl w
  refine wp_seq_k (fun K1 k1 => ?_)
  refine wp_region ?_
  simp only [List.size_toArray, List.length_cons, List.length_nil, Nat.reduceAdd, List.range, List.range.loop]
  refine sq_eff rfl (by kernel_rfl) (fun K2 k2 => ?_)
  refine eff_box 25 _ (.agg #[(.int .i8 (n0)), (.int .i8 (n1)), (.int .i8 (n2)), (.int .i8 (n3)), (.int .i8 (n4)), (.int .i8 (n5)), (.int .u8 (dd))]) #[(.int .i8 (n0)), (.int .i8 (n1)), (.int .i8 (n2)), (.int .i8 (n3)), (.int .i8 (n4)), (.int .i8 (n5)), (.int .u8 (dd))] (some 1) rfl rfl rfl rfl (fun b3 w3 g3 L3 q3 => ?_)
  replace q3 := Nat.le_trans (Below.size hB) q3
  replace hB := Gr.trans hB g3
  refine k2 _ _ ?_
  try clear k2 K2
  simp only [p1, p2, p3, p4]
  refine sq_val (some 2) (.bool false) rfl rfl (by kernel_rfl) (rvk (by kernel_rfl)) ?_
  simp only [p1, p2, p3, p4]
  refine sq_nil ?_
  refine k1 _ _ ?_
  try clear k1 K1
  refine wp_seq_k (fun K4 k4 => ?_)
  refine wp_seq_k (fun K5 k5 => ?_)
  refine wp_region ?_
  simp only [List.size_toArray, List.length_cons, List.length_nil, Nat.reduceAdd, List.range, List.range.loop]
  refine sq_eff rfl (by kernel_rfl) (fun K6 k6 => ?_)
  refine eff_call (some 15) rfl (by kernel_rfl) (known_t _ (ht.gr hB)) ?_
  rintro e7 w7 ⟨rfl, g7⟩
  refine ⟨_, rfl, ?_⟩
  replace hB := Gr.trans hB g7
  refine k6 _ _ ?_
  try clear k6 K6
  simp only [p1, p2, p3, p4]
  refine sq_val (some 16) (.bool false) rfl rfl (by kernel_rfl) (rvk (by kernel_rfl)) ?_
  simp only [p1, p2, p3, p4]
  refine sq_nil ?_
  refine k5 _ _ ?_
  try clear k5 K5
  refine wp_cond_false rfl ?_
  refine wp_skip ?_
  refine k4 _ _ ?_
  try clear k4 K4
  refine wp_seq_k (fun K8 k8 => ?_)
  refine wp_region ?_
  simp only [List.size_toArray, List.length_cons, List.length_nil, Nat.reduceAdd, List.range, List.range.loop]
  replace L3 := L3.gr g7
  refine sq_val (some 17) (.agg #[(.int .i8 (n0)), (.int .i8 (n1)), (.int .i8 (n2)), (.int .i8 (n3)), (.int .i8 (n4)), (.int .i8 (n5)), (.int .u8 (dd))]) rfl rfl (by kernel_rfl) (rv_load 25 _ b3 0 _ _ [(.int .i8 (n0)), (.int .i8 (n1)), (.int .i8 (n2)), (.int .i8 (n3)), (.int .i8 (n4)), (.int .i8 (n5)), (.int .u8 (dd))] rfl rfl L3 rfl (by kernel_rfl)) ?_
  simp only [p1, p2, p3, p4]
  refine sq_eff rfl (by kernel_rfl) (fun K9 k9 => ?_)
  refine eff_call (some 18) rfl (by kernel_rfl) (of_v (n0) (n1) (n2) (n3) (n4) (n5) (dd) (by omega) (by omega) (by omega) (by omega) (by omega) (by omega) (by omega) _) ?_
  rintro e10 w10 ⟨⟨t10_0, t10_1, t10_2, t10_3, t10_4, t10_5, t10_6, t10_7, t10_8, t10_9, t10_10, t10_11, t10_12, t10_13, t10_14, t10_15, t10_16, t10_17, t10_18, t10_19, t10_20, t10_21, t10_22, t10_23, rfl, h10a, h10b, h10c, h10d, h10e, h10f⟩, g10⟩
  refine ⟨_, rfl, ?_⟩
  replace hB := Gr.trans hB g10
  rw [← eA0] at h10a
  rw [← eA1] at h10b
  rw [← eA2] at h10c
  rw [← eA3] at h10d
  rw [← eA4] at h10e
  rw [← eA5] at h10f
  refine k9 _ _ ?_
  try clear k9 K9
  simp only [p1, p2, p3, p4]
  refine sq_eff rfl (by kernel_rfl) (fun K11 k11 => ?_)
  refine eff_alloc 35 (.agg #[(.bool false), (.slice none 0 0), (.bool false), (.slice none 0 0), (.bool false), (.slice none 0 0), (.bool false), (.slice none 0 0), (.bool false), (.slice none 0 0), (.bool false), (.slice none 0 0), (.bool false), (.slice none 0 0), (.bool false), (.slice none 0 0), (.bool false), (.slice none 0 0), (.bool false), (.slice none 0 0), (.bool false), (.slice none 0 0), (.bool false), (.slice none 0 0)]) #[(.bool false), (.slice none 0 0), (.bool false), (.slice none 0 0), (.bool false), (.slice none 0 0), (.bool false), (.slice none 0 0), (.bool false), (.slice none 0 0), (.bool false), (.slice none 0 0), (.bool false), (.slice none 0 0), (.bool false), (.slice none 0 0), (.bool false), (.slice none 0 0), (.bool false), (.slice none 0 0), (.bool false), (.slice none 0 0), (.bool false), (.slice none 0 0)] (some 3) rfl rfl (by kernel_rfl) rfl (fun b12 w12 g12 L12 q12 => ?_)
  replace L3 := L3.gr g10
  have ne3_12 := L3.ne q12
  replace q12 := Nat.le_trans (Below.size hB) q12
  replace hB := Gr.trans hB g12
  refine k11 _ _ ?_
  try clear k11 K11
  simp only [p1, p2, p3, p4]
  refine sq_eff rfl (by kernel_rfl) (fun K13 k13 => ?_)
  refine eff_store 35 _ _ b12 0 (.agg #[t10_0, t10_1, t10_2, t10_3, t10_4, t10_5, t10_6, t10_7, t10_8, t10_9, t10_10, t10_11, t10_12, t10_13, t10_14, t10_15, t10_16, t10_17, t10_18, t10_19, t10_20, t10_21, t10_22, t10_23]) [t10_0, t10_1, t10_2, t10_3, t10_4, t10_5, t10_6, t10_7, t10_8, t10_9, t10_10, t10_11, t10_12, t10_13, t10_14, t10_15, t10_16, t10_17, t10_18, t10_19, t10_20, t10_21, t10_22, t10_23] _ #[t10_0, t10_1, t10_2, t10_3, t10_4, t10_5, t10_6, t10_7, t10_8, t10_9, t10_10, t10_11, t10_12, t10_13, t10_14, t10_15, t10_16, t10_17, t10_18, t10_19, t10_20, t10_21, t10_22, t10_23] _ rfl rfl rfl rfl rfl L12 (by kernel_rfl) (Nat.le_of_ble_eq_true rfl) ⟨h10a.one0, h10a.one1, h10a.one2, h10a.one3, h10b.one0, h10b.one1, h10b.one2, h10b.one3, h10c.one0, h10c.one1, h10c.one2, h10c.one3, h10d.one0, h10d.one1, h10d.one2, h10d.one3, h10e.one0, h10e.one1, h10e.one2, h10e.one3, h10f.one0, h10f.one1, h10f.one2, h10f.one3, trivial⟩ (by kernel_rfl) (fun w14 st14 N14 => ?_)
  have kp14 := st14.kp L12 (by decide)
  replace hB := st14.gr hB q12
  replace L12 := N14
  refine k13 _ _ ?_
  try clear k13 K13
  refine sq_nil ?_
  refine k8 _ _ ?_
  try clear k8 K8
  refine wp_seq_k (fun K15 k15 => ?_)
  refine wp_region ?_
  simp only [List.size_toArray, List.length_cons, List.length_nil, Nat.reduceAdd, List.range, List.range.loop]
  refine sq_val (some 19) (.agg #[t10_0, t10_1, t10_2, t10_3, t10_4, t10_5, t10_6, t10_7, t10_8, t10_9, t10_10, t10_11, t10_12, t10_13, t10_14, t10_15, t10_16, t10_17, t10_18, t10_19, t10_20, t10_21, t10_22, t10_23]) rfl rfl (by kernel_rfl) (rv_load 35 _ b12 0 _ _ [t10_0, t10_1, t10_2, t10_3, t10_4, t10_5, t10_6, t10_7, t10_8, t10_9, t10_10, t10_11, t10_12, t10_13, t10_14, t10_15, t10_16, t10_17, t10_18, t10_19, t10_20, t10_21, t10_22, t10_23] rfl rfl L12 rfl (by kernel_rfl)) ?_
  simp only [p1, p2, p3, p4]
  refine sq_eff rfl (by kernel_rfl) (fun K16 k16 => ?_)
  have kq18 := g12.kp.trans kp14
  replace h10a := h10a.kp kq18
  replace h10b := h10b.kp kq18
  replace h10c := h10c.kp kq18
  replace h10d := h10d.kp kq18
  replace h10e := h10e.kp kq18
  replace h10f := h10f.kp kq18
  refine eff_call (some 20) rfl (by kernel_rfl) (axis_r h10a h10b h10c h10d h10e h10f (by omega) ha hp) ?_
  rintro e17 w17 ⟨⟨t17_0, t17_1, t17_2, t17_3, t17_4, t17_5, t17_6, t17_7, t17_8, t17_9, t17_10, t17_11, t17_12, t17_13, t17_14, t17_15, t17_16, t17_17, t17_18, t17_19, t17_20, t17_21, t17_22, t17_23, t17_24, t17_25, t17_26, t17_27, rfl, h17a, h17b, h17c, h17d, h17e, h17f, h17g⟩, g17⟩
  refine ⟨_, rfl, ?_⟩
  replace hB := Gr.trans hB g17
  refine k16 _ _ ?_
  try clear k16 K16
  simp only [p1, p2, p3, p4]
  refine sq_eff rfl (by kernel_rfl) (fun K19 k19 => ?_)
  refine eff_alloc 38 (.agg #[(.int .i64 0), (.bool false), (.slice none 0 0), (.bool false), (.slice none 0 0), (.bool false), (.slice none 0 0), (.bool false), (.slice none 0 0), (.bool false), (.slice none 0 0), (.bool false), (.slice none 0 0), (.bool false), (.slice none 0 0), (.bool false), (.slice none 0 0), (.bool false), (.slice none 0 0), (.bool false), (.slice none 0 0), (.bool false), (.slice none 0 0), (.bool false), (.slice none 0 0), (.bool false), (.slice none 0 0), (.bool false), (.slice none 0 0)]) #[(.int .i64 0), (.bool false), (.slice none 0 0), (.bool false), (.slice none 0 0), (.bool false), (.slice none 0 0), (.bool false), (.slice none 0 0), (.bool false), (.slice none 0 0), (.bool false), (.slice none 0 0), (.bool false), (.slice none 0 0), (.bool false), (.slice none 0 0), (.bool false), (.slice none 0 0), (.bool false), (.slice none 0 0), (.bool false), (.slice none 0 0), (.bool false), (.slice none 0 0), (.bool false), (.slice none 0 0), (.bool false), (.slice none 0 0)] (some 4) rfl rfl (by kernel_rfl) rfl (fun b20 w20 g20 L20 q20 => ?_)
  replace L3 := (st14.lc (L3.gr g12) ne3_12).gr g17
  have ne3_20 := L3.ne q20
  replace L12 := L12.gr g17
  have ne12_20 := L12.ne q20
  replace q20 := Nat.le_trans (Below.size hB) q20
  replace hB := Gr.trans hB g20
  refine k19 _ _ ?_
  try clear k19 K19
  simp only [p1, p2, p3, p4]
  refine sq_eff rfl (by kernel_rfl) (fun K21 k21 => ?_)
  refine eff_store 38 _ _ b20 0 (.agg #[(.int .i64 2), t17_0, t17_1, t17_2, t17_3, t17_4, t17_5, t17_6, t17_7, t17_8, t17_9, t17_10, t17_11, t17_12, t17_13, t17_14, t17_15, t17_16, t17_17, t17_18, t17_19, t17_20, t17_21, t17_22, t17_23, t17_24, t17_25, t17_26, t17_27]) [(.int .i64 2), t17_0, t17_1, t17_2, t17_3, t17_4, t17_5, t17_6, t17_7, t17_8, t17_9, t17_10, t17_11, t17_12, t17_13, t17_14, t17_15, t17_16, t17_17, t17_18, t17_19, t17_20, t17_21, t17_22, t17_23, t17_24, t17_25, t17_26, t17_27] _ #[(.int .i64 2), t17_0, t17_1, t17_2, t17_3, t17_4, t17_5, t17_6, t17_7, t17_8, t17_9, t17_10, t17_11, t17_12, t17_13, t17_14, t17_15, t17_16, t17_17, t17_18, t17_19, t17_20, t17_21, t17_22, t17_23, t17_24, t17_25, t17_26, t17_27] _ rfl rfl rfl rfl rfl L20 (by kernel_rfl) (Nat.le_of_ble_eq_true rfl) ⟨rfl, h17a.one0, h17a.one1, h17a.one2, h17a.one3, h17b.one0, h17b.one1, h17b.one2, h17b.one3, h17c.one0, h17c.one1, h17c.one2, h17c.one3, h17d.one0, h17d.one1, h17d.one2, h17d.one3, h17e.one0, h17e.one1, h17e.one2, h17e.one3, h17f.one0, h17f.one1, h17f.one2, h17f.one3, h17g.one0, h17g.one1, h17g.one2, h17g.one3, trivial⟩ (by kernel_rfl) (fun w22 st22 N22 => ?_)
  have kp22 := st22.kp L20 (by decide)
  replace hB := st22.gr hB q20
  replace L20 := N22
  refine k21 _ _ ?_
  try clear k21 K21
  refine sq_nil ?_
  refine k15 _ _ ?_
  try clear k15 K15
  refine wp_seq_k (fun K23 k23 => ?_)
  refine wp_block ?_
  refine wp_seq_k (fun K24 k24 => ?_)
  refine wp_region ?_
  simp only [List.size_toArray, List.length_cons, List.length_nil, Nat.reduceAdd, List.range, List.range.loop]
  refine sq_val (some 22) (.pointer (some ⟨b12, 0, none⟩)) rfl rfl (by kernel_rfl) (rvk (by kernel_rfl)) ?_
  simp only [p1, p2, p3, p4]
  replace L12 := st22.lc (L12.gr g20) ne12_20
  refine sq_val (some 23) (.agg #[t10_0, t10_1, t10_2, t10_3, t10_4, t10_5, t10_6, t10_7, t10_8, t10_9, t10_10, t10_11]) rfl rfl (by kernel_rfl) (rv_load 33 _ b12 0 _ _ [t10_0, t10_1, t10_2, t10_3, t10_4, t10_5, t10_6, t10_7, t10_8, t10_9, t10_10, t10_11] rfl rfl L12 rfl (by kernel_rfl)) ?_
  simp only [p1, p2, p3, p4]
  refine sq_eff rfl (by kernel_rfl) (fun K25 k25 => ?_)
  have kq27 := g17.kp.trans (g20.kp.trans kp22)
  replace h10a := h10a.kp kq27
  replace h10b := h10b.kp kq27
  replace h10c := h10c.kp kq27
  refine eff_call (some 24) rfl (by kernel_rfl) (vzero_v h10a h10b h10c (by omega)) ?_
  rintro e26 w26 ⟨rfl, g26⟩
  refine ⟨_, rfl, ?_⟩
  replace hB := Gr.trans hB g26
  refine k25 _ _ ?_
  try clear k25 K25
  simp only [p1, p2, p3, p4]
  have hb28 : (vcmp A0 A1 A2 0 0 0 == (0 : Int)) = false := (lawAx9 A0 A1 A2 A3 A4 A5 ha hp hsq)
  refine sq_val (some 25) (.bool false) rfl rfl (by kernel_rfl) (RunV.bool (x := vcmp A0 A1 A2 0 0 0 == (0 : Int)) (rvk (by kernel_rfl)) hb28) ?_
  simp only [p1, p2, p3, p4]
  refine sq_skip (some 26) rfl rfl (by kernel_rfl) ?_
  simp only [p1, p2, p3, p4]
  refine sq_skip (some 27) rfl rfl (by kernel_rfl) ?_
  simp only [p1, p2, p3, p4]
  refine sq_skip (some 28) rfl rfl (by kernel_rfl) ?_
  simp only [p1, p2, p3, p4]
  refine sq_val (some 29) (.bool false) rfl rfl (by kernel_rfl) (rvk (by kernel_rfl)) ?_
  simp only [p1, p2, p3, p4]
  refine sq_val (some 21) (.bool false) rfl rfl (by kernel_rfl) (rvk (by kernel_rfl)) ?_
  simp only [p1, p2, p3, p4]
  refine sq_nil ?_
  refine k24 _ _ ?_
  try clear k24 K24
  refine wp_cond_false rfl ?_
  refine wp_seq_k (fun K29 k29 => ?_)
  refine wp_region ?_
  simp only [List.size_toArray, List.length_cons, List.length_nil, Nat.reduceAdd, List.range, List.range.loop]
  refine sq_val (some 50) (.pointer (some ⟨b12, 0, none⟩)) rfl rfl (by kernel_rfl) (rvk (by kernel_rfl)) ?_
  simp only [p1, p2, p3, p4]
  replace L12 := L12.gr g26
  refine sq_val (some 51) (.agg #[t10_0, t10_1, t10_2, t10_3, t10_4, t10_5, t10_6, t10_7, t10_8, t10_9, t10_10, t10_11]) rfl rfl (by kernel_rfl) (rv_load 33 _ b12 0 _ _ [t10_0, t10_1, t10_2, t10_3, t10_4, t10_5, t10_6, t10_7, t10_8, t10_9, t10_10, t10_11] rfl rfl L12 rfl (by kernel_rfl)) ?_
  simp only [p1, p2, p3, p4]
  refine sq_eff rfl (by kernel_rfl) (fun K30 k30 => ?_)
  replace h10a := h10a.kp g26.kp
  replace h10b := h10b.kp g26.kp
  replace h10c := h10c.kp g26.kp
  refine eff_call (some 52) rfl (by kernel_rfl) (vzero_v h10a h10b h10c (by omega)) ?_
  rintro e31 w31 ⟨rfl, g31⟩
  refine ⟨_, rfl, ?_⟩
  replace hB := Gr.trans hB g31
  refine k30 _ _ ?_
  try clear k30 K30
  simp only [p1, p2, p3, p4]
  refine sq_val (some 49) (.bool false) rfl rfl (by kernel_rfl) (RunV.bool (x := vcmp A0 A1 A2 0 0 0 == (0 : Int)) (rvk (by kernel_rfl)) hb28) ?_
  simp only [p1, p2, p3, p4]
  refine sq_nil ?_
  refine k29 _ _ ?_
  try clear k29 K29
  refine wp_cond_false rfl ?_
  refine wp_skip ?_
  refine k23 _ _ ?_
  try clear k23 K23
  refine wp_seq_k (fun K32 k32 => ?_)
  refine wp_region ?_
  simp only [List.size_toArray, List.length_cons, List.length_nil, Nat.reduceAdd, List.range, List.range.loop]
  refine sq_val (some 84) (.pointer (some ⟨b12, 0, none⟩)) rfl rfl (by kernel_rfl) (rvk (by kernel_rfl)) ?_
  simp only [p1, p2, p3, p4]
  replace L12 := L12.gr g31
  refine sq_val (some 85) (.agg #[t10_0, t10_1, t10_2, t10_3, t10_4, t10_5, t10_6, t10_7, t10_8, t10_9, t10_10, t10_11]) rfl rfl (by kernel_rfl) (rv_load 33 _ b12 0 _ _ [t10_0, t10_1, t10_2, t10_3, t10_4, t10_5, t10_6, t10_7, t10_8, t10_9, t10_10, t10_11] rfl rfl L12 rfl (by kernel_rfl)) ?_
  simp only [p1, p2, p3, p4]
  refine sq_eff rfl (by kernel_rfl) (fun K33 k33 => ?_)
  replace h10a := h10a.kp g31.kp
  replace h10b := h10b.kp g31.kp
  replace h10c := h10c.kp g31.kp
  refine eff_call (some 86) rfl (by kernel_rfl) (vprim_ok h10a h10b h10c (by omega) ha) ?_
  rintro e34 w34 ⟨⟨t34_0, t34_1, t34_2, t34_3, t34_4, t34_5, t34_6, t34_7, t34_8, t34_9, t34_10, t34_11, rfl, h34a, h34b, h34c⟩, g34⟩
  refine ⟨_, rfl, ?_⟩
  replace hB := Gr.trans hB g34
  refine k33 _ _ ?_
  try clear k33 K33
  simp only [p1, p2, p3, p4]
  refine sq_val (some 83) (.tuple #[(.agg #[t34_0, t34_1, t34_2, t34_3, t34_4, t34_5, t34_6, t34_7, t34_8, t34_9, t34_10, t34_11]), (.int .i64 0)]) rfl rfl (by kernel_rfl) (rvk (by kernel_rfl)) ?_
  simp only [p1, p2, p3, p4]
  refine sq_val (some 87) (.agg #[t34_0, t34_1, t34_2, t34_3, t34_4, t34_5, t34_6, t34_7, t34_8, t34_9, t34_10, t34_11]) rfl rfl (by kernel_rfl) (rvk (by kernel_rfl)) ?_
  simp only [p1, p2, p3, p4]
  refine sq_val (some 88) (.int .i64 0) rfl rfl (by kernel_rfl) (rvk (by kernel_rfl)) ?_
  simp only [p1, p2, p3, p4]
  refine sq_eff rfl (by kernel_rfl) (fun K35 k35 => ?_)
  refine eff_alloc 33 (.agg #[(.bool false), (.slice none 0 0), (.bool false), (.slice none 0 0), (.bool false), (.slice none 0 0), (.bool false), (.slice none 0 0), (.bool false), (.slice none 0 0), (.bool false), (.slice none 0 0)]) #[(.bool false), (.slice none 0 0), (.bool false), (.slice none 0 0), (.bool false), (.slice none 0 0), (.bool false), (.slice none 0 0), (.bool false), (.slice none 0 0), (.bool false), (.slice none 0 0)] (some 7) rfl rfl (by kernel_rfl) rfl (fun b36 w36 g36 L36 q36 => ?_)
  replace L3 := (st22.lc (L3.gr g20) ne3_20).gr (g26.trans (g31.trans g34))
  have ne3_36 := L3.ne q36
  replace L12 := L12.gr g34
  have ne12_36 := L12.ne q36
  replace L20 := L20.gr (g26.trans (g31.trans g34))
  have ne20_36 := L20.ne q36
  replace q36 := Nat.le_trans (Below.size hB) q36
  replace hB := Gr.trans hB g36
  refine k35 _ _ ?_
  try clear k35 K35
  simp only [p1, p2, p3, p4]
  refine sq_eff rfl (by kernel_rfl) (fun K37 k37 => ?_)
  refine eff_store 33 _ _ b36 0 (.agg #[t34_0, t34_1, t34_2, t34_3, t34_4, t34_5, t34_6, t34_7, t34_8, t34_9, t34_10, t34_11]) [t34_0, t34_1, t34_2, t34_3, t34_4, t34_5, t34_6, t34_7, t34_8, t34_9, t34_10, t34_11] _ #[t34_0, t34_1, t34_2, t34_3, t34_4, t34_5, t34_6, t34_7, t34_8, t34_9, t34_10, t34_11] _ rfl rfl rfl rfl rfl L36 (by kernel_rfl) (Nat.le_of_ble_eq_true rfl) ⟨h34a.one0, h34a.one1, h34a.one2, h34a.one3, h34b.one0, h34b.one1, h34b.one2, h34b.one3, h34c.one0, h34c.one1, h34c.one2, h34c.one3, trivial⟩ (by kernel_rfl) (fun w38 st38 N38 => ?_)
  have kp38 := st38.kp L36 (by decide)
  replace hB := st38.gr hB q36
  replace L36 := N38
  refine k37 _ _ ?_
  try clear k37 K37
  refine sq_val (some 8) (.int .i64 0) rfl rfl (by kernel_rfl) (rvk (by kernel_rfl)) ?_
  simp only [p1, p2, p3, p4]
  refine sq_nil ?_
  refine k32 _ _ ?_
  try clear k32 K32
  refine wp_seq_k (fun K39 k39 => ?_)
  refine wp_region ?_
  simp only [List.size_toArray, List.length_cons, List.length_nil, Nat.reduceAdd, List.range, List.range.loop]
  refine sq_val (some 89) (.pointer (some ⟨b12, 0, none⟩)) rfl rfl (by kernel_rfl) (rvk (by kernel_rfl)) ?_
  simp only [p1, p2, p3, p4]
  replace L12 := st38.lc (L12.gr g36) ne12_36
  refine sq_val (some 90) (.agg #[t10_0, t10_1, t10_2, t10_3, t10_4, t10_5, t10_6, t10_7, t10_8, t10_9, t10_10, t10_11]) rfl rfl (by kernel_rfl) (rv_load 33 _ b12 0 _ _ [t10_0, t10_1, t10_2, t10_3, t10_4, t10_5, t10_6, t10_7, t10_8, t10_9, t10_10, t10_11] rfl rfl L12 rfl (by kernel_rfl)) ?_
  simp only [p1, p2, p3, p4]
  refine sq_val (some 91) (.pointer (some ⟨b12, 0, none⟩)) rfl rfl (by kernel_rfl) (rvk (by kernel_rfl)) ?_
  simp only [p1, p2, p3, p4]
  refine sq_val (some 92) (.agg #[t10_0, t10_1, t10_2, t10_3, t10_4, t10_5, t10_6, t10_7, t10_8, t10_9, t10_10, t10_11]) rfl rfl (by kernel_rfl) (rv_load 33 _ b12 0 _ _ [t10_0, t10_1, t10_2, t10_3, t10_4, t10_5, t10_6, t10_7, t10_8, t10_9, t10_10, t10_11] rfl rfl L12 rfl (by kernel_rfl)) ?_
  simp only [p1, p2, p3, p4]
  refine sq_eff rfl (by kernel_rfl) (fun K40 k40 => ?_)
  have kq42 := g34.kp.trans (g36.kp.trans kp38)
  replace h10a := h10a.kp kq42
  replace h10b := h10b.kp kq42
  replace h10c := h10c.kp kq42
  refine eff_call (some 93) rfl (by kernel_rfl) (dot_v h10a h10b h10c h10a h10b h10c (by omega)) ?_
  rintro e41 w41 ⟨⟨p41, q41, r41, s41, rfl, h41⟩, g41⟩
  refine ⟨_, rfl, ?_⟩
  replace hB := Gr.trans hB g41
  refine k40 _ _ ?_
  try clear k40 K40
  simp only [p1, p2, p3, p4]
  refine sq_eff rfl (by kernel_rfl) (fun K43 k43 => ?_)
  refine eff_alloc 31 (.agg #[(.bool false), (.slice none 0 0), (.bool false), (.slice none 0 0)]) #[(.bool false), (.slice none 0 0), (.bool false), (.slice none 0 0)] (some 9) rfl rfl (by kernel_rfl) rfl (fun b44 w44 g44 L44 q44 => ?_)
  replace L3 := (st38.lc (L3.gr g36) ne3_36).gr g41
  have ne3_44 := L3.ne q44
  replace L12 := L12.gr g41
  have ne12_44 := L12.ne q44
  replace L20 := (st38.lc (L20.gr g36) ne20_36).gr g41
  have ne20_44 := L20.ne q44
  replace L36 := L36.gr g41
  have ne36_44 := L36.ne q44
  replace q44 := Nat.le_trans (Below.size hB) q44
  replace hB := Gr.trans hB g44
  refine k43 _ _ ?_
  try clear k43 K43
  simp only [p1, p2, p3, p4]
  refine sq_eff rfl (by kernel_rfl) (fun K45 k45 => ?_)
  refine eff_store 31 _ _ b44 0 (.agg #[p41, q41, r41, s41]) [p41, q41, r41, s41] _ #[p41, q41, r41, s41] _ rfl rfl rfl rfl rfl L44 (by kernel_rfl) (Nat.le_of_ble_eq_true rfl) ⟨h41.one0, h41.one1, h41.one2, h41.one3, trivial⟩ (by kernel_rfl) (fun w46 st46 N46 => ?_)
  have kp46 := st46.kp L44 (by decide)
  replace hB := st46.gr hB q44
  replace L44 := N46
  refine k45 _ _ ?_
  try clear k45 K45
  refine sq_nil ?_
  refine k39 _ _ ?_
  try clear k39 K39
  refine wp_seq_k (fun K47 k47 => ?_)
  have hz48 := Below.size hB
  replace L3 := st46.lc (L3.gr g44) ne3_44
  have lt3_48 := L3.lt
  replace L12 := st46.lc (L12.gr g44) ne12_44
  have lt12_48 := L12.lt
  replace L20 := st46.lc (L20.gr g44) ne20_44
  have lt20_48 := L20.lt
  replace L36 := st46.lc (L36.gr g44) ne36_44
  have lt36_48 := L36.lt
  have lt44_48 := L44.lt
  have gd48 := Gr.drew w46
  replace hB := Gr.trans hB gd48
  replace L12 := L12.gr gd48
  replace L44 := L44.gr gd48
  refine wp_region_flo (fun w' => Lc w' b12 #[t10_0, t10_1, t10_2, t10_3, t10_4, t10_5, t10_6, t10_7, t10_8, t10_9, t10_10, t10_11, t10_12, t10_13, t10_14, t10_15, t10_16, t10_17, t10_18, t10_19, t10_20, t10_21, t10_22, t10_23] 35 ∧ Lc w' b44 #[p41, q41, r41, s41] 31) [(true, 0), (true, 1), (true, 2), (true, 3), (true, 5), (false, 4), (false, 6), (true, 7), (true, 8), (true, 9)] [⟨10, 10, 31, #[(.bool false), (.slice none 0 0), (.bool false), (.slice none 0 0)]⟩] [(false, 11), (true, 12)] (by kernel_rfl) (by kernel_rfl) (by kernel_rfl) (by kernel_rfl) (by kernel_rfl) (by decide) (fun _ _ _ _ _ h => h) (fun _ _ _ _ _ h => h) (fun w' o h => ⟨Lc.gr h.1 (Gr.alloc w' o), Lc.gr h.2 (Gr.alloc w' o)⟩) ⟨L12, L44⟩ (by intro f hf; simp only [List.mem_cons, List.not_mem_nil, or_false] at hf; rcases hf with rfl <;> first | exact alloc_zero (z := (.agg #[(.bool false), (.slice none 0 0), (.bool false), (.slice none 0 0)])) (by kernel_rfl) rfl) ?_
  refine flo_pure (some 95) (.pointer (some ⟨b12, 0, none⟩)) rfl rfl rfl (fun w' hS => (rvk (by kernel_rfl))) ?_
  simp only [p1, p2, p3, p4]
  refine flo_pure (some 96) (.agg #[t10_0, t10_1, t10_2, t10_3, t10_4, t10_5, t10_6, t10_7, t10_8, t10_9, t10_10, t10_11]) rfl rfl rfl (fun w' hS => (rv_load 33 _ b12 0 _ _ [t10_0, t10_1, t10_2, t10_3, t10_4, t10_5, t10_6, t10_7, t10_8, t10_9, t10_10, t10_11] rfl rfl hS.1 rfl (by kernel_rfl))) ?_
  simp only [p1, p2, p3, p4]
  refine flo_pure (some 97) (.pointer (some ⟨b12, 12, none⟩)) rfl rfl rfl (fun w' hS => (rvk (by kernel_rfl))) ?_
  simp only [p1, p2, p3, p4]
  refine flo_pure (some 98) (.agg #[t10_12, t10_13, t10_14, t10_15, t10_16, t10_17, t10_18, t10_19, t10_20, t10_21, t10_22, t10_23]) rfl rfl rfl (fun w' hS => (rv_load 33 _ b12 12 _ _ [t10_12, t10_13, t10_14, t10_15, t10_16, t10_17, t10_18, t10_19, t10_20, t10_21, t10_22, t10_23] rfl rfl hS.1 rfl (by kernel_rfl))) ?_
  simp only [p1, p2, p3, p4]
  refine flo_pure (some 100) (.agg #[p41, q41, r41, s41]) rfl rfl rfl (fun w' hS => (rv_load 31 _ b44 0 _ _ [p41, q41, r41, s41] rfl rfl hS.2 rfl (by kernel_rfl))) ?_
  simp only [p1, p2, p3, p4]
  refine flo_eff rfl rfl (fun w49 g49 _ K49 k49 => ?_)
  replace hB := Gr.trans hB g49
  have kq51 := g41.kp.trans (g44.kp.trans (kp46.trans (gd48.kp.trans g49.kp)))
  replace h10a := h10a.kp kq51
  replace h10b := h10b.kp kq51
  replace h10c := h10c.kp kq51
  have kq52 := g17.kp.trans (g20.kp.trans (kp22.trans (g26.kp.trans (g31.kp.trans (g34.kp.trans (g36.kp.trans (kp38.trans (g41.kp.trans (g44.kp.trans (kp46.trans (gd48.kp.trans g49.kp)))))))))))
  replace h10d := h10d.kp kq52
  replace h10e := h10e.kp kq52
  replace h10f := h10f.kp kq52
  refine eff_call (some 99) rfl (by kernel_rfl) (dot_v h10a h10b h10c h10d h10e h10f (by omega)) ?_
  rintro e50 w50 ⟨⟨p50, q50, r50, s50, rfl, h50⟩, g50⟩
  refine ⟨_, rfl, ?_⟩
  replace hB := Gr.trans hB g50
  replace L12 := L12.gr (g49.trans g50)
  replace L44 := L44.gr (g49.trans g50)
  refine k49 _ _ g50 ⟨L12, L44⟩ ?_
  try clear k49 K49
  simp only [p1, p2, p3, p4]
  refine flo_eff rfl rfl (fun w53 g53 _ K53 k53 => ?_)
  replace hB := Gr.trans hB g53
  replace h50 := h50.kp g53.kp
  have kq55 := g44.kp.trans (kp46.trans (gd48.kp.trans (g49.kp.trans (g50.kp.trans g53.kp))))
  replace h41 := h41.kp kq55
  refine eff_call (some 101) rfl (by kernel_rfl) (div_r h50 h41 (by omega) hdv) ?_
  rintro e54 w54 ⟨⟨p54, q54, r54, s54, rfl, h54⟩, g54⟩
  refine ⟨_, rfl, ?_⟩
  replace hB := Gr.trans hB g54
  replace L12 := L12.gr (g53.trans g54)
  replace L44 := L44.gr (g53.trans g54)
  refine k53 _ _ g54 ⟨L12, L44⟩ ?_
  try clear k53 K53
  simp only [p1, p2, p3, p4]
  refine flo_pure (some 94) (.tuple #[(.agg #[p54, q54, r54, s54]), (.int .i64 0)]) rfl rfl rfl (fun w' hS => (rvk (by kernel_rfl))) ?_
  simp only [p1, p2, p3, p4]
  refine flo_pure (some 102) (.agg #[p54, q54, r54, s54]) rfl rfl rfl (fun w' hS => (rvk (by kernel_rfl))) ?_
  simp only [p1, p2, p3, p4]
  refine flo_pure (some 103) (.int .i64 0) rfl rfl rfl (fun w' hS => (rvk (by kernel_rfl))) ?_
  simp only [p1, p2, p3, p4]
  refine flo_nil (fun w56 g56 _ => ?_)
  replace hB := Gr.trans hB g56
  refine floFin1 (fun b57 (L57 : Lc w56 b57 #[(.bool false), (.slice none 0 0), (.bool false), (.slice none 0 0)] 31) q57  => ?_)
  have ne3_57 : b3 ≠ b57 := Nat.ne_of_lt (Nat.lt_of_lt_of_le lt3_48 q57)
  have ne12_57 : b12 ≠ b57 := Nat.ne_of_lt (Nat.lt_of_lt_of_le lt12_48 q57)
  have ne20_57 : b20 ≠ b57 := Nat.ne_of_lt (Nat.lt_of_lt_of_le lt20_48 q57)
  have ne36_57 : b36 ≠ b57 := Nat.ne_of_lt (Nat.lt_of_lt_of_le lt36_48 q57)
  have ne44_57 : b44 ≠ b57 := Nat.ne_of_lt (Nat.lt_of_lt_of_le lt44_48 q57)
  replace q57 := Nat.le_trans hz48 q57
  simp only [p1, p2, p3, p4]
  refine ord_eff rfl rfl (fun K58 k58 => ?_)
  refine eff_store 31 _ _ b57 0 (.agg #[p54, q54, r54, s54]) [p54, q54, r54, s54] _ #[p54, q54, r54, s54] _ rfl rfl rfl rfl rfl L57 (by kernel_rfl) (Nat.le_of_ble_eq_true rfl) ⟨h54.one0, h54.one1, h54.one2, h54.one3, trivial⟩ (by kernel_rfl) (fun w59 st59 N59 => ?_)
  have kp59 := st59.kp L57 (by decide)
  replace hB := st59.gr hB q57
  replace L57 := N59
  replace L12 := st59.lc (L12.gr g56) ne12_57
  replace L44 := st59.lc (L44.gr g56) ne44_57
  refine k58 _ _ ⟨L12, L44⟩ ?_
  try clear k58 K58
  refine ord_pure (some 11) (.int .i64 0) rfl rfl rfl (fun w' hS => (rvk (by kernel_rfl))) ?_
  simp only [p1, p2, p3, p4]
  refine ord_nil ?_
  refine k47 _ _ ?_
  try clear k47 K47
  refine wp_seq_k (fun K60 k60 => ?_)
  have hz61 := Below.size hB
  replace L3 := st59.lc (L3.gr (gd48.trans (g49.trans (g50.trans (g53.trans (g54.trans g56)))))) ne3_57
  have lt3_61 := L3.lt
  have lt12_61 := L12.lt
  replace L20 := st59.lc (L20.gr (gd48.trans (g49.trans (g50.trans (g53.trans (g54.trans g56)))))) ne20_57
  have lt20_61 := L20.lt
  replace L36 := st59.lc (L36.gr (gd48.trans (g49.trans (g50.trans (g53.trans (g54.trans g56)))))) ne36_57
  have lt36_61 := L36.lt
  have lt44_61 := L44.lt
  have lt57_61 := L57.lt
  have gd61 := Gr.drew w59
  replace hB := Gr.trans hB gd61
  replace L44 := L44.gr gd61
  refine wp_region_flo (fun w' => Lc w' b44 #[p41, q41, r41, s41] 31) [(true, 1), (false, 0), (false, 2), (true, 3), (true, 4), (true, 5)] [⟨6, 12, 31, #[(.bool false), (.slice none 0 0), (.bool false), (.slice none 0 0)]⟩] [(false, 7), (true, 8)] (by kernel_rfl) (by kernel_rfl) (by kernel_rfl) (by kernel_rfl) (by kernel_rfl) (by decide) (fun _ _ _ _ _ h => h) (fun _ _ _ _ _ h => h) (fun w' o h => Lc.gr h (Gr.alloc w' o)) L44 (by intro f hf; simp only [List.mem_cons, List.not_mem_nil, or_false] at hf; rcases hf with rfl <;> first | exact alloc_zero (z := (.agg #[(.bool false), (.slice none 0 0), (.bool false), (.slice none 0 0)])) (by kernel_rfl) rfl) ?_
  refine flo_pure (some 106) (.agg #[p41, q41, r41, s41]) rfl rfl rfl (fun w' hS => (rv_load 31 _ b44 0 _ _ [p41, q41, r41, s41] rfl rfl hS rfl (by kernel_rfl))) ?_
  simp only [p1, p2, p3, p4]
  refine flo_eff rfl rfl (fun w62 g62 _ K62 k62 => ?_)
  replace hB := Gr.trans hB g62
  refine eff_call (some 105) rfl (by kernel_rfl) (from_r (1) (by omega) (by omega) _) ?_
  rintro e63 w63 ⟨⟨p63, q63, r63, s63, rfl, h63⟩, g63⟩
  refine ⟨_, rfl, ?_⟩
  replace hB := Gr.trans hB g63
  replace L44 := L44.gr (g62.trans g63)
  refine k62 _ _ g63 L44 ?_
  try clear k62 K62
  simp only [p1, p2, p3, p4]
  refine flo_eff rfl rfl (fun w64 g64 _ K64 k64 => ?_)
  replace hB := Gr.trans hB g64
  replace h63 := h63.kp g64.kp
  have kq66 := g54.kp.trans (g56.kp.trans (kp59.trans (gd61.kp.trans (g62.kp.trans (g63.kp.trans g64.kp)))))
  replace h41 := h41.kp kq66
  refine eff_call (some 107) rfl (by kernel_rfl) (div_r h63 h41 (by omega) hdv) ?_
  rintro e65 w65 ⟨⟨p65, q65, r65, s65, rfl, h65⟩, g65⟩
  refine ⟨_, rfl, ?_⟩
  replace hB := Gr.trans hB g65
  replace L44 := L44.gr (g64.trans g65)
  refine k64 _ _ g65 L44 ?_
  try clear k64 K64
  simp only [p1, p2, p3, p4]
  refine flo_pure (some 104) (.tuple #[(.agg #[p65, q65, r65, s65]), (.int .i64 0)]) rfl rfl rfl (fun w' hS => (rvk (by kernel_rfl))) ?_
  simp only [p1, p2, p3, p4]
  refine flo_pure (some 108) (.agg #[p65, q65, r65, s65]) rfl rfl rfl (fun w' hS => (rvk (by kernel_rfl))) ?_
  simp only [p1, p2, p3, p4]
  refine flo_pure (some 109) (.int .i64 0) rfl rfl rfl (fun w' hS => (rvk (by kernel_rfl))) ?_
  simp only [p1, p2, p3, p4]
  refine flo_nil (fun w67 g67 _ => ?_)
  replace hB := Gr.trans hB g67
  refine floFin1 (fun b68 (L68 : Lc w67 b68 #[(.bool false), (.slice none 0 0), (.bool false), (.slice none 0 0)] 31) q68  => ?_)
  have ne3_68 : b3 ≠ b68 := Nat.ne_of_lt (Nat.lt_of_lt_of_le lt3_61 q68)
  have ne12_68 : b12 ≠ b68 := Nat.ne_of_lt (Nat.lt_of_lt_of_le lt12_61 q68)
  have ne20_68 : b20 ≠ b68 := Nat.ne_of_lt (Nat.lt_of_lt_of_le lt20_61 q68)
  have ne36_68 : b36 ≠ b68 := Nat.ne_of_lt (Nat.lt_of_lt_of_le lt36_61 q68)
  have ne44_68 : b44 ≠ b68 := Nat.ne_of_lt (Nat.lt_of_lt_of_le lt44_61 q68)
  have ne57_68 : b57 ≠ b68 := Nat.ne_of_lt (Nat.lt_of_lt_of_le lt57_61 q68)
  replace q68 := Nat.le_trans hz61 q68
  simp only [p1, p2, p3, p4]
  refine ord_eff rfl rfl (fun K69 k69 => ?_)
  refine eff_store 31 _ _ b68 0 (.agg #[p65, q65, r65, s65]) [p65, q65, r65, s65] _ #[p65, q65, r65, s65] _ rfl rfl rfl rfl rfl L68 (by kernel_rfl) (Nat.le_of_ble_eq_true rfl) ⟨h65.one0, h65.one1, h65.one2, h65.one3, trivial⟩ (by kernel_rfl) (fun w70 st70 N70 => ?_)
  have kp70 := st70.kp L68 (by decide)
  replace hB := st70.gr hB q68
  replace L68 := N70
  replace L44 := st70.lc (L44.gr g67) ne44_68
  refine k69 _ _ L44 ?_
  try clear k69 K69
  refine ord_pure (some 13) (.int .i64 0) rfl rfl rfl (fun w' hS => (rvk (by kernel_rfl))) ?_
  simp only [p1, p2, p3, p4]
  refine ord_nil ?_
  refine k60 _ _ ?_
  try clear k60 K60
  refine wp_seq_k (fun K71 k71 => ?_)
  refine wp_region ?_
  simp only [List.size_toArray, List.length_cons, List.length_nil, Nat.reduceAdd, List.range, List.range.loop]
  refine sq_val (some 14) (.int .i64 3) rfl rfl (by kernel_rfl) (rvk (by kernel_rfl)) ?_
  simp only [p1, p2, p3, p4]
  refine sq_nil ?_
  refine k71 _ _ ?_
  try clear k71 K71
  refine wp_seq_k (fun K72 k72 => ?_)
  refine wp_seq_k (fun K73 k73 => ?_)
  refine wp_region ?_
  simp only [List.size_toArray, List.length_cons, List.length_nil, Nat.reduceAdd, List.range, List.range.loop]
  replace L57 := st70.lc (L57.gr (gd61.trans (g62.trans (g63.trans (g64.trans (g65.trans g67)))))) ne57_68
  refine sq_val (some 110) (.agg #[p54, q54, r54, s54]) rfl rfl (by kernel_rfl) (rv_load 31 _ b57 0 _ _ [p54, q54, r54, s54] rfl rfl L57 rfl (by kernel_rfl)) ?_
  simp only [p1, p2, p3, p4]
  refine sq_eff rfl (by kernel_rfl) (fun K74 k74 => ?_)
  have kq76 := g56.kp.trans (kp59.trans (gd61.kp.trans (g62.kp.trans (g63.kp.trans (g64.kp.trans (g65.kp.trans (g67.kp.trans kp70)))))))
  replace h54 := h54.kp kq76
  refine eff_call (some 111) rfl (by kernel_rfl) (sign_r h54) ?_
  rintro e75 w75 ⟨rfl, g75⟩
  refine ⟨_, rfl, ?_⟩
  replace hB := Gr.trans hB g75
  refine k74 _ _ ?_
  try clear k74 K74
  simp only [p1, p2, p3, p4]
  have hb77 : ((sgn (((0 + A0 * A3 + A1 * A4 + A2 * A5) / (0 + A0 * A0 + A1 * A1 + A2 * A2))).num == (0 : Int))) = true := (lawAx10 A0 A1 A2 A3 A4 A5 ha hp hsq)
  refine sq_val (some 112) (.bool true) rfl rfl (by kernel_rfl) (RunV.bool (x := (sgn (((0 + A0 * A3 + A1 * A4 + A2 * A5) / (0 + A0 * A0 + A1 * A1 + A2 * A2))).num == (0 : Int))) (rvk (by kernel_rfl)) hb77) ?_
  simp only [p1, p2, p3, p4]
  refine sq_nil ?_
  refine k73 _ _ ?_
  try clear k73 K73
  refine wp_cond_true rfl ?_
  refine wp_region ?_
  simp only [List.size_toArray, List.length_cons, List.length_nil, Nat.reduceAdd, List.range, List.range.loop]
  refine sq_val (some 14) (.int .i64 2) rfl rfl (by kernel_rfl) (rvk (by kernel_rfl)) ?_
  simp only [p1, p2, p3, p4]
  refine sq_nil ?_
  refine k72 _ _ ?_
  try clear k72 K72
  refine wp_seq_k (fun K78 k78 => ?_)
  have gd100 := Gr.drew w75
  replace hB := Gr.trans hB gd100
  replace L12 := (st70.lc (L12.gr (gd61.trans (g62.trans (g63.trans (g64.trans (g65.trans g67)))))) ne12_68).gr (g75.trans gd100)
  replace L20 := (st70.lc (L20.gr (gd61.trans (g62.trans (g63.trans (g64.trans (g65.trans g67)))))) ne20_68).gr (g75.trans gd100)
  replace L36 := (st70.lc (L36.gr (gd61.trans (g62.trans (g63.trans (g64.trans (g65.trans g67)))))) ne36_68).gr (g75.trans gd100)
  replace L57 := L57.gr (g75.trans gd100)
  replace L68 := L68.gr (g75.trans gd100)
  refine wp_region_ord (fun w' => Lc w' b12 #[t10_0, t10_1, t10_2, t10_3, t10_4, t10_5, t10_6, t10_7, t10_8, t10_9, t10_10, t10_11, t10_12, t10_13, t10_14, t10_15, t10_16, t10_17, t10_18, t10_19, t10_20, t10_21, t10_22, t10_23] 35 ∧ Lc w' b20 #[(.int .i64 2), t17_0, t17_1, t17_2, t17_3, t17_4, t17_5, t17_6, t17_7, t17_8, t17_9, t17_10, t17_11, t17_12, t17_13, t17_14, t17_15, t17_16, t17_17, t17_18, t17_19, t17_20, t17_21, t17_22, t17_23, t17_24, t17_25, t17_26, t17_27] 38 ∧ Lc w' b36 #[t34_0, t34_1, t34_2, t34_3, t34_4, t34_5, t34_6, t34_7, t34_8, t34_9, t34_10, t34_11] 33 ∧ Lc w' b57 #[p54, q54, r54, s54] 31 ∧ Lc w' b68 #[p65, q65, r65, s65] 31) [(true, 0), (true, 1), (true, 2), (true, 3), (true, 4), (true, 5), (true, 6), (true, 7), (true, 8), (true, 9), (true, 10), (true, 11), (true, 12), (true, 13), (true, 14), (true, 15), (true, 16), (true, 17), (true, 18), (true, 19), (false, 20), (true, 21), (true, 22), (true, 23), (true, 24), (true, 25), (false, 26), (true, 27), (true, 28), (true, 29), (true, 30), (true, 31), (true, 32), (true, 33), (true, 34), (true, 36), (false, 35), (false, 37), (false, 38), (true, 39), (true, 40)] (by kernel_rfl) (by kernel_rfl) (by kernel_rfl) (by decide) (fun _ _ _ _ _ h => h) ⟨L12, L20, L36, L57, L68⟩ ?_
  refine ord_pure (some 113) (.int .i64 0) rfl rfl rfl (fun w' hS => (rvk (by kernel_rfl))) ?_
  simp only [p1, p2, p3, p4]
  refine ord_pure (some 114) (.bool true) rfl rfl rfl (fun w' hS => (rvk (by kernel_rfl))) ?_
  simp only [p1, p2, p3, p4]
  refine ord_pure (some 115) (.bool true) rfl rfl rfl (fun w' hS => (rvk (by kernel_rfl))) ?_
  simp only [p1, p2, p3, p4]
  refine ord_pureg (some 116) (.int .i64 0) rfl rfl (by kernel_rfl) (fun w' hS => (rvk (by kernel_rfl))) ?_
  simp only [p1, p2, p3, p4]
  refine ord_pureg (some 117) (.bool true) rfl rfl (by kernel_rfl) (fun w' hS => (rvk (by kernel_rfl))) ?_
  simp only [p1, p2, p3, p4]
  refine ord_pure (some 118) (.bool true) rfl rfl rfl (fun w' hS => (rvk (by kernel_rfl))) ?_
  simp only [p1, p2, p3, p4]
  refine ord_pure (some 119) (.bool true) rfl rfl rfl (fun w' hS => (rvk (by kernel_rfl))) ?_
  simp only [p1, p2, p3, p4]
  refine ord_pureg (some 120) (.int .i64 0) rfl rfl (by kernel_rfl) (fun w' hS => (rvk (by kernel_rfl))) ?_
  simp only [p1, p2, p3, p4]
  refine ord_pureg (some 121) (.bool true) rfl rfl (by kernel_rfl) (fun w' hS => (rvk (by kernel_rfl))) ?_
  simp only [p1, p2, p3, p4]
  refine ord_pure (some 122) (.bool true) rfl rfl rfl (fun w' hS => (rvk (by kernel_rfl))) ?_
  simp only [p1, p2, p3, p4]
  refine ord_pure (some 123) (.bool true) rfl rfl rfl (fun w' hS => (rvk (by kernel_rfl))) ?_
  simp only [p1, p2, p3, p4]
  refine ord_pureg (some 124) (.pointer (some ⟨b20, 0, none⟩)) rfl rfl (by kernel_rfl) (fun w' hS => (rvk (by kernel_rfl))) ?_
  simp only [p1, p2, p3, p4]
  refine ord_pureg (some 125) (.int .i64 2) rfl rfl (by kernel_rfl) (fun w' hS => (rv_load1 3 _ b20 0 _ _ (.int .i64 2) rfl rfl hS.2.1 rfl (by kernel_rfl))) ?_
  simp only [p1, p2, p3, p4]
  refine ord_pureg (some 126) (.int .i64 2) rfl rfl (by kernel_rfl) (fun w' hS => (rvk (by kernel_rfl))) ?_
  simp only [p1, p2, p3, p4]
  refine ord_pureg (some 127) (.bool true) rfl rfl (by kernel_rfl) (fun w' hS => (rvk (by kernel_rfl))) ?_
  simp only [p1, p2, p3, p4]
  refine ord_pure (some 128) (.bool true) rfl rfl rfl (fun w' hS => (rvk (by kernel_rfl))) ?_
  simp only [p1, p2, p3, p4]
  refine ord_pure (some 129) (.bool true) rfl rfl rfl (fun w' hS => (rvk (by kernel_rfl))) ?_
  simp only [p1, p2, p3, p4]
  refine ord_pureg (some 130) (.pointer (some ⟨b20, 1, none⟩)) rfl rfl (by kernel_rfl) (fun w' hS => (rvk (by kernel_rfl))) ?_
  simp only [p1, p2, p3, p4]
  refine ord_pureg (some 131) (.agg #[t17_0, t17_1, t17_2, t17_3, t17_4, t17_5, t17_6, t17_7, t17_8, t17_9, t17_10, t17_11]) rfl rfl (by kernel_rfl) (fun w' hS => (rv_load 33 _ b20 1 _ _ [t17_0, t17_1, t17_2, t17_3, t17_4, t17_5, t17_6, t17_7, t17_8, t17_9, t17_10, t17_11] rfl rfl hS.2.1 rfl (by kernel_rfl))) ?_
  simp only [p1, p2, p3, p4]
  refine ord_pureg (some 132) (.agg #[t34_0, t34_1, t34_2, t34_3, t34_4, t34_5, t34_6, t34_7, t34_8, t34_9, t34_10, t34_11]) rfl rfl (by kernel_rfl) (fun w' hS => (rv_load 33 _ b36 0 _ _ [t34_0, t34_1, t34_2, t34_3, t34_4, t34_5, t34_6, t34_7, t34_8, t34_9, t34_10, t34_11] rfl rfl hS.2.2.1 rfl (by kernel_rfl))) ?_
  simp only [p1, p2, p3, p4]
  refine ord_effg rfl (by kernel_rfl) (fun K101 k101 => ?_)
  have kq103 := g20.kp.trans (kp22.trans (g26.kp.trans (g31.kp.trans (g34.kp.trans (g36.kp.trans (kp38.trans (g41.kp.trans (g44.kp.trans (kp46.trans (gd48.kp.trans (g49.kp.trans (g50.kp.trans (g53.kp.trans (g54.kp.trans (g56.kp.trans (kp59.trans (gd61.kp.trans (g62.kp.trans (g63.kp.trans (g64.kp.trans (g65.kp.trans (g67.kp.trans (kp70.trans (g75.kp.trans gd100.kp))))))))))))))))))))))))
  replace h17a := h17a.kp kq103
  replace h17b := h17b.kp kq103
  replace h17c := h17c.kp kq103
  have kq104 := g36.kp.trans (kp38.trans (g41.kp.trans (g44.kp.trans (kp46.trans (gd48.kp.trans (g49.kp.trans (g50.kp.trans (g53.kp.trans (g54.kp.trans (g56.kp.trans (kp59.trans (gd61.kp.trans (g62.kp.trans (g63.kp.trans (g64.kp.trans (g65.kp.trans (g67.kp.trans (kp70.trans (g75.kp.trans gd100.kp)))))))))))))))))))
  replace h34a := h34a.kp kq104
  replace h34b := h34b.kp kq104
  replace h34c := h34c.kp kq104
  refine eff_call (some 133) rfl (by kernel_rfl) (vequal_v h17a h17b h17c h34a h34b h34c (by omega)) ?_
  rintro e102 w102 ⟨rfl, g102⟩
  refine ⟨_, rfl, ?_⟩
  replace hB := Gr.trans hB g102
  replace L12 := L12.gr g102
  replace L20 := L20.gr g102
  replace L36 := L36.gr g102
  replace L57 := L57.gr g102
  replace L68 := L68.gr g102
  refine k101 _ _ ⟨L12, L20, L36, L57, L68⟩ ?_
  try clear k101 K101
  simp only [p1, p2, p3, p4]
  have hb105 : (vcmp (prim (A0) (A1) (A2) (A0)) (prim (A0) (A1) (A2) (A1)) (prim (A0) (A1) (A2) (A2)) (prim (A0) (A1) (A2) (A0)) (prim (A0) (A1) (A2) (A1)) (prim (A0) (A1) (A2) (A2)) == (0 : Int)) = true := (lawAx11 A0 A1 A2 A3 A4 A5 ha hp hsq)
  refine ord_pure (some 134) (.bool true) rfl rfl rfl (fun w' hS => (RunV.bool (x := vcmp (prim (A0) (A1) (A2) (A0)) (prim (A0) (A1) (A2) (A1)) (prim (A0) (A1) (A2) (A2)) (prim (A0) (A1) (A2) (A0)) (prim (A0) (A1) (A2) (A1)) (prim (A0) (A1) (A2) (A2)) == (0 : Int)) (rvk (by kernel_rfl)) hb105)) ?_
  simp only [p1, p2, p3, p4]
  refine ord_pure (some 135) (.bool true) rfl rfl rfl (fun w' hS => (rvk (by kernel_rfl))) ?_
  simp only [p1, p2, p3, p4]
  refine ord_pureg (some 136) (.pointer (some ⟨b20, 25, none⟩)) rfl rfl (by kernel_rfl) (fun w' hS => (rvk (by kernel_rfl))) ?_
  simp only [p1, p2, p3, p4]
  refine ord_pureg (some 137) (.agg #[t17_24, t17_25, t17_26, t17_27]) rfl rfl (by kernel_rfl) (fun w' hS => (rv_load 31 _ b20 25 _ _ [t17_24, t17_25, t17_26, t17_27] rfl rfl hS.2.1 rfl (by kernel_rfl))) ?_
  simp only [p1, p2, p3, p4]
  refine ord_pureg (some 138) (.agg #[p54, q54, r54, s54]) rfl rfl (by kernel_rfl) (fun w' hS => (rv_load 31 _ b57 0 _ _ [p54, q54, r54, s54] rfl rfl hS.2.2.2.1 rfl (by kernel_rfl))) ?_
  simp only [p1, p2, p3, p4]
  refine ord_effg rfl (by kernel_rfl) (fun K106 k106 => ?_)
  have kq108 := g20.kp.trans (kp22.trans (g26.kp.trans (g31.kp.trans (g34.kp.trans (g36.kp.trans (kp38.trans (g41.kp.trans (g44.kp.trans (kp46.trans (gd48.kp.trans (g49.kp.trans (g50.kp.trans (g53.kp.trans (g54.kp.trans (g56.kp.trans (kp59.trans (gd61.kp.trans (g62.kp.trans (g63.kp.trans (g64.kp.trans (g65.kp.trans (g67.kp.trans (kp70.trans (g75.kp.trans (gd100.kp.trans g102.kp)))))))))))))))))))))))))
  replace h17g := h17g.kp kq108
  have kq109 := g75.kp.trans (gd100.kp.trans g102.kp)
  replace h54 := h54.kp kq109
  refine eff_call (some 139) rfl (by kernel_rfl) (equal_q h17g h54 (by omega)) ?_
  rintro e107 w107 ⟨rfl, g107⟩
  refine ⟨_, rfl, ?_⟩
  replace hB := Gr.trans hB g107
  replace L12 := L12.gr g107
  replace L20 := L20.gr g107
  replace L36 := L36.gr g107
  replace L57 := L57.gr g107
  replace L68 := L68.gr g107
  refine k106 _ _ ⟨L12, L20, L36, L57, L68⟩ ?_
  try clear k106 K106
  simp only [p1, p2, p3, p4]
  have hb110 : (rcmp ((0 + A0 * A3 + A1 * A4 + A2 * A5) * (((1 : Int) : Rat) / (0 + A0 * A0 + A1 * A1 + A2 * A2))) ((0 + A0 * A3 + A1 * A4 + A2 * A5) / (0 + A0 * A0 + A1 * A1 + A2 * A2)) == (0 : Int)) = true := (lawAx12 A0 A1 A2 A3 A4 A5 ha hp hsq)
  refine ord_pure (some 140) (.bool true) rfl rfl rfl (fun w' hS => (RunV.bool (x := rcmp ((0 + A0 * A3 + A1 * A4 + A2 * A5) * (((1 : Int) : Rat) / (0 + A0 * A0 + A1 * A1 + A2 * A2))) ((0 + A0 * A3 + A1 * A4 + A2 * A5) / (0 + A0 * A0 + A1 * A1 + A2 * A2)) == (0 : Int)) (rvk (by kernel_rfl)) hb110)) ?_
  simp only [p1, p2, p3, p4]
  refine ord_pure (some 141) (.bool true) rfl rfl rfl (fun w' hS => (rvk (by kernel_rfl))) ?_
  simp only [p1, p2, p3, p4]
  refine ord_pureg (some 142) (.pointer (some ⟨b20, 13, none⟩)) rfl rfl (by kernel_rfl) (fun w' hS => (rvk (by kernel_rfl))) ?_
  simp only [p1, p2, p3, p4]
  refine ord_pureg (some 143) (.agg #[t17_12, t17_13, t17_14, t17_15, t17_16, t17_17, t17_18, t17_19, t17_20, t17_21, t17_22, t17_23]) rfl rfl (by kernel_rfl) (fun w' hS => (rv_load 33 _ b20 13 _ _ [t17_12, t17_13, t17_14, t17_15, t17_16, t17_17, t17_18, t17_19, t17_20, t17_21, t17_22, t17_23] rfl rfl hS.2.1 rfl (by kernel_rfl))) ?_
  simp only [p1, p2, p3, p4]
  refine ord_pureg (some 144) (.pointer (some ⟨b12, 0, none⟩)) rfl rfl (by kernel_rfl) (fun w' hS => (rvk (by kernel_rfl))) ?_
  simp only [p1, p2, p3, p4]
  refine ord_pureg (some 145) (.agg #[t10_0, t10_1, t10_2, t10_3, t10_4, t10_5, t10_6, t10_7, t10_8, t10_9, t10_10, t10_11]) rfl rfl (by kernel_rfl) (fun w' hS => (rv_load 33 _ b12 0 _ _ [t10_0, t10_1, t10_2, t10_3, t10_4, t10_5, t10_6, t10_7, t10_8, t10_9, t10_10, t10_11] rfl rfl hS.1 rfl (by kernel_rfl))) ?_
  simp only [p1, p2, p3, p4]
  refine ord_pureg (some 146) (.pointer (some ⟨b12, 12, none⟩)) rfl rfl (by kernel_rfl) (fun w' hS => (rvk (by kernel_rfl))) ?_
  simp only [p1, p2, p3, p4]
  refine ord_pureg (some 147) (.agg #[t10_12, t10_13, t10_14, t10_15, t10_16, t10_17, t10_18, t10_19, t10_20, t10_21, t10_22, t10_23]) rfl rfl (by kernel_rfl) (fun w' hS => (rv_load 33 _ b12 12 _ _ [t10_12, t10_13, t10_14, t10_15, t10_16, t10_17, t10_18, t10_19, t10_20, t10_21, t10_22, t10_23] rfl rfl hS.1 rfl (by kernel_rfl))) ?_
  simp only [p1, p2, p3, p4]
  refine ord_pureg (some 149) (.agg #[p65, q65, r65, s65]) rfl rfl (by kernel_rfl) (fun w' hS => (rv_load 31 _ b68 0 _ _ [p65, q65, r65, s65] rfl rfl hS.2.2.2.2 rfl (by kernel_rfl))) ?_
  simp only [p1, p2, p3, p4]
  refine ord_effg rfl (by kernel_rfl) (fun K111 k111 => ?_)
  have kq113 := g50.kp.trans (g53.kp.trans (g54.kp.trans (g56.kp.trans (kp59.trans (gd61.kp.trans (g62.kp.trans (g63.kp.trans (g64.kp.trans (g65.kp.trans (g67.kp.trans (kp70.trans (g75.kp.trans (gd100.kp.trans (g102.kp.trans g107.kp))))))))))))))
  replace h10a := h10a.kp kq113
  replace h10b := h10b.kp kq113
  replace h10c := h10c.kp kq113
  replace h10d := h10d.kp kq113
  replace h10e := h10e.kp kq113
  replace h10f := h10f.kp kq113
  refine eff_call (some 148) rfl (by kernel_rfl) (cross_v h10a h10b h10c h10d h10e h10f (by omega)) ?_
  rintro e112 w112 ⟨⟨t112_0, t112_1, t112_2, t112_3, t112_4, t112_5, t112_6, t112_7, t112_8, t112_9, t112_10, t112_11, rfl, h112a, h112b, h112c⟩, g112⟩
  refine ⟨_, rfl, ?_⟩
  replace hB := Gr.trans hB g112
  replace L12 := L12.gr g112
  replace L20 := L20.gr g112
  replace L36 := L36.gr g112
  replace L57 := L57.gr g112
  replace L68 := L68.gr g112
  refine k111 _ _ ⟨L12, L20, L36, L57, L68⟩ ?_
  try clear k111 K111
  simp only [p1, p2, p3, p4]
  refine ord_effg rfl (by kernel_rfl) (fun K114 k114 => ?_)
  have kq116 := g67.kp.trans (kp70.trans (g75.kp.trans (gd100.kp.trans (g102.kp.trans (g107.kp.trans g112.kp)))))
  replace h65 := h65.kp kq116
  refine eff_call (some 150) rfl (by kernel_rfl) (vscale_v h112a h112b h112c h65 (by omega)) ?_
  rintro e115 w115 ⟨⟨t115_0, t115_1, t115_2, t115_3, t115_4, t115_5, t115_6, t115_7, t115_8, t115_9, t115_10, t115_11, rfl, h115a, h115b, h115c⟩, g115⟩
  refine ⟨_, rfl, ?_⟩
  replace hB := Gr.trans hB g115
  replace L12 := L12.gr g115
  replace L20 := L20.gr g115
  replace L36 := L36.gr g115
  replace L57 := L57.gr g115
  replace L68 := L68.gr g115
  refine k114 _ _ ⟨L12, L20, L36, L57, L68⟩ ?_
  try clear k114 K114
  simp only [p1, p2, p3, p4]
  refine ord_effg rfl (by kernel_rfl) (fun K117 k117 => ?_)
  have kq119 := g20.kp.trans (kp22.trans (g26.kp.trans (g31.kp.trans (g34.kp.trans (g36.kp.trans (kp38.trans (g41.kp.trans (g44.kp.trans (kp46.trans (gd48.kp.trans (g49.kp.trans (g50.kp.trans (g53.kp.trans (g54.kp.trans (g56.kp.trans (kp59.trans (gd61.kp.trans (g62.kp.trans (g63.kp.trans (g64.kp.trans (g65.kp.trans (g67.kp.trans (kp70.trans (g75.kp.trans (gd100.kp.trans (g102.kp.trans (g107.kp.trans (g112.kp.trans g115.kp))))))))))))))))))))))))))))
  replace h17d := h17d.kp kq119
  replace h17e := h17e.kp kq119
  replace h17f := h17f.kp kq119
  refine eff_call (some 151) rfl (by kernel_rfl) (vequal_v h17d h17e h17f h115a h115b h115c (by omega)) ?_
  rintro e118 w118 ⟨rfl, g118⟩
  refine ⟨_, rfl, ?_⟩
  replace hB := Gr.trans hB g118
  replace L12 := L12.gr g118
  replace L20 := L20.gr g118
  replace L36 := L36.gr g118
  replace L57 := L57.gr g118
  replace L68 := L68.gr g118
  refine k117 _ _ ⟨L12, L20, L36, L57, L68⟩ ?_
  try clear k117 K117
  simp only [p1, p2, p3, p4]
  have hb120 : (vcmp ((((1 : Int) : Rat) / (0 + A0 * A0 + A1 * A1 + A2 * A2)) * (A1 * A5 - A2 * A4)) ((((1 : Int) : Rat) / (0 + A0 * A0 + A1 * A1 + A2 * A2)) * (A2 * A3 - A0 * A5)) ((((1 : Int) : Rat) / (0 + A0 * A0 + A1 * A1 + A2 * A2)) * (A0 * A4 - A1 * A3)) (((((1 : Int) : Rat)) / (0 + A0 * A0 + A1 * A1 + A2 * A2)) * (A1 * A5 - A2 * A4)) (((((1 : Int) : Rat)) / (0 + A0 * A0 + A1 * A1 + A2 * A2)) * (A2 * A3 - A0 * A5)) (((((1 : Int) : Rat)) / (0 + A0 * A0 + A1 * A1 + A2 * A2)) * (A0 * A4 - A1 * A3)) == (0 : Int)) = true := (lawAx13 A0 A1 A2 A3 A4 A5 ha hp hsq)
  refine ord_pure (some 152) (.bool true) rfl rfl rfl (fun w' hS => (RunV.bool (x := vcmp ((((1 : Int) : Rat) / (0 + A0 * A0 + A1 * A1 + A2 * A2)) * (A1 * A5 - A2 * A4)) ((((1 : Int) : Rat) / (0 + A0 * A0 + A1 * A1 + A2 * A2)) * (A2 * A3 - A0 * A5)) ((((1 : Int) : Rat) / (0 + A0 * A0 + A1 * A1 + A2 * A2)) * (A0 * A4 - A1 * A3)) (((((1 : Int) : Rat)) / (0 + A0 * A0 + A1 * A1 + A2 * A2)) * (A1 * A5 - A2 * A4)) (((((1 : Int) : Rat)) / (0 + A0 * A0 + A1 * A1 + A2 * A2)) * (A2 * A3 - A0 * A5)) (((((1 : Int) : Rat)) / (0 + A0 * A0 + A1 * A1 + A2 * A2)) * (A0 * A4 - A1 * A3)) == (0 : Int)) (rvk (by kernel_rfl)) hb120)) ?_
  simp only [p1, p2, p3, p4]
  refine ord_pure (some 2) (.bool true) rfl rfl rfl (fun w' hS => (rvk (by kernel_rfl))) ?_
  simp only [p1, p2, p3, p4]
  refine ord_nil ?_
  refine k78 _ _ ?_
  try clear k78 K78
  refine wp_ret ?_
  try simp only [Exit.then, Exit.inBlock]
  refine bodyPost_ret (v := (.bool true)) (ret_tmp rfl rfl) rfl ⟨?_, hB⟩
  exact rfl

theorem lawAx14 (A0 A1 A2 A3 A4 A5 : Rat) (ha : ¬(A0 = 0 ∧ A1 = 0 ∧ A2 = 0)) (hp : ((0 + A0 * A3 + A1 * A4 + A2 * A5) * (((1 : Int) : Rat) / (0 + A0 * A0 + A1 * A1 + A2 * A2))) ≠ 0) (hsq : (0 + A0 * A0 + A1 * A1 + A2 * A2) ≠ 0) : (vcmp A0 A1 A2 0 0 0 == (0 : Int)) = false := veq_f (by grind)
theorem lawAx15 (A0 A1 A2 A3 A4 A5 : Rat) (ha : ¬(A0 = 0 ∧ A1 = 0 ∧ A2 = 0)) (hp : ((0 + A0 * A3 + A1 * A4 + A2 * A5) * (((1 : Int) : Rat) / (0 + A0 * A0 + A1 * A1 + A2 * A2))) ≠ 0) (hsq : (0 + A0 * A0 + A1 * A1 + A2 * A2) ≠ 0) : (sgn (((0 + A0 * A3 + A1 * A4 + A2 * A5) / (0 + A0 * A0 + A1 * A1 + A2 * A2))).num == (0 : Int)) = false := sgne_f (by grind)
theorem lawAx16 (A0 A1 A2 A3 A4 A5 : Rat) (ha : ¬(A0 = 0 ∧ A1 = 0 ∧ A2 = 0)) (hp : ((0 + A0 * A3 + A1 * A4 + A2 * A5) * (((1 : Int) : Rat) / (0 + A0 * A0 + A1 * A1 + A2 * A2))) ≠ 0) (hsq : (0 + A0 * A0 + A1 * A1 + A2 * A2) ≠ 0) : (vcmp (prim (A0) (A1) (A2) (A0)) (prim (A0) (A1) (A2) (A1)) (prim (A0) (A1) (A2) (A2)) (prim (A0) (A1) (A2) (A0)) (prim (A0) (A1) (A2) (A1)) (prim (A0) (A1) (A2) (A2)) == (0 : Int)) = true := veq_t rfl rfl rfl
theorem lawAx17 (A0 A1 A2 A3 A4 A5 : Rat) (ha : ¬(A0 = 0 ∧ A1 = 0 ∧ A2 = 0)) (hp : ((0 + A0 * A3 + A1 * A4 + A2 * A5) * (((1 : Int) : Rat) / (0 + A0 * A0 + A1 * A1 + A2 * A2))) ≠ 0) (hsq : (0 + A0 * A0 + A1 * A1 + A2 * A2) ≠ 0) : (rcmp ((0 + A0 * A3 + A1 * A4 + A2 * A5) * (((1 : Int) : Rat) / (0 + A0 * A0 + A1 * A1 + A2 * A2))) ((0 + A0 * A3 + A1 * A4 + A2 * A5) / (0 + A0 * A0 + A1 * A1 + A2 * A2)) == (0 : Int)) = true := req_t (by grind)
theorem lawAx18 (A0 A1 A2 A3 A4 A5 : Rat) (ha : ¬(A0 = 0 ∧ A1 = 0 ∧ A2 = 0)) (hp : ((0 + A0 * A3 + A1 * A4 + A2 * A5) * (((1 : Int) : Rat) / (0 + A0 * A0 + A1 * A1 + A2 * A2))) ≠ 0) (hsq : (0 + A0 * A0 + A1 * A1 + A2 * A2) ≠ 0) : (vcmp ((((1 : Int) : Rat) / (0 + A0 * A0 + A1 * A1 + A2 * A2)) * (A1 * A5 - A2 * A4)) ((((1 : Int) : Rat) / (0 + A0 * A0 + A1 * A1 + A2 * A2)) * (A2 * A3 - A0 * A5)) ((((1 : Int) : Rat) / (0 + A0 * A0 + A1 * A1 + A2 * A2)) * (A0 * A4 - A1 * A3)) (((((1 : Int) : Rat)) / (0 + A0 * A0 + A1 * A1 + A2 * A2)) * (A1 * A5 - A2 * A4)) (((((1 : Int) : Rat)) / (0 + A0 * A0 + A1 * A1 + A2 * A2)) * (A2 * A3 - A0 * A5)) (((((1 : Int) : Rat)) / (0 + A0 * A0 + A1 * A1 + A2 * A2)) * (A0 * A4 - A1 * A3)) == (0 : Int)) = true := veq_t rfl rfl rfl
set_option maxRecDepth 100000 in
set_option maxHeartbeats 8000000 in
theorem axes_s (n0 n1 n2 n3 n4 n5 dd : Int) (in0 : -128 ≤ n0 ∧ n0 ≤ 127) (in1 : -128 ≤ n1 ∧ n1 ≤ 127) (in2 : -128 ≤ n2 ∧ n2 ≤ 127) (in3 : -128 ≤ n3 ∧ n3 ≤ 127) (in4 : -128 ≤ n4 ∧ n4 ≤ 127) (in5 : -128 ≤ n5 ∧ n5 ≤ 127) (idd : 0 ≤ dd ∧ dd ≤ 255) (A0 A1 A2 A3 A4 A5 : Rat) (eA0 : A0 = (((n0 : Int) : Rat) / ((1 + dd % 3 : Int) : Rat))) (eA1 : A1 = (((n1 : Int) : Rat) / ((1 + dd % 3 : Int) : Rat))) (eA2 : A2 = (((n2 : Int) : Rat) / ((1 + dd % 3 : Int) : Rat))) (eA3 : A3 = (((n3 : Int) : Rat) / ((1 + dd % 3 : Int) : Rat))) (eA4 : A4 = (((n4 : Int) : Rat) / ((1 + dd % 3 : Int) : Rat))) (eA5 : A5 = (((n5 : Int) : Rat) / ((1 + dd % 3 : Int) : Rat))) (w : World) (ht : Tab w)(ha : ¬(A0 = 0 ∧ A1 = 0 ∧ A2 = 0)) (hp : ((0 + A0 * A3 + A1 * A4 + A2 * A5) * (((1 : Int) : Rat) / (0 + A0 * A0 + A1 * A1 + A2 * A2))) ≠ 0) :
    Calls Tryd.prog 3 #[(.agg #[(.int .i8 (n0)), (.int .i8 (n1)), (.int .i8 (n2)), (.int .i8 (n3)), (.int .i8 (n4)), (.int .i8 (n5)), (.int .u8 (dd))])] w fun e w' => e = .returned (.bool true) ∧ Gr w w' := by
  have hdv := num_pos (dot_pos ha)
  have hsq : (0 + A0 * A0 + A1 * A1 + A2 * A2) ≠ 0 := by have := dot_pos ha; grind
  go_enter Tryd.func3, Tryd.ntmps3
  have hB := Gr.refl w
  refine wp_seq_k (fun K1 k1 => ?_)
  refine wp_region ?_
  simp only [List.size_toArray, List.length_cons, List.length_nil, Nat.reduceAdd, List.range, List.range.loop]
  refine sq_eff rfl (by kernel_rfl) (fun K2 k2 => ?_)
  refine eff_box 25 _ (.agg #[(.int .i8 (n0)), (.int .i8 (n1)), (.int .i8 (n2)), (.int .i8 (n3)), (.int .i8 (n4)), (.int .i8 (n5)), (.int .u8 (dd))]) #[(.int .i8 (n0)), (.int .i8 (n1)), (.int .i8 (n2)), (.int .i8 (n3)), (.int .i8 (n4)), (.int .i8 (n5)), (.int .u8 (dd))] (some 1) rfl rfl rfl rfl (fun b3 w3 g3 L3 q3 => ?_)
  replace q3 := Nat.le_trans (Below.size hB) q3
  replace hB := Gr.trans hB g3
  refine k2 _ _ ?_
  try clear k2 K2
  simp only [p1, p2, p3, p4]
  refine sq_val (some 2) (.bool false) rfl rfl (by kernel_rfl) (rvk (by kernel_rfl)) ?_
  simp only [p1, p2, p3, p4]
  refine sq_nil ?_
  refine k1 _ _ ?_
  try clear k1 K1
  refine wp_seq_k (fun K4 k4 => ?_)
  refine wp_seq_k (fun K5 k5 => ?_)
  refine wp_region ?_
  simp only [List.size_toArray, List.length_cons, List.length_nil, Nat.reduceAdd, List.range, List.range.loop]
  refine sq_eff rfl (by kernel_rfl) (fun K6 k6 => ?_)
  refine eff_call (some 15) rfl (by kernel_rfl) (known_t _ (ht.gr hB)) ?_
  rintro e7 w7 ⟨rfl, g7⟩
  refine ⟨_, rfl, ?_⟩
  replace hB := Gr.trans hB g7
  refine k6 _ _ ?_
  try clear k6 K6
  simp only [p1, p2, p3, p4]
  refine sq_val (some 16) (.bool false) rfl rfl (by kernel_rfl) (rvk (by kernel_rfl)) ?_
  simp only [p1, p2, p3, p4]
  refine sq_nil ?_
  refine k5 _ _ ?_
  try clear k5 K5
  refine wp_cond_false rfl ?_
  refine wp_skip ?_
  refine k4 _ _ ?_
  try clear k4 K4
  refine wp_seq_k (fun K8 k8 => ?_)
  refine wp_region ?_
  simp only [List.size_toArray, List.length_cons, List.length_nil, Nat.reduceAdd, List.range, List.range.loop]
  replace L3 := L3.gr g7
  refine sq_val (some 17) (.agg #[(.int .i8 (n0)), (.int .i8 (n1)), (.int .i8 (n2)), (.int .i8 (n3)), (.int .i8 (n4)), (.int .i8 (n5)), (.int .u8 (dd))]) rfl rfl (by kernel_rfl) (rv_load 25 _ b3 0 _ _ [(.int .i8 (n0)), (.int .i8 (n1)), (.int .i8 (n2)), (.int .i8 (n3)), (.int .i8 (n4)), (.int .i8 (n5)), (.int .u8 (dd))] rfl rfl L3 rfl (by kernel_rfl)) ?_
  simp only [p1, p2, p3, p4]
  refine sq_eff rfl (by kernel_rfl) (fun K9 k9 => ?_)
  refine eff_call (some 18) rfl (by kernel_rfl) (of_v (n0) (n1) (n2) (n3) (n4) (n5) (dd) (by omega) (by omega) (by omega) (by omega) (by omega) (by omega) (by omega) _) ?_
  rintro e10 w10 ⟨⟨t10_0, t10_1, t10_2, t10_3, t10_4, t10_5, t10_6, t10_7, t10_8, t10_9, t10_10, t10_11, t10_12, t10_13, t10_14, t10_15, t10_16, t10_17, t10_18, t10_19, t10_20, t10_21, t10_22, t10_23, rfl, h10a, h10b, h10c, h10d, h10e, h10f⟩, g10⟩
  refine ⟨_, rfl, ?_⟩
  replace hB := Gr.trans hB g10
  rw [← eA0] at h10a
  rw [← eA1] at h10b
  rw [← eA2] at h10c
  rw [← eA3] at h10d
  rw [← eA4] at h10e
  rw [← eA5] at h10f
  refine k9 _ _ ?_
  try clear k9 K9
  simp only [p1, p2, p3, p4]
  refine sq_eff rfl (by kernel_rfl) (fun K11 k11 => ?_)
  refine eff_alloc 35 (.agg #[(.bool false), (.slice none 0 0), (.bool false), (.slice none 0 0), (.bool false), (.slice none 0 0), (.bool false), (.slice none 0 0), (.bool false), (.slice none 0 0), (.bool false), (.slice none 0 0), (.bool false), (.slice none 0 0), (.bool false), (.slice none 0 0), (.bool false), (.slice none 0 0), (.bool false), (.slice none 0 0), (.bool false), (.slice none 0 0), (.bool false), (.slice none 0 0)]) #[(.bool false), (.slice none 0 0), (.bool false), (.slice none 0 0), (.bool false), (.slice none 0 0), (.bool false), (.slice none 0 0), (.bool false), (.slice none 0 0), (.bool false), (.slice none 0 0), (.bool false), (.slice none 0 0), (.bool false), (.slice none 0 0), (.bool false), (.slice none 0 0), (.bool false), (.slice none 0 0), (.bool false), (.slice none 0 0), (.bool false), (.slice none 0 0)] (some 3) rfl rfl (by kernel_rfl) rfl (fun b12 w12 g12 L12 q12 => ?_)
  replace L3 := L3.gr g10
  have ne3_12 := L3.ne q12
  replace q12 := Nat.le_trans (Below.size hB) q12
  replace hB := Gr.trans hB g12
  refine k11 _ _ ?_
  try clear k11 K11
  simp only [p1, p2, p3, p4]
  refine sq_eff rfl (by kernel_rfl) (fun K13 k13 => ?_)
  refine eff_store 35 _ _ b12 0 (.agg #[t10_0, t10_1, t10_2, t10_3, t10_4, t10_5, t10_6, t10_7, t10_8, t10_9, t10_10, t10_11, t10_12, t10_13, t10_14, t10_15, t10_16, t10_17, t10_18, t10_19, t10_20, t10_21, t10_22, t10_23]) [t10_0, t10_1, t10_2, t10_3, t10_4, t10_5, t10_6, t10_7, t10_8, t10_9, t10_10, t10_11, t10_12, t10_13, t10_14, t10_15, t10_16, t10_17, t10_18, t10_19, t10_20, t10_21, t10_22, t10_23] _ #[t10_0, t10_1, t10_2, t10_3, t10_4, t10_5, t10_6, t10_7, t10_8, t10_9, t10_10, t10_11, t10_12, t10_13, t10_14, t10_15, t10_16, t10_17, t10_18, t10_19, t10_20, t10_21, t10_22, t10_23] _ rfl rfl rfl rfl rfl L12 (by kernel_rfl) (Nat.le_of_ble_eq_true rfl) ⟨h10a.one0, h10a.one1, h10a.one2, h10a.one3, h10b.one0, h10b.one1, h10b.one2, h10b.one3, h10c.one0, h10c.one1, h10c.one2, h10c.one3, h10d.one0, h10d.one1, h10d.one2, h10d.one3, h10e.one0, h10e.one1, h10e.one2, h10e.one3, h10f.one0, h10f.one1, h10f.one2, h10f.one3, trivial⟩ (by kernel_rfl) (fun w14 st14 N14 => ?_)
  have kp14 := st14.kp L12 (by decide)
  replace hB := st14.gr hB q12
  replace L12 := N14
  refine k13 _ _ ?_
  try clear k13 K13
  refine sq_nil ?_
  refine k8 _ _ ?_
  try clear k8 K8
  refine wp_seq_k (fun K15 k15 => ?_)
  refine wp_region ?_
  simp only [List.size_toArray, List.length_cons, List.length_nil, Nat.reduceAdd, List.range, List.range.loop]
  refine sq_val (some 19) (.agg #[t10_0, t10_1, t10_2, t10_3, t10_4, t10_5, t10_6, t10_7, t10_8, t10_9, t10_10, t10_11, t10_12, t10_13, t10_14, t10_15, t10_16, t10_17, t10_18, t10_19, t10_20, t10_21, t10_22, t10_23]) rfl rfl (by kernel_rfl) (rv_load 35 _ b12 0 _ _ [t10_0, t10_1, t10_2, t10_3, t10_4, t10_5, t10_6, t10_7, t10_8, t10_9, t10_10, t10_11, t10_12, t10_13, t10_14, t10_15, t10_16, t10_17, t10_18, t10_19, t10_20, t10_21, t10_22, t10_23] rfl rfl L12 rfl (by kernel_rfl)) ?_
  simp only [p1, p2, p3, p4]
  refine sq_eff rfl (by kernel_rfl) (fun K16 k16 => ?_)
  have kq18 := g12.kp.trans kp14
  replace h10a := h10a.kp kq18
  replace h10b := h10b.kp kq18
  replace h10c := h10c.kp kq18
  replace h10d := h10d.kp kq18
  replace h10e := h10e.kp kq18
  replace h10f := h10f.kp kq18
  refine eff_call (some 20) rfl (by kernel_rfl) (axis_s h10a h10b h10c h10d h10e h10f (by omega) ha hp) ?_
  rintro e17 w17 ⟨⟨t17_0, t17_1, t17_2, t17_3, t17_4, t17_5, t17_6, t17_7, t17_8, t17_9, t17_10, t17_11, t17_12, t17_13, t17_14, t17_15, t17_16, t17_17, t17_18, t17_19, t17_20, t17_21, t17_22, t17_23, t17_24, t17_25, t17_26, t17_27, rfl, h17a, h17b, h17c, h17d, h17e, h17f, h17g⟩, g17⟩
  refine ⟨_, rfl, ?_⟩
  replace hB := Gr.trans hB g17
  refine k16 _ _ ?_
  try clear k16 K16
  simp only [p1, p2, p3, p4]
  refine sq_eff rfl (by kernel_rfl) (fun K19 k19 => ?_)
  refine eff_alloc 38 (.agg #[(.int .i64 0), (.bool false), (.slice none 0 0), (.bool false), (.slice none 0 0), (.bool false), (.slice none 0 0), (.bool false), (.slice none 0 0), (.bool false), (.slice none 0 0), (.bool false), (.slice none 0 0), (.bool false), (.slice none 0 0), (.bool false), (.slice none 0 0), (.bool false), (.slice none 0 0), (.bool false), (.slice none 0 0), (.bool false), (.slice none 0 0), (.bool false), (.slice none 0 0), (.bool false), (.slice none 0 0), (.bool false), (.slice none 0 0)]) #[(.int .i64 0), (.bool false), (.slice none 0 0), (.bool false), (.slice none 0 0), (.bool false), (.slice none 0 0), (.bool false), (.slice none 0 0), (.bool false), (.slice none 0 0), (.bool false), (.slice none 0 0), (.bool false), (.slice none 0 0), (.bool false), (.slice none 0 0), (.bool false), (.slice none 0 0), (.bool false), (.slice none 0 0), (.bool false), (.slice none 0 0), (.bool false), (.slice none 0 0), (.bool false), (.slice none 0 0), (.bool false), (.slice none 0 0)] (some 4) rfl rfl (by kernel_rfl) rfl (fun b20 w20 g20 L20 q20 => ?_)
  replace L3 := (st14.lc (L3.gr g12) ne3_12).gr g17
  have ne3_20 := L3.ne q20
  replace L12 := L12.gr g17
  have ne12_20 := L12.ne q20
  replace q20 := Nat.le_trans (Below.size hB) q20
  replace hB := Gr.trans hB g20
  refine k19 _ _ ?_
  try clear k19 K19
  simp only [p1, p2, p3, p4]
  refine sq_eff rfl (by kernel_rfl) (fun K21 k21 => ?_)
  refine eff_store 38 _ _ b20 0 (.agg #[(.int .i64 3), t17_0, t17_1, t17_2, t17_3, t17_4, t17_5, t17_6, t17_7, t17_8, t17_9, t17_10, t17_11, t17_12, t17_13, t17_14, t17_15, t17_16, t17_17, t17_18, t17_19, t17_20, t17_21, t17_22, t17_23, t17_24, t17_25, t17_26, t17_27]) [(.int .i64 3), t17_0, t17_1, t17_2, t17_3, t17_4, t17_5, t17_6, t17_7, t17_8, t17_9, t17_10, t17_11, t17_12, t17_13, t17_14, t17_15, t17_16, t17_17, t17_18, t17_19, t17_20, t17_21, t17_22, t17_23, t17_24, t17_25, t17_26, t17_27] _ #[(.int .i64 3), t17_0, t17_1, t17_2, t17_3, t17_4, t17_5, t17_6, t17_7, t17_8, t17_9, t17_10, t17_11, t17_12, t17_13, t17_14, t17_15, t17_16, t17_17, t17_18, t17_19, t17_20, t17_21, t17_22, t17_23, t17_24, t17_25, t17_26, t17_27] _ rfl rfl rfl rfl rfl L20 (by kernel_rfl) (Nat.le_of_ble_eq_true rfl) ⟨rfl, h17a.one0, h17a.one1, h17a.one2, h17a.one3, h17b.one0, h17b.one1, h17b.one2, h17b.one3, h17c.one0, h17c.one1, h17c.one2, h17c.one3, h17d.one0, h17d.one1, h17d.one2, h17d.one3, h17e.one0, h17e.one1, h17e.one2, h17e.one3, h17f.one0, h17f.one1, h17f.one2, h17f.one3, h17g.one0, h17g.one1, h17g.one2, h17g.one3, trivial⟩ (by kernel_rfl) (fun w22 st22 N22 => ?_)
  have kp22 := st22.kp L20 (by decide)
  replace hB := st22.gr hB q20
  replace L20 := N22
  refine k21 _ _ ?_
  try clear k21 K21
  refine sq_nil ?_
  refine k15 _ _ ?_
  try clear k15 K15
  refine wp_seq_k (fun K23 k23 => ?_)
  refine wp_block ?_
  refine wp_seq_k (fun K24 k24 => ?_)
  refine wp_region ?_
  simp only [List.size_toArray, List.length_cons, List.length_nil, Nat.reduceAdd, List.range, List.range.loop]
  refine sq_val (some 22) (.pointer (some ⟨b12, 0, none⟩)) rfl rfl (by kernel_rfl) (rvk (by kernel_rfl)) ?_
  simp only [p1, p2, p3, p4]
  replace L12 := st22.lc (L12.gr g20) ne12_20
  refine sq_val (some 23) (.agg #[t10_0, t10_1, t10_2, t10_3, t10_4, t10_5, t10_6, t10_7, t10_8, t10_9, t10_10, t10_11]) rfl rfl (by kernel_rfl) (rv_load 33 _ b12 0 _ _ [t10_0, t10_1, t10_2, t10_3, t10_4, t10_5, t10_6, t10_7, t10_8, t10_9, t10_10, t10_11] rfl rfl L12 rfl (by kernel_rfl)) ?_
  simp only [p1, p2, p3, p4]
  refine sq_eff rfl (by kernel_rfl) (fun K25 k25 => ?_)
  have kq27 := g17.kp.trans (g20.kp.trans kp22)
  replace h10a := h10a.kp kq27
  replace h10b := h10b.kp kq27
  replace h10c := h10c.kp kq27
  refine eff_call (some 24) rfl (by kernel_rfl) (vzero_v h10a h10b h10c (by omega)) ?_
  rintro e26 w26 ⟨rfl, g26⟩
  refine ⟨_, rfl, ?_⟩
  replace hB := Gr.trans hB g26
  refine k25 _ _ ?_
  try clear k25 K25
  simp only [p1, p2, p3, p4]
  have hb28 : (vcmp A0 A1 A2 0 0 0 == (0 : Int)) = false := (lawAx14 A0 A1 A2 A3 A4 A5 ha hp hsq)
  refine sq_val (some 25) (.bool false) rfl rfl (by kernel_rfl) (RunV.bool (x := vcmp A0 A1 A2 0 0 0 == (0 : Int)) (rvk (by kernel_rfl)) hb28) ?_
  simp only [p1, p2, p3, p4]
  refine sq_skip (some 26) rfl rfl (by kernel_rfl) ?_
  simp only [p1, p2, p3, p4]
  refine sq_skip (some 27) rfl rfl (by kernel_rfl) ?_
  simp only [p1, p2, p3, p4]
  refine sq_skip (some 28) rfl rfl (by kernel_rfl) ?_
  simp only [p1, p2, p3, p4]
  refine sq_val (some 29) (.bool false) rfl rfl (by kernel_rfl) (rvk (by kernel_rfl)) ?_
  simp only [p1, p2, p3, p4]
  refine sq_val (some 21) (.bool false) rfl rfl (by kernel_rfl) (rvk (by kernel_rfl)) ?_
  simp only [p1, p2, p3, p4]
  refine sq_nil ?_
  refine k24 _ _ ?_
  try clear k24 K24
  refine wp_cond_false rfl ?_
  refine wp_seq_k (fun K29 k29 => ?_)
  refine wp_region ?_
  simp only [List.size_toArray, List.length_cons, List.length_nil, Nat.reduceAdd, List.range, List.range.loop]
  refine sq_val (some 50) (.pointer (some ⟨b12, 0, none⟩)) rfl rfl (by kernel_rfl) (rvk (by kernel_rfl)) ?_
  simp only [p1, p2, p3, p4]
  replace L12 := L12.gr g26
  refine sq_val (some 51) (.agg #[t10_0, t10_1, t10_2, t10_3, t10_4, t10_5, t10_6, t10_7, t10_8, t10_9, t10_10, t10_11]) rfl rfl (by kernel_rfl) (rv_load 33 _ b12 0 _ _ [t10_0, t10_1, t10_2, t10_3, t10_4, t10_5, t10_6, t10_7, t10_8, t10_9, t10_10, t10_11] rfl rfl L12 rfl (by kernel_rfl)) ?_
  simp only [p1, p2, p3, p4]
  refine sq_eff rfl (by kernel_rfl) (fun K30 k30 => ?_)
  replace h10a := h10a.kp g26.kp
  replace h10b := h10b.kp g26.kp
  replace h10c := h10c.kp g26.kp
  refine eff_call (some 52) rfl (by kernel_rfl) (vzero_v h10a h10b h10c (by omega)) ?_
  rintro e31 w31 ⟨rfl, g31⟩
  refine ⟨_, rfl, ?_⟩
  replace hB := Gr.trans hB g31
  refine k30 _ _ ?_
  try clear k30 K30
  simp only [p1, p2, p3, p4]
  refine sq_val (some 49) (.bool false) rfl rfl (by kernel_rfl) (RunV.bool (x := vcmp A0 A1 A2 0 0 0 == (0 : Int)) (rvk (by kernel_rfl)) hb28) ?_
  simp only [p1, p2, p3, p4]
  refine sq_nil ?_
  refine k29 _ _ ?_
  try clear k29 K29
  refine wp_cond_false rfl ?_
  refine wp_skip ?_
  refine k23 _ _ ?_
  try clear k23 K23
  refine wp_seq_k (fun K32 k32 => ?_)
  refine wp_region ?_
  simp only [List.size_toArray, List.length_cons, List.length_nil, Nat.reduceAdd, List.range, List.range.loop]
  refine sq_val (some 84) (.pointer (some ⟨b12, 0, none⟩)) rfl rfl (by kernel_rfl) (rvk (by kernel_rfl)) ?_
  simp only [p1, p2, p3, p4]
  replace L12 := L12.gr g31
  refine sq_val (some 85) (.agg #[t10_0, t10_1, t10_2, t10_3, t10_4, t10_5, t10_6, t10_7, t10_8, t10_9, t10_10, t10_11]) rfl rfl (by kernel_rfl) (rv_load 33 _ b12 0 _ _ [t10_0, t10_1, t10_2, t10_3, t10_4, t10_5, t10_6, t10_7, t10_8, t10_9, t10_10, t10_11] rfl rfl L12 rfl (by kernel_rfl)) ?_
  simp only [p1, p2, p3, p4]
  refine sq_eff rfl (by kernel_rfl) (fun K33 k33 => ?_)
  replace h10a := h10a.kp g31.kp
  replace h10b := h10b.kp g31.kp
  replace h10c := h10c.kp g31.kp
  refine eff_call (some 86) rfl (by kernel_rfl) (vprim_ok h10a h10b h10c (by omega) ha) ?_
  rintro e34 w34 ⟨⟨t34_0, t34_1, t34_2, t34_3, t34_4, t34_5, t34_6, t34_7, t34_8, t34_9, t34_10, t34_11, rfl, h34a, h34b, h34c⟩, g34⟩
  refine ⟨_, rfl, ?_⟩
  replace hB := Gr.trans hB g34
  refine k33 _ _ ?_
  try clear k33 K33
  simp only [p1, p2, p3, p4]
  refine sq_val (some 83) (.tuple #[(.agg #[t34_0, t34_1, t34_2, t34_3, t34_4, t34_5, t34_6, t34_7, t34_8, t34_9, t34_10, t34_11]), (.int .i64 0)]) rfl rfl (by kernel_rfl) (rvk (by kernel_rfl)) ?_
  simp only [p1, p2, p3, p4]
  refine sq_val (some 87) (.agg #[t34_0, t34_1, t34_2, t34_3, t34_4, t34_5, t34_6, t34_7, t34_8, t34_9, t34_10, t34_11]) rfl rfl (by kernel_rfl) (rvk (by kernel_rfl)) ?_
  simp only [p1, p2, p3, p4]
  refine sq_val (some 88) (.int .i64 0) rfl rfl (by kernel_rfl) (rvk (by kernel_rfl)) ?_
  simp only [p1, p2, p3, p4]
  refine sq_eff rfl (by kernel_rfl) (fun K35 k35 => ?_)
  refine eff_alloc 33 (.agg #[(.bool false), (.slice none 0 0), (.bool false), (.slice none 0 0), (.bool false), (.slice none 0 0), (.bool false), (.slice none 0 0), (.bool false), (.slice none 0 0), (.bool false), (.slice none 0 0)]) #[(.bool false), (.slice none 0 0), (.bool false), (.slice none 0 0), (.bool false), (.slice none 0 0), (.bool false), (.slice none 0 0), (.bool false), (.slice none 0 0), (.bool false), (.slice none 0 0)] (some 7) rfl rfl (by kernel_rfl) rfl (fun b36 w36 g36 L36 q36 => ?_)
  replace L3 := (st22.lc (L3.gr g20) ne3_20).gr (g26.trans (g31.trans g34))
  have ne3_36 := L3.ne q36
  replace L12 := L12.gr g34
  have ne12_36 := L12.ne q36
  replace L20 := L20.gr (g26.trans (g31.trans g34))
  have ne20_36 := L20.ne q36
  replace q36 := Nat.le_trans (Below.size hB) q36
  replace hB := Gr.trans hB g36
  refine k35 _ _ ?_
  try clear k35 K35
  simp only [p1, p2, p3, p4]
  refine sq_eff rfl (by kernel_rfl) (fun K37 k37 => ?_)
  refine eff_store 33 _ _ b36 0 (.agg #[t34_0, t34_1, t34_2, t34_3, t34_4, t34_5, t34_6, t34_7, t34_8, t34_9, t34_10, t34_11]) [t34_0, t34_1, t34_2, t34_3, t34_4, t34_5, t34_6, t34_7, t34_8, t34_9, t34_10, t34_11] _ #[t34_0, t34_1, t34_2, t34_3, t34_4, t34_5, t34_6, t34_7, t34_8, t34_9, t34_10, t34_11] _ rfl rfl rfl rfl rfl L36 (by kernel_rfl) (Nat.le_of_ble_eq_true rfl) ⟨h34a.one0, h34a.one1, h34a.one2, h34a.one3, h34b.one0, h34b.one1, h34b.one2, h34b.one3, h34c.one0, h34c.one1, h34c.one2, h34c.one3, trivial⟩ (by kernel_rfl) (fun w38 st38 N38 => ?_)
  have kp38 := st38.kp L36 (by decide)
  replace hB := st38.gr hB q36
  replace L36 := N38
  refine k37 _ _ ?_
  try clear k37 K37
  refine sq_val (some 8) (.int .i64 0) rfl rfl (by kernel_rfl) (rvk (by kernel_rfl)) ?_
  simp only [p1, p2, p3, p4]
  refine sq_nil ?_
  refine k32 _ _ ?_
  try clear k32 K32
  refine wp_seq_k (fun K39 k39 => ?_)
  refine wp_region ?_
  simp only [List.size_toArray, List.length_cons, List.length_nil, Nat.reduceAdd, List.range, List.range.loop]
  refine sq_val (some 89) (.pointer (some ⟨b12, 0, none⟩)) rfl rfl (by kernel_rfl) (rvk (by kernel_rfl)) ?_
  simp only [p1, p2, p3, p4]
  replace L12 := st38.lc (L12.gr g36) ne12_36
  refine sq_val (some 90) (.agg #[t10_0, t10_1, t10_2, t10_3, t10_4, t10_5, t10_6, t10_7, t10_8, t10_9, t10_10, t10_11]) rfl rfl (by kernel_rfl) (rv_load 33 _ b12 0 _ _ [t10_0, t10_1, t10_2, t10_3, t10_4, t10_5, t10_6, t10_7, t10_8, t10_9, t10_10, t10_11] rfl rfl L12 rfl (by kernel_rfl)) ?_
  simp only [p1, p2, p3, p4]
  refine sq_val (some 91) (.pointer (some ⟨b12, 0, none⟩)) rfl rfl (by kernel_rfl) (rvk (by kernel_rfl)) ?_
  simp only [p1, p2, p3, p4]
  refine sq_val (some 92) (.agg #[t10_0, t10_1, t10_2, t10_3, t10_4, t10_5, t10_6, t10_7, t10_8, t10_9, t10_10, t10_11]) rfl rfl (by kernel_rfl) (rv_load 33 _ b12 0 _ _ [t10_0, t10_1, t10_2, t10_3, t10_4, t10_5, t10_6, t10_7, t10_8, t10_9, t10_10, t10_11] rfl rfl L12 rfl (by kernel_rfl)) ?_
  simp only [p1, p2, p3, p4]
  refine sq_eff rfl (by kernel_rfl) (fun K40 k40 => ?_)
  have kq42 := g34.kp.trans (g36.kp.trans kp38)
  replace h10a := h10a.kp kq42
  replace h10b := h10b.kp kq42
  replace h10c := h10c.kp kq42
  refine eff_call (some 93) rfl (by kernel_rfl) (dot_v h10a h10b h10c h10a h10b h10c (by omega)) ?_
  rintro e41 w41 ⟨⟨p41, q41, r41, s41, rfl, h41⟩, g41⟩
  refine ⟨_, rfl, ?_⟩
  replace hB := Gr.trans hB g41
  refine k40 _ _ ?_
  try clear k40 K40
  simp only [p1, p2, p3, p4]
  refine sq_eff rfl (by kernel_rfl) (fun K43 k43 => ?_)
  refine eff_alloc 31 (.agg #[(.bool false), (.slice none 0 0), (.bool false), (.slice none 0 0)]) #[(.bool false), (.slice none 0 0), (.bool false), (.slice none 0 0)] (some 9) rfl rfl (by kernel_rfl) rfl (fun b44 w44 g44 L44 q44 => ?_)
  replace L3 := (st38.lc (L3.gr g36) ne3_36).gr g41
  have ne3_44 := L3.ne q44
  replace L12 := L12.gr g41
  have ne12_44 := L12.ne q44
  replace L20 := (st38.lc (L20.gr g36) ne20_36).gr g41
  have ne20_44 := L20.ne q44
  replace L36 := L36.gr g41
  have ne36_44 := L36.ne q44
  replace q44 := Nat.le_trans (Below.size hB) q44
  replace hB := Gr.trans hB g44
  refine k43 _ _ ?_
  try clear k43 K43
  simp only [p1, p2, p3, p4]
  refine sq_eff rfl (by kernel_rfl) (fun K45 k45 => ?_)
  refine eff_store 31 _ _ b44 0 (.agg #[p41, q41, r41, s41]) [p41, q41, r41, s41] _ #[p41, q41, r41, s41] _ rfl rfl rfl rfl rfl L44 (by kernel_rfl) (Nat.le_of_ble_eq_true rfl) ⟨h41.one0, h41.one1, h41.one2, h41.one3, trivial⟩ (by kernel_rfl) (fun w46 st46 N46 => ?_)
  have kp46 := st46.kp L44 (by decide)
  replace hB := st46.gr hB q44
  replace L44 := N46
  refine k45 _ _ ?_
  try clear k45 K45
  refine sq_nil ?_
  refine k39 _ _ ?_
  try clear k39 K39
  refine wp_seq_k (fun K47 k47 => ?_)
  have hz48 := Below.size hB
  replace L3 := st46.lc (L3.gr g44) ne3_44
  have lt3_48 := L3.lt
  replace L12 := st46.lc (L12.gr g44) ne12_44
  have lt12_48 := L12.lt
  replace L20 := st46.lc (L20.gr g44) ne20_44
  have lt20_48 := L20.lt
  replace L36 := st46.lc (L36.gr g44) ne36_44
  have lt36_48 := L36.lt
  have lt44_48 := L44.lt
  have gd48 := Gr.drew w46
  replace hB := Gr.trans hB gd48
  replace L12 := L12.gr gd48
  replace L44 := L44.gr gd48
  refine wp_region_flo (fun w' => Lc w' b12 #[t10_0, t10_1, t10_2, t10_3, t10_4, t10_5, t10_6, t10_7, t10_8, t10_9, t10_10, t10_11, t10_12, t10_13, t10_14, t10_15, t10_16, t10_17, t10_18, t10_19, t10_20, t10_21, t10_22, t10_23] 35 ∧ Lc w' b44 #[p41, q41, r41, s41] 31) [(true, 0), (true, 1), (true, 2), (true, 3), (true, 5), (false, 4), (false, 6), (true, 7), (true, 8), (true, 9)] [⟨10, 10, 31, #[(.bool false), (.slice none 0 0), (.bool false), (.slice none 0 0)]⟩] [(false, 11), (true, 12)] (by kernel_rfl) (by kernel_rfl) (by kernel_rfl) (by kernel_rfl) (by kernel_rfl) (by decide) (fun _ _ _ _ _ h => h) (fun _ _ _ _ _ h => h) (fun w' o h => ⟨Lc.gr h.1 (Gr.alloc w' o), Lc.gr h.2 (Gr.alloc w' o)⟩) ⟨L12, L44⟩ (by intro f hf; simp only [List.mem_cons, List.not_mem_nil, or_false] at hf; rcases hf with rfl <;> first | exact alloc_zero (z := (.agg #[(.bool false), (.slice none 0 0), (.bool false), (.slice none 0 0)])) (by kernel_rfl) rfl) ?_
  refine flo_pure (some 95) (.pointer (some ⟨b12, 0, none⟩)) rfl rfl rfl (fun w' hS => (rvk (by kernel_rfl))) ?_
  simp only [p1, p2, p3, p4]
  refine flo_pure (some 96) (.agg #[t10_0, t10_1, t10_2, t10_3, t10_4, t10_5, t10_6, t10_7, t10_8, t10_9, t10_10, t10_11]) rfl rfl rfl (fun w' hS => (rv_load 33 _ b12 0 _ _ [t10_0, t10_1, t10_2, t10_3, t10_4, t10_5, t10_6, t10_7, t10_8, t10_9, t10_10, t10_11] rfl rfl hS.1 rfl (by kernel_rfl))) ?_
  simp only [p1, p2, p3, p4]
  refine flo_pure (some 97) (.pointer (some ⟨b12, 12, none⟩)) rfl rfl rfl (fun w' hS => (rvk (by kernel_rfl))) ?_
  simp only [p1, p2, p3, p4]
  refine flo_pure (some 98) (.agg #[t10_12, t10_13, t10_14, t10_15, t10_16, t10_17, t10_18, t10_19, t10_20, t10_21, t10_22, t10_23]) rfl rfl rfl (fun w' hS => (rv_load 33 _ b12 12 _ _ [t10_12, t10_13, t10_14, t10_15, t10_16, t10_17, t10_18, t10_19, t10_20, t10_21, t10_22, t10_23] rfl rfl hS.1 rfl (by kernel_rfl))) ?_
  simp only [p1, p2, p3, p4]
  refine flo_pure (some 100) (.agg #[p41, q41, r41, s41]) rfl rfl rfl (fun w' hS => (rv_load 31 _ b44 0 _ _ [p41, q41, r41, s41] rfl rfl hS.2 rfl (by kernel_rfl))) ?_
  simp only [p1, p2, p3, p4]
  refine flo_eff rfl rfl (fun w49 g49 _ K49 k49 => ?_)
  replace hB := Gr.trans hB g49
  have kq51 := g41.kp.trans (g44.kp.trans (kp46.trans (gd48.kp.trans g49.kp)))
  replace h10a := h10a.kp kq51
  replace h10b := h10b.kp kq51
  replace h10c := h10c.kp kq51
  have kq52 := g17.kp.trans (g20.kp.trans (kp22.trans (g26.kp.trans (g31.kp.trans (g34.kp.trans (g36.kp.trans (kp38.trans (g41.kp.trans (g44.kp.trans (kp46.trans (gd48.kp.trans g49.kp)))))))))))
  replace h10d := h10d.kp kq52
  replace h10e := h10e.kp kq52
  replace h10f := h10f.kp kq52
  refine eff_call (some 99) rfl (by kernel_rfl) (dot_v h10a h10b h10c h10d h10e h10f (by omega)) ?_
  rintro e50 w50 ⟨⟨p50, q50, r50, s50, rfl, h50⟩, g50⟩
  refine ⟨_, rfl, ?_⟩
  replace hB := Gr.trans hB g50
  replace L12 := L12.gr (g49.trans g50)
  replace L44 := L44.gr (g49.trans g50)
  refine k49 _ _ g50 ⟨L12, L44⟩ ?_
  try clear k49 K49
  simp only [p1, p2, p3, p4]
  refine flo_eff rfl rfl (fun w53 g53 _ K53 k53 => ?_)
  replace hB := Gr.trans hB g53
  replace h50 := h50.kp g53.kp
  have kq55 := g44.kp.trans (kp46.trans (gd48.kp.trans (g49.kp.trans (g50.kp.trans g53.kp))))
  replace h41 := h41.kp kq55
  refine eff_call (some 101) rfl (by kernel_rfl) (div_r h50 h41 (by omega) hdv) ?_
  rintro e54 w54 ⟨⟨p54, q54, r54, s54, rfl, h54⟩, g54⟩
  refine ⟨_, rfl, ?_⟩
  replace hB := Gr.trans hB g54
  replace L12 := L12.gr (g53.trans g54)
  replace L44 := L44.gr (g53.trans g54)
  refine k53 _ _ g54 ⟨L12, L44⟩ ?_
  try clear k53 K53
  simp only [p1, p2, p3, p4]
  refine flo_pure (some 94) (.tuple #[(.agg #[p54, q54, r54, s54]), (.int .i64 0)]) rfl rfl rfl (fun w' hS => (rvk (by kernel_rfl))) ?_
  simp only [p1, p2, p3, p4]
  refine flo_pure (some 102) (.agg #[p54, q54, r54, s54]) rfl rfl rfl (fun w' hS => (rvk (by kernel_rfl))) ?_
  simp only [p1, p2, p3, p4]
  refine flo_pure (some 103) (.int .i64 0) rfl rfl rfl (fun w' hS => (rvk (by kernel_rfl))) ?_
  simp only [p1, p2, p3, p4]
  refine flo_nil (fun w56 g56 _ => ?_)
  replace hB := Gr.trans hB g56
  refine floFin1 (fun b57 (L57 : Lc w56 b57 #[(.bool false), (.slice none 0 0), (.bool false), (.slice none 0 0)] 31) q57  => ?_)
  have ne3_57 : b3 ≠ b57 := Nat.ne_of_lt (Nat.lt_of_lt_of_le lt3_48 q57)
  have ne12_57 : b12 ≠ b57 := Nat.ne_of_lt (Nat.lt_of_lt_of_le lt12_48 q57)
  have ne20_57 : b20 ≠ b57 := Nat.ne_of_lt (Nat.lt_of_lt_of_le lt20_48 q57)
  have ne36_57 : b36 ≠ b57 := Nat.ne_of_lt (Nat.lt_of_lt_of_le lt36_48 q57)
  have ne44_57 : b44 ≠ b57 := Nat.ne_of_lt (Nat.lt_of_lt_of_le lt44_48 q57)
  replace q57 := Nat.le_trans hz48 q57
  simp only [p1, p2, p3, p4]
  refine ord_eff rfl rfl (fun K58 k58 => ?_)
  refine eff_store 31 _ _ b57 0 (.agg #[p54, q54, r54, s54]) [p54, q54, r54, s54] _ #[p54, q54, r54, s54] _ rfl rfl rfl rfl rfl L57 (by kernel_rfl) (Nat.le_of_ble_eq_true rfl) ⟨h54.one0, h54.one1, h54.one2, h54.one3, trivial⟩ (by kernel_rfl) (fun w59 st59 N59 => ?_)
  have kp59 := st59.kp L57 (by decide)
  replace hB := st59.gr hB q57
  replace L57 := N59
  replace L12 := st59.lc (L12.gr g56) ne12_57
  replace L44 := st59.lc (L44.gr g56) ne44_57
  refine k58 _ _ ⟨L12, L44⟩ ?_
  try clear k58 K58
  refine ord_pure (some 11) (.int .i64 0) rfl rfl rfl (fun w' hS => (rvk (by kernel_rfl))) ?_
  simp only [p1, p2, p3, p4]
  refine ord_nil ?_
  refine k47 _ _ ?_
  try clear k47 K47
  refine wp_seq_k (fun K60 k60 => ?_)
  have hz61 := Below.size hB
  replace L3 := st59.lc (L3.gr (gd48.trans (g49.trans (g50.trans (g53.trans (g54.trans g56)))))) ne3_57
  have lt3_61 := L3.lt
  have lt12_61 := L12.lt
  replace L20 := st59.lc (L20.gr (gd48.trans (g49.trans (g50.trans (g53.trans (g54.trans g56)))))) ne20_57
  have lt20_61 := L20.lt
  replace L36 := st59.lc (L36.gr (gd48.trans (g49.trans (g50.trans (g53.trans (g54.trans g56)))))) ne36_57
  have lt36_61 := L36.lt
  have lt44_61 := L44.lt
  have lt57_61 := L57.lt
  have gd61 := Gr.drew w59
  replace hB := Gr.trans hB gd61
  replace L44 := L44.gr gd61
  refine wp_region_flo (fun w' => Lc w' b44 #[p41, q41, r41, s41] 31) [(true, 1), (false, 0), (false, 2), (true, 3), (true, 4), (true, 5)] [⟨6, 12, 31, #[(.bool false), (.slice none 0 0), (.bool false), (.slice none 0 0)]⟩] [(false, 7), (true, 8)] (by kernel_rfl) (by kernel_rfl) (by kernel_rfl) (by kernel_rfl) (by kernel_rfl) (by decide) (fun _ _ _ _ _ h => h) (fun _ _ _ _ _ h => h) (fun w' o h => Lc.gr h (Gr.alloc w' o)) L44 (by intro f hf; simp only [List.mem_cons, List.not_mem_nil, or_false] at hf; rcases hf with rfl <;> first | exact alloc_zero (z := (.agg #[(.bool false), (.slice none 0 0), (.bool false), (.slice none 0 0)])) (by kernel_rfl) rfl) ?_
  refine flo_pure (some 106) (.agg #[p41, q41, r41, s41]) rfl rfl rfl (fun w' hS => (rv_load 31 _ b44 0 _ _ [p41, q41, r41, s41] rfl rfl hS rfl (by kernel_rfl))) ?_
  simp only [p1, p2, p3, p4]
  refine flo_eff rfl rfl (fun w62 g62 _ K62 k62 => ?_)
  replace hB := Gr.trans hB g62
  refine eff_call (some 105) rfl (by kernel_rfl) (from_r (1) (by omega) (by omega) _) ?_
  rintro e63 w63 ⟨⟨p63, q63, r63, s63, rfl, h63⟩, g63⟩
  refine ⟨_, rfl, ?_⟩
  replace hB := Gr.trans hB g63
  replace L44 := L44.gr (g62.trans g63)
  refine k62 _ _ g63 L44 ?_
  try clear k62 K62
  simp only [p1, p2, p3, p4]
  refine flo_eff rfl rfl (fun w64 g64 _ K64 k64 => ?_)
  replace hB := Gr.trans hB g64
  replace h63 := h63.kp g64.kp
  have kq66 := g54.kp.trans (g56.kp.trans (kp59.trans (gd61.kp.trans (g62.kp.trans (g63.kp.trans g64.kp)))))
  replace h41 := h41.kp kq66
  refine eff_call (some 107) rfl (by kernel_rfl) (div_r h63 h41 (by omega) hdv) ?_
  rintro e65 w65 ⟨⟨p65, q65, r65, s65, rfl, h65⟩, g65⟩
  refine ⟨_, rfl, ?_⟩
  replace hB := Gr.trans hB g65
  replace L44 := L44.gr (g64.trans g65)
  refine k64 _ _ g65 L44 ?_
  try clear k64 K64
  simp only [p1, p2, p3, p4]
  refine flo_pure (some 104) (.tuple #[(.agg #[p65, q65, r65, s65]), (.int .i64 0)]) rfl rfl rfl (fun w' hS => (rvk (by kernel_rfl))) ?_
  simp only [p1, p2, p3, p4]
  refine flo_pure (some 108) (.agg #[p65, q65, r65, s65]) rfl rfl rfl (fun w' hS => (rvk (by kernel_rfl))) ?_
  simp only [p1, p2, p3, p4]
  refine flo_pure (some 109) (.int .i64 0) rfl rfl rfl (fun w' hS => (rvk (by kernel_rfl))) ?_
  simp only [p1, p2, p3, p4]
  refine flo_nil (fun w67 g67 _ => ?_)
  replace hB := Gr.trans hB g67
  refine floFin1 (fun b68 (L68 : Lc w67 b68 #[(.bool false), (.slice none 0 0), (.bool false), (.slice none 0 0)] 31) q68  => ?_)
  have ne3_68 : b3 ≠ b68 := Nat.ne_of_lt (Nat.lt_of_lt_of_le lt3_61 q68)
  have ne12_68 : b12 ≠ b68 := Nat.ne_of_lt (Nat.lt_of_lt_of_le lt12_61 q68)
  have ne20_68 : b20 ≠ b68 := Nat.ne_of_lt (Nat.lt_of_lt_of_le lt20_61 q68)
  have ne36_68 : b36 ≠ b68 := Nat.ne_of_lt (Nat.lt_of_lt_of_le lt36_61 q68)
  have ne44_68 : b44 ≠ b68 := Nat.ne_of_lt (Nat.lt_of_lt_of_le lt44_61 q68)
  have ne57_68 : b57 ≠ b68 := Nat.ne_of_lt (Nat.lt_of_lt_of_le lt57_61 q68)
  replace q68 := Nat.le_trans hz61 q68
  simp only [p1, p2, p3, p4]
  refine ord_eff rfl rfl (fun K69 k69 => ?_)
  refine eff_store 31 _ _ b68 0 (.agg #[p65, q65, r65, s65]) [p65, q65, r65, s65] _ #[p65, q65, r65, s65] _ rfl rfl rfl rfl rfl L68 (by kernel_rfl) (Nat.le_of_ble_eq_true rfl) ⟨h65.one0, h65.one1, h65.one2, h65.one3, trivial⟩ (by kernel_rfl) (fun w70 st70 N70 => ?_)
  have kp70 := st70.kp L68 (by decide)
  replace hB := st70.gr hB q68
  replace L68 := N70
  replace L44 := st70.lc (L44.gr g67) ne44_68
  refine k69 _ _ L44 ?_
  try clear k69 K69
  refine ord_pure (some 13) (.int .i64 0) rfl rfl rfl (fun w' hS => (rvk (by kernel_rfl))) ?_
  simp only [p1, p2, p3, p4]
  refine ord_nil ?_
  refine k60 _ _ ?_
  try clear k60 K60
  refine wp_seq_k (fun K71 k71 => ?_)
  refine wp_region ?_
  simp only [List.size_toArray, List.length_cons, List.length_nil, Nat.reduceAdd, List.range, List.range.loop]
  refine sq_val (some 14) (.int .i64 3) rfl rfl (by kernel_rfl) (rvk (by kernel_rfl)) ?_
  simp only [p1, p2, p3, p4]
  refine sq_nil ?_
  refine k71 _ _ ?_
  try clear k71 K71
  refine wp_seq_k (fun K72 k72 => ?_)
  refine wp_seq_k (fun K73 k73 => ?_)
  refine wp_region ?_
  simp only [List.size_toArray, List.length_cons, List.length_nil, Nat.reduceAdd, List.range, List.range.loop]
  replace L57 := st70.lc (L57.gr (gd61.trans (g62.trans (g63.trans (g64.trans (g65.trans g67)))))) ne57_68
  refine sq_val (some 110) (.agg #[p54, q54, r54, s54]) rfl rfl (by kernel_rfl) (rv_load 31 _ b57 0 _ _ [p54, q54, r54, s54] rfl rfl L57 rfl (by kernel_rfl)) ?_
  simp only [p1, p2, p3, p4]
  refine sq_eff rfl (by kernel_rfl) (fun K74 k74 => ?_)
  have kq76 := g56.kp.trans (kp59.trans (gd61.kp.trans (g62.kp.trans (g63.kp.trans (g64.kp.trans (g65.kp.trans (g67.kp.trans kp70)))))))
  replace h54 := h54.kp kq76
  refine eff_call (some 111) rfl (by kernel_rfl) (sign_r h54) ?_
  rintro e75 w75 ⟨rfl, g75⟩
  refine ⟨_, rfl, ?_⟩
  replace hB := Gr.trans hB g75
  refine k74 _ _ ?_
  try clear k74 K74
  simp only [p1, p2, p3, p4]
  have hb77 : ((sgn (((0 + A0 * A3 + A1 * A4 + A2 * A5) / (0 + A0 * A0 + A1 * A1 + A2 * A2))).num == (0 : Int))) = false := (lawAx15 A0 A1 A2 A3 A4 A5 ha hp hsq)
  refine sq_val (some 112) (.bool false) rfl rfl (by kernel_rfl) (RunV.bool (x := (sgn (((0 + A0 * A3 + A1 * A4 + A2 * A5) / (0 + A0 * A0 + A1 * A1 + A2 * A2))).num == (0 : Int))) (rvk (by kernel_rfl)) hb77) ?_
  simp only [p1, p2, p3, p4]
  refine sq_nil ?_
  refine k73 _ _ ?_
  try clear k73 K73
  refine wp_cond_false rfl ?_
  refine wp_skip ?_
  refine k72 _ _ ?_
  try clear k72 K72
  refine wp_seq_k (fun K78 k78 => ?_)
  have gd100 := Gr.drew w75
  replace hB := Gr.trans hB gd100
  replace L12 := (st70.lc (L12.gr (gd61.trans (g62.trans (g63.trans (g64.trans (g65.trans g67)))))) ne12_68).gr (g75.trans gd100)
  replace L20 := (st70.lc (L20.gr (gd61.trans (g62.trans (g63.trans (g64.trans (g65.trans g67)))))) ne20_68).gr (g75.trans gd100)
  replace L36 := (st70.lc (L36.gr (gd61.trans (g62.trans (g63.trans (g64.trans (g65.trans g67)))))) ne36_68).gr (g75.trans gd100)
  replace L57 := L57.gr (g75.trans gd100)
  replace L68 := L68.gr (g75.trans gd100)
  refine wp_region_ord (fun w' => Lc w' b12 #[t10_0, t10_1, t10_2, t10_3, t10_4, t10_5, t10_6, t10_7, t10_8, t10_9, t10_10, t10_11, t10_12, t10_13, t10_14, t10_15, t10_16, t10_17, t10_18, t10_19, t10_20, t10_21, t10_22, t10_23] 35 ∧ Lc w' b20 #[(.int .i64 3), t17_0, t17_1, t17_2, t17_3, t17_4, t17_5, t17_6, t17_7, t17_8, t17_9, t17_10, t17_11, t17_12, t17_13, t17_14, t17_15, t17_16, t17_17, t17_18, t17_19, t17_20, t17_21, t17_22, t17_23, t17_24, t17_25, t17_26, t17_27] 38 ∧ Lc w' b36 #[t34_0, t34_1, t34_2, t34_3, t34_4, t34_5, t34_6, t34_7, t34_8, t34_9, t34_10, t34_11] 33 ∧ Lc w' b57 #[p54, q54, r54, s54] 31 ∧ Lc w' b68 #[p65, q65, r65, s65] 31) [(true, 0), (true, 1), (true, 2), (true, 3), (true, 4), (true, 5), (true, 6), (true, 7), (true, 8), (true, 9), (true, 10), (true, 11), (true, 12), (true, 13), (true, 14), (true, 15), (true, 16), (true, 17), (true, 18), (true, 19), (false, 20), (true, 21), (true, 22), (true, 23), (true, 24), (true, 25), (false, 26), (true, 27), (true, 28), (true, 29), (true, 30), (true, 31), (true, 32), (true, 33), (true, 34), (true, 36), (false, 35), (false, 37), (false, 38), (true, 39), (true, 40)] (by kernel_rfl) (by kernel_rfl) (by kernel_rfl) (by decide) (fun _ _ _ _ _ h => h) ⟨L12, L20, L36, L57, L68⟩ ?_
  refine ord_pure (some 113) (.int .i64 0) rfl rfl rfl (fun w' hS => (rvk (by kernel_rfl))) ?_
  simp only [p1, p2, p3, p4]
  refine ord_pure (some 114) (.bool true) rfl rfl rfl (fun w' hS => (rvk (by kernel_rfl))) ?_
  simp only [p1, p2, p3, p4]
  refine ord_pure (some 115) (.bool true) rfl rfl rfl (fun w' hS => (rvk (by kernel_rfl))) ?_
  simp only [p1, p2, p3, p4]
  refine ord_pureg (some 116) (.int .i64 0) rfl rfl (by kernel_rfl) (fun w' hS => (rvk (by kernel_rfl))) ?_
  simp only [p1, p2, p3, p4]
  refine ord_pureg (some 117) (.bool true) rfl rfl (by kernel_rfl) (fun w' hS => (rvk (by kernel_rfl))) ?_
  simp only [p1, p2, p3, p4]
  refine ord_pure (some 118) (.bool true) rfl rfl rfl (fun w' hS => (rvk (by kernel_rfl))) ?_
  simp only [p1, p2, p3, p4]
  refine ord_pure (some 119) (.bool true) rfl rfl rfl (fun w' hS => (rvk (by kernel_rfl))) ?_
  simp only [p1, p2, p3, p4]
  refine ord_pureg (some 120) (.int .i64 0) rfl rfl (by kernel_rfl) (fun w' hS => (rvk (by kernel_rfl))) ?_
  simp only [p1, p2, p3, p4]
  refine ord_pureg (some 121) (.bool true) rfl rfl (by kernel_rfl) (fun w' hS => (rvk (by kernel_rfl))) ?_
  simp only [p1, p2, p3, p4]
  refine ord_pure (some 122) (.bool true) rfl rfl rfl (fun w' hS => (rvk (by kernel_rfl))) ?_
  simp only [p1, p2, p3, p4]
  refine ord_pure (some 123) (.bool true) rfl rfl rfl (fun w' hS => (rvk (by kernel_rfl))) ?_
  simp only [p1, p2, p3, p4]
  refine ord_pureg (some 124) (.pointer (some ⟨b20, 0, none⟩)) rfl rfl (by kernel_rfl) (fun w' hS => (rvk (by kernel_rfl))) ?_
  simp only [p1, p2, p3, p4]
  refine ord_pureg (some 125) (.int .i64 3) rfl rfl (by kernel_rfl) (fun w' hS => (rv_load1 3 _ b20 0 _ _ (.int .i64 3) rfl rfl hS.2.1 rfl (by kernel_rfl))) ?_
  simp only [p1, p2, p3, p4]
  refine ord_pureg (some 126) (.int .i64 3) rfl rfl (by kernel_rfl) (fun w' hS => (rvk (by kernel_rfl))) ?_
  simp only [p1, p2, p3, p4]
  refine ord_pureg (some 127) (.bool true) rfl rfl (by kernel_rfl) (fun w' hS => (rvk (by kernel_rfl))) ?_
  simp only [p1, p2, p3, p4]
  refine ord_pure (some 128) (.bool true) rfl rfl rfl (fun w' hS => (rvk (by kernel_rfl))) ?_
  simp only [p1, p2, p3, p4]
  refine ord_pure (some 129) (.bool true) rfl rfl rfl (fun w' hS => (rvk (by kernel_rfl))) ?_
  simp only [p1, p2, p3, p4]
  refine ord_pureg (some 130) (.pointer (some ⟨b20, 1, none⟩)) rfl rfl (by kernel_rfl) (fun w' hS => (rvk (by kernel_rfl))) ?_
  simp only [p1, p2, p3, p4]
  refine ord_pureg (some 131) (.agg #[t17_0, t17_1, t17_2, t17_3, t17_4, t17_5, t17_6, t17_7, t17_8, t17_9, t17_10, t17_11]) rfl rfl (by kernel_rfl) (fun w' hS => (rv_load 33 _ b20 1 _ _ [t17_0, t17_1, t17_2, t17_3, t17_4, t17_5, t17_6, t17_7, t17_8, t17_9, t17_10, t17_11] rfl rfl hS.2.1 rfl (by kernel_rfl))) ?_
  simp only [p1, p2, p3, p4]
  refine ord_pureg (some 132) (.agg #[t34_0, t34_1, t34_2, t34_3, t34_4, t34_5, t34_6, t34_7, t34_8, t34_9, t34_10, t34_11]) rfl rfl (by kernel_rfl) (fun w' hS => (rv_load 33 _ b36 0 _ _ [t34_0, t34_1, t34_2, t34_3, t34_4, t34_5, t34_6, t34_7, t34_8, t34_9, t34_10, t34_11] rfl rfl hS.2.2.1 rfl (by kernel_rfl))) ?_
  simp only [p1, p2, p3, p4]
  refine ord_effg rfl (by kernel_rfl) (fun K101 k101 => ?_)
  have kq103 := g20.kp.trans (kp22.trans (g26.kp.trans (g31.kp.trans (g34.kp.trans (g36.kp.trans (kp38.trans (g41.kp.trans (g44.kp.trans (kp46.trans (gd48.kp.trans (g49.kp.trans (g50.kp.trans (g53.kp.trans (g54.kp.trans (g56.kp.trans (kp59.trans (gd61.kp.trans (g62.kp.trans (g63.kp.trans (g64.kp.trans (g65.kp.trans (g67.kp.trans (kp70.trans (g75.kp.trans gd100.kp))))))))))))))))))))))))
  replace h17a := h17a.kp kq103
  replace h17b := h17b.kp kq103
  replace h17c := h17c.kp kq103
  have kq104 := g36.kp.trans (kp38.trans (g41.kp.trans (g44.kp.trans (kp46.trans (gd48.kp.trans (g49.kp.trans (g50.kp.trans (g53.kp.trans (g54.kp.trans (g56.kp.trans (kp59.trans (gd61.kp.trans (g62.kp.trans (g63.kp.trans (g64.kp.trans (g65.kp.trans (g67.kp.trans (kp70.trans (g75.kp.trans gd100.kp)))))))))))))))))))
  replace h34a := h34a.kp kq104
  replace h34b := h34b.kp kq104
  replace h34c := h34c.kp kq104
  refine eff_call (some 133) rfl (by kernel_rfl) (vequal_v h17a h17b h17c h34a h34b h34c (by omega)) ?_
  rintro e102 w102 ⟨rfl, g102⟩
  refine ⟨_, rfl, ?_⟩
  replace hB := Gr.trans hB g102
  replace L12 := L12.gr g102
  replace L20 := L20.gr g102
  replace L36 := L36.gr g102
  replace L57 := L57.gr g102
  replace L68 := L68.gr g102
  refine k101 _ _ ⟨L12, L20, L36, L57, L68⟩ ?_
  try clear k101 K101
  simp only [p1, p2, p3, p4]
  have hb105 : (vcmp (prim (A0) (A1) (A2) (A0)) (prim (A0) (A1) (A2) (A1)) (prim (A0) (A1) (A2) (A2)) (prim (A0) (A1) (A2) (A0)) (prim (A0) (A1) (A2) (A1)) (prim (A0) (A1) (A2) (A2)) == (0 : Int)) = true := (lawAx16 A0 A1 A2 A3 A4 A5 ha hp hsq)
  refine ord_pure (some 134) (.bool true) rfl rfl rfl (fun w' hS => (RunV.bool (x := vcmp (prim (A0) (A1) (A2) (A0)) (prim (A0) (A1) (A2) (A1)) (prim (A0) (A1) (A2) (A2)) (prim (A0) (A1) (A2) (A0)) (prim (A0) (A1) (A2) (A1)) (prim (A0) (A1) (A2) (A2)) == (0 : Int)) (rvk (by kernel_rfl)) hb105)) ?_
  simp only [p1, p2, p3, p4]
  refine ord_pure (some 135) (.bool true) rfl rfl rfl (fun w' hS => (rvk (by kernel_rfl))) ?_
  simp only [p1, p2, p3, p4]
  refine ord_pureg (some 136) (.pointer (some ⟨b20, 25, none⟩)) rfl rfl (by kernel_rfl) (fun w' hS => (rvk (by kernel_rfl))) ?_
  simp only [p1, p2, p3, p4]
  refine ord_pureg (some 137) (.agg #[t17_24, t17_25, t17_26, t17_27]) rfl rfl (by kernel_rfl) (fun w' hS => (rv_load 31 _ b20 25 _ _ [t17_24, t17_25, t17_26, t17_27] rfl rfl hS.2.1 rfl (by kernel_rfl))) ?_
  simp only [p1, p2, p3, p4]
  refine ord_pureg (some 138) (.agg #[p54, q54, r54, s54]) rfl rfl (by kernel_rfl) (fun w' hS => (rv_load 31 _ b57 0 _ _ [p54, q54, r54, s54] rfl rfl hS.2.2.2.1 rfl (by kernel_rfl))) ?_
  simp only [p1, p2, p3, p4]
  refine ord_effg rfl (by kernel_rfl) (fun K106 k106 => ?_)
  have kq108 := g20.kp.trans (kp22.trans (g26.kp.trans (g31.kp.trans (g34.kp.trans (g36.kp.trans (kp38.trans (g41.kp.trans (g44.kp.trans (kp46.trans (gd48.kp.trans (g49.kp.trans (g50.kp.trans (g53.kp.trans (g54.kp.trans (g56.kp.trans (kp59.trans (gd61.kp.trans (g62.kp.trans (g63.kp.trans (g64.kp.trans (g65.kp.trans (g67.kp.trans (kp70.trans (g75.kp.trans (gd100.kp.trans g102.kp)))))))))))))))))))))))))
  replace h17g := h17g.kp kq108
  have kq109 := g75.kp.trans (gd100.kp.trans g102.kp)
  replace h54 := h54.kp kq109
  refine eff_call (some 139) rfl (by kernel_rfl) (equal_q h17g h54 (by omega)) ?_
  rintro e107 w107 ⟨rfl, g107⟩
  refine ⟨_, rfl, ?_⟩
  replace hB := Gr.trans hB g107
  replace L12 := L12.gr g107
  replace L20 := L20.gr g107
  replace L36 := L36.gr g107
  replace L57 := L57.gr g107
  replace L68 := L68.gr g107
  refine k106 _ _ ⟨L12, L20, L36, L57, L68⟩ ?_
  try clear k106 K106
  simp only [p1, p2, p3, p4]
  have hb110 : (rcmp ((0 + A0 * A3 + A1 * A4 + A2 * A5) * (((1 : Int) : Rat) / (0 + A0 * A0 + A1 * A1 + A2 * A2))) ((0 + A0 * A3 + A1 * A4 + A2 * A5) / (0 + A0 * A0 + A1 * A1 + A2 * A2)) == (0 : Int)) = true := (lawAx17 A0 A1 A2 A3 A4 A5 ha hp hsq)
  refine ord_pure (some 140) (.bool true) rfl rfl rfl (fun w' hS => (RunV.bool (x := rcmp ((0 + A0 * A3 + A1 * A4 + A2 * A5) * (((1 : Int) : Rat) / (0 + A0 * A0 + A1 * A1 + A2 * A2))) ((0 + A0 * A3 + A1 * A4 + A2 * A5) / (0 + A0 * A0 + A1 * A1 + A2 * A2)) == (0 : Int)) (rvk (by kernel_rfl)) hb110)) ?_
  simp only [p1, p2, p3, p4]
  refine ord_pure (some 141) (.bool true) rfl rfl rfl (fun w' hS => (rvk (by kernel_rfl))) ?_
  simp only [p1, p2, p3, p4]
  refine ord_pureg (some 142) (.pointer (some ⟨b20, 13, none⟩)) rfl rfl (by kernel_rfl) (fun w' hS => (rvk (by kernel_rfl))) ?_
  simp only [p1, p2, p3, p4]
  refine ord_pureg (some 143) (.agg #[t17_12, t17_13, t17_14, t17_15, t17_16, t17_17, t17_18, t17_19, t17_20, t17_21, t17_22, t17_23]) rfl rfl (by kernel_rfl) (fun w' hS => (rv_load 33 _ b20 13 _ _ [t17_12, t17_13, t17_14, t17_15, t17_16, t17_17, t17_18, t17_19, t17_20, t17_21, t17_22, t17_23] rfl rfl hS.2.1 rfl (by kernel_rfl))) ?_
  simp only [p1, p2, p3, p4]
  refine ord_pureg (some 144) (.pointer (some ⟨b12, 0, none⟩)) rfl rfl (by kernel_rfl) (fun w' hS => (rvk (by kernel_rfl))) ?_
  simp only [p1, p2, p3, p4]
  refine ord_pureg (some 145) (.agg #[t10_0, t10_1, t10_2, t10_3, t10_4, t10_5, t10_6, t10_7, t10_8, t10_9, t10_10, t10_11]) rfl rfl (by kernel_rfl) (fun w' hS => (rv_load 33 _ b12 0 _ _ [t10_0, t10_1, t10_2, t10_3, t10_4, t10_5, t10_6, t10_7, t10_8, t10_9, t10_10, t10_11] rfl rfl hS.1 rfl (by kernel_rfl))) ?_
  simp only [p1, p2, p3, p4]
  refine ord_pureg (some 146) (.pointer (some ⟨b12, 12, none⟩)) rfl rfl (by kernel_rfl) (fun w' hS => (rvk (by kernel_rfl))) ?_
  simp only [p1, p2, p3, p4]
  refine ord_pureg (some 147) (.agg #[t10_12, t10_13, t10_14, t10_15, t10_16, t10_17, t10_18, t10_19, t10_20, t10_21, t10_22, t10_23]) rfl rfl (by kernel_rfl) (fun w' hS => (rv_load 33 _ b12 12 _ _ [t10_12, t10_13, t10_14, t10_15, t10_16, t10_17, t10_18, t10_19, t10_20, t10_21, t10_22, t10_23] rfl rfl hS.1 rfl (by kernel_rfl))) ?_
  simp only [p1, p2, p3, p4]
  refine ord_pureg (some 149) (.agg #[p65, q65, r65, s65]) rfl rfl (by kernel_rfl) (fun w' hS => (rv_load 31 _ b68 0 _ _ [p65, q65, r65, s65] rfl rfl hS.2.2.2.2 rfl (by kernel_rfl))) ?_
  simp only [p1, p2, p3, p4]
  refine ord_effg rfl (by kernel_rfl) (fun K111 k111 => ?_)
  have kq113 := g50.kp.trans (g53.kp.trans (g54.kp.trans (g56.kp.trans (kp59.trans (gd61.kp.trans (g62.kp.trans (g63.kp.trans (g64.kp.trans (g65.kp.trans (g67.kp.trans (kp70.trans (g75.kp.trans (gd100.kp.trans (g102.kp.trans g107.kp))))))))))))))
  replace h10a := h10a.kp kq113
  replace h10b := h10b.kp kq113
  replace h10c := h10c.kp kq113
  replace h10d := h10d.kp kq113
  replace h10e := h10e.kp kq113
  replace h10f := h10f.kp kq113
  refine eff_call (some 148) rfl (by kernel_rfl) (cross_v h10a h10b h10c h10d h10e h10f (by omega)) ?_
  rintro e112 w112 ⟨⟨t112_0, t112_1, t112_2, t112_3, t112_4, t112_5, t112_6, t112_7, t112_8, t112_9, t112_10, t112_11, rfl, h112a, h112b, h112c⟩, g112⟩
  refine ⟨_, rfl, ?_⟩
  replace hB := Gr.trans hB g112
  replace L12 := L12.gr g112
  replace L20 := L20.gr g112
  replace L36 := L36.gr g112
  replace L57 := L57.gr g112
  replace L68 := L68.gr g112
  refine k111 _ _ ⟨L12, L20, L36, L57, L68⟩ ?_
  try clear k111 K111
  simp only [p1, p2, p3, p4]
  refine ord_effg rfl (by kernel_rfl) (fun K114 k114 => ?_)
  have kq116 := g67.kp.trans (kp70.trans (g75.kp.trans (gd100.kp.trans (g102.kp.trans (g107.kp.trans g112.kp)))))
  replace h65 := h65.kp kq116
  refine eff_call (some 150) rfl (by kernel_rfl) (vscale_v h112a h112b h112c h65 (by omega)) ?_
  rintro e115 w115 ⟨⟨t115_0, t115_1, t115_2, t115_3, t115_4, t115_5, t115_6, t115_7, t115_8, t115_9, t115_10, t115_11, rfl, h115a, h115b, h115c⟩, g115⟩
  refine ⟨_, rfl, ?_⟩
  replace hB := Gr.trans hB g115
  replace L12 := L12.gr g115
  replace L20 := L20.gr g115
  replace L36 := L36.gr g115
  replace L57 := L57.gr g115
  replace L68 := L68.gr g115
  refine k114 _ _ ⟨L12, L20, L36, L57, L68⟩ ?_
  try clear k114 K114
  simp only [p1, p2, p3, p4]
  refine ord_effg rfl (by kernel_rfl) (fun K117 k117 => ?_)
  have kq119 := g20.kp.trans (kp22.trans (g26.kp.trans (g31.kp.trans (g34.kp.trans (g36.kp.trans (kp38.trans (g41.kp.trans (g44.kp.trans (kp46.trans (gd48.kp.trans (g49.kp.trans (g50.kp.trans (g53.kp.trans (g54.kp.trans (g56.kp.trans (kp59.trans (gd61.kp.trans (g62.kp.trans (g63.kp.trans (g64.kp.trans (g65.kp.trans (g67.kp.trans (kp70.trans (g75.kp.trans (gd100.kp.trans (g102.kp.trans (g107.kp.trans (g112.kp.trans g115.kp))))))))))))))))))))))))))))
  replace h17d := h17d.kp kq119
  replace h17e := h17e.kp kq119
  replace h17f := h17f.kp kq119
  refine eff_call (some 151) rfl (by kernel_rfl) (vequal_v h17d h17e h17f h115a h115b h115c (by omega)) ?_
  rintro e118 w118 ⟨rfl, g118⟩
  refine ⟨_, rfl, ?_⟩
  replace hB := Gr.trans hB g118
  replace L12 := L12.gr g118
  replace L20 := L20.gr g118
  replace L36 := L36.gr g118
  replace L57 := L57.gr g118
  replace L68 := L68.gr g118
  refine k117 _ _ ⟨L12, L20, L36, L57, L68⟩ ?_
  try clear k117 K117
  simp only [p1, p2, p3, p4]
  have hb120 : (vcmp ((((1 : Int) : Rat) / (0 + A0 * A0 + A1 * A1 + A2 * A2)) * (A1 * A5 - A2 * A4)) ((((1 : Int) : Rat) / (0 + A0 * A0 + A1 * A1 + A2 * A2)) * (A2 * A3 - A0 * A5)) ((((1 : Int) : Rat) / (0 + A0 * A0 + A1 * A1 + A2 * A2)) * (A0 * A4 - A1 * A3)) (((((1 : Int) : Rat)) / (0 + A0 * A0 + A1 * A1 + A2 * A2)) * (A1 * A5 - A2 * A4)) (((((1 : Int) : Rat)) / (0 + A0 * A0 + A1 * A1 + A2 * A2)) * (A2 * A3 - A0 * A5)) (((((1 : Int) : Rat)) / (0 + A0 * A0 + A1 * A1 + A2 * A2)) * (A0 * A4 - A1 * A3)) == (0 : Int)) = true := (lawAx18 A0 A1 A2 A3 A4 A5 ha hp hsq)
  refine ord_pure (some 152) (.bool true) rfl rfl rfl (fun w' hS => (RunV.bool (x := vcmp ((((1 : Int) : Rat) / (0 + A0 * A0 + A1 * A1 + A2 * A2)) * (A1 * A5 - A2 * A4)) ((((1 : Int) : Rat) / (0 + A0 * A0 + A1 * A1 + A2 * A2)) * (A2 * A3 - A0 * A5)) ((((1 : Int) : Rat) / (0 + A0 * A0 + A1 * A1 + A2 * A2)) * (A0 * A4 - A1 * A3)) (((((1 : Int) : Rat)) / (0 + A0 * A0 + A1 * A1 + A2 * A2)) * (A1 * A5 - A2 * A4)) (((((1 : Int) : Rat)) / (0 + A0 * A0 + A1 * A1 + A2 * A2)) * (A2 * A3 - A0 * A5)) (((((1 : Int) : Rat)) / (0 + A0 * A0 + A1 * A1 + A2 * A2)) * (A0 * A4 - A1 * A3)) == (0 : Int)) (rvk (by kernel_rfl)) hb120)) ?_
  simp only [p1, p2, p3, p4]
  refine ord_pure (some 2) (.bool true) rfl rfl rfl (fun w' hS => (rvk (by kernel_rfl))) ?_
  simp only [p1, p2, p3, p4]
  refine ord_nil ?_
  refine k78 _ _ ?_
  try clear k78 K78
  refine wp_ret ?_
  try simp only [Exit.then, Exit.inBlock]
  refine bodyPost_ret (v := (.bool true)) (ret_tmp rfl rfl) rfl ⟨?_, hB⟩
  exact rfl

theorem twist_axes (n0 n1 n2 n3 n4 n5 dd : Int) (in0 : -128 ≤ n0 ∧ n0 ≤ 127) (in1 : -128 ≤ n1 ∧ n1 ≤ 127) (in2 : -128 ≤ n2 ∧ n2 ≤ 127) (in3 : -128 ≤ n3 ∧ n3 ≤ 127) (in4 : -128 ≤ n4 ∧ n4 ≤ 127) (in5 : -128 ≤ n5 ∧ n5 ≤ 127) (idd : 0 ≤ dd ∧ dd ≤ 255) (w : World) (ht : Tab w) :
    Calls Tryd.prog 3 #[(.agg #[(.int .i8 (n0)), (.int .i8 (n1)), (.int .i8 (n2)), (.int .i8 (n3)), (.int .i8 (n4)), (.int .i8 (n5)), (.int .u8 (dd))])] w fun e w' => e = .returned (.bool true) ∧ Gr w w' := by
  obtain ⟨A0, eA0⟩ : ∃ q : Rat, q = (((n0 : Int) : Rat) / ((1 + dd % 3 : Int) : Rat)) := ⟨_, rfl⟩
  obtain ⟨A1, eA1⟩ : ∃ q : Rat, q = (((n1 : Int) : Rat) / ((1 + dd % 3 : Int) : Rat)) := ⟨_, rfl⟩
  obtain ⟨A2, eA2⟩ : ∃ q : Rat, q = (((n2 : Int) : Rat) / ((1 + dd % 3 : Int) : Rat)) := ⟨_, rfl⟩
  obtain ⟨A3, eA3⟩ : ∃ q : Rat, q = (((n3 : Int) : Rat) / ((1 + dd % 3 : Int) : Rat)) := ⟨_, rfl⟩
  obtain ⟨A4, eA4⟩ : ∃ q : Rat, q = (((n4 : Int) : Rat) / ((1 + dd % 3 : Int) : Rat)) := ⟨_, rfl⟩
  obtain ⟨A5, eA5⟩ : ∃ q : Rat, q = (((n5 : Int) : Rat) / ((1 + dd % 3 : Int) : Rat)) := ⟨_, rfl⟩
  by_cases ha : (A0 = 0 ∧ A1 = 0 ∧ A2 = 0)
  · by_cases hd : (A3 = 0 ∧ A4 = 0 ∧ A5 = 0)
    · exact axes_n _ _ _ _ _ _ _ in0 in1 in2 in3 in4 in5 idd _ _ _ _ _ _ eA0 eA1 eA2 eA3 eA4 eA5 w ht ha hd
    · exact axes_t _ _ _ _ _ _ _ in0 in1 in2 in3 in4 in5 idd _ _ _ _ _ _ eA0 eA1 eA2 eA3 eA4 eA5 w ht ha hd
  · by_cases hp : ((0 + A0 * A3 + A1 * A4 + A2 * A5) * (((1 : Int) : Rat) / (0 + A0 * A0 + A1 * A1 + A2 * A2))) = 0
    · exact axes_r _ _ _ _ _ _ _ in0 in1 in2 in3 in4 in5 idd _ _ _ _ _ _ eA0 eA1 eA2 eA3 eA4 eA5 w ht ha hp
    · exact axes_s _ _ _ _ _ _ _ in0 in1 in2 in3 in4 in5 idd _ _ _ _ _ _ eA0 eA1 eA2 eA3 eA4 eA5 w ht ha hp

end Go.Proofs.YtgopfikljndklaaDoor
