/- Printed by a program of the prover's: DivMod, Compare, Sub. -/
import Derived.Test.YtgopfikljndklaaDoorInt7
namespace Go.Proofs.YtgopfikljndklaaDoor
open Go.RowKit

set_option maxRecDepth 100000 in
set_option maxHeartbeats 1000000 in
theorem sub_i {k m : Nat} {x y x2 y2 : Value} {z u : Int} {w : World} (hz : IsInt w k x y z) (hu : IsInt w m x2 y2 u) (_hk : k + m + 1 ≤ 1000000) :
    Calls Tryd.prog 64 #[(.agg #[x, y]), (.agg #[x2, y2])] w fun e w' => (∃ x' y', e = .returned (.agg #[x', y']) ∧ IsInt w' (k + m + 1) x' y' (z - u)) ∧ Gr w w' := by
  go_enter Tryd.func64, Tryd.ntmps64
  have hB := Gr.refl w
  refine wp_seq_k (fun K1 k1 => ?_)
  refine wp_region ?_
  simp only [List.size_toArray, List.length_cons, List.length_nil, Nat.reduceAdd, List.range, List.range.loop]
  refine sq_eff rfl (by kernel_rfl) (fun K2 k2 => ?_)
  refine eff_box 29 _ (.agg #[x, y]) #[x, y] (some 2) rfl rfl rfl rfl (fun b3 w3 g3 L3 q3 => ?_)
  replace q3 := Nat.le_trans (Below.size hB) q3
  replace hB := Gr.trans hB g3
  refine k2 _ _ ?_
  try clear k2 K2
  simp only [p1, p2, p3, p4]
  refine sq_eff rfl (by kernel_rfl) (fun K4 k4 => ?_)
  refine eff_box 29 _ (.agg #[x2, y2]) #[x2, y2] (some 3) rfl rfl rfl rfl (fun b5 w5 g5 L5 q5 => ?_)
  have ne3_5 := L3.ne q5
  replace q5 := Nat.le_trans (Below.size hB) q5
  replace hB := Gr.trans hB g5
  refine k4 _ _ ?_
  try clear k4 K4
  simp only [p1, p2, p3, p4]
  refine sq_eff rfl (by kernel_rfl) (fun K6 k6 => ?_)
  refine eff_alloc 29 (.agg #[(.bool false), (.slice none 0 0)]) #[(.bool false), (.slice none 0 0)] (some 4) rfl rfl (by kernel_rfl) rfl (fun b7 w7 g7 L7 q7 => ?_)
  replace L3 := L3.gr g5
  have ne3_7 := L3.ne q7
  have ne5_7 := L5.ne q7
  replace q7 := Nat.le_trans (Below.size hB) q7
  replace hB := Gr.trans hB g7
  refine k6 _ _ ?_
  try clear k6 K6
  simp only [p1, p2, p3, p4]
  refine sq_nil ?_
  refine k1 _ _ ?_
  try clear k1 K1
  refine wp_seq_k (fun K8 k8 => ?_)
  have gd18 := Gr.drew w7
  replace hB := Gr.trans hB gd18
  replace L3 := L3.gr (g7.trans gd18)
  replace L5 := L5.gr (g7.trans gd18)
  refine wp_region_ord (fun w' => Lc w' b3 #[x, y] 29 ∧ Lc w' b5 #[x2, y2] 29) [(true, 0), (true, 1), (false, 2), (false, 3), (false, 4)] (by kernel_rfl) (by kernel_rfl) (by kernel_rfl) (by decide) (fun _ _ _ _ _ h => h) ⟨L3, L5⟩ ?_
  refine ord_pure (some 5) (.agg #[x, y]) rfl rfl rfl (fun w' hS => (rv_load 29 _ b3 0 _ _ [x, y] rfl rfl hS.1 rfl (by kernel_rfl))) ?_
  simp only [p1, p2, p3, p4]
  refine ord_pure (some 6) (.agg #[x2, y2]) rfl rfl rfl (fun w' hS => (rv_load 29 _ b5 0 _ _ [x2, y2] rfl rfl hS.2 rfl (by kernel_rfl))) ?_
  simp only [p1, p2, p3, p4]
  refine ord_eff rfl rfl (fun K19 k19 => ?_)
  have kq21 := g3.kp.trans (g5.kp.trans (g7.kp.trans gd18.kp))
  replace hu := hu.kp kq21
  refine eff_call (some 7) rfl (by kernel_rfl) (neg_i hu ) ?_
  rintro e20 w20 ⟨⟨x20, y20, rfl, h20⟩, g20⟩
  refine ⟨_, rfl, ?_⟩
  replace hB := Gr.trans hB g20
  replace L3 := L3.gr g20
  replace L5 := L5.gr g20
  refine k19 _ _ ⟨L3, L5⟩ ?_
  try clear k19 K19
  simp only [p1, p2, p3, p4]
  refine ord_eff rfl rfl (fun K22 k22 => ?_)
  have kq24 := g3.kp.trans (g5.kp.trans (g7.kp.trans (gd18.kp.trans g20.kp)))
  replace hz := hz.kp kq24
  refine eff_call (some 8) rfl (by kernel_rfl) (add_i hz h20 (by omega)) ?_
  rintro e23 w23 ⟨⟨x23, y23, rfl, h23⟩, g23⟩
  refine ⟨_, rfl, ?_⟩
  replace hB := Gr.trans hB g23
  replace L3 := L3.gr g23
  replace L5 := L5.gr g23
  refine k22 _ _ ⟨L3, L5⟩ ?_
  try clear k22 K22
  simp only [p1, p2, p3, p4]
  refine ord_eff rfl rfl (fun K25 k25 => ?_)
  replace L7 := L7.gr (gd18.trans (g20.trans g23))
  refine eff_store 29 _ _ b7 0 (.agg #[x23, y23]) [x23, y23] _ #[x23, y23] _ rfl rfl rfl rfl rfl L7 (by kernel_rfl) (Nat.le_of_ble_eq_true rfl) ⟨h23.one0, h23.one1, trivial⟩ (by kernel_rfl) (fun w26 st26 N26 => ?_)
  have kp26 := st26.kp L7 (by decide)
  replace hB := st26.gr hB q7
  replace L7 := N26
  replace L3 := st26.lc L3 ne3_7
  replace L5 := st26.lc L5 ne5_7
  refine k25 _ _ ⟨L3, L5⟩ ?_
  try clear k25 K25
  refine ord_nil ?_
  refine k8 _ _ ?_
  try clear k8 K8
  refine wp_ret ?_
  refine bodyPost_ret (v := (.agg #[x23, y23])) (ret_cell _ _ _ rfl rfl L7 (by kernel_rfl)) rfl ⟨?_, hB⟩
  replace h23 := h23.kp kp26
  exact ⟨_, _, rfl, by rw [Int.sub_eq_add_neg]; exact h23⟩

set_option maxRecDepth 100000 in
set_option maxHeartbeats 1000000 in
theorem cmp_tt {w : World} {a b : Int} {ao bo : Option Addr} {la lb ca cb : Nat} (ha : Mag w ao la ca a) (hb : Mag w bo lb cb b) (_hla : la ≤ 1000000) (_hlb : lb ≤ 1000000) :
    Calls Tryd.prog 68 #[(.agg #[(.bool true), (.slice ao la ca)]), (.agg #[(.bool true), (.slice bo lb cb)])] w fun e w' => (e = .returned (.int .i64 (sgn (b - a)))) ∧ Gr w w' := by
  go_enter Tryd.func68, Tryd.ntmps68
  have hB := Gr.refl w
  refine wp_seq_k (fun K1 k1 => ?_)
  refine wp_region ?_
  simp only [List.size_toArray, List.length_cons, List.length_nil, Nat.reduceAdd, List.range, List.range.loop]
  refine sq_eff rfl (by kernel_rfl) (fun K2 k2 => ?_)
  refine eff_box 29 _ (.agg #[(.bool true), (.slice ao la ca)]) #[(.bool true), (.slice ao la ca)] (some 2) rfl rfl rfl rfl (fun b3 w3 g3 L3 q3 => ?_)
  replace q3 := Nat.le_trans (Below.size hB) q3
  replace hB := Gr.trans hB g3
  refine k2 _ _ ?_
  try clear k2 K2
  simp only [p1, p2, p3, p4]
  refine sq_eff rfl (by kernel_rfl) (fun K4 k4 => ?_)
  refine eff_box 29 _ (.agg #[(.bool true), (.slice bo lb cb)]) #[(.bool true), (.slice bo lb cb)] (some 3) rfl rfl rfl rfl (fun b5 w5 g5 L5 q5 => ?_)
  have ne3_5 := L3.ne q5
  replace q5 := Nat.le_trans (Below.size hB) q5
  replace hB := Gr.trans hB g5
  refine k4 _ _ ?_
  try clear k4 K4
  simp only [p1, p2, p3, p4]
  refine sq_val (some 4) (.int .i64 0) rfl rfl (by kernel_rfl) (rvk (by kernel_rfl)) ?_
  simp only [p1, p2, p3, p4]
  refine sq_nil ?_
  refine k1 _ _ ?_
  try clear k1 K1
  refine wp_seq_k (fun K6 k6 => ?_)
  refine wp_block ?_
  refine wp_seq_k (fun K7 k7 => ?_)
  refine wp_region ?_
  simp only [List.size_toArray, List.length_cons, List.length_nil, Nat.reduceAdd, List.range, List.range.loop]
  refine sq_val (some 6) (.pointer (some ⟨b3, 0, none⟩)) rfl rfl (by kernel_rfl) (rvk (by kernel_rfl)) ?_
  simp only [p1, p2, p3, p4]
  replace L3 := L3.gr g5
  refine sq_val (some 7) (.bool true) rfl rfl (by kernel_rfl) (rv_load1 4 _ b3 0 _ _ (.bool true) rfl rfl L3 rfl (by kernel_rfl)) ?_
  simp only [p1, p2, p3, p4]
  refine sq_val (some 8) (.pointer (some ⟨b5, 0, none⟩)) rfl rfl (by kernel_rfl) (rvk (by kernel_rfl)) ?_
  simp only [p1, p2, p3, p4]
  refine sq_val (some 9) (.bool true) rfl rfl (by kernel_rfl) (rv_load1 4 _ b5 0 _ _ (.bool true) rfl rfl L5 rfl (by kernel_rfl)) ?_
  simp only [p1, p2, p3, p4]
  refine sq_val (some 10) (.bool false) rfl rfl (by kernel_rfl) (rvk (by kernel_rfl)) ?_
  simp only [p1, p2, p3, p4]
  refine sq_val (some 5) (.bool false) rfl rfl (by kernel_rfl) (rvk (by kernel_rfl)) ?_
  simp only [p1, p2, p3, p4]
  refine sq_nil ?_
  refine k7 _ _ ?_
  try clear k7 K7
  refine wp_cond_false rfl ?_
  refine wp_seq_k (fun K8 k8 => ?_)
  refine wp_region ?_
  simp only [List.size_toArray, List.length_cons, List.length_nil, Nat.reduceAdd, List.range, List.range.loop]
  refine sq_val (some 14) (.pointer (some ⟨b3, 0, none⟩)) rfl rfl (by kernel_rfl) (rvk (by kernel_rfl)) ?_
  simp only [p1, p2, p3, p4]
  refine sq_val (some 15) (.bool true) rfl rfl (by kernel_rfl) (rv_load1 4 _ b3 0 _ _ (.bool true) rfl rfl L3 rfl (by kernel_rfl)) ?_
  simp only [p1, p2, p3, p4]
  refine sq_val (some 13) (.bool true) rfl rfl (by kernel_rfl) (rvk (by kernel_rfl)) ?_
  simp only [p1, p2, p3, p4]
  refine sq_nil ?_
  refine k8 _ _ ?_
  try clear k8 K8
  refine wp_cond_true rfl ?_
  refine wp_seq_k (fun K9 k9 => ?_)
  refine wp_region ?_
  simp only [List.size_toArray, List.length_cons, List.length_nil, Nat.reduceAdd, List.range, List.range.loop]
  refine sq_val (some 16) (.pointer (some ⟨b5, 1, none⟩)) rfl rfl (by kernel_rfl) (rvk (by kernel_rfl)) ?_
  simp only [p1, p2, p3, p4]
  refine sq_val (some 17) (.slice bo lb cb) rfl rfl (by kernel_rfl) (rv_load1 27 _ b5 1 _ _ (.slice bo lb cb) rfl rfl L5 rfl (by kernel_rfl)) ?_
  simp only [p1, p2, p3, p4]
  refine sq_val (some 18) (.pointer (some ⟨b3, 1, none⟩)) rfl rfl (by kernel_rfl) (rvk (by kernel_rfl)) ?_
  simp only [p1, p2, p3, p4]
  refine sq_val (some 19) (.slice ao la ca) rfl rfl (by kernel_rfl) (rv_load1 27 _ b3 1 _ _ (.slice ao la ca) rfl rfl L3 rfl (by kernel_rfl)) ?_
  simp only [p1, p2, p3, p4]
  refine sq_eff rfl (by kernel_rfl) (fun K10 k10 => ?_)
  have kq12 := g3.kp.trans g5.kp
  replace hb := hb.kp kq12
  replace ha := ha.kp kq12
  refine eff_call (some 20) rfl (by kernel_rfl) (order_m hb ha (by omega) (by omega)) ?_
  rintro e11 w11 ⟨rfl, g11⟩
  refine ⟨_, rfl, ?_⟩
  replace hB := Gr.trans hB g11
  refine k10 _ _ ?_
  try clear k10 K10
  simp only [p1, p2, p3, p4]
  refine sq_val (some 4) (.int .i64 (sgn (b - a))) rfl rfl (by kernel_rfl) (rvk (by kernel_rfl)) ?_
  simp only [p1, p2, p3, p4]
  refine sq_nil ?_
  refine k9 _ _ ?_
  try clear k9 K9
  refine wp_ret ?_
  simp only [Exit.then, Exit.inBlock]
  refine bodyPost_ret (v := (.int .i64 (sgn (b - a)))) (ret_tmp rfl rfl) rfl ⟨?_, hB⟩
  exact rfl

set_option maxRecDepth 100000 in
set_option maxHeartbeats 1000000 in
theorem cmp_tf {w : World} {a b : Int} {ao bo : Option Addr} {la lb ca cb : Nat} (_ha : Mag w ao la ca a) (_hb : Mag w bo lb cb b) (_hla : la ≤ 1000000) (_hlb : lb ≤ 1000000) :
    Calls Tryd.prog 68 #[(.agg #[(.bool true), (.slice ao la ca)]), (.agg #[(.bool false), (.slice bo lb cb)])] w fun e w' => (e = .returned (.int .i64 (-1))) ∧ Gr w w' := by
  go_enter Tryd.func68, Tryd.ntmps68
  have hB := Gr.refl w
  refine wp_seq_k (fun K1 k1 => ?_)
  refine wp_region ?_
  simp only [List.size_toArray, List.length_cons, List.length_nil, Nat.reduceAdd, List.range, List.range.loop]
  refine sq_eff rfl (by kernel_rfl) (fun K2 k2 => ?_)
  refine eff_box 29 _ (.agg #[(.bool true), (.slice ao la ca)]) #[(.bool true), (.slice ao la ca)] (some 2) rfl rfl rfl rfl (fun b3 w3 g3 L3 q3 => ?_)
  replace q3 := Nat.le_trans (Below.size hB) q3
  replace hB := Gr.trans hB g3
  refine k2 _ _ ?_
  try clear k2 K2
  simp only [p1, p2, p3, p4]
  refine sq_eff rfl (by kernel_rfl) (fun K4 k4 => ?_)
  refine eff_box 29 _ (.agg #[(.bool false), (.slice bo lb cb)]) #[(.bool false), (.slice bo lb cb)] (some 3) rfl rfl rfl rfl (fun b5 w5 g5 L5 q5 => ?_)
  have ne3_5 := L3.ne q5
  replace q5 := Nat.le_trans (Below.size hB) q5
  replace hB := Gr.trans hB g5
  refine k4 _ _ ?_
  try clear k4 K4
  simp only [p1, p2, p3, p4]
  refine sq_val (some 4) (.int .i64 0) rfl rfl (by kernel_rfl) (rvk (by kernel_rfl)) ?_
  simp only [p1, p2, p3, p4]
  refine sq_nil ?_
  refine k1 _ _ ?_
  try clear k1 K1
  refine wp_seq_k (fun K6 k6 => ?_)
  refine wp_block ?_
  refine wp_seq_k (fun K7 k7 => ?_)
  refine wp_region ?_
  simp only [List.size_toArray, List.length_cons, List.length_nil, Nat.reduceAdd, List.range, List.range.loop]
  refine sq_val (some 6) (.pointer (some ⟨b3, 0, none⟩)) rfl rfl (by kernel_rfl) (rvk (by kernel_rfl)) ?_
  simp only [p1, p2, p3, p4]
  replace L3 := L3.gr g5
  refine sq_val (some 7) (.bool true) rfl rfl (by kernel_rfl) (rv_load1 4 _ b3 0 _ _ (.bool true) rfl rfl L3 rfl (by kernel_rfl)) ?_
  simp only [p1, p2, p3, p4]
  refine sq_val (some 8) (.pointer (some ⟨b5, 0, none⟩)) rfl rfl (by kernel_rfl) (rvk (by kernel_rfl)) ?_
  simp only [p1, p2, p3, p4]
  refine sq_val (some 9) (.bool false) rfl rfl (by kernel_rfl) (rv_load1 4 _ b5 0 _ _ (.bool false) rfl rfl L5 rfl (by kernel_rfl)) ?_
  simp only [p1, p2, p3, p4]
  refine sq_val (some 10) (.bool true) rfl rfl (by kernel_rfl) (rvk (by kernel_rfl)) ?_
  simp only [p1, p2, p3, p4]
  refine sq_val (some 5) (.bool true) rfl rfl (by kernel_rfl) (rvk (by kernel_rfl)) ?_
  simp only [p1, p2, p3, p4]
  refine sq_nil ?_
  refine k7 _ _ ?_
  try clear k7 K7
  refine wp_cond_true rfl ?_
  refine wp_seq_k (fun K8 k8 => ?_)
  refine wp_seq_k (fun K9 k9 => ?_)
  refine wp_region ?_
  simp only [List.size_toArray, List.length_cons, List.length_nil, Nat.reduceAdd, List.range, List.range.loop]
  refine sq_val (some 11) (.pointer (some ⟨b3, 0, none⟩)) rfl rfl (by kernel_rfl) (rvk (by kernel_rfl)) ?_
  simp only [p1, p2, p3, p4]
  refine sq_val (some 12) (.bool true) rfl rfl (by kernel_rfl) (rv_load1 4 _ b3 0 _ _ (.bool true) rfl rfl L3 rfl (by kernel_rfl)) ?_
  simp only [p1, p2, p3, p4]
  refine sq_nil ?_
  refine k9 _ _ ?_
  try clear k9 K9
  refine wp_cond_true rfl ?_
  refine wp_seq_k (fun K10 k10 => ?_)
  refine wp_region ?_
  simp only [List.size_toArray, List.length_cons, List.length_nil, Nat.reduceAdd, List.range, List.range.loop]
  refine sq_val (some 4) (.int .i64 (-1)) rfl rfl (by kernel_rfl) (rvk (by kernel_rfl)) ?_
  simp only [p1, p2, p3, p4]
  refine sq_nil ?_
  refine k10 _ _ ?_
  try clear k10 K10
  refine wp_ret ?_
  simp only [Exit.then, Exit.inBlock]
  refine bodyPost_ret (v := (.int .i64 (-1))) (ret_tmp rfl rfl) rfl ⟨?_, hB⟩
  exact rfl

set_option maxRecDepth 100000 in
set_option maxHeartbeats 1000000 in
theorem cmp_ft {w : World} {a b : Int} {ao bo : Option Addr} {la lb ca cb : Nat} (_ha : Mag w ao la ca a) (_hb : Mag w bo lb cb b) (_hla : la ≤ 1000000) (_hlb : lb ≤ 1000000) :
    Calls Tryd.prog 68 #[(.agg #[(.bool false), (.slice ao la ca)]), (.agg #[(.bool true), (.slice bo lb cb)])] w fun e w' => (e = .returned (.int .i64 (1))) ∧ Gr w w' := by
  go_enter Tryd.func68, Tryd.ntmps68
  have hB := Gr.refl w
  refine wp_seq_k (fun K1 k1 => ?_)
  refine wp_region ?_
  simp only [List.size_toArray, List.length_cons, List.length_nil, Nat.reduceAdd, List.range, List.range.loop]
  refine sq_eff rfl (by kernel_rfl) (fun K2 k2 => ?_)
  refine eff_box 29 _ (.agg #[(.bool false), (.slice ao la ca)]) #[(.bool false), (.slice ao la ca)] (some 2) rfl rfl rfl rfl (fun b3 w3 g3 L3 q3 => ?_)
  replace q3 := Nat.le_trans (Below.size hB) q3
  replace hB := Gr.trans hB g3
  refine k2 _ _ ?_
  try clear k2 K2
  simp only [p1, p2, p3, p4]
  refine sq_eff rfl (by kernel_rfl) (fun K4 k4 => ?_)
  refine eff_box 29 _ (.agg #[(.bool true), (.slice bo lb cb)]) #[(.bool true), (.slice bo lb cb)] (some 3) rfl rfl rfl rfl (fun b5 w5 g5 L5 q5 => ?_)
  have ne3_5 := L3.ne q5
  replace q5 := Nat.le_trans (Below.size hB) q5
  replace hB := Gr.trans hB g5
  refine k4 _ _ ?_
  try clear k4 K4
  simp only [p1, p2, p3, p4]
  refine sq_val (some 4) (.int .i64 0) rfl rfl (by kernel_rfl) (rvk (by kernel_rfl)) ?_
  simp only [p1, p2, p3, p4]
  refine sq_nil ?_
  refine k1 _ _ ?_
  try clear k1 K1
  refine wp_seq_k (fun K6 k6 => ?_)
  refine wp_block ?_
  refine wp_seq_k (fun K7 k7 => ?_)
  refine wp_region ?_
  simp only [List.size_toArray, List.length_cons, List.length_nil, Nat.reduceAdd, List.range, List.range.loop]
  refine sq_val (some 6) (.pointer (some ⟨b3, 0, none⟩)) rfl rfl (by kernel_rfl) (rvk (by kernel_rfl)) ?_
  simp only [p1, p2, p3, p4]
  replace L3 := L3.gr g5
  refine sq_val (some 7) (.bool false) rfl rfl (by kernel_rfl) (rv_load1 4 _ b3 0 _ _ (.bool false) rfl rfl L3 rfl (by kernel_rfl)) ?_
  simp only [p1, p2, p3, p4]
  refine sq_val (some 8) (.pointer (some ⟨b5, 0, none⟩)) rfl rfl (by kernel_rfl) (rvk (by kernel_rfl)) ?_
  simp only [p1, p2, p3, p4]
  refine sq_val (some 9) (.bool true) rfl rfl (by kernel_rfl) (rv_load1 4 _ b5 0 _ _ (.bool true) rfl rfl L5 rfl (by kernel_rfl)) ?_
  simp only [p1, p2, p3, p4]
  refine sq_val (some 10) (.bool true) rfl rfl (by kernel_rfl) (rvk (by kernel_rfl)) ?_
  simp only [p1, p2, p3, p4]
  refine sq_val (some 5) (.bool true) rfl rfl (by kernel_rfl) (rvk (by kernel_rfl)) ?_
  simp only [p1, p2, p3, p4]
  refine sq_nil ?_
  refine k7 _ _ ?_
  try clear k7 K7
  refine wp_cond_true rfl ?_
  refine wp_seq_k (fun K8 k8 => ?_)
  refine wp_seq_k (fun K9 k9 => ?_)
  refine wp_region ?_
  simp only [List.size_toArray, List.length_cons, List.length_nil, Nat.reduceAdd, List.range, List.range.loop]
  refine sq_val (some 11) (.pointer (some ⟨b3, 0, none⟩)) rfl rfl (by kernel_rfl) (rvk (by kernel_rfl)) ?_
  simp only [p1, p2, p3, p4]
  refine sq_val (some 12) (.bool false) rfl rfl (by kernel_rfl) (rv_load1 4 _ b3 0 _ _ (.bool false) rfl rfl L3 rfl (by kernel_rfl)) ?_
  simp only [p1, p2, p3, p4]
  refine sq_nil ?_
  refine k9 _ _ ?_
  try clear k9 K9
  refine wp_cond_false rfl ?_
  refine wp_skip ?_
  refine k8 _ _ ?_
  try clear k8 K8
  refine wp_seq_k (fun K10 k10 => ?_)
  refine wp_region ?_
  simp only [List.size_toArray, List.length_cons, List.length_nil, Nat.reduceAdd, List.range, List.range.loop]
  refine sq_val (some 4) (.int .i64 1) rfl rfl (by kernel_rfl) (rvk (by kernel_rfl)) ?_
  simp only [p1, p2, p3, p4]
  refine sq_nil ?_
  refine k10 _ _ ?_
  try clear k10 K10
  refine wp_ret ?_
  simp only [Exit.then, Exit.inBlock]
  refine bodyPost_ret (v := (.int .i64 1)) (ret_tmp rfl rfl) rfl ⟨?_, hB⟩
  exact rfl

set_option maxRecDepth 100000 in
set_option maxHeartbeats 1000000 in
theorem cmp_ff {w : World} {a b : Int} {ao bo : Option Addr} {la lb ca cb : Nat} (ha : Mag w ao la ca a) (hb : Mag w bo lb cb b) (_hla : la ≤ 1000000) (_hlb : lb ≤ 1000000) :
    Calls Tryd.prog 68 #[(.agg #[(.bool false), (.slice ao la ca)]), (.agg #[(.bool false), (.slice bo lb cb)])] w fun e w' => (e = .returned (.int .i64 (sgn (a - b)))) ∧ Gr w w' := by
  go_enter Tryd.func68, Tryd.ntmps68
  have hB := Gr.refl w
  refine wp_seq_k (fun K1 k1 => ?_)
  refine wp_region ?_
  simp only [List.size_toArray, List.length_cons, List.length_nil, Nat.reduceAdd, List.range, List.range.loop]
  refine sq_eff rfl (by kernel_rfl) (fun K2 k2 => ?_)
  refine eff_box 29 _ (.agg #[(.bool false), (.slice ao la ca)]) #[(.bool false), (.slice ao la ca)] (some 2) rfl rfl rfl rfl (fun b3 w3 g3 L3 q3 => ?_)
  replace q3 := Nat.le_trans (Below.size hB) q3
  replace hB := Gr.trans hB g3
  refine k2 _ _ ?_
  try clear k2 K2
  simp only [p1, p2, p3, p4]
  refine sq_eff rfl (by kernel_rfl) (fun K4 k4 => ?_)
  refine eff_box 29 _ (.agg #[(.bool false), (.slice bo lb cb)]) #[(.bool false), (.slice bo lb cb)] (some 3) rfl rfl rfl rfl (fun b5 w5 g5 L5 q5 => ?_)
  have ne3_5 := L3.ne q5
  replace q5 := Nat.le_trans (Below.size hB) q5
  replace hB := Gr.trans hB g5
  refine k4 _ _ ?_
  try clear k4 K4
  simp only [p1, p2, p3, p4]
  refine sq_val (some 4) (.int .i64 0) rfl rfl (by kernel_rfl) (rvk (by kernel_rfl)) ?_
  simp only [p1, p2, p3, p4]
  refine sq_nil ?_
  refine k1 _ _ ?_
  try clear k1 K1
  refine wp_seq_k (fun K6 k6 => ?_)
  refine wp_block ?_
  refine wp_seq_k (fun K7 k7 => ?_)
  refine wp_region ?_
  simp only [List.size_toArray, List.length_cons, List.length_nil, Nat.reduceAdd, List.range, List.range.loop]
  refine sq_val (some 6) (.pointer (some ⟨b3, 0, none⟩)) rfl rfl (by kernel_rfl) (rvk (by kernel_rfl)) ?_
  simp only [p1, p2, p3, p4]
  replace L3 := L3.gr g5
  refine sq_val (some 7) (.bool false) rfl rfl (by kernel_rfl) (rv_load1 4 _ b3 0 _ _ (.bool false) rfl rfl L3 rfl (by kernel_rfl)) ?_
  simp only [p1, p2, p3, p4]
  refine sq_val (some 8) (.pointer (some ⟨b5, 0, none⟩)) rfl rfl (by kernel_rfl) (rvk (by kernel_rfl)) ?_
  simp only [p1, p2, p3, p4]
  refine sq_val (some 9) (.bool false) rfl rfl (by kernel_rfl) (rv_load1 4 _ b5 0 _ _ (.bool false) rfl rfl L5 rfl (by kernel_rfl)) ?_
  simp only [p1, p2, p3, p4]
  refine sq_val (some 10) (.bool false) rfl rfl (by kernel_rfl) (rvk (by kernel_rfl)) ?_
  simp only [p1, p2, p3, p4]
  refine sq_val (some 5) (.bool false) rfl rfl (by kernel_rfl) (rvk (by kernel_rfl)) ?_
  simp only [p1, p2, p3, p4]
  refine sq_nil ?_
  refine k7 _ _ ?_
  try clear k7 K7
  refine wp_cond_false rfl ?_
  refine wp_seq_k (fun K8 k8 => ?_)
  refine wp_region ?_
  simp only [List.size_toArray, List.length_cons, List.length_nil, Nat.reduceAdd, List.range, List.range.loop]
  refine sq_val (some 14) (.pointer (some ⟨b3, 0, none⟩)) rfl rfl (by kernel_rfl) (rvk (by kernel_rfl)) ?_
  simp only [p1, p2, p3, p4]
  refine sq_val (some 15) (.bool false) rfl rfl (by kernel_rfl) (rv_load1 4 _ b3 0 _ _ (.bool false) rfl rfl L3 rfl (by kernel_rfl)) ?_
  simp only [p1, p2, p3, p4]
  refine sq_val (some 13) (.bool false) rfl rfl (by kernel_rfl) (rvk (by kernel_rfl)) ?_
  simp only [p1, p2, p3, p4]
  refine sq_nil ?_
  refine k8 _ _ ?_
  try clear k8 K8
  refine wp_cond_false rfl ?_
  refine wp_skip ?_
  refine k6 _ _ ?_
  try clear k6 K6
  refine wp_seq_k (fun K9 k9 => ?_)
  refine wp_region ?_
  simp only [List.size_toArray, List.length_cons, List.length_nil, Nat.reduceAdd, List.range, List.range.loop]
  refine sq_val (some 21) (.pointer (some ⟨b3, 1, none⟩)) rfl rfl (by kernel_rfl) (rvk (by kernel_rfl)) ?_
  simp only [p1, p2, p3, p4]
  refine sq_val (some 22) (.slice ao la ca) rfl rfl (by kernel_rfl) (rv_load1 27 _ b3 1 _ _ (.slice ao la ca) rfl rfl L3 rfl (by kernel_rfl)) ?_
  simp only [p1, p2, p3, p4]
  refine sq_val (some 23) (.pointer (some ⟨b5, 1, none⟩)) rfl rfl (by kernel_rfl) (rvk (by kernel_rfl)) ?_
  simp only [p1, p2, p3, p4]
  refine sq_val (some 24) (.slice bo lb cb) rfl rfl (by kernel_rfl) (rv_load1 27 _ b5 1 _ _ (.slice bo lb cb) rfl rfl L5 rfl (by kernel_rfl)) ?_
  simp only [p1, p2, p3, p4]
  refine sq_eff rfl (by kernel_rfl) (fun K10 k10 => ?_)
  have kq12 := g3.kp.trans g5.kp
  replace ha := ha.kp kq12
  replace hb := hb.kp kq12
  refine eff_call (some 25) rfl (by kernel_rfl) (order_m ha hb (by omega) (by omega)) ?_
  rintro e11 w11 ⟨rfl, g11⟩
  refine ⟨_, rfl, ?_⟩
  replace hB := Gr.trans hB g11
  refine k10 _ _ ?_
  try clear k10 K10
  simp only [p1, p2, p3, p4]
  refine sq_val (some 4) (.int .i64 (sgn (a - b))) rfl rfl (by kernel_rfl) (rvk (by kernel_rfl)) ?_
  simp only [p1, p2, p3, p4]
  refine sq_nil ?_
  refine k9 _ _ ?_
  try clear k9 K9
  refine wp_ret ?_
  refine bodyPost_ret (v := (.int .i64 (sgn (a - b)))) (ret_tmp rfl rfl) rfl ⟨?_, hB⟩
  exact rfl

set_option maxRecDepth 100000 in
set_option maxHeartbeats 1000000 in
theorem divmod_0 {w : World} {s : Bool} {K m : Nat} {a b Z : Int} {ao bo : Option Addr} {la lb ca cb : Nat} (ha : Mag w ao la ca a) (hb : Mag w bo lb cb b) (hu : IsInt w m (.bool false) (.slice bo lb cb) b) (_hla : la ≤ 1000000) (_hlb : lb ≤ 1000000) (_hb0 : 0 < b) (hd : a % b = 0) (hQ : a / b = (Z.natAbs : Int)) (hS : 0 < a / b → (s != false) = decide (Z < 0)) (hZ : Sz K Z) (hK : K ≤ 1000000) (hm : m ≤ 1000000) :
    Calls Tryd.prog 45 #[(.agg #[(.bool (s)), (.slice ao la ca)]), (.agg #[(.bool false), (.slice bo lb cb)])] w fun e w' => (∃ x' y' x3 y3, e = .returned (.tuple #[.agg #[x', y'], .agg #[x3, y3], .int .i64 0]) ∧ IsInt w' K x' y' (Z) ∧ IsInt w' m x3 y3 (0)) ∧ Gr w w' := by
  have hR : a % b = ((0 : Int).natAbs : Int) := hd
  go_enter Tryd.func45, Tryd.ntmps45
  have hB := Gr.refl w
  refine wp_seq_k (fun K1 k1 => ?_)
  refine wp_region ?_
  simp only [List.size_toArray, List.length_cons, List.length_nil, Nat.reduceAdd, List.range, List.range.loop]
  refine sq_eff rfl (by kernel_rfl) (fun K2 k2 => ?_)
  refine eff_box 29 _ (.agg #[(.bool (s)), (.slice ao la ca)]) #[(.bool (s)), (.slice ao la ca)] (some 2) rfl rfl rfl rfl (fun b3 w3 g3 L3 q3 => ?_)
  replace q3 := Nat.le_trans (Below.size hB) q3
  replace hB := Gr.trans hB g3
  refine k2 _ _ ?_
  try clear k2 K2
  simp only [p1, p2, p3, p4]
  refine sq_eff rfl (by kernel_rfl) (fun K4 k4 => ?_)
  refine eff_box 29 _ (.agg #[(.bool false), (.slice bo lb cb)]) #[(.bool false), (.slice bo lb cb)] (some 3) rfl rfl rfl rfl (fun b5 w5 g5 L5 q5 => ?_)
  have ne3_5 := L3.ne q5
  replace q5 := Nat.le_trans (Below.size hB) q5
  replace hB := Gr.trans hB g5
  refine k4 _ _ ?_
  try clear k4 K4
  simp only [p1, p2, p3, p4]
  refine sq_eff rfl (by kernel_rfl) (fun K6 k6 => ?_)
  refine eff_alloc 29 (.agg #[(.bool false), (.slice none 0 0)]) #[(.bool false), (.slice none 0 0)] (some 4) rfl rfl (by kernel_rfl) rfl (fun b7 w7 g7 L7 q7 => ?_)
  replace L3 := L3.gr g5
  have ne3_7 := L3.ne q7
  have ne5_7 := L5.ne q7
  replace q7 := Nat.le_trans (Below.size hB) q7
  replace hB := Gr.trans hB g7
  refine k6 _ _ ?_
  try clear k6 K6
  simp only [p1, p2, p3, p4]
  refine sq_eff rfl (by kernel_rfl) (fun K8 k8 => ?_)
  refine eff_alloc 29 (.agg #[(.bool false), (.slice none 0 0)]) #[(.bool false), (.slice none 0 0)] (some 5) rfl rfl (by kernel_rfl) rfl (fun b9 w9 g9 L9 q9 => ?_)
  replace L3 := L3.gr g7
  have ne3_9 := L3.ne q9
  replace L5 := L5.gr g7
  have ne5_9 := L5.ne q9
  have ne7_9 := L7.ne q9
  replace q9 := Nat.le_trans (Below.size hB) q9
  replace hB := Gr.trans hB g9
  refine k8 _ _ ?_
  try clear k8 K8
  simp only [p1, p2, p3, p4]
  refine sq_val (some 6) (.int .i64 0) rfl rfl (by kernel_rfl) (rvk (by kernel_rfl)) ?_
  simp only [p1, p2, p3, p4]
  refine sq_nil ?_
  refine k1 _ _ ?_
  try clear k1 K1
  refine wp_seq_k (fun K10 k10 => ?_)
  refine wp_seq_k (fun K11 k11 => ?_)
  refine wp_region ?_
  simp only [List.size_toArray, List.length_cons, List.length_nil, Nat.reduceAdd, List.range, List.range.loop]
  replace L5 := L5.gr g9
  refine sq_val (some 9) (.agg #[(.bool false), (.slice bo lb cb)]) rfl rfl (by kernel_rfl) (rv_load 29 _ b5 0 _ _ [(.bool false), (.slice bo lb cb)] rfl rfl L5 rfl (by kernel_rfl)) ?_
  simp only [p1, p2, p3, p4]
  refine sq_eff rfl (by kernel_rfl) (fun K12 k12 => ?_)
  have kq14 := g3.kp.trans (g5.kp.trans (g7.kp.trans g9.kp))
  replace hu := hu.kp kq14
  refine eff_call (some 10) rfl (by kernel_rfl) (sign_pos hu (by omega)) ?_
  rintro e13 w13 ⟨rfl, g13⟩
  refine ⟨_, rfl, ?_⟩
  replace hB := Gr.trans hB g13
  refine k12 _ _ ?_
  try clear k12 K12
  simp only [p1, p2, p3, p4]
  refine sq_val (some 11) (.bool false) rfl rfl (by kernel_rfl) (rvk (by kernel_rfl)) ?_
  simp only [p1, p2, p3, p4]
  refine sq_nil ?_
  refine k11 _ _ ?_
  try clear k11 K11
  refine wp_cond_false rfl ?_
  refine wp_skip ?_
  refine k10 _ _ ?_
  try clear k10 K10
  refine wp_seq_k (fun K15 k15 => ?_)
  refine wp_region ?_
  simp only [List.size_toArray, List.length_cons, List.length_nil, Nat.reduceAdd, List.range, List.range.loop]
  refine sq_val (some 15) (.pointer (some ⟨b3, 1, none⟩)) rfl rfl (by kernel_rfl) (rvk (by kernel_rfl)) ?_
  simp only [p1, p2, p3, p4]
  replace L3 := L3.gr (g9.trans g13)
  refine sq_val (some 16) (.slice ao la ca) rfl rfl (by kernel_rfl) (rv_load1 27 _ b3 1 _ _ (.slice ao la ca) rfl rfl L3 rfl (by kernel_rfl)) ?_
  simp only [p1, p2, p3, p4]
  refine sq_val (some 17) (.pointer (some ⟨b5, 1, none⟩)) rfl rfl (by kernel_rfl) (rvk (by kernel_rfl)) ?_
  simp only [p1, p2, p3, p4]
  replace L5 := L5.gr g13
  refine sq_val (some 18) (.slice bo lb cb) rfl rfl (by kernel_rfl) (rv_load1 27 _ b5 1 _ _ (.slice bo lb cb) rfl rfl L5 rfl (by kernel_rfl)) ?_
  simp only [p1, p2, p3, p4]
  refine sq_eff rfl (by kernel_rfl) (fun K16 k16 => ?_)
  have kq18 := g3.kp.trans (g5.kp.trans (g7.kp.trans (g9.kp.trans g13.kp)))
  replace ha := ha.kp kq18
  replace hb := hb.kp kq18
  refine eff_call (some 19) rfl (by kernel_rfl) (divide_m ha hb (by omega) (by omega) (by omega)) ?_
  rintro e17 w17 ⟨⟨qo17, qk17, qc17, ro17, rk17, rc17, rfl, hq17, hr17⟩, g17⟩
  refine ⟨_, rfl, ?_⟩
  replace hB := Gr.trans hB g17
  refine k16 _ _ ?_
  try clear k16 K16
  simp only [p1, p2, p3, p4]
  refine sq_val (some 14) (.tuple #[(.slice qo17 qk17 qc17), (.slice ro17 rk17 rc17)]) rfl rfl (by kernel_rfl) (rvk (by kernel_rfl)) ?_
  simp only [p1, p2, p3, p4]
  refine sq_val (some 20) (.slice qo17 qk17 qc17) rfl rfl (by kernel_rfl) (rvk (by kernel_rfl)) ?_
  simp only [p1, p2, p3, p4]
  refine sq_val (some 21) (.slice ro17 rk17 rc17) rfl rfl (by kernel_rfl) (rvk (by kernel_rfl)) ?_
  simp only [p1, p2, p3, p4]
  refine sq_val (some 7) (.slice qo17 qk17 qc17) rfl rfl (by kernel_rfl) (rvk (by kernel_rfl)) ?_
  simp only [p1, p2, p3, p4]
  refine sq_val (some 8) (.slice ro17 rk17 rc17) rfl rfl (by kernel_rfl) (rvk (by kernel_rfl)) ?_
  simp only [p1, p2, p3, p4]
  refine sq_nil ?_
  refine k15 _ _ ?_
  try clear k15 K15
  refine wp_seq_k (fun K19 k19 => ?_)
  have gd30 := Gr.drew w17
  replace hB := Gr.trans hB gd30
  replace L3 := L3.gr (g17.trans gd30)
  replace L5 := L5.gr (g17.trans gd30)
  refine wp_region_ord (fun w' => Lc w' b3 #[(.bool (s)), (.slice ao la ca)] 29 ∧ Lc w' b5 #[(.bool false), (.slice bo lb cb)] 29) [(true, 0), (true, 1), (true, 2), (true, 3), (true, 4), (true, 5), (true, 7), (true, 8), (true, 9), (false, 6), (false, 10), (false, 11), (false, 12)] (by kernel_rfl) (by kernel_rfl) (by kernel_rfl) (by decide) (fun _ _ _ _ _ h => h) ⟨L3, L5⟩ ?_
  refine ord_pure (some 22) (.pointer (some ⟨b3, 0, none⟩)) rfl rfl rfl (fun w' hS => (rvk (by kernel_rfl))) ?_
  simp only [p1, p2, p3, p4]
  refine ord_pure (some 23) (.bool (s)) rfl rfl rfl (fun w' hS => (rv_load1 4 _ b3 0 _ _ (.bool (s)) rfl rfl hS.1 rfl (by kernel_rfl))) ?_
  simp only [p1, p2, p3, p4]
  refine ord_pure (some 24) (.pointer (some ⟨b5, 0, none⟩)) rfl rfl rfl (fun w' hS => (rvk (by kernel_rfl))) ?_
  simp only [p1, p2, p3, p4]
  refine ord_pure (some 25) (.bool false) rfl rfl rfl (fun w' hS => (rv_load1 4 _ b5 0 _ _ (.bool false) rfl rfl hS.2 rfl (by kernel_rfl))) ?_
  simp only [p1, p2, p3, p4]
  refine ord_pure (some 26) (.bool ((s != false))) rfl rfl rfl (fun w' hS => (rvk (by kernel_rfl))) ?_
  simp only [p1, p2, p3, p4]
  refine ord_pure (some 27) (.slice qo17 qk17 qc17) rfl rfl rfl (fun w' hS => (rvk (by kernel_rfl))) ?_
  simp only [p1, p2, p3, p4]
  refine ord_pure (some 29) (.pointer (some ⟨b3, 0, none⟩)) rfl rfl rfl (fun w' hS => (rvk (by kernel_rfl))) ?_
  simp only [p1, p2, p3, p4]
  refine ord_pure (some 30) (.bool (s)) rfl rfl rfl (fun w' hS => (rv_load1 4 _ b3 0 _ _ (.bool (s)) rfl rfl hS.1 rfl (by kernel_rfl))) ?_
  simp only [p1, p2, p3, p4]
  refine ord_pure (some 31) (.slice ro17 rk17 rc17) rfl rfl rfl (fun w' hS => (rvk (by kernel_rfl))) ?_
  simp only [p1, p2, p3, p4]
  refine ord_eff rfl rfl (fun K31 k31 => ?_)
  replace hq17 := hq17.kp gd30.kp
  refine eff_call (some 28) rfl (by kernel_rfl) (signed_z (neg := (s != false)) (Z := Z) hq17 hQ hS hZ hK) ?_
  rintro e32 w32 ⟨⟨x32, y32, rfl, h32⟩, g32⟩
  refine ⟨_, rfl, ?_⟩
  replace hB := Gr.trans hB g32
  replace L3 := L3.gr g32
  replace L5 := L5.gr g32
  refine k31 _ _ ⟨L3, L5⟩ ?_
  try clear k31 K31
  simp only [p1, p2, p3, p4]
  refine ord_eff rfl rfl (fun K33 k33 => ?_)
  have kq35 := gd30.kp.trans g32.kp
  replace hr17 := hr17.kp kq35
  refine eff_call (some 32) rfl (by kernel_rfl) (signed_z (neg := s) (Z := 0) hr17 hR (fun h => by omega) (Sz.zero m) hm) ?_
  rintro e34 w34 ⟨⟨x34, y34, rfl, h34⟩, g34⟩
  refine ⟨_, rfl, ?_⟩
  replace hB := Gr.trans hB g34
  replace L3 := L3.gr g34
  replace L5 := L5.gr g34
  refine k33 _ _ ⟨L3, L5⟩ ?_
  try clear k33 K33
  simp only [p1, p2, p3, p4]
  refine ord_eff rfl rfl (fun K36 k36 => ?_)
  replace L7 := L7.gr (g9.trans (g13.trans (g17.trans (gd30.trans (g32.trans g34)))))
  refine eff_store 29 _ _ b7 0 (.agg #[x32, y32]) [x32, y32] _ #[x32, y32] _ rfl rfl rfl rfl rfl L7 (by kernel_rfl) (Nat.le_of_ble_eq_true rfl) ⟨h32.one0, h32.one1, trivial⟩ (by kernel_rfl) (fun w37 st37 N37 => ?_)
  have kp37 := st37.kp L7 (by decide)
  replace hB := st37.gr hB q7
  replace L7 := N37
  replace L3 := st37.lc L3 ne3_7
  replace L5 := st37.lc L5 ne5_7
  refine k36 _ _ ⟨L3, L5⟩ ?_
  try clear k36 K36
  refine ord_eff rfl rfl (fun K38 k38 => ?_)
  replace L9 := st37.lc (L9.gr (g13.trans (g17.trans (gd30.trans (g32.trans g34))))) (Ne.symm ne7_9)
  refine eff_store 29 _ _ b9 0 (.agg #[x34, y34]) [x34, y34] _ #[x34, y34] _ rfl rfl rfl rfl rfl L9 (by kernel_rfl) (Nat.le_of_ble_eq_true rfl) ⟨h34.one0, h34.one1, trivial⟩ (by kernel_rfl) (fun w39 st39 N39 => ?_)
  have kp39 := st39.kp L9 (by decide)
  replace hB := st39.gr hB q9
  replace L9 := N39
  replace L3 := st39.lc L3 ne3_9
  replace L5 := st39.lc L5 ne5_9
  refine k38 _ _ ⟨L3, L5⟩ ?_
  try clear k38 K38
  refine ord_nil ?_
  refine k19 _ _ ?_
  try clear k19 K19
  refine wp_seq_k (fun K40 k40 => ?_)
  refine wp_seq_k (fun K41 k41 => ?_)
  refine wp_region ?_
  simp only [List.size_toArray, List.length_cons, List.length_nil, Nat.reduceAdd, List.range, List.range.loop]
  refine sq_val (some 33) (.agg #[x34, y34]) rfl rfl (by kernel_rfl) (rv_load 29 _ b9 0 _ _ [x34, y34] rfl rfl L9 rfl (by kernel_rfl)) ?_
  simp only [p1, p2, p3, p4]
  refine sq_eff rfl (by kernel_rfl) (fun K42 k42 => ?_)
  have kq44 := kp37.trans kp39
  replace h34 := h34.kp kq44
  refine eff_call (some 34) rfl (by kernel_rfl) (sign_zero h34) ?_
  rintro e43 w43 ⟨rfl, g43⟩
  refine ⟨_, rfl, ?_⟩
  replace hB := Gr.trans hB g43
  refine k42 _ _ ?_
  try clear k42 K42
  simp only [p1, p2, p3, p4]
  refine sq_val (some 35) (.bool false) rfl rfl (by kernel_rfl) (rvk (by kernel_rfl)) ?_
  simp only [p1, p2, p3, p4]
  refine sq_val (some 36) (.bool false) rfl rfl (by kernel_rfl) (rvk (by kernel_rfl)) ?_
  simp only [p1, p2, p3, p4]
  refine sq_skip (some 37) rfl rfl (by kernel_rfl) ?_
  simp only [p1, p2, p3, p4]
  refine sq_skip (some 38) rfl rfl (by kernel_rfl) ?_
  simp only [p1, p2, p3, p4]
  refine sq_skip (some 39) rfl rfl (by kernel_rfl) ?_
  simp only [p1, p2, p3, p4]
  refine sq_skip (some 40) rfl rfl (by kernel_rfl) ?_
  simp only [p1, p2, p3, p4]
  refine sq_skip (some 41) rfl rfl (by kernel_rfl) ?_
  simp only [p1, p2, p3, p4]
  refine sq_val (some 42) (.bool false) rfl rfl (by kernel_rfl) (rvk (by kernel_rfl)) ?_
  simp only [p1, p2, p3, p4]
  refine sq_nil ?_
  refine k41 _ _ ?_
  try clear k41 K41
  refine wp_cond_false rfl ?_
  refine wp_skip ?_
  refine k40 _ _ ?_
  try clear k40 K40
  refine wp_seq_k (fun K45 k45 => ?_)
  have gd47 := Gr.drew w43
  replace hB := Gr.trans hB gd47
  replace L7 := (st39.lc L7 ne7_9).gr (g43.trans gd47)
  replace L9 := L9.gr (g43.trans gd47)
  refine wp_region_ort (fun _ => True) [([2], (fun w' => Lc w' b7 #[x32, y32] 29)), ([3], (fun w' => Lc w' b9 #[x34, y34] 29))] [(true, 0), (true, 1), (false, 2), (false, 3), (true, 4)] (by kernel_rfl) (by kernel_rfl) (by kernel_rfl) (by decide) (fun _ _ _ _ _ h => h) trivial ⟨fun _ => L7, fun _ => L9, trivial⟩ ?_
  refine ort_pure (some 49) (.agg #[x32, y32]) rfl rfl (by kernel_rfl) (fun w' hS => (rv_load 29 _ b7 0 _ _ [x32, y32] rfl rfl (hS.2.1 (by kernel_rfl)) rfl (by kernel_rfl))) ?_
  simp only [p1, p2, p3, p4]
  refine ort_pure (some 50) (.agg #[x34, y34]) rfl rfl (by kernel_rfl) (fun w' hS => (rv_load 29 _ b9 0 _ _ [x34, y34] rfl rfl (hS.2.2.1 (by kernel_rfl)) rfl (by kernel_rfl))) ?_
  simp only [p1, p2, p3, p4]
  refine ort_eff rfl (by kernel_rfl) (fun K48 k48 => ?_)
  refine eff_store 29 _ _ b7 0 (.agg #[x32, y32]) [x32, y32] _ #[x32, y32] _ rfl rfl rfl rfl rfl L7 (by kernel_rfl) (Nat.le_of_ble_eq_true rfl) ⟨h32.one0, h32.one1, trivial⟩ (by kernel_rfl) (fun w49 st49 N49 => ?_)
  have kp49 := st49.kp L7 (by decide)
  replace hB := st49.gr hB q7
  replace L7 := N49
  replace L9 := st49.lc L9 (Ne.symm ne7_9)
  refine k48 _ _ trivial ⟨cameT (by kernel_rfl), fun _ => L9, trivial⟩ ?_
  try clear k48 K48
  refine ort_eff rfl (by kernel_rfl) (fun K50 k50 => ?_)
  refine eff_store 29 _ _ b9 0 (.agg #[x34, y34]) [x34, y34] _ #[x34, y34] _ rfl rfl rfl rfl rfl L9 (by kernel_rfl) (Nat.le_of_ble_eq_true rfl) ⟨h34.one0, h34.one1, trivial⟩ (by kernel_rfl) (fun w51 st51 N51 => ?_)
  have kp51 := st51.kp L9 (by decide)
  replace hB := st51.gr hB q9
  replace L9 := N51
  refine k50 _ _ trivial ⟨cameT (by kernel_rfl), cameT (by kernel_rfl), trivial⟩ ?_
  try clear k50 K50
  refine ort_pure (some 6) (.int .i64 0) rfl rfl (by kernel_rfl) (fun w' hS => (rvk (by kernel_rfl))) ?_
  simp only [p1, p2, p3, p4]
  refine ort_nil ?_
  refine k45 _ _ ?_
  try clear k45 K45
  refine wp_ret ?_
  replace L7 := st51.lc L7 ne7_9
  refine bodyPost_ret (v := (.tuple #[(.agg #[x32, y32]), (.agg #[x34, y34]), (.int .i64 0)])) (ret_cell2_tmp' _ _ _ _ _ _ rfl rfl rfl L7 (by kernel_rfl) L9 (by kernel_rfl) rfl) rfl ⟨?_, hB⟩
  have kq52 := g34.kp.trans (kp37.trans (kp39.trans (g43.kp.trans (gd47.kp.trans (kp49.trans kp51)))))
  replace h32 := h32.kp kq52
  have kq53 := g43.kp.trans (gd47.kp.trans (kp49.trans kp51))
  replace h34 := h34.kp kq53
  exact ⟨_, _, _, _, rfl, h32, h34⟩

set_option maxRecDepth 100000 in
set_option maxHeartbeats 1000000 in
theorem divmod_f {w : World} {K m : Nat} {a b : Int} {ao bo : Option Addr} {la lb ca cb : Nat} (ha : Mag w ao la ca a) (hb : Mag w bo lb cb b) (hu : IsInt w m (.bool false) (.slice bo lb cb) b) (_hla : la ≤ 1000000) (_hlb : lb ≤ 1000000) (_hb0 : 0 < b) (hR : 0 < a % b) (_hL : a % b < b) (_hQ : 0 ≤ a / b) (hZ : Sz K (a / b)) (hK : K ≤ 1000000) (hm : m ≤ 1000000) :
    Calls Tryd.prog 45 #[(.agg #[(.bool false), (.slice ao la ca)]), (.agg #[(.bool false), (.slice bo lb cb)])] w fun e w' => (∃ x' y' x3 y3, e = .returned (.tuple #[.agg #[x', y'], .agg #[x3, y3], .int .i64 0]) ∧ IsInt w' K x' y' (a / b) ∧ IsInt w' m x3 y3 (a % b)) ∧ Gr w w' := by
  go_enter Tryd.func45, Tryd.ntmps45
  have hB := Gr.refl w
  refine wp_seq_k (fun K1 k1 => ?_)
  refine wp_region ?_
  simp only [List.size_toArray, List.length_cons, List.length_nil, Nat.reduceAdd, List.range, List.range.loop]
  refine sq_eff rfl (by kernel_rfl) (fun K2 k2 => ?_)
  refine eff_box 29 _ (.agg #[(.bool false), (.slice ao la ca)]) #[(.bool false), (.slice ao la ca)] (some 2) rfl rfl rfl rfl (fun b3 w3 g3 L3 q3 => ?_)
  replace q3 := Nat.le_trans (Below.size hB) q3
  replace hB := Gr.trans hB g3
  refine k2 _ _ ?_
  try clear k2 K2
  simp only [p1, p2, p3, p4]
  refine sq_eff rfl (by kernel_rfl) (fun K4 k4 => ?_)
  refine eff_box 29 _ (.agg #[(.bool false), (.slice bo lb cb)]) #[(.bool false), (.slice bo lb cb)] (some 3) rfl rfl rfl rfl (fun b5 w5 g5 L5 q5 => ?_)
  have ne3_5 := L3.ne q5
  replace q5 := Nat.le_trans (Below.size hB) q5
  replace hB := Gr.trans hB g5
  refine k4 _ _ ?_
  try clear k4 K4
  simp only [p1, p2, p3, p4]
  refine sq_eff rfl (by kernel_rfl) (fun K6 k6 => ?_)
  refine eff_alloc 29 (.agg #[(.bool false), (.slice none 0 0)]) #[(.bool false), (.slice none 0 0)] (some 4) rfl rfl (by kernel_rfl) rfl (fun b7 w7 g7 L7 q7 => ?_)
  replace L3 := L3.gr g5
  have ne3_7 := L3.ne q7
  have ne5_7 := L5.ne q7
  replace q7 := Nat.le_trans (Below.size hB) q7
  replace hB := Gr.trans hB g7
  refine k6 _ _ ?_
  try clear k6 K6
  simp only [p1, p2, p3, p4]
  refine sq_eff rfl (by kernel_rfl) (fun K8 k8 => ?_)
  refine eff_alloc 29 (.agg #[(.bool false), (.slice none 0 0)]) #[(.bool false), (.slice none 0 0)] (some 5) rfl rfl (by kernel_rfl) rfl (fun b9 w9 g9 L9 q9 => ?_)
  replace L3 := L3.gr g7
  have ne3_9 := L3.ne q9
  replace L5 := L5.gr g7
  have ne5_9 := L5.ne q9
  have ne7_9 := L7.ne q9
  replace q9 := Nat.le_trans (Below.size hB) q9
  replace hB := Gr.trans hB g9
  refine k8 _ _ ?_
  try clear k8 K8
  simp only [p1, p2, p3, p4]
  refine sq_val (some 6) (.int .i64 0) rfl rfl (by kernel_rfl) (rvk (by kernel_rfl)) ?_
  simp only [p1, p2, p3, p4]
  refine sq_nil ?_
  refine k1 _ _ ?_
  try clear k1 K1
  refine wp_seq_k (fun K10 k10 => ?_)
  refine wp_seq_k (fun K11 k11 => ?_)
  refine wp_region ?_
  simp only [List.size_toArray, List.length_cons, List.length_nil, Nat.reduceAdd, List.range, List.range.loop]
  replace L5 := L5.gr g9
  refine sq_val (some 9) (.agg #[(.bool false), (.slice bo lb cb)]) rfl rfl (by kernel_rfl) (rv_load 29 _ b5 0 _ _ [(.bool false), (.slice bo lb cb)] rfl rfl L5 rfl (by kernel_rfl)) ?_
  simp only [p1, p2, p3, p4]
  refine sq_eff rfl (by kernel_rfl) (fun K12 k12 => ?_)
  have kq14 := g3.kp.trans (g5.kp.trans (g7.kp.trans g9.kp))
  replace hu := hu.kp kq14
  refine eff_call (some 10) rfl (by kernel_rfl) (sign_pos hu (by omega)) ?_
  rintro e13 w13 ⟨rfl, g13⟩
  refine ⟨_, rfl, ?_⟩
  replace hB := Gr.trans hB g13
  refine k12 _ _ ?_
  try clear k12 K12
  simp only [p1, p2, p3, p4]
  refine sq_val (some 11) (.bool false) rfl rfl (by kernel_rfl) (rvk (by kernel_rfl)) ?_
  simp only [p1, p2, p3, p4]
  refine sq_nil ?_
  refine k11 _ _ ?_
  try clear k11 K11
  refine wp_cond_false rfl ?_
  refine wp_skip ?_
  refine k10 _ _ ?_
  try clear k10 K10
  refine wp_seq_k (fun K15 k15 => ?_)
  refine wp_region ?_
  simp only [List.size_toArray, List.length_cons, List.length_nil, Nat.reduceAdd, List.range, List.range.loop]
  refine sq_val (some 15) (.pointer (some ⟨b3, 1, none⟩)) rfl rfl (by kernel_rfl) (rvk (by kernel_rfl)) ?_
  simp only [p1, p2, p3, p4]
  replace L3 := L3.gr (g9.trans g13)
  refine sq_val (some 16) (.slice ao la ca) rfl rfl (by kernel_rfl) (rv_load1 27 _ b3 1 _ _ (.slice ao la ca) rfl rfl L3 rfl (by kernel_rfl)) ?_
  simp only [p1, p2, p3, p4]
  refine sq_val (some 17) (.pointer (some ⟨b5, 1, none⟩)) rfl rfl (by kernel_rfl) (rvk (by kernel_rfl)) ?_
  simp only [p1, p2, p3, p4]
  replace L5 := L5.gr g13
  refine sq_val (some 18) (.slice bo lb cb) rfl rfl (by kernel_rfl) (rv_load1 27 _ b5 1 _ _ (.slice bo lb cb) rfl rfl L5 rfl (by kernel_rfl)) ?_
  simp only [p1, p2, p3, p4]
  refine sq_eff rfl (by kernel_rfl) (fun K16 k16 => ?_)
  have kq18 := g3.kp.trans (g5.kp.trans (g7.kp.trans (g9.kp.trans g13.kp)))
  replace ha := ha.kp kq18
  replace hb := hb.kp kq18
  refine eff_call (some 19) rfl (by kernel_rfl) (divide_m ha hb (by omega) (by omega) (by omega)) ?_
  rintro e17 w17 ⟨⟨qo17, qk17, qc17, ro17, rk17, rc17, rfl, hq17, hr17⟩, g17⟩
  refine ⟨_, rfl, ?_⟩
  replace hB := Gr.trans hB g17
  refine k16 _ _ ?_
  try clear k16 K16
  simp only [p1, p2, p3, p4]
  refine sq_val (some 14) (.tuple #[(.slice qo17 qk17 qc17), (.slice ro17 rk17 rc17)]) rfl rfl (by kernel_rfl) (rvk (by kernel_rfl)) ?_
  simp only [p1, p2, p3, p4]
  refine sq_val (some 20) (.slice qo17 qk17 qc17) rfl rfl (by kernel_rfl) (rvk (by kernel_rfl)) ?_
  simp only [p1, p2, p3, p4]
  refine sq_val (some 21) (.slice ro17 rk17 rc17) rfl rfl (by kernel_rfl) (rvk (by kernel_rfl)) ?_
  simp only [p1, p2, p3, p4]
  refine sq_val (some 7) (.slice qo17 qk17 qc17) rfl rfl (by kernel_rfl) (rvk (by kernel_rfl)) ?_
  simp only [p1, p2, p3, p4]
  refine sq_val (some 8) (.slice ro17 rk17 rc17) rfl rfl (by kernel_rfl) (rvk (by kernel_rfl)) ?_
  simp only [p1, p2, p3, p4]
  refine sq_nil ?_
  refine k15 _ _ ?_
  try clear k15 K15
  refine wp_seq_k (fun K19 k19 => ?_)
  have gd30 := Gr.drew w17
  replace hB := Gr.trans hB gd30
  replace L3 := L3.gr (g17.trans gd30)
  replace L5 := L5.gr (g17.trans gd30)
  refine wp_region_ord (fun w' => Lc w' b3 #[(.bool false), (.slice ao la ca)] 29 ∧ Lc w' b5 #[(.bool false), (.slice bo lb cb)] 29) [(true, 0), (true, 1), (true, 2), (true, 3), (true, 4), (true, 5), (true, 7), (true, 8), (true, 9), (false, 6), (false, 10), (false, 11), (false, 12)] (by kernel_rfl) (by kernel_rfl) (by kernel_rfl) (by decide) (fun _ _ _ _ _ h => h) ⟨L3, L5⟩ ?_
  refine ord_pure (some 22) (.pointer (some ⟨b3, 0, none⟩)) rfl rfl rfl (fun w' hS => (rvk (by kernel_rfl))) ?_
  simp only [p1, p2, p3, p4]
  refine ord_pure (some 23) (.bool false) rfl rfl rfl (fun w' hS => (rv_load1 4 _ b3 0 _ _ (.bool false) rfl rfl hS.1 rfl (by kernel_rfl))) ?_
  simp only [p1, p2, p3, p4]
  refine ord_pure (some 24) (.pointer (some ⟨b5, 0, none⟩)) rfl rfl rfl (fun w' hS => (rvk (by kernel_rfl))) ?_
  simp only [p1, p2, p3, p4]
  refine ord_pure (some 25) (.bool false) rfl rfl rfl (fun w' hS => (rv_load1 4 _ b5 0 _ _ (.bool false) rfl rfl hS.2 rfl (by kernel_rfl))) ?_
  simp only [p1, p2, p3, p4]
  refine ord_pure (some 26) (.bool false) rfl rfl rfl (fun w' hS => (rvk (by kernel_rfl))) ?_
  simp only [p1, p2, p3, p4]
  refine ord_pure (some 27) (.slice qo17 qk17 qc17) rfl rfl rfl (fun w' hS => (rvk (by kernel_rfl))) ?_
  simp only [p1, p2, p3, p4]
  refine ord_pure (some 29) (.pointer (some ⟨b3, 0, none⟩)) rfl rfl rfl (fun w' hS => (rvk (by kernel_rfl))) ?_
  simp only [p1, p2, p3, p4]
  refine ord_pure (some 30) (.bool false) rfl rfl rfl (fun w' hS => (rv_load1 4 _ b3 0 _ _ (.bool false) rfl rfl hS.1 rfl (by kernel_rfl))) ?_
  simp only [p1, p2, p3, p4]
  refine ord_pure (some 31) (.slice ro17 rk17 rc17) rfl rfl rfl (fun w' hS => (rvk (by kernel_rfl))) ?_
  simp only [p1, p2, p3, p4]
  refine ord_eff rfl rfl (fun K31 k31 => ?_)
  replace hq17 := hq17.kp gd30.kp
  refine eff_call (some 28) rfl (by kernel_rfl) (signed_z (neg := false) (Z := (a / b)) hq17 (by omega) (fun _ => by simp; omega) hZ hK) ?_
  rintro e32 w32 ⟨⟨x32, y32, rfl, h32⟩, g32⟩
  refine ⟨_, rfl, ?_⟩
  replace hB := Gr.trans hB g32
  replace L3 := L3.gr g32
  replace L5 := L5.gr g32
  refine k31 _ _ ⟨L3, L5⟩ ?_
  try clear k31 K31
  simp only [p1, p2, p3, p4]
  refine ord_eff rfl rfl (fun K33 k33 => ?_)
  have kq35 := gd30.kp.trans g32.kp
  replace hr17 := hr17.kp kq35
  refine eff_call (some 32) rfl (by kernel_rfl) (signed_pf hr17 hR (Sz.of_le hu.sz (by omega)) hm) ?_
  rintro e34 w34 ⟨⟨k34, rfl, h34⟩, g34⟩
  refine ⟨_, rfl, ?_⟩
  replace hB := Gr.trans hB g34
  replace L3 := L3.gr g34
  replace L5 := L5.gr g34
  refine k33 _ _ ⟨L3, L5⟩ ?_
  try clear k33 K33
  simp only [p1, p2, p3, p4]
  refine ord_eff rfl rfl (fun K36 k36 => ?_)
  replace L7 := L7.gr (g9.trans (g13.trans (g17.trans (gd30.trans (g32.trans g34)))))
  refine eff_store 29 _ _ b7 0 (.agg #[x32, y32]) [x32, y32] _ #[x32, y32] _ rfl rfl rfl rfl rfl L7 (by kernel_rfl) (Nat.le_of_ble_eq_true rfl) ⟨h32.one0, h32.one1, trivial⟩ (by kernel_rfl) (fun w37 st37 N37 => ?_)
  have kp37 := st37.kp L7 (by decide)
  replace hB := st37.gr hB q7
  replace L7 := N37
  replace L3 := st37.lc L3 ne3_7
  replace L5 := st37.lc L5 ne5_7
  refine k36 _ _ ⟨L3, L5⟩ ?_
  try clear k36 K36
  refine ord_eff rfl rfl (fun K38 k38 => ?_)
  replace L9 := st37.lc (L9.gr (g13.trans (g17.trans (gd30.trans (g32.trans g34))))) (Ne.symm ne7_9)
  refine eff_store 29 _ _ b9 0 (.agg #[(.bool false), (.slice ro17 k34 rc17)]) [(.bool false), (.slice ro17 k34 rc17)] _ #[(.bool false), (.slice ro17 k34 rc17)] _ rfl rfl rfl rfl rfl L9 (by kernel_rfl) (Nat.le_of_ble_eq_true rfl) ⟨rfl, rfl, trivial⟩ (by kernel_rfl) (fun w39 st39 N39 => ?_)
  have kp39 := st39.kp L9 (by decide)
  replace hB := st39.gr hB q9
  replace L9 := N39
  replace L3 := st39.lc L3 ne3_9
  replace L5 := st39.lc L5 ne5_9
  refine k38 _ _ ⟨L3, L5⟩ ?_
  try clear k38 K38
  refine ord_nil ?_
  refine k19 _ _ ?_
  try clear k19 K19
  refine wp_seq_k (fun K40 k40 => ?_)
  refine wp_seq_k (fun K41 k41 => ?_)
  refine wp_region ?_
  simp only [List.size_toArray, List.length_cons, List.length_nil, Nat.reduceAdd, List.range, List.range.loop]
  refine sq_val (some 33) (.agg #[(.bool false), (.slice ro17 k34 rc17)]) rfl rfl (by kernel_rfl) (rv_load 29 _ b9 0 _ _ [(.bool false), (.slice ro17 k34 rc17)] rfl rfl L9 rfl (by kernel_rfl)) ?_
  simp only [p1, p2, p3, p4]
  refine sq_eff rfl (by kernel_rfl) (fun K42 k42 => ?_)
  have kq44 := kp37.trans kp39
  replace h34 := h34.kp kq44
  refine eff_call (some 34) rfl (by kernel_rfl) (sign_pos h34 (by omega)) ?_
  rintro e43 w43 ⟨rfl, g43⟩
  refine ⟨_, rfl, ?_⟩
  replace hB := Gr.trans hB g43
  refine k42 _ _ ?_
  try clear k42 K42
  simp only [p1, p2, p3, p4]
  refine sq_val (some 35) (.bool true) rfl rfl (by kernel_rfl) (rvk (by kernel_rfl)) ?_
  simp only [p1, p2, p3, p4]
  refine sq_val (some 36) (.bool true) rfl rfl (by kernel_rfl) (rvk (by kernel_rfl)) ?_
  simp only [p1, p2, p3, p4]
  refine sq_val (some 37) (.pointer (some ⟨b9, 0, none⟩)) rfl rfl (by kernel_rfl) (rvk (by kernel_rfl)) ?_
  simp only [p1, p2, p3, p4]
  replace L9 := L9.gr g43
  refine sq_val (some 38) (.bool false) rfl rfl (by kernel_rfl) (rv_load1 4 _ b9 0 _ _ (.bool false) rfl rfl L9 rfl (by kernel_rfl)) ?_
  simp only [p1, p2, p3, p4]
  refine sq_val (some 39) (.pointer (some ⟨b5, 0, none⟩)) rfl rfl (by kernel_rfl) (rvk (by kernel_rfl)) ?_
  simp only [p1, p2, p3, p4]
  replace L5 := L5.gr g43
  refine sq_val (some 40) (.bool false) rfl rfl (by kernel_rfl) (rv_load1 4 _ b5 0 _ _ (.bool false) rfl rfl L5 rfl (by kernel_rfl)) ?_
  simp only [p1, p2, p3, p4]
  refine sq_val (some 41) (.bool false) rfl rfl (by kernel_rfl) (rvk (by kernel_rfl)) ?_
  simp only [p1, p2, p3, p4]
  refine sq_val (some 42) (.bool false) rfl rfl (by kernel_rfl) (rvk (by kernel_rfl)) ?_
  simp only [p1, p2, p3, p4]
  refine sq_nil ?_
  refine k41 _ _ ?_
  try clear k41 K41
  refine wp_cond_false rfl ?_
  refine wp_skip ?_
  refine k40 _ _ ?_
  try clear k40 K40
  refine wp_seq_k (fun K45 k45 => ?_)
  have gd47 := Gr.drew w43
  replace hB := Gr.trans hB gd47
  replace L7 := (st39.lc L7 ne7_9).gr (g43.trans gd47)
  replace L9 := L9.gr gd47
  refine wp_region_ort (fun _ => True) [([2], (fun w' => Lc w' b7 #[x32, y32] 29)), ([3], (fun w' => Lc w' b9 #[(.bool false), (.slice ro17 k34 rc17)] 29))] [(true, 0), (true, 1), (false, 2), (false, 3), (true, 4)] (by kernel_rfl) (by kernel_rfl) (by kernel_rfl) (by decide) (fun _ _ _ _ _ h => h) trivial ⟨fun _ => L7, fun _ => L9, trivial⟩ ?_
  refine ort_pure (some 49) (.agg #[x32, y32]) rfl rfl (by kernel_rfl) (fun w' hS => (rv_load 29 _ b7 0 _ _ [x32, y32] rfl rfl (hS.2.1 (by kernel_rfl)) rfl (by kernel_rfl))) ?_
  simp only [p1, p2, p3, p4]
  refine ort_pure (some 50) (.agg #[(.bool false), (.slice ro17 k34 rc17)]) rfl rfl (by kernel_rfl) (fun w' hS => (rv_load 29 _ b9 0 _ _ [(.bool false), (.slice ro17 k34 rc17)] rfl rfl (hS.2.2.1 (by kernel_rfl)) rfl (by kernel_rfl))) ?_
  simp only [p1, p2, p3, p4]
  refine ort_eff rfl (by kernel_rfl) (fun K48 k48 => ?_)
  refine eff_store 29 _ _ b7 0 (.agg #[x32, y32]) [x32, y32] _ #[x32, y32] _ rfl rfl rfl rfl rfl L7 (by kernel_rfl) (Nat.le_of_ble_eq_true rfl) ⟨h32.one0, h32.one1, trivial⟩ (by kernel_rfl) (fun w49 st49 N49 => ?_)
  have kp49 := st49.kp L7 (by decide)
  replace hB := st49.gr hB q7
  replace L7 := N49
  replace L9 := st49.lc L9 (Ne.symm ne7_9)
  refine k48 _ _ trivial ⟨cameT (by kernel_rfl), fun _ => L9, trivial⟩ ?_
  try clear k48 K48
  refine ort_eff rfl (by kernel_rfl) (fun K50 k50 => ?_)
  refine eff_store 29 _ _ b9 0 (.agg #[(.bool false), (.slice ro17 k34 rc17)]) [(.bool false), (.slice ro17 k34 rc17)] _ #[(.bool false), (.slice ro17 k34 rc17)] _ rfl rfl rfl rfl rfl L9 (by kernel_rfl) (Nat.le_of_ble_eq_true rfl) ⟨rfl, rfl, trivial⟩ (by kernel_rfl) (fun w51 st51 N51 => ?_)
  have kp51 := st51.kp L9 (by decide)
  replace hB := st51.gr hB q9
  replace L9 := N51
  refine k50 _ _ trivial ⟨cameT (by kernel_rfl), cameT (by kernel_rfl), trivial⟩ ?_
  try clear k50 K50
  refine ort_pure (some 6) (.int .i64 0) rfl rfl (by kernel_rfl) (fun w' hS => (rvk (by kernel_rfl))) ?_
  simp only [p1, p2, p3, p4]
  refine ort_nil ?_
  refine k45 _ _ ?_
  try clear k45 K45
  refine wp_ret ?_
  replace L7 := st51.lc L7 ne7_9
  refine bodyPost_ret (v := (.tuple #[(.agg #[x32, y32]), (.agg #[(.bool false), (.slice ro17 k34 rc17)]), (.int .i64 0)])) (ret_cell2_tmp' _ _ _ _ _ _ rfl rfl rfl L7 (by kernel_rfl) L9 (by kernel_rfl) rfl) rfl ⟨?_, hB⟩
  have kq52 := g34.kp.trans (kp37.trans (kp39.trans (g43.kp.trans (gd47.kp.trans (kp49.trans kp51)))))
  replace h32 := h32.kp kq52
  have kq53 := g43.kp.trans (gd47.kp.trans (kp49.trans kp51))
  replace h34 := h34.kp kq53
  exact ⟨_, _, _, _, rfl, h32, h34⟩

set_option maxRecDepth 100000 in
set_option maxHeartbeats 1000000 in
theorem divmod_t {w : World} {K m : Nat} {a b : Int} {ao bo : Option Addr} {la lb ca cb : Nat} (ha : Mag w ao la ca a) (hb : Mag w bo lb cb b) (hu : IsInt w m (.bool false) (.slice bo lb cb) b) (_hla : la ≤ 1000000) (_hlb : lb ≤ 1000000) (_hb0 : 0 < b) (hR : 0 < a % b) (_hL : a % b < b) (_hQ : 0 ≤ a / b) (hZ : Sz K (-(a / b))) (_hK : K + 64 + 1 ≤ 1000000) (_hm : m + m + 1 ≤ 1000000) :
    Calls Tryd.prog 45 #[(.agg #[(.bool true), (.slice ao la ca)]), (.agg #[(.bool false), (.slice bo lb cb)])] w fun e w' => (∃ x' y' x3 y3, e = .returned (.tuple #[.agg #[x', y'], .agg #[x3, y3], .int .i64 0]) ∧ IsInt w' (K + 64 + 1) x' y' (-(a / b) - 1) ∧ IsInt w' (m + m + 1) x3 y3 (-(a % b) + b)) ∧ Gr w w' := by
  go_enter Tryd.func45, Tryd.ntmps45
  have hB := Gr.refl w
  refine wp_seq_k (fun K1 k1 => ?_)
  refine wp_region ?_
  simp only [List.size_toArray, List.length_cons, List.length_nil, Nat.reduceAdd, List.range, List.range.loop]
  refine sq_eff rfl (by kernel_rfl) (fun K2 k2 => ?_)
  refine eff_box 29 _ (.agg #[(.bool true), (.slice ao la ca)]) #[(.bool true), (.slice ao la ca)] (some 2) rfl rfl rfl rfl (fun b3 w3 g3 L3 q3 => ?_)
  replace q3 := Nat.le_trans (Below.size hB) q3
  replace hB := Gr.trans hB g3
  refine k2 _ _ ?_
  try clear k2 K2
  simp only [p1, p2, p3, p4]
  refine sq_eff rfl (by kernel_rfl) (fun K4 k4 => ?_)
  refine eff_box 29 _ (.agg #[(.bool false), (.slice bo lb cb)]) #[(.bool false), (.slice bo lb cb)] (some 3) rfl rfl rfl rfl (fun b5 w5 g5 L5 q5 => ?_)
  have ne3_5 := L3.ne q5
  replace q5 := Nat.le_trans (Below.size hB) q5
  replace hB := Gr.trans hB g5
  refine k4 _ _ ?_
  try clear k4 K4
  simp only [p1, p2, p3, p4]
  refine sq_eff rfl (by kernel_rfl) (fun K6 k6 => ?_)
  refine eff_alloc 29 (.agg #[(.bool false), (.slice none 0 0)]) #[(.bool false), (.slice none 0 0)] (some 4) rfl rfl (by kernel_rfl) rfl (fun b7 w7 g7 L7 q7 => ?_)
  replace L3 := L3.gr g5
  have ne3_7 := L3.ne q7
  have ne5_7 := L5.ne q7
  replace q7 := Nat.le_trans (Below.size hB) q7
  replace hB := Gr.trans hB g7
  refine k6 _ _ ?_
  try clear k6 K6
  simp only [p1, p2, p3, p4]
  refine sq_eff rfl (by kernel_rfl) (fun K8 k8 => ?_)
  refine eff_alloc 29 (.agg #[(.bool false), (.slice none 0 0)]) #[(.bool false), (.slice none 0 0)] (some 5) rfl rfl (by kernel_rfl) rfl (fun b9 w9 g9 L9 q9 => ?_)
  replace L3 := L3.gr g7
  have ne3_9 := L3.ne q9
  replace L5 := L5.gr g7
  have ne5_9 := L5.ne q9
  have ne7_9 := L7.ne q9
  replace q9 := Nat.le_trans (Below.size hB) q9
  replace hB := Gr.trans hB g9
  refine k8 _ _ ?_
  try clear k8 K8
  simp only [p1, p2, p3, p4]
  refine sq_val (some 6) (.int .i64 0) rfl rfl (by kernel_rfl) (rvk (by kernel_rfl)) ?_
  simp only [p1, p2, p3, p4]
  refine sq_nil ?_
  refine k1 _ _ ?_
  try clear k1 K1
  refine wp_seq_k (fun K10 k10 => ?_)
  refine wp_seq_k (fun K11 k11 => ?_)
  refine wp_region ?_
  simp only [List.size_toArray, List.length_cons, List.length_nil, Nat.reduceAdd, List.range, List.range.loop]
  replace L5 := L5.gr g9
  refine sq_val (some 9) (.agg #[(.bool false), (.slice bo lb cb)]) rfl rfl (by kernel_rfl) (rv_load 29 _ b5 0 _ _ [(.bool false), (.slice bo lb cb)] rfl rfl L5 rfl (by kernel_rfl)) ?_
  simp only [p1, p2, p3, p4]
  refine sq_eff rfl (by kernel_rfl) (fun K12 k12 => ?_)
  have kq14 := g3.kp.trans (g5.kp.trans (g7.kp.trans g9.kp))
  replace hu := hu.kp kq14
  refine eff_call (some 10) rfl (by kernel_rfl) (sign_pos hu (by omega)) ?_
  rintro e13 w13 ⟨rfl, g13⟩
  refine ⟨_, rfl, ?_⟩
  replace hB := Gr.trans hB g13
  refine k12 _ _ ?_
  try clear k12 K12
  simp only [p1, p2, p3, p4]
  refine sq_val (some 11) (.bool false) rfl rfl (by kernel_rfl) (rvk (by kernel_rfl)) ?_
  simp only [p1, p2, p3, p4]
  refine sq_nil ?_
  refine k11 _ _ ?_
  try clear k11 K11
  refine wp_cond_false rfl ?_
  refine wp_skip ?_
  refine k10 _ _ ?_
  try clear k10 K10
  refine wp_seq_k (fun K15 k15 => ?_)
  refine wp_region ?_
  simp only [List.size_toArray, List.length_cons, List.length_nil, Nat.reduceAdd, List.range, List.range.loop]
  refine sq_val (some 15) (.pointer (some ⟨b3, 1, none⟩)) rfl rfl (by kernel_rfl) (rvk (by kernel_rfl)) ?_
  simp only [p1, p2, p3, p4]
  replace L3 := L3.gr (g9.trans g13)
  refine sq_val (some 16) (.slice ao la ca) rfl rfl (by kernel_rfl) (rv_load1 27 _ b3 1 _ _ (.slice ao la ca) rfl rfl L3 rfl (by kernel_rfl)) ?_
  simp only [p1, p2, p3, p4]
  refine sq_val (some 17) (.pointer (some ⟨b5, 1, none⟩)) rfl rfl (by kernel_rfl) (rvk (by kernel_rfl)) ?_
  simp only [p1, p2, p3, p4]
  replace L5 := L5.gr g13
  refine sq_val (some 18) (.slice bo lb cb) rfl rfl (by kernel_rfl) (rv_load1 27 _ b5 1 _ _ (.slice bo lb cb) rfl rfl L5 rfl (by kernel_rfl)) ?_
  simp only [p1, p2, p3, p4]
  refine sq_eff rfl (by kernel_rfl) (fun K16 k16 => ?_)
  have kq18 := g3.kp.trans (g5.kp.trans (g7.kp.trans (g9.kp.trans g13.kp)))
  replace ha := ha.kp kq18
  replace hb := hb.kp kq18
  refine eff_call (some 19) rfl (by kernel_rfl) (divide_m ha hb (by omega) (by omega) (by omega)) ?_
  rintro e17 w17 ⟨⟨qo17, qk17, qc17, ro17, rk17, rc17, rfl, hq17, hr17⟩, g17⟩
  refine ⟨_, rfl, ?_⟩
  replace hB := Gr.trans hB g17
  refine k16 _ _ ?_
  try clear k16 K16
  simp only [p1, p2, p3, p4]
  refine sq_val (some 14) (.tuple #[(.slice qo17 qk17 qc17), (.slice ro17 rk17 rc17)]) rfl rfl (by kernel_rfl) (rvk (by kernel_rfl)) ?_
  simp only [p1, p2, p3, p4]
  refine sq_val (some 20) (.slice qo17 qk17 qc17) rfl rfl (by kernel_rfl) (rvk (by kernel_rfl)) ?_
  simp only [p1, p2, p3, p4]
  refine sq_val (some 21) (.slice ro17 rk17 rc17) rfl rfl (by kernel_rfl) (rvk (by kernel_rfl)) ?_
  simp only [p1, p2, p3, p4]
  refine sq_val (some 7) (.slice qo17 qk17 qc17) rfl rfl (by kernel_rfl) (rvk (by kernel_rfl)) ?_
  simp only [p1, p2, p3, p4]
  refine sq_val (some 8) (.slice ro17 rk17 rc17) rfl rfl (by kernel_rfl) (rvk (by kernel_rfl)) ?_
  simp only [p1, p2, p3, p4]
  refine sq_nil ?_
  refine k15 _ _ ?_
  try clear k15 K15
  refine wp_seq_k (fun K19 k19 => ?_)
  have gd30 := Gr.drew w17
  replace hB := Gr.trans hB gd30
  replace L3 := L3.gr (g17.trans gd30)
  replace L5 := L5.gr (g17.trans gd30)
  refine wp_region_ord (fun w' => Lc w' b3 #[(.bool true), (.slice ao la ca)] 29 ∧ Lc w' b5 #[(.bool false), (.slice bo lb cb)] 29) [(true, 0), (true, 1), (true, 2), (true, 3), (true, 4), (true, 5), (true, 7), (true, 8), (true, 9), (false, 6), (false, 10), (false, 11), (false, 12)] (by kernel_rfl) (by kernel_rfl) (by kernel_rfl) (by decide) (fun _ _ _ _ _ h => h) ⟨L3, L5⟩ ?_
  refine ord_pure (some 22) (.pointer (some ⟨b3, 0, none⟩)) rfl rfl rfl (fun w' hS => (rvk (by kernel_rfl))) ?_
  simp only [p1, p2, p3, p4]
  refine ord_pure (some 23) (.bool true) rfl rfl rfl (fun w' hS => (rv_load1 4 _ b3 0 _ _ (.bool true) rfl rfl hS.1 rfl (by kernel_rfl))) ?_
  simp only [p1, p2, p3, p4]
  refine ord_pure (some 24) (.pointer (some ⟨b5, 0, none⟩)) rfl rfl rfl (fun w' hS => (rvk (by kernel_rfl))) ?_
  simp only [p1, p2, p3, p4]
  refine ord_pure (some 25) (.bool false) rfl rfl rfl (fun w' hS => (rv_load1 4 _ b5 0 _ _ (.bool false) rfl rfl hS.2 rfl (by kernel_rfl))) ?_
  simp only [p1, p2, p3, p4]
  refine ord_pure (some 26) (.bool true) rfl rfl rfl (fun w' hS => (rvk (by kernel_rfl))) ?_
  simp only [p1, p2, p3, p4]
  refine ord_pure (some 27) (.slice qo17 qk17 qc17) rfl rfl rfl (fun w' hS => (rvk (by kernel_rfl))) ?_
  simp only [p1, p2, p3, p4]
  refine ord_pure (some 29) (.pointer (some ⟨b3, 0, none⟩)) rfl rfl rfl (fun w' hS => (rvk (by kernel_rfl))) ?_
  simp only [p1, p2, p3, p4]
  refine ord_pure (some 30) (.bool true) rfl rfl rfl (fun w' hS => (rv_load1 4 _ b3 0 _ _ (.bool true) rfl rfl hS.1 rfl (by kernel_rfl))) ?_
  simp only [p1, p2, p3, p4]
  refine ord_pure (some 31) (.slice ro17 rk17 rc17) rfl rfl rfl (fun w' hS => (rvk (by kernel_rfl))) ?_
  simp only [p1, p2, p3, p4]
  refine ord_eff rfl rfl (fun K31 k31 => ?_)
  replace hq17 := hq17.kp gd30.kp
  refine eff_call (some 28) rfl (by kernel_rfl) (signed_z (neg := true) (Z := (-(a / b))) hq17 (by omega) (fun _ => by simp; omega) hZ (by omega)) ?_
  rintro e32 w32 ⟨⟨x32, y32, rfl, h32⟩, g32⟩
  refine ⟨_, rfl, ?_⟩
  replace hB := Gr.trans hB g32
  replace L3 := L3.gr g32
  replace L5 := L5.gr g32
  refine k31 _ _ ⟨L3, L5⟩ ?_
  try clear k31 K31
  simp only [p1, p2, p3, p4]
  refine ord_eff rfl rfl (fun K33 k33 => ?_)
  have kq35 := gd30.kp.trans g32.kp
  replace hr17 := hr17.kp kq35
  refine eff_call (some 32) rfl (by kernel_rfl) (signed_pt hr17 hR (Sz.of_le hu.sz (by omega)) (by omega)) ?_
  rintro e34 w34 ⟨⟨k34, rfl, h34⟩, g34⟩
  refine ⟨_, rfl, ?_⟩
  replace hB := Gr.trans hB g34
  replace L3 := L3.gr g34
  replace L5 := L5.gr g34
  refine k33 _ _ ⟨L3, L5⟩ ?_
  try clear k33 K33
  simp only [p1, p2, p3, p4]
  refine ord_eff rfl rfl (fun K36 k36 => ?_)
  replace L7 := L7.gr (g9.trans (g13.trans (g17.trans (gd30.trans (g32.trans g34)))))
  refine eff_store 29 _ _ b7 0 (.agg #[x32, y32]) [x32, y32] _ #[x32, y32] _ rfl rfl rfl rfl rfl L7 (by kernel_rfl) (Nat.le_of_ble_eq_true rfl) ⟨h32.one0, h32.one1, trivial⟩ (by kernel_rfl) (fun w37 st37 N37 => ?_)
  have kp37 := st37.kp L7 (by decide)
  replace hB := st37.gr hB q7
  replace L7 := N37
  replace L3 := st37.lc L3 ne3_7
  replace L5 := st37.lc L5 ne5_7
  refine k36 _ _ ⟨L3, L5⟩ ?_
  try clear k36 K36
  refine ord_eff rfl rfl (fun K38 k38 => ?_)
  replace L9 := st37.lc (L9.gr (g13.trans (g17.trans (gd30.trans (g32.trans g34))))) (Ne.symm ne7_9)
  refine eff_store 29 _ _ b9 0 (.agg #[(.bool true), (.slice ro17 k34 rc17)]) [(.bool true), (.slice ro17 k34 rc17)] _ #[(.bool true), (.slice ro17 k34 rc17)] _ rfl rfl rfl rfl rfl L9 (by kernel_rfl) (Nat.le_of_ble_eq_true rfl) ⟨rfl, rfl, trivial⟩ (by kernel_rfl) (fun w39 st39 N39 => ?_)
  have kp39 := st39.kp L9 (by decide)
  replace hB := st39.gr hB q9
  replace L9 := N39
  replace L3 := st39.lc L3 ne3_9
  replace L5 := st39.lc L5 ne5_9
  refine k38 _ _ ⟨L3, L5⟩ ?_
  try clear k38 K38
  refine ord_nil ?_
  refine k19 _ _ ?_
  try clear k19 K19
  refine wp_seq_k (fun K40 k40 => ?_)
  refine wp_seq_k (fun K41 k41 => ?_)
  refine wp_region ?_
  simp only [List.size_toArray, List.length_cons, List.length_nil, Nat.reduceAdd, List.range, List.range.loop]
  refine sq_val (some 33) (.agg #[(.bool true), (.slice ro17 k34 rc17)]) rfl rfl (by kernel_rfl) (rv_load 29 _ b9 0 _ _ [(.bool true), (.slice ro17 k34 rc17)] rfl rfl L9 rfl (by kernel_rfl)) ?_
  simp only [p1, p2, p3, p4]
  refine sq_eff rfl (by kernel_rfl) (fun K42 k42 => ?_)
  have kq44 := kp37.trans kp39
  replace h34 := h34.kp kq44
  refine eff_call (some 34) rfl (by kernel_rfl) (sign_neg h34 (by omega)) ?_
  rintro e43 w43 ⟨rfl, g43⟩
  refine ⟨_, rfl, ?_⟩
  replace hB := Gr.trans hB g43
  refine k42 _ _ ?_
  try clear k42 K42
  simp only [p1, p2, p3, p4]
  refine sq_val (some 35) (.bool true) rfl rfl (by kernel_rfl) (rvk (by kernel_rfl)) ?_
  simp only [p1, p2, p3, p4]
  refine sq_val (some 36) (.bool true) rfl rfl (by kernel_rfl) (rvk (by kernel_rfl)) ?_
  simp only [p1, p2, p3, p4]
  refine sq_val (some 37) (.pointer (some ⟨b9, 0, none⟩)) rfl rfl (by kernel_rfl) (rvk (by kernel_rfl)) ?_
  simp only [p1, p2, p3, p4]
  replace L9 := L9.gr g43
  refine sq_val (some 38) (.bool true) rfl rfl (by kernel_rfl) (rv_load1 4 _ b9 0 _ _ (.bool true) rfl rfl L9 rfl (by kernel_rfl)) ?_
  simp only [p1, p2, p3, p4]
  refine sq_val (some 39) (.pointer (some ⟨b5, 0, none⟩)) rfl rfl (by kernel_rfl) (rvk (by kernel_rfl)) ?_
  simp only [p1, p2, p3, p4]
  replace L5 := L5.gr g43
  refine sq_val (some 40) (.bool false) rfl rfl (by kernel_rfl) (rv_load1 4 _ b5 0 _ _ (.bool false) rfl rfl L5 rfl (by kernel_rfl)) ?_
  simp only [p1, p2, p3, p4]
  refine sq_val (some 41) (.bool true) rfl rfl (by kernel_rfl) (rvk (by kernel_rfl)) ?_
  simp only [p1, p2, p3, p4]
  refine sq_val (some 42) (.bool true) rfl rfl (by kernel_rfl) (rvk (by kernel_rfl)) ?_
  simp only [p1, p2, p3, p4]
  refine sq_nil ?_
  refine k41 _ _ ?_
  try clear k41 K41
  refine wp_cond_true rfl ?_
  have gd46 := Gr.drew w43
  replace hB := Gr.trans hB gd46
  replace L5 := L5.gr gd46
  replace L7 := (st39.lc L7 ne7_9).gr (g43.trans gd46)
  replace L9 := L9.gr gd46
  refine wp_region_ort (fun w' => Lc w' b5 #[(.bool false), (.slice bo lb cb)] 29) [([6], (fun w' => Lc w' b7 #[x32, y32] 29)), ([7], (fun w' => Lc w' b9 #[(.bool true), (.slice ro17 k34 rc17)] 29))] [(true, 0), (true, 3), (true, 4), (false, 1), (false, 2), (false, 5), (false, 6), (false, 7)] (by kernel_rfl) (by kernel_rfl) (by kernel_rfl) (by decide) (fun _ _ _ _ _ h => h) L5 ⟨fun _ => L7, fun _ => L9, trivial⟩ ?_
  refine ort_pure (some 43) (.agg #[x32, y32]) rfl rfl (by kernel_rfl) (fun w' hS => (rv_load 29 _ b7 0 _ _ [x32, y32] rfl rfl (hS.2.1 (by kernel_rfl)) rfl (by kernel_rfl))) ?_
  simp only [p1, p2, p3, p4]
  refine ort_pure (some 46) (.agg #[(.bool true), (.slice ro17 k34 rc17)]) rfl rfl (by kernel_rfl) (fun w' hS => (rv_load 29 _ b9 0 _ _ [(.bool true), (.slice ro17 k34 rc17)] rfl rfl (hS.2.2.1 (by kernel_rfl)) rfl (by kernel_rfl))) ?_
  simp only [p1, p2, p3, p4]
  refine ort_pure (some 47) (.agg #[(.bool false), (.slice bo lb cb)]) rfl rfl (by kernel_rfl) (fun w' hS => (rv_load 29 _ b5 0 _ _ [(.bool false), (.slice bo lb cb)] rfl rfl hS.1 rfl (by kernel_rfl))) ?_
  simp only [p1, p2, p3, p4]
  refine ort_eff rfl (by kernel_rfl) (fun K47 k47 => ?_)
  refine eff_call (some 44) rfl (by kernel_rfl) (from_i (1) (by omega) (by omega) _) ?_
  rintro e48 w48 ⟨⟨x48, y48, rfl, h48⟩, g48⟩
  refine ⟨_, rfl, ?_⟩
  replace hB := Gr.trans hB g48
  replace L5 := L5.gr g48
  replace L7 := L7.gr g48
  replace L9 := L9.gr g48
  refine k47 _ _ L5 ⟨fun _ => L7, fun _ => L9, trivial⟩ ?_
  try clear k47 K47
  simp only [p1, p2, p3, p4]
  refine ort_eff rfl (by kernel_rfl) (fun K49 k49 => ?_)
  have kq51 := g34.kp.trans (kp37.trans (kp39.trans (g43.kp.trans (gd46.kp.trans g48.kp))))
  replace h32 := h32.kp kq51
  refine eff_call (some 45) rfl (by kernel_rfl) (sub_i h32 h48 (by omega)) ?_
  rintro e50 w50 ⟨⟨x50, y50, rfl, h50⟩, g50⟩
  refine ⟨_, rfl, ?_⟩
  replace hB := Gr.trans hB g50
  replace L5 := L5.gr g50
  replace L7 := L7.gr g50
  replace L9 := L9.gr g50
  refine k49 _ _ L5 ⟨fun _ => L7, fun _ => L9, trivial⟩ ?_
  try clear k49 K49
  simp only [p1, p2, p3, p4]
  refine ort_eff rfl (by kernel_rfl) (fun K52 k52 => ?_)
  have kq54 := g43.kp.trans (gd46.kp.trans (g48.kp.trans g50.kp))
  replace h34 := h34.kp kq54
  have kq55 := g13.kp.trans (g17.kp.trans (gd30.kp.trans (g32.kp.trans (g34.kp.trans (kp37.trans (kp39.trans (g43.kp.trans (gd46.kp.trans (g48.kp.trans g50.kp)))))))))
  replace hu := hu.kp kq55
  refine eff_call (some 48) rfl (by kernel_rfl) (add_i h34 hu (by omega)) ?_
  rintro e53 w53 ⟨⟨x53, y53, rfl, h53⟩, g53⟩
  refine ⟨_, rfl, ?_⟩
  replace hB := Gr.trans hB g53
  replace L5 := L5.gr g53
  replace L7 := L7.gr g53
  replace L9 := L9.gr g53
  refine k52 _ _ L5 ⟨fun _ => L7, fun _ => L9, trivial⟩ ?_
  try clear k52 K52
  simp only [p1, p2, p3, p4]
  refine ort_eff rfl (by kernel_rfl) (fun K56 k56 => ?_)
  refine eff_store 29 _ _ b7 0 (.agg #[x50, y50]) [x50, y50] _ #[x50, y50] _ rfl rfl rfl rfl rfl L7 (by kernel_rfl) (Nat.le_of_ble_eq_true rfl) ⟨h50.one0, h50.one1, trivial⟩ (by kernel_rfl) (fun w57 st57 N57 => ?_)
  have kp57 := st57.kp L7 (by decide)
  replace hB := st57.gr hB q7
  replace L7 := N57
  replace L5 := st57.lc L5 ne5_7
  replace L9 := st57.lc L9 (Ne.symm ne7_9)
  refine k56 _ _ L5 ⟨cameT (by kernel_rfl), fun _ => L9, trivial⟩ ?_
  try clear k56 K56
  refine ort_eff rfl (by kernel_rfl) (fun K58 k58 => ?_)
  refine eff_store 29 _ _ b9 0 (.agg #[x53, y53]) [x53, y53] _ #[x53, y53] _ rfl rfl rfl rfl rfl L9 (by kernel_rfl) (Nat.le_of_ble_eq_true rfl) ⟨h53.one0, h53.one1, trivial⟩ (by kernel_rfl) (fun w59 st59 N59 => ?_)
  have kp59 := st59.kp L9 (by decide)
  replace hB := st59.gr hB q9
  replace L9 := N59
  replace L5 := st59.lc L5 ne5_9
  refine k58 _ _ L5 ⟨cameT (by kernel_rfl), cameT (by kernel_rfl), trivial⟩ ?_
  try clear k58 K58
  refine ort_nil ?_
  refine k40 _ _ ?_
  try clear k40 K40
  refine wp_seq_k (fun K60 k60 => ?_)
  have gd62 := Gr.drew w59
  replace hB := Gr.trans hB gd62
  replace L7 := (st59.lc L7 ne7_9).gr gd62
  replace L9 := L9.gr gd62
  refine wp_region_ort (fun _ => True) [([2], (fun w' => Lc w' b7 #[x50, y50] 29)), ([3], (fun w' => Lc w' b9 #[x53, y53] 29))] [(true, 0), (true, 1), (false, 2), (false, 3), (true, 4)] (by kernel_rfl) (by kernel_rfl) (by kernel_rfl) (by decide) (fun _ _ _ _ _ h => h) trivial ⟨fun _ => L7, fun _ => L9, trivial⟩ ?_
  refine ort_pure (some 49) (.agg #[x50, y50]) rfl rfl (by kernel_rfl) (fun w' hS => (rv_load 29 _ b7 0 _ _ [x50, y50] rfl rfl (hS.2.1 (by kernel_rfl)) rfl (by kernel_rfl))) ?_
  simp only [p1, p2, p3, p4]
  refine ort_pure (some 50) (.agg #[x53, y53]) rfl rfl (by kernel_rfl) (fun w' hS => (rv_load 29 _ b9 0 _ _ [x53, y53] rfl rfl (hS.2.2.1 (by kernel_rfl)) rfl (by kernel_rfl))) ?_
  simp only [p1, p2, p3, p4]
  refine ort_eff rfl (by kernel_rfl) (fun K63 k63 => ?_)
  refine eff_store 29 _ _ b7 0 (.agg #[x50, y50]) [x50, y50] _ #[x50, y50] _ rfl rfl rfl rfl rfl L7 (by kernel_rfl) (Nat.le_of_ble_eq_true rfl) ⟨h50.one0, h50.one1, trivial⟩ (by kernel_rfl) (fun w64 st64 N64 => ?_)
  have kp64 := st64.kp L7 (by decide)
  replace hB := st64.gr hB q7
  replace L7 := N64
  replace L9 := st64.lc L9 (Ne.symm ne7_9)
  refine k63 _ _ trivial ⟨cameT (by kernel_rfl), fun _ => L9, trivial⟩ ?_
  try clear k63 K63
  refine ort_eff rfl (by kernel_rfl) (fun K65 k65 => ?_)
  refine eff_store 29 _ _ b9 0 (.agg #[x53, y53]) [x53, y53] _ #[x53, y53] _ rfl rfl rfl rfl rfl L9 (by kernel_rfl) (Nat.le_of_ble_eq_true rfl) ⟨h53.one0, h53.one1, trivial⟩ (by kernel_rfl) (fun w66 st66 N66 => ?_)
  have kp66 := st66.kp L9 (by decide)
  replace hB := st66.gr hB q9
  replace L9 := N66
  refine k65 _ _ trivial ⟨cameT (by kernel_rfl), cameT (by kernel_rfl), trivial⟩ ?_
  try clear k65 K65
  refine ort_pure (some 6) (.int .i64 0) rfl rfl (by kernel_rfl) (fun w' hS => (rvk (by kernel_rfl))) ?_
  simp only [p1, p2, p3, p4]
  refine ort_nil ?_
  refine k60 _ _ ?_
  try clear k60 K60
  refine wp_ret ?_
  replace L7 := st66.lc L7 ne7_9
  refine bodyPost_ret (v := (.tuple #[(.agg #[x50, y50]), (.agg #[x53, y53]), (.int .i64 0)])) (ret_cell2_tmp' _ _ _ _ _ _ rfl rfl rfl L7 (by kernel_rfl) L9 (by kernel_rfl) rfl) rfl ⟨?_, hB⟩
  have kq67 := g53.kp.trans (kp57.trans (kp59.trans (gd62.kp.trans (kp64.trans kp66))))
  replace h50 := h50.kp kq67
  have kq68 := kp57.trans (kp59.trans (gd62.kp.trans (kp64.trans kp66)))
  replace h53 := h53.kp kq68
  exact ⟨_, _, _, _, rfl, h50, h53⟩

set_option maxRecDepth 100000 in
set_option maxHeartbeats 1000000 in
theorem one_i (w : World) :
    Calls Tryd.prog 66 #[] w fun e w' => (∃ x' y', e = .returned (.agg #[x', y']) ∧ IsInt w' 64 x' y' (1)) ∧ Gr w w' := by
  go_enter Tryd.func66, Tryd.ntmps66
  have hB := Gr.refl w
  refine wp_seq_k (fun K1 k1 => ?_)
  refine wp_region ?_
  simp only [List.size_toArray, List.length_cons, List.length_nil, Nat.reduceAdd, List.range, List.range.loop]
  refine sq_eff rfl (by kernel_rfl) (fun K2 k2 => ?_)
  refine eff_alloc 29 (.agg #[(.bool false), (.slice none 0 0)]) #[(.bool false), (.slice none 0 0)] (some 0) rfl rfl (by kernel_rfl) rfl (fun b3 w3 g3 L3 q3 => ?_)
  replace q3 := Nat.le_trans (Below.size hB) q3
  replace hB := Gr.trans hB g3
  refine k2 _ _ ?_
  try clear k2 K2
  simp only [p1, p2, p3, p4]
  refine sq_nil ?_
  refine k1 _ _ ?_
  try clear k1 K1
  refine wp_seq_k (fun K4 k4 => ?_)
  refine wp_region ?_
  simp only [List.size_toArray, List.length_cons, List.length_nil, Nat.reduceAdd, List.range, List.range.loop]
  refine sq_eff rfl (by kernel_rfl) (fun K5 k5 => ?_)
  refine eff_call (some 1) rfl (by kernel_rfl) (from_i (1) (by omega) (by omega) _) ?_
  rintro e6 w6 ⟨⟨x6, y6, rfl, h6⟩, g6⟩
  refine ⟨_, rfl, ?_⟩
  replace hB := Gr.trans hB g6
  refine k5 _ _ ?_
  try clear k5 K5
  simp only [p1, p2, p3, p4]
  refine sq_eff rfl (by kernel_rfl) (fun K7 k7 => ?_)
  replace L3 := L3.gr g6
  refine eff_store 29 _ _ b3 0 (.agg #[x6, y6]) [x6, y6] _ #[x6, y6] _ rfl rfl rfl rfl rfl L3 (by kernel_rfl) (Nat.le_of_ble_eq_true rfl) ⟨h6.one0, h6.one1, trivial⟩ (by kernel_rfl) (fun w8 st8 N8 => ?_)
  have kp8 := st8.kp L3 (by decide)
  replace hB := st8.gr hB q3
  replace L3 := N8
  refine k7 _ _ ?_
  try clear k7 K7
  refine sq_nil ?_
  refine k4 _ _ ?_
  try clear k4 K4
  refine wp_ret ?_
  refine bodyPost_ret (v := (.agg #[x6, y6])) (ret_cell _ _ _ rfl rfl L3 (by kernel_rfl)) rfl ⟨?_, hB⟩
  replace h6 := h6.kp kp8
  exact ⟨_, _, rfl, h6⟩

end Go.Proofs.YtgopfikljndklaaDoor
