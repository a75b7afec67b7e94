/- Printed by a program of the prover's: whole, Den, reduced. -/
import Derived.Test.YtgopfikljndklaaDoorInt8
namespace Go.Proofs.YtgopfikljndklaaDoor
open Go.RowKit

set_option maxRecDepth 100000 in
set_option maxHeartbeats 1000000 in
theorem whole_z {k : Nat} {c0 c1 c2 c3 : Value} {w : World} (hd : IsInt w k c2 c3 0) :
    Calls Tryd.prog 59 #[(.agg #[c0, c1, c2, c3])] w fun e w' => e = .returned (.bool true) ∧ Gr w w' := by
  go_enter Tryd.func59, Tryd.ntmps59
  have hB := Gr.refl w
  refine wp_seq_k (fun K1 k1 => ?_)
  refine wp_region ?_
  simp only [List.size_toArray, List.length_cons, List.length_nil, Nat.reduceAdd, List.range, List.range.loop]
  refine sq_eff rfl (by kernel_rfl) (fun K2 k2 => ?_)
  refine eff_box 31 _ (.agg #[c0, c1, c2, c3]) #[c0, c1, c2, c3] (some 1) rfl rfl rfl rfl (fun b3 w3 g3 L3 q3 => ?_)
  replace q3 := Nat.le_trans (Below.size hB) q3
  replace hB := Gr.trans hB g3
  refine k2 _ _ ?_
  try clear k2 K2
  simp only [p1, p2, p3, p4]
  refine sq_val (some 2) (.bool false) rfl rfl (by kernel_rfl) (rvk (by kernel_rfl)) ?_
  simp only [p1, p2, p3, p4]
  refine sq_nil ?_
  refine k1 _ _ ?_
  try clear k1 K1
  refine wp_seq_k (fun K4 k4 => ?_)
  have gd9 := Gr.drew w3
  replace hB := Gr.trans hB gd9
  replace L3 := L3.gr gd9
  refine wp_region_ord (fun w' => Lc w' b3 #[c0, c1, c2, c3] 31) [(true, 0), (true, 1), (false, 2), (true, 3), (true, 4), (true, 5), (true, 6), (false, 7), (false, 8), (true, 9), (true, 10), (true, 11)] (by kernel_rfl) (by kernel_rfl) (by kernel_rfl) (by decide) (fun _ _ _ _ _ h => h) L3 ?_
  refine ord_pure (some 3) (.pointer (some ⟨b3, 2, none⟩)) rfl rfl rfl (fun w' hS => (rvk (by kernel_rfl))) ?_
  simp only [p1, p2, p3, p4]
  refine ord_pure (some 4) (.agg #[c2, c3]) rfl rfl rfl (fun w' hS => (rv_load 29 _ b3 2 _ _ [c2, c3] rfl rfl hS rfl (by kernel_rfl))) ?_
  simp only [p1, p2, p3, p4]
  refine ord_eff rfl rfl (fun K10 k10 => ?_)
  have kq12 := g3.kp.trans gd9.kp
  replace hd := hd.kp kq12
  refine eff_call (some 5) rfl (by kernel_rfl) (sign_zero hd) ?_
  rintro e11 w11 ⟨rfl, g11⟩
  refine ⟨_, rfl, ?_⟩
  replace hB := Gr.trans hB g11
  replace L3 := L3.gr g11
  refine k10 _ _ L3 ?_
  try clear k10 K10
  simp only [p1, p2, p3, p4]
  refine ord_pure (some 6) (.bool true) rfl rfl rfl (fun w' hS => (rvk (by kernel_rfl))) ?_
  simp only [p1, p2, p3, p4]
  refine ord_pure (some 7) (.bool true) rfl rfl rfl (fun w' hS => (rvk (by kernel_rfl))) ?_
  simp only [p1, p2, p3, p4]
  refine ord_skip (some 8) rfl rfl (by kernel_rfl) ?_
  simp only [p1, p2, p3, p4]
  refine ord_skip (some 9) rfl rfl (by kernel_rfl) ?_
  simp only [p1, p2, p3, p4]
  refine ord_effskip (some 10) rfl rfl (by kernel_rfl) L3 ?_
  simp only [p1, p2, p3, p4]
  refine ord_effskip (some 11) rfl rfl (by kernel_rfl) L3 ?_
  simp only [p1, p2, p3, p4]
  refine ord_skip (some 12) rfl rfl (by kernel_rfl) ?_
  simp only [p1, p2, p3, p4]
  refine ord_pure (some 13) (.bool true) rfl rfl rfl (fun w' hS => (rvk (by kernel_rfl))) ?_
  simp only [p1, p2, p3, p4]
  refine ord_pure (some 2) (.bool true) rfl rfl rfl (fun w' hS => (rvk (by kernel_rfl))) ?_
  simp only [p1, p2, p3, p4]
  refine ord_nil ?_
  refine k4 _ _ ?_
  try clear k4 K4
  refine wp_ret ?_
  refine bodyPost_ret (v := (.bool true)) (ret_tmp rfl rfl) rfl ⟨?_, hB⟩
  exact rfl

set_option maxRecDepth 100000 in
set_option maxHeartbeats 1000000 in
theorem whole_p {k : Nat} {c0 c1 c2 c3 : Value} {D : Int} {w : World} (hd : IsInt w k c2 c3 D) (_h0 : 0 < D) (_hk : k ≤ 1000000) :
    Calls Tryd.prog 59 #[(.agg #[c0, c1, c2, c3])] w fun e w' => e = .returned (.bool (sgn (D - 1) == 0)) ∧ Gr w w' := by
  go_enter Tryd.func59, Tryd.ntmps59
  have hB := Gr.refl w
  refine wp_seq_k (fun K1 k1 => ?_)
  refine wp_region ?_
  simp only [List.size_toArray, List.length_cons, List.length_nil, Nat.reduceAdd, List.range, List.range.loop]
  refine sq_eff rfl (by kernel_rfl) (fun K2 k2 => ?_)
  refine eff_box 31 _ (.agg #[c0, c1, c2, c3]) #[c0, c1, c2, c3] (some 1) rfl rfl rfl rfl (fun b3 w3 g3 L3 q3 => ?_)
  replace q3 := Nat.le_trans (Below.size hB) q3
  replace hB := Gr.trans hB g3
  refine k2 _ _ ?_
  try clear k2 K2
  simp only [p1, p2, p3, p4]
  refine sq_val (some 2) (.bool false) rfl rfl (by kernel_rfl) (rvk (by kernel_rfl)) ?_
  simp only [p1, p2, p3, p4]
  refine sq_nil ?_
  refine k1 _ _ ?_
  try clear k1 K1
  refine wp_seq_k (fun K4 k4 => ?_)
  have gd14 := Gr.drew w3
  replace hB := Gr.trans hB gd14
  replace L3 := L3.gr gd14
  refine wp_region_ord (fun w' => Lc w' b3 #[c0, c1, c2, c3] 31) [(true, 0), (true, 1), (false, 2), (true, 3), (true, 4), (true, 5), (true, 6), (false, 7), (false, 8), (true, 9), (true, 10), (true, 11)] (by kernel_rfl) (by kernel_rfl) (by kernel_rfl) (by decide) (fun _ _ _ _ _ h => h) L3 ?_
  refine ord_pure (some 3) (.pointer (some ⟨b3, 2, none⟩)) rfl rfl rfl (fun w' hS => (rvk (by kernel_rfl))) ?_
  simp only [p1, p2, p3, p4]
  refine ord_pure (some 4) (.agg #[c2, c3]) rfl rfl rfl (fun w' hS => (rv_load 29 _ b3 2 _ _ [c2, c3] rfl rfl hS rfl (by kernel_rfl))) ?_
  simp only [p1, p2, p3, p4]
  refine ord_eff rfl rfl (fun K15 k15 => ?_)
  have kq17 := g3.kp.trans gd14.kp
  replace hd := hd.kp kq17
  refine eff_call (some 5) rfl (by kernel_rfl) (sign_pos hd (by omega)) ?_
  rintro e16 w16 ⟨rfl, g16⟩
  refine ⟨_, rfl, ?_⟩
  replace hB := Gr.trans hB g16
  replace L3 := L3.gr g16
  refine k15 _ _ L3 ?_
  try clear k15 K15
  simp only [p1, p2, p3, p4]
  refine ord_pure (some 6) (.bool false) rfl rfl rfl (fun w' hS => (rvk (by kernel_rfl))) ?_
  simp only [p1, p2, p3, p4]
  refine ord_pure (some 7) (.bool false) rfl rfl rfl (fun w' hS => (rvk (by kernel_rfl))) ?_
  simp only [p1, p2, p3, p4]
  refine ord_pureg (some 8) (.pointer (some ⟨b3, 2, none⟩)) rfl rfl (by kernel_rfl) (fun w' hS => (rvk (by kernel_rfl))) ?_
  simp only [p1, p2, p3, p4]
  refine ord_pureg (some 9) (.agg #[c2, c3]) rfl rfl (by kernel_rfl) (fun w' hS => (rv_load 29 _ b3 2 _ _ [c2, c3] rfl rfl hS rfl (by kernel_rfl))) ?_
  simp only [p1, p2, p3, p4]
  refine ord_effg rfl (by kernel_rfl) (fun K18 k18 => ?_)
  refine eff_call (some 10) rfl (by kernel_rfl) (one_i _) ?_
  rintro e19 w19 ⟨⟨x19, y19, rfl, h19⟩, g19⟩
  refine ⟨_, rfl, ?_⟩
  replace hB := Gr.trans hB g19
  replace L3 := L3.gr g19
  refine k18 _ _ L3 ?_
  try clear k18 K18
  simp only [p1, p2, p3, p4]
  refine ord_effg rfl (by kernel_rfl) (fun K20 k20 => ?_)
  have kq22 := g16.kp.trans g19.kp
  replace hd := hd.kp kq22
  refine eff_call (some 11) rfl (by kernel_rfl) (compare_i hd h19 (by omega) (by omega)) ?_
  rintro e21 w21 ⟨rfl, g21⟩
  refine ⟨_, rfl, ?_⟩
  replace hB := Gr.trans hB g21
  replace L3 := L3.gr g21
  refine k20 _ _ L3 ?_
  try clear k20 K20
  simp only [p1, p2, p3, p4]
  refine ord_pureg (some 12) (.bool ((sgn (D - 1) == (0 : Int)))) rfl rfl (by kernel_rfl) (fun w' hS => (rvk (by kernel_rfl))) ?_
  simp only [p1, p2, p3, p4]
  refine ord_pure (some 13) (.bool ((sgn (D - 1) == (0 : Int)))) rfl rfl rfl (fun w' hS => (rvk (by kernel_rfl))) ?_
  simp only [p1, p2, p3, p4]
  refine ord_pure (some 2) (.bool ((sgn (D - 1) == (0 : Int)))) rfl rfl rfl (fun w' hS => (rvk (by kernel_rfl))) ?_
  simp only [p1, p2, p3, p4]
  refine ord_nil ?_
  refine k4 _ _ ?_
  try clear k4 K4
  refine wp_ret ?_
  refine bodyPost_ret (v := (.bool ((sgn (D - 1) == (0 : Int))))) (ret_tmp rfl rfl) rfl ⟨?_, hB⟩
  exact rfl

set_option maxRecDepth 100000 in
set_option maxHeartbeats 1000000 in
theorem den_z {k : Nat} {c0 c1 c2 c3 : Value} {w : World} (hd : IsInt w k c2 c3 0) :
    Calls Tryd.prog 47 #[(.agg #[c0, c1, c2, c3])] w fun e w' => (∃ x' y', e = .returned (.agg #[x', y']) ∧ IsInt w' 64 x' y' (1)) ∧ Gr w w' := by
  go_enter Tryd.func47, Tryd.ntmps47
  have hB := Gr.refl w
  refine wp_seq_k (fun K1 k1 => ?_)
  refine wp_region ?_
  simp only [List.size_toArray, List.length_cons, List.length_nil, Nat.reduceAdd, List.range, List.range.loop]
  refine sq_eff rfl (by kernel_rfl) (fun K2 k2 => ?_)
  refine eff_box 31 _ (.agg #[c0, c1, c2, c3]) #[c0, c1, c2, c3] (some 1) rfl rfl rfl rfl (fun b3 w3 g3 L3 q3 => ?_)
  replace q3 := Nat.le_trans (Below.size hB) q3
  replace hB := Gr.trans hB g3
  refine k2 _ _ ?_
  try clear k2 K2
  simp only [p1, p2, p3, p4]
  refine sq_eff rfl (by kernel_rfl) (fun K4 k4 => ?_)
  refine eff_alloc 29 (.agg #[(.bool false), (.slice none 0 0)]) #[(.bool false), (.slice none 0 0)] (some 2) rfl rfl (by kernel_rfl) rfl (fun b5 w5 g5 L5 q5 => ?_)
  have ne3_5 := L3.ne q5
  replace q5 := Nat.le_trans (Below.size hB) q5
  replace hB := Gr.trans hB g5
  refine k4 _ _ ?_
  try clear k4 K4
  simp only [p1, p2, p3, p4]
  refine sq_nil ?_
  refine k1 _ _ ?_
  try clear k1 K1
  refine wp_seq_k (fun K6 k6 => ?_)
  refine wp_seq_k (fun K7 k7 => ?_)
  refine wp_region ?_
  simp only [List.size_toArray, List.length_cons, List.length_nil, Nat.reduceAdd, List.range, List.range.loop]
  refine sq_val (some 3) (.pointer (some ⟨b3, 2, none⟩)) rfl rfl (by kernel_rfl) (rvk (by kernel_rfl)) ?_
  simp only [p1, p2, p3, p4]
  replace L3 := L3.gr g5
  refine sq_val (some 4) (.agg #[c2, c3]) rfl rfl (by kernel_rfl) (rv_load 29 _ b3 2 _ _ [c2, c3] rfl rfl L3 rfl (by kernel_rfl)) ?_
  simp only [p1, p2, p3, p4]
  refine sq_eff rfl (by kernel_rfl) (fun K8 k8 => ?_)
  have kq10 := g3.kp.trans g5.kp
  replace hd := hd.kp kq10
  refine eff_call (some 5) rfl (by kernel_rfl) (sign_zero hd) ?_
  rintro e9 w9 ⟨rfl, g9⟩
  refine ⟨_, rfl, ?_⟩
  replace hB := Gr.trans hB g9
  refine k8 _ _ ?_
  try clear k8 K8
  simp only [p1, p2, p3, p4]
  refine sq_val (some 6) (.bool true) rfl rfl (by kernel_rfl) (rvk (by kernel_rfl)) ?_
  simp only [p1, p2, p3, p4]
  refine sq_nil ?_
  refine k7 _ _ ?_
  try clear k7 K7
  refine wp_cond_true rfl ?_
  refine wp_seq_k (fun K11 k11 => ?_)
  refine wp_region ?_
  simp only [List.size_toArray, List.length_cons, List.length_nil, Nat.reduceAdd, List.range, List.range.loop]
  refine sq_eff rfl (by kernel_rfl) (fun K12 k12 => ?_)
  refine eff_call (some 7) rfl (by kernel_rfl) (one_i _) ?_
  rintro e13 w13 ⟨⟨x13, y13, rfl, h13⟩, g13⟩
  refine ⟨_, rfl, ?_⟩
  replace hB := Gr.trans hB g13
  refine k12 _ _ ?_
  try clear k12 K12
  simp only [p1, p2, p3, p4]
  refine sq_eff rfl (by kernel_rfl) (fun K14 k14 => ?_)
  replace L5 := L5.gr (g9.trans g13)
  refine eff_store 29 _ _ b5 0 (.agg #[x13, y13]) [x13, y13] _ #[x13, y13] _ rfl rfl rfl rfl rfl L5 (by kernel_rfl) (Nat.le_of_ble_eq_true rfl) ⟨h13.one0, h13.one1, trivial⟩ (by kernel_rfl) (fun w15 st15 N15 => ?_)
  have kp15 := st15.kp L5 (by decide)
  replace hB := st15.gr hB q5
  replace L5 := N15
  refine k14 _ _ ?_
  try clear k14 K14
  refine sq_nil ?_
  refine k11 _ _ ?_
  try clear k11 K11
  refine wp_ret ?_
  simp only [Exit.then]
  refine bodyPost_ret (v := (.agg #[x13, y13])) (ret_cell _ _ _ rfl rfl L5 (by kernel_rfl)) rfl ⟨?_, hB⟩
  replace h13 := h13.kp kp15
  exact ⟨_, _, rfl, h13⟩

set_option maxRecDepth 100000 in
set_option maxHeartbeats 1000000 in
theorem den_p {k : Nat} {c0 c1 c2 c3 : Value} {D : Int} {w : World} (hd : IsInt w k c2 c3 D) (_h0 : 0 < D) :
    Calls Tryd.prog 47 #[(.agg #[c0, c1, c2, c3])] w fun e w' => (∃ x' y', e = .returned (.agg #[x', y']) ∧ IsInt w' k x' y' (D)) ∧ Gr w w' := by
  go_enter Tryd.func47, Tryd.ntmps47
  have hB := Gr.refl w
  refine wp_seq_k (fun K1 k1 => ?_)
  refine wp_region ?_
  simp only [List.size_toArray, List.length_cons, List.length_nil, Nat.reduceAdd, List.range, List.range.loop]
  refine sq_eff rfl (by kernel_rfl) (fun K2 k2 => ?_)
  refine eff_box 31 _ (.agg #[c0, c1, c2, c3]) #[c0, c1, c2, c3] (some 1) rfl rfl rfl rfl (fun b3 w3 g3 L3 q3 => ?_)
  replace q3 := Nat.le_trans (Below.size hB) q3
  replace hB := Gr.trans hB g3
  refine k2 _ _ ?_
  try clear k2 K2
  simp only [p1, p2, p3, p4]
  refine sq_eff rfl (by kernel_rfl) (fun K4 k4 => ?_)
  refine eff_alloc 29 (.agg #[(.bool false), (.slice none 0 0)]) #[(.bool false), (.slice none 0 0)] (some 2) rfl rfl (by kernel_rfl) rfl (fun b5 w5 g5 L5 q5 => ?_)
  have ne3_5 := L3.ne q5
  replace q5 := Nat.le_trans (Below.size hB) q5
  replace hB := Gr.trans hB g5
  refine k4 _ _ ?_
  try clear k4 K4
  simp only [p1, p2, p3, p4]
  refine sq_nil ?_
  refine k1 _ _ ?_
  try clear k1 K1
  refine wp_seq_k (fun K6 k6 => ?_)
  refine wp_seq_k (fun K7 k7 => ?_)
  refine wp_region ?_
  simp only [List.size_toArray, List.length_cons, List.length_nil, Nat.reduceAdd, List.range, List.range.loop]
  refine sq_val (some 3) (.pointer (some ⟨b3, 2, none⟩)) rfl rfl (by kernel_rfl) (rvk (by kernel_rfl)) ?_
  simp only [p1, p2, p3, p4]
  replace L3 := L3.gr g5
  refine sq_val (some 4) (.agg #[c2, c3]) rfl rfl (by kernel_rfl) (rv_load 29 _ b3 2 _ _ [c2, c3] rfl rfl L3 rfl (by kernel_rfl)) ?_
  simp only [p1, p2, p3, p4]
  refine sq_eff rfl (by kernel_rfl) (fun K8 k8 => ?_)
  have kq10 := g3.kp.trans g5.kp
  replace hd := hd.kp kq10
  refine eff_call (some 5) rfl (by kernel_rfl) (sign_pos hd (by omega)) ?_
  rintro e9 w9 ⟨rfl, g9⟩
  refine ⟨_, rfl, ?_⟩
  replace hB := Gr.trans hB g9
  refine k8 _ _ ?_
  try clear k8 K8
  simp only [p1, p2, p3, p4]
  refine sq_val (some 6) (.bool false) rfl rfl (by kernel_rfl) (rvk (by kernel_rfl)) ?_
  simp only [p1, p2, p3, p4]
  refine sq_nil ?_
  refine k7 _ _ ?_
  try clear k7 K7
  refine wp_cond_false rfl ?_
  refine wp_skip ?_
  refine k6 _ _ ?_
  try clear k6 K6
  refine wp_seq_k (fun K11 k11 => ?_)
  refine wp_region ?_
  simp only [List.size_toArray, List.length_cons, List.length_nil, Nat.reduceAdd, List.range, List.range.loop]
  refine sq_val (some 8) (.pointer (some ⟨b3, 2, none⟩)) rfl rfl (by kernel_rfl) (rvk (by kernel_rfl)) ?_
  simp only [p1, p2, p3, p4]
  replace L3 := L3.gr g9
  refine sq_val (some 9) (.agg #[c2, c3]) rfl rfl (by kernel_rfl) (rv_load 29 _ b3 2 _ _ [c2, c3] rfl rfl L3 rfl (by kernel_rfl)) ?_
  simp only [p1, p2, p3, p4]
  refine sq_eff rfl (by kernel_rfl) (fun K12 k12 => ?_)
  replace L5 := L5.gr g9
  refine eff_store 29 _ _ b5 0 (.agg #[c2, c3]) [c2, c3] _ #[c2, c3] _ rfl rfl rfl rfl rfl L5 (by kernel_rfl) (Nat.le_of_ble_eq_true rfl) ⟨hd.one0, hd.one1, trivial⟩ (by kernel_rfl) (fun w13 st13 N13 => ?_)
  have kp13 := st13.kp L5 (by decide)
  replace hB := st13.gr hB q5
  replace L5 := N13
  refine k12 _ _ ?_
  try clear k12 K12
  refine sq_nil ?_
  refine k11 _ _ ?_
  try clear k11 K11
  refine wp_ret ?_
  refine bodyPost_ret (v := (.agg #[c2, c3])) (ret_cell _ _ _ rfl rfl L5 (by kernel_rfl)) rfl ⟨?_, hB⟩
  have kq14 := g9.kp.trans kp13
  replace hd := hd.kp kq14
  exact ⟨_, _, rfl, hd⟩

set_option maxRecDepth 100000 in
set_option maxHeartbeats 1000000 in
theorem reduced_p1 {k : Nat} {n0 n1 d0 d1 : Value} {N D : Int} {w : World} (hn : IsInt w k n0 n1 N) (hd : IsInt w k d0 d1 D) (_hk : k + k + k + k + k + k + 66 ≤ 1000000) (_h0 : 0 < D) (hg : (sgn ((Int.gcd (N) (D) : Int) - 1) != 0) = false) :
    Calls Tryd.prog 52 #[(.agg #[n0, n1]), (.agg #[d0, d1])] w fun e w' => (∃ x y x2 y2, e = .returned (.agg #[x, y, x2, y2]) ∧ IsInt w' k x y (N) ∧ IsInt w' k x2 y2 (D)) ∧ Gr w w' := by
  go_enter Tryd.func52, Tryd.ntmps52
  have hB := Gr.refl w
  refine wp_seq_k (fun K1 k1 => ?_)
  refine wp_region ?_
  simp only [List.size_toArray, List.length_cons, List.length_nil, Nat.reduceAdd, List.range, List.range.loop]
  refine sq_eff rfl (by kernel_rfl) (fun K2 k2 => ?_)
  refine eff_box 29 _ (.agg #[n0, n1]) #[n0, n1] (some 2) rfl rfl rfl rfl (fun b3 w3 g3 L3 q3 => ?_)
  replace q3 := Nat.le_trans (Below.size hB) q3
  replace hB := Gr.trans hB g3
  refine k2 _ _ ?_
  try clear k2 K2
  simp only [p1, p2, p3, p4]
  refine sq_eff rfl (by kernel_rfl) (fun K4 k4 => ?_)
  refine eff_box 29 _ (.agg #[d0, d1]) #[d0, d1] (some 3) rfl rfl rfl rfl (fun b5 w5 g5 L5 q5 => ?_)
  have ne3_5 := L3.ne q5
  replace q5 := Nat.le_trans (Below.size hB) q5
  replace hB := Gr.trans hB g5
  refine k4 _ _ ?_
  try clear k4 K4
  simp only [p1, p2, p3, p4]
  refine sq_eff rfl (by kernel_rfl) (fun K6 k6 => ?_)
  refine eff_alloc 31 (.agg #[(.bool false), (.slice none 0 0), (.bool false), (.slice none 0 0)]) #[(.bool false), (.slice none 0 0), (.bool false), (.slice none 0 0)] (some 4) rfl rfl (by kernel_rfl) rfl (fun b7 w7 g7 L7 q7 => ?_)
  replace L3 := L3.gr g5
  have ne3_7 := L3.ne q7
  have ne5_7 := L5.ne q7
  replace q7 := Nat.le_trans (Below.size hB) q7
  replace hB := Gr.trans hB g7
  refine k6 _ _ ?_
  try clear k6 K6
  simp only [p1, p2, p3, p4]
  refine sq_nil ?_
  refine k1 _ _ ?_
  try clear k1 K1
  refine wp_seq_k (fun K8 k8 => ?_)
  refine wp_seq_k (fun K9 k9 => ?_)
  refine wp_region ?_
  simp only [List.size_toArray, List.length_cons, List.length_nil, Nat.reduceAdd, List.range, List.range.loop]
  replace L5 := L5.gr g7
  refine sq_val (some 6) (.agg #[d0, d1]) rfl rfl (by kernel_rfl) (rv_load 29 _ b5 0 _ _ [d0, d1] rfl rfl L5 rfl (by kernel_rfl)) ?_
  simp only [p1, p2, p3, p4]
  refine sq_eff rfl (by kernel_rfl) (fun K10 k10 => ?_)
  have kq12 := g3.kp.trans (g5.kp.trans g7.kp)
  replace hd := hd.kp kq12
  refine eff_call (some 7) rfl (by kernel_rfl) (sign_pos hd (by omega)) ?_
  rintro e11 w11 ⟨rfl, g11⟩
  refine ⟨_, rfl, ?_⟩
  replace hB := Gr.trans hB g11
  refine k10 _ _ ?_
  try clear k10 K10
  simp only [p1, p2, p3, p4]
  refine sq_val (some 8) (.bool false) rfl rfl (by kernel_rfl) (rvk (by kernel_rfl)) ?_
  simp only [p1, p2, p3, p4]
  refine sq_nil ?_
  refine k9 _ _ ?_
  try clear k9 K9
  refine wp_cond_false rfl ?_
  refine wp_skip ?_
  refine k8 _ _ ?_
  try clear k8 K8
  refine wp_seq_k (fun K13 k13 => ?_)
  refine wp_region ?_
  simp only [List.size_toArray, List.length_cons, List.length_nil, Nat.reduceAdd, List.range, List.range.loop]
  replace L3 := L3.gr (g7.trans g11)
  refine sq_val (some 13) (.agg #[n0, n1]) rfl rfl (by kernel_rfl) (rv_load 29 _ b3 0 _ _ [n0, n1] rfl rfl L3 rfl (by kernel_rfl)) ?_
  simp only [p1, p2, p3, p4]
  replace L5 := L5.gr g11
  refine sq_val (some 14) (.agg #[d0, d1]) rfl rfl (by kernel_rfl) (rv_load 29 _ b5 0 _ _ [d0, d1] rfl rfl L5 rfl (by kernel_rfl)) ?_
  simp only [p1, p2, p3, p4]
  refine sq_eff rfl (by kernel_rfl) (fun K14 k14 => ?_)
  have kq16 := g3.kp.trans (g5.kp.trans (g7.kp.trans g11.kp))
  replace hn := hn.kp kq16
  replace hd := hd.kp g11.kp
  refine eff_call (some 15) rfl (by kernel_rfl) (gcd_i hn hd (by omega)) ?_
  rintro e15 w15 ⟨⟨x15, y15, rfl, h15⟩, g15⟩
  refine ⟨_, rfl, ?_⟩
  replace hB := Gr.trans hB g15
  refine k14 _ _ ?_
  try clear k14 K14
  simp only [p1, p2, p3, p4]
  refine sq_eff rfl (by kernel_rfl) (fun K17 k17 => ?_)
  refine eff_alloc 29 (.agg #[(.bool false), (.slice none 0 0)]) #[(.bool false), (.slice none 0 0)] (some 5) rfl rfl (by kernel_rfl) rfl (fun b18 w18 g18 L18 q18 => ?_)
  replace L3 := L3.gr g15
  have ne3_18 := L3.ne q18
  replace L5 := L5.gr g15
  have ne5_18 := L5.ne q18
  replace L7 := L7.gr (g11.trans g15)
  have ne7_18 := L7.ne q18
  replace q18 := Nat.le_trans (Below.size hB) q18
  replace hB := Gr.trans hB g18
  refine k17 _ _ ?_
  try clear k17 K17
  simp only [p1, p2, p3, p4]
  refine sq_eff rfl (by kernel_rfl) (fun K19 k19 => ?_)
  refine eff_store 29 _ _ b18 0 (.agg #[x15, y15]) [x15, y15] _ #[x15, y15] _ rfl rfl rfl rfl rfl L18 (by kernel_rfl) (Nat.le_of_ble_eq_true rfl) ⟨h15.one0, h15.one1, trivial⟩ (by kernel_rfl) (fun w20 st20 N20 => ?_)
  have kp20 := st20.kp L18 (by decide)
  replace hB := st20.gr hB q18
  replace L18 := N20
  refine k19 _ _ ?_
  try clear k19 K19
  refine sq_nil ?_
  refine k13 _ _ ?_
  try clear k13 K13
  refine wp_seq_k (fun K21 k21 => ?_)
  refine wp_seq_k (fun K22 k22 => ?_)
  have gd29 := Gr.drew w20
  replace hB := Gr.trans hB gd29
  replace L18 := L18.gr gd29
  refine wp_region_ord (fun w' => Lc w' b18 #[x15, y15] 29) [(true, 0), (false, 1), (false, 2), (true, 3)] (by kernel_rfl) (by kernel_rfl) (by kernel_rfl) (by decide) (fun _ _ _ _ _ h => h) L18 ?_
  refine ord_pure (some 16) (.agg #[x15, y15]) rfl rfl rfl (fun w' hS => (rv_load 29 _ b18 0 _ _ [x15, y15] rfl rfl hS rfl (by kernel_rfl))) ?_
  simp only [p1, p2, p3, p4]
  refine ord_eff rfl rfl (fun K30 k30 => ?_)
  refine eff_call (some 17) rfl (by kernel_rfl) (one_i _) ?_
  rintro e31 w31 ⟨⟨x31, y31, rfl, h31⟩, g31⟩
  refine ⟨_, rfl, ?_⟩
  replace hB := Gr.trans hB g31
  replace L18 := L18.gr g31
  refine k30 _ _ L18 ?_
  try clear k30 K30
  simp only [p1, p2, p3, p4]
  refine ord_eff rfl rfl (fun K32 k32 => ?_)
  have kq34 := g18.kp.trans (kp20.trans (gd29.kp.trans g31.kp))
  replace h15 := h15.kp kq34
  refine eff_call (some 18) rfl (by kernel_rfl) (compare_i h15 h31 (by omega) (by omega)) ?_
  rintro e33 w33 ⟨rfl, g33⟩
  refine ⟨_, rfl, ?_⟩
  replace hB := Gr.trans hB g33
  replace L18 := L18.gr g33
  refine k32 _ _ L18 ?_
  try clear k32 K32
  simp only [p1, p2, p3, p4]
  refine ord_pure (some 19) (.bool false) rfl rfl rfl (fun w' hS => (RunV.bool (x := (sgn ((Int.gcd (N) (D) : Int) - 1) != (0 : Int))) (rvk (by kernel_rfl)) hg)) ?_
  simp only [p1, p2, p3, p4]
  refine ord_nil ?_
  refine k22 _ _ ?_
  try clear k22 K22
  refine wp_cond_false rfl ?_
  refine wp_skip ?_
  refine k21 _ _ ?_
  try clear k21 K21
  refine wp_seq_k (fun K35 k35 => ?_)
  refine wp_region ?_
  simp only [List.size_toArray, List.length_cons, List.length_nil, Nat.reduceAdd, List.range, List.range.loop]
  replace L3 := (st20.lc (L3.gr g18) ne3_18).gr (gd29.trans (g31.trans g33))
  refine sq_val (some 34) (.agg #[n0, n1]) rfl rfl (by kernel_rfl) (rv_load 29 _ b3 0 _ _ [n0, n1] rfl rfl L3 rfl (by kernel_rfl)) ?_
  simp only [p1, p2, p3, p4]
  replace L5 := (st20.lc (L5.gr g18) ne5_18).gr (gd29.trans (g31.trans g33))
  refine sq_val (some 35) (.agg #[d0, d1]) rfl rfl (by kernel_rfl) (rv_load 29 _ b5 0 _ _ [d0, d1] rfl rfl L5 rfl (by kernel_rfl)) ?_
  simp only [p1, p2, p3, p4]
  refine sq_val (some 36) (.agg #[n0, n1, d0, d1]) rfl rfl (by kernel_rfl) (rvk (by kernel_rfl)) ?_
  simp only [p1, p2, p3, p4]
  refine sq_eff rfl (by kernel_rfl) (fun K36 k36 => ?_)
  replace L7 := (st20.lc (L7.gr g18) ne7_18).gr (gd29.trans (g31.trans g33))
  refine eff_store 31 _ _ b7 0 (.agg #[n0, n1, d0, d1]) [n0, n1, d0, d1] _ #[n0, n1, d0, d1] _ rfl rfl rfl rfl rfl L7 (by kernel_rfl) (Nat.le_of_ble_eq_true rfl) ⟨hn.one0, hn.one1, hd.one0, hd.one1, trivial⟩ (by kernel_rfl) (fun w37 st37 N37 => ?_)
  have kp37 := st37.kp L7 (by decide)
  replace hB := st37.gr hB q7
  replace L7 := N37
  refine k36 _ _ ?_
  try clear k36 K36
  refine sq_nil ?_
  refine k35 _ _ ?_
  try clear k35 K35
  refine wp_ret ?_
  refine bodyPost_ret (v := (.agg #[n0, n1, d0, d1])) (ret_cell _ _ _ rfl rfl L7 (by kernel_rfl)) rfl ⟨?_, hB⟩
  have kq38 := g15.kp.trans (g18.kp.trans (kp20.trans (gd29.kp.trans (g31.kp.trans (g33.kp.trans kp37)))))
  replace hn := hn.kp kq38
  replace hd := hd.kp kq38
  exact ⟨_, _, _, _, rfl, hn, hd⟩

set_option maxRecDepth 100000 in
set_option maxHeartbeats 1000000 in
theorem reduced_pg {k : Nat} {n0 n1 d0 d1 : Value} {N D : Int} {w : World} (hn : IsInt w k n0 n1 N) (hd : IsInt w k d0 d1 D) (_hk : k + k + k + k + k + k + 66 ≤ 1000000) (_h0 : 0 < D) (hg : (sgn ((Int.gcd (N) (D) : Int) - 1) != 0) = true) (hxn : 0 < (Int.gcd (N) (D) : Int) ∧ (Int.gcd (N) (D) : Int) ∣ N) (_hxd : 0 < (Int.gcd (N) (D) : Int) ∧ (Int.gcd (N) (D) : Int) ∣ D) :
    Calls Tryd.prog 52 #[(.agg #[n0, n1]), (.agg #[d0, d1])] w fun e w' => (∃ x y x2 y2, e = .returned (.agg #[x, y, x2, y2]) ∧ IsInt w' k x y (N / (Int.gcd (N) (D) : Int)) ∧ IsInt w' k x2 y2 (D / (Int.gcd (N) (D) : Int))) ∧ Gr w w' := by
  go_enter Tryd.func52, Tryd.ntmps52
  have hB := Gr.refl w
  refine wp_seq_k (fun K1 k1 => ?_)
  refine wp_region ?_
  simp only [List.size_toArray, List.length_cons, List.length_nil, Nat.reduceAdd, List.range, List.range.loop]
  refine sq_eff rfl (by kernel_rfl) (fun K2 k2 => ?_)
  refine eff_box 29 _ (.agg #[n0, n1]) #[n0, n1] (some 2) rfl rfl rfl rfl (fun b3 w3 g3 L3 q3 => ?_)
  replace q3 := Nat.le_trans (Below.size hB) q3
  replace hB := Gr.trans hB g3
  refine k2 _ _ ?_
  try clear k2 K2
  simp only [p1, p2, p3, p4]
  refine sq_eff rfl (by kernel_rfl) (fun K4 k4 => ?_)
  refine eff_box 29 _ (.agg #[d0, d1]) #[d0, d1] (some 3) rfl rfl rfl rfl (fun b5 w5 g5 L5 q5 => ?_)
  have ne3_5 := L3.ne q5
  replace q5 := Nat.le_trans (Below.size hB) q5
  replace hB := Gr.trans hB g5
  refine k4 _ _ ?_
  try clear k4 K4
  simp only [p1, p2, p3, p4]
  refine sq_eff rfl (by kernel_rfl) (fun K6 k6 => ?_)
  refine eff_alloc 31 (.agg #[(.bool false), (.slice none 0 0), (.bool false), (.slice none 0 0)]) #[(.bool false), (.slice none 0 0), (.bool false), (.slice none 0 0)] (some 4) rfl rfl (by kernel_rfl) rfl (fun b7 w7 g7 L7 q7 => ?_)
  replace L3 := L3.gr g5
  have ne3_7 := L3.ne q7
  have ne5_7 := L5.ne q7
  replace q7 := Nat.le_trans (Below.size hB) q7
  replace hB := Gr.trans hB g7
  refine k6 _ _ ?_
  try clear k6 K6
  simp only [p1, p2, p3, p4]
  refine sq_nil ?_
  refine k1 _ _ ?_
  try clear k1 K1
  refine wp_seq_k (fun K8 k8 => ?_)
  refine wp_seq_k (fun K9 k9 => ?_)
  refine wp_region ?_
  simp only [List.size_toArray, List.length_cons, List.length_nil, Nat.reduceAdd, List.range, List.range.loop]
  replace L5 := L5.gr g7
  refine sq_val (some 6) (.agg #[d0, d1]) rfl rfl (by kernel_rfl) (rv_load 29 _ b5 0 _ _ [d0, d1] rfl rfl L5 rfl (by kernel_rfl)) ?_
  simp only [p1, p2, p3, p4]
  refine sq_eff rfl (by kernel_rfl) (fun K10 k10 => ?_)
  have kq12 := g3.kp.trans (g5.kp.trans g7.kp)
  replace hd := hd.kp kq12
  refine eff_call (some 7) rfl (by kernel_rfl) (sign_pos hd (by omega)) ?_
  rintro e11 w11 ⟨rfl, g11⟩
  refine ⟨_, rfl, ?_⟩
  replace hB := Gr.trans hB g11
  refine k10 _ _ ?_
  try clear k10 K10
  simp only [p1, p2, p3, p4]
  refine sq_val (some 8) (.bool false) rfl rfl (by kernel_rfl) (rvk (by kernel_rfl)) ?_
  simp only [p1, p2, p3, p4]
  refine sq_nil ?_
  refine k9 _ _ ?_
  try clear k9 K9
  refine wp_cond_false rfl ?_
  refine wp_skip ?_
  refine k8 _ _ ?_
  try clear k8 K8
  refine wp_seq_k (fun K13 k13 => ?_)
  refine wp_region ?_
  simp only [List.size_toArray, List.length_cons, List.length_nil, Nat.reduceAdd, List.range, List.range.loop]
  replace L3 := L3.gr (g7.trans g11)
  refine sq_val (some 13) (.agg #[n0, n1]) rfl rfl (by kernel_rfl) (rv_load 29 _ b3 0 _ _ [n0, n1] rfl rfl L3 rfl (by kernel_rfl)) ?_
  simp only [p1, p2, p3, p4]
  replace L5 := L5.gr g11
  refine sq_val (some 14) (.agg #[d0, d1]) rfl rfl (by kernel_rfl) (rv_load 29 _ b5 0 _ _ [d0, d1] rfl rfl L5 rfl (by kernel_rfl)) ?_
  simp only [p1, p2, p3, p4]
  refine sq_eff rfl (by kernel_rfl) (fun K14 k14 => ?_)
  have kq16 := g3.kp.trans (g5.kp.trans (g7.kp.trans g11.kp))
  replace hn := hn.kp kq16
  replace hd := hd.kp g11.kp
  refine eff_call (some 15) rfl (by kernel_rfl) (gcd_i hn hd (by omega)) ?_
  rintro e15 w15 ⟨⟨x15, y15, rfl, h15⟩, g15⟩
  refine ⟨_, rfl, ?_⟩
  replace hB := Gr.trans hB g15
  refine k14 _ _ ?_
  try clear k14 K14
  simp only [p1, p2, p3, p4]
  refine sq_eff rfl (by kernel_rfl) (fun K17 k17 => ?_)
  refine eff_alloc 29 (.agg #[(.bool false), (.slice none 0 0)]) #[(.bool false), (.slice none 0 0)] (some 5) rfl rfl (by kernel_rfl) rfl (fun b18 w18 g18 L18 q18 => ?_)
  replace L3 := L3.gr g15
  have ne3_18 := L3.ne q18
  replace L5 := L5.gr g15
  have ne5_18 := L5.ne q18
  replace L7 := L7.gr (g11.trans g15)
  have ne7_18 := L7.ne q18
  replace q18 := Nat.le_trans (Below.size hB) q18
  replace hB := Gr.trans hB g18
  refine k17 _ _ ?_
  try clear k17 K17
  simp only [p1, p2, p3, p4]
  refine sq_eff rfl (by kernel_rfl) (fun K19 k19 => ?_)
  refine eff_store 29 _ _ b18 0 (.agg #[x15, y15]) [x15, y15] _ #[x15, y15] _ rfl rfl rfl rfl rfl L18 (by kernel_rfl) (Nat.le_of_ble_eq_true rfl) ⟨h15.one0, h15.one1, trivial⟩ (by kernel_rfl) (fun w20 st20 N20 => ?_)
  have kp20 := st20.kp L18 (by decide)
  replace hB := st20.gr hB q18
  replace L18 := N20
  refine k19 _ _ ?_
  try clear k19 K19
  refine sq_nil ?_
  refine k13 _ _ ?_
  try clear k13 K13
  refine wp_seq_k (fun K21 k21 => ?_)
  refine wp_seq_k (fun K22 k22 => ?_)
  have gd29 := Gr.drew w20
  replace hB := Gr.trans hB gd29
  replace L18 := L18.gr gd29
  refine wp_region_ord (fun w' => Lc w' b18 #[x15, y15] 29) [(true, 0), (false, 1), (false, 2), (true, 3)] (by kernel_rfl) (by kernel_rfl) (by kernel_rfl) (by decide) (fun _ _ _ _ _ h => h) L18 ?_
  refine ord_pure (some 16) (.agg #[x15, y15]) rfl rfl rfl (fun w' hS => (rv_load 29 _ b18 0 _ _ [x15, y15] rfl rfl hS rfl (by kernel_rfl))) ?_
  simp only [p1, p2, p3, p4]
  refine ord_eff rfl rfl (fun K30 k30 => ?_)
  refine eff_call (some 17) rfl (by kernel_rfl) (one_i _) ?_
  rintro e31 w31 ⟨⟨x31, y31, rfl, h31⟩, g31⟩
  refine ⟨_, rfl, ?_⟩
  replace hB := Gr.trans hB g31
  replace L18 := L18.gr g31
  refine k30 _ _ L18 ?_
  try clear k30 K30
  simp only [p1, p2, p3, p4]
  refine ord_eff rfl rfl (fun K32 k32 => ?_)
  have kq34 := g18.kp.trans (kp20.trans (gd29.kp.trans g31.kp))
  replace h15 := h15.kp kq34
  refine eff_call (some 18) rfl (by kernel_rfl) (compare_i h15 h31 (by omega) (by omega)) ?_
  rintro e33 w33 ⟨rfl, g33⟩
  refine ⟨_, rfl, ?_⟩
  replace hB := Gr.trans hB g33
  replace L18 := L18.gr g33
  refine k32 _ _ L18 ?_
  try clear k32 K32
  simp only [p1, p2, p3, p4]
  refine ord_pure (some 19) (.bool true) rfl rfl rfl (fun w' hS => (RunV.bool (x := (sgn ((Int.gcd (N) (D) : Int) - 1) != (0 : Int))) (rvk (by kernel_rfl)) hg)) ?_
  simp only [p1, p2, p3, p4]
  refine ord_nil ?_
  refine k22 _ _ ?_
  try clear k22 K22
  refine wp_cond_true rfl ?_
  refine wp_seq_k (fun K35 k35 => ?_)
  refine wp_region ?_
  simp only [List.size_toArray, List.length_cons, List.length_nil, Nat.reduceAdd, List.range, List.range.loop]
  replace L3 := (st20.lc (L3.gr g18) ne3_18).gr (gd29.trans (g31.trans g33))
  refine sq_val (some 21) (.agg #[n0, n1]) rfl rfl (by kernel_rfl) (rv_load 29 _ b3 0 _ _ [n0, n1] rfl rfl L3 rfl (by kernel_rfl)) ?_
  simp only [p1, p2, p3, p4]
  refine sq_val (some 22) (.agg #[x15, y15]) rfl rfl (by kernel_rfl) (rv_load 29 _ b18 0 _ _ [x15, y15] rfl rfl L18 rfl (by kernel_rfl)) ?_
  simp only [p1, p2, p3, p4]
  refine sq_eff rfl (by kernel_rfl) (fun K36 k36 => ?_)
  have kq38 := g15.kp.trans (g18.kp.trans (kp20.trans (gd29.kp.trans (g31.kp.trans g33.kp))))
  replace hn := hn.kp kq38
  replace h15 := h15.kp g33.kp
  refine eff_call (some 23) rfl (by kernel_rfl) (divmod_i hn h15 hxn.1 (by omega)) ?_
  rintro e37 w37 ⟨⟨x37, y37, xr37, yr37, rfl, h37, hr37⟩, g37⟩
  refine ⟨_, rfl, ?_⟩
  replace hB := Gr.trans hB g37
  refine k36 _ _ ?_
  try clear k36 K36
  simp only [p1, p2, p3, p4]
  refine sq_val (some 20) (.tuple #[(.agg #[x37, y37]), (.agg #[xr37, yr37]), (.int .i64 0)]) rfl rfl (by kernel_rfl) (rvk (by kernel_rfl)) ?_
  simp only [p1, p2, p3, p4]
  refine sq_val (some 24) (.agg #[x37, y37]) rfl rfl (by kernel_rfl) (rvk (by kernel_rfl)) ?_
  simp only [p1, p2, p3, p4]
  refine sq_val (some 25) (.agg #[xr37, yr37]) rfl rfl (by kernel_rfl) (rvk (by kernel_rfl)) ?_
  simp only [p1, p2, p3, p4]
  refine sq_val (some 26) (.int .i64 0) rfl rfl (by kernel_rfl) (rvk (by kernel_rfl)) ?_
  simp only [p1, p2, p3, p4]
  refine sq_eff rfl (by kernel_rfl) (fun K39 k39 => ?_)
  replace L3 := L3.gr g37
  refine eff_store 29 _ _ b3 0 (.agg #[x37, y37]) [x37, y37] _ #[x37, y37] _ rfl rfl rfl rfl rfl L3 (by kernel_rfl) (Nat.le_of_ble_eq_true rfl) ⟨h37.one0, h37.one1, trivial⟩ (by kernel_rfl) (fun w40 st40 N40 => ?_)
  have kp40 := st40.kp L3 (by decide)
  replace hB := st40.gr hB q3
  replace L3 := N40
  refine k39 _ _ ?_
  try clear k39 K39
  refine sq_nil ?_
  refine k35 _ _ ?_
  try clear k35 K35
  refine wp_region ?_
  simp only [List.size_toArray, List.length_cons, List.length_nil, Nat.reduceAdd, List.range, List.range.loop]
  replace L5 := st40.lc ((st20.lc (L5.gr g18) ne5_18).gr (gd29.trans (g31.trans (g33.trans g37)))) (Ne.symm ne3_5)
  refine sq_val (some 28) (.agg #[d0, d1]) rfl rfl (by kernel_rfl) (rv_load 29 _ b5 0 _ _ [d0, d1] rfl rfl L5 rfl (by kernel_rfl)) ?_
  simp only [p1, p2, p3, p4]
  replace L18 := st40.lc (L18.gr g37) (Ne.symm ne3_18)
  refine sq_val (some 29) (.agg #[x15, y15]) rfl rfl (by kernel_rfl) (rv_load 29 _ b18 0 _ _ [x15, y15] rfl rfl L18 rfl (by kernel_rfl)) ?_
  simp only [p1, p2, p3, p4]
  refine sq_eff rfl (by kernel_rfl) (fun K41 k41 => ?_)
  have kq43 := g15.kp.trans (g18.kp.trans (kp20.trans (gd29.kp.trans (g31.kp.trans (g33.kp.trans (g37.kp.trans kp40))))))
  replace hd := hd.kp kq43
  have kq44 := g37.kp.trans kp40
  replace h15 := h15.kp kq44
  refine eff_call (some 30) rfl (by kernel_rfl) (divmod_i hd h15 hxn.1 (by omega)) ?_
  rintro e42 w42 ⟨⟨x42, y42, xr42, yr42, rfl, h42, hr42⟩, g42⟩
  refine ⟨_, rfl, ?_⟩
  replace hB := Gr.trans hB g42
  refine k41 _ _ ?_
  try clear k41 K41
  simp only [p1, p2, p3, p4]
  refine sq_val (some 27) (.tuple #[(.agg #[x42, y42]), (.agg #[xr42, yr42]), (.int .i64 0)]) rfl rfl (by kernel_rfl) (rvk (by kernel_rfl)) ?_
  simp only [p1, p2, p3, p4]
  refine sq_val (some 31) (.agg #[x42, y42]) rfl rfl (by kernel_rfl) (rvk (by kernel_rfl)) ?_
  simp only [p1, p2, p3, p4]
  refine sq_val (some 32) (.agg #[xr42, yr42]) rfl rfl (by kernel_rfl) (rvk (by kernel_rfl)) ?_
  simp only [p1, p2, p3, p4]
  refine sq_val (some 33) (.int .i64 0) rfl rfl (by kernel_rfl) (rvk (by kernel_rfl)) ?_
  simp only [p1, p2, p3, p4]
  refine sq_eff rfl (by kernel_rfl) (fun K45 k45 => ?_)
  replace L5 := L5.gr g42
  refine eff_store 29 _ _ b5 0 (.agg #[x42, y42]) [x42, y42] _ #[x42, y42] _ rfl rfl rfl rfl rfl L5 (by kernel_rfl) (Nat.le_of_ble_eq_true rfl) ⟨h42.one0, h42.one1, trivial⟩ (by kernel_rfl) (fun w46 st46 N46 => ?_)
  have kp46 := st46.kp L5 (by decide)
  replace hB := st46.gr hB q5
  replace L5 := N46
  refine k45 _ _ ?_
  try clear k45 K45
  refine sq_nil ?_
  refine k21 _ _ ?_
  try clear k21 K21
  refine wp_seq_k (fun K47 k47 => ?_)
  refine wp_region ?_
  simp only [List.size_toArray, List.length_cons, List.length_nil, Nat.reduceAdd, List.range, List.range.loop]
  replace L3 := st46.lc (L3.gr g42) ne3_5
  refine sq_val (some 34) (.agg #[x37, y37]) rfl rfl (by kernel_rfl) (rv_load 29 _ b3 0 _ _ [x37, y37] rfl rfl L3 rfl (by kernel_rfl)) ?_
  simp only [p1, p2, p3, p4]
  refine sq_val (some 35) (.agg #[x42, y42]) rfl rfl (by kernel_rfl) (rv_load 29 _ b5 0 _ _ [x42, y42] rfl rfl L5 rfl (by kernel_rfl)) ?_
  simp only [p1, p2, p3, p4]
  refine sq_val (some 36) (.agg #[x37, y37, x42, y42]) rfl rfl (by kernel_rfl) (rvk (by kernel_rfl)) ?_
  simp only [p1, p2, p3, p4]
  refine sq_eff rfl (by kernel_rfl) (fun K48 k48 => ?_)
  replace L7 := st46.lc ((st40.lc ((st20.lc (L7.gr g18) ne7_18).gr (gd29.trans (g31.trans (g33.trans g37)))) (Ne.symm ne3_7)).gr g42) (Ne.symm ne5_7)
  refine eff_store 31 _ _ b7 0 (.agg #[x37, y37, x42, y42]) [x37, y37, x42, y42] _ #[x37, y37, x42, y42] _ rfl rfl rfl rfl rfl L7 (by kernel_rfl) (Nat.le_of_ble_eq_true rfl) ⟨h37.one0, h37.one1, h42.one0, h42.one1, trivial⟩ (by kernel_rfl) (fun w49 st49 N49 => ?_)
  have kp49 := st49.kp L7 (by decide)
  replace hB := st49.gr hB q7
  replace L7 := N49
  refine k48 _ _ ?_
  try clear k48 K48
  refine sq_nil ?_
  refine k47 _ _ ?_
  try clear k47 K47
  refine wp_ret ?_
  refine bodyPost_ret (v := (.agg #[x37, y37, x42, y42])) (ret_cell _ _ _ rfl rfl L7 (by kernel_rfl)) rfl ⟨?_, hB⟩
  have kq50 := kp40.trans (g42.kp.trans (kp46.trans kp49))
  replace h37 := h37.kp kq50
  have kq51 := kp46.trans kp49
  replace h42 := h42.kp kq51
  exact ⟨_, _, _, _, rfl, h37, h42⟩

end Go.Proofs.YtgopfikljndklaaDoor
