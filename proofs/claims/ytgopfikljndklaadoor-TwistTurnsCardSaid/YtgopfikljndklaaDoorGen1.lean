/- Printed by a program of the prover's: the walks through sums of integers. -/
import Derived.Test.YtgopfikljndklaaDoorInt5
namespace Go.Proofs.YtgopfikljndklaaDoor
open Go.RowKit

set_option maxRecDepth 100000 in
set_option maxHeartbeats 1000000 in
theorem add_same {w : World} {s : Bool} {a b : Int} {ao bo : Option Addr} {la lb ca cb : Nat} (ha : Mag w ao la ca a) (hb : Mag w bo lb cb b) (hla : la ≤ 1000000) (hlb : lb ≤ 1000000) :
    Calls Tryd.prog 65 #[(.agg #[(.bool (s)), (.slice ao la ca)]), (.agg #[(.bool (s)), (.slice bo lb cb)])] w fun e w' => (∃ go n cap, e = .returned (.agg #[.bool (s && decide (0 < n)), .slice go n cap]) ∧ Mag w' go n cap (a + b)) ∧ Gr w w' := by
  have hss : (s == s) = true := by simp
  go_enter Tryd.func65, Tryd.ntmps65
  have hB := Gr.refl w
  refine wp_seq_k (fun K1 k1 => ?_)
  refine wp_region ?_
  simp only [List.size_toArray, List.length_cons, List.length_nil, Nat.reduceAdd, List.range, List.range.loop]
  refine sq_eff rfl (by kernel_rfl) (fun K2 k2 => ?_)
  refine eff_box 29 _ (.agg #[(.bool (s)), (.slice ao la ca)]) #[(.bool (s)), (.slice ao la ca)] (some 2) rfl rfl rfl rfl (fun b3 w3 g3 L3 q3 => ?_)
  replace q3 := Nat.le_trans (Below.size hB) q3
  replace hB := Gr.trans hB g3
  refine k2 _ _ ?_
  try clear k2 K2
  simp only [p1, p2, p3, p4]
  refine sq_eff rfl (by kernel_rfl) (fun K4 k4 => ?_)
  refine eff_box 29 _ (.agg #[(.bool (s)), (.slice bo lb cb)]) #[(.bool (s)), (.slice bo lb cb)] (some 3) rfl rfl rfl rfl (fun b5 w5 g5 L5 q5 => ?_)
  have ne3_5 := L3.ne q5
  replace q5 := Nat.le_trans (Below.size hB) q5
  replace hB := Gr.trans hB g5
  refine k4 _ _ ?_
  try clear k4 K4
  simp only [p1, p2, p3, p4]
  refine sq_eff rfl (by kernel_rfl) (fun K6 k6 => ?_)
  refine eff_alloc 29 (.agg #[(.bool false), (.slice none 0 0)]) #[(.bool false), (.slice none 0 0)] (some 4) rfl rfl (by kernel_rfl) rfl (fun b7 w7 g7 L7 q7 => ?_)
  replace L3 := L3.gr g5
  have ne3_7 := L3.ne q7
  have ne5_7 := L5.ne q7
  replace q7 := Nat.le_trans (Below.size hB) q7
  replace hB := Gr.trans hB g7
  refine k6 _ _ ?_
  try clear k6 K6
  simp only [p1, p2, p3, p4]
  refine sq_nil ?_
  refine k1 _ _ ?_
  try clear k1 K1
  refine wp_seq_k (fun K8 k8 => ?_)
  refine wp_block ?_
  refine wp_seq_k (fun K9 k9 => ?_)
  refine wp_region ?_
  simp only [List.size_toArray, List.length_cons, List.length_nil, Nat.reduceAdd, List.range, List.range.loop]
  refine sq_val (some 6) (.pointer (some ⟨b3, 0, none⟩)) rfl rfl (by kernel_rfl) (rvk (by kernel_rfl)) ?_
  simp only [p1, p2, p3, p4]
  replace L3 := L3.gr g7
  refine sq_val (some 7) (.bool (s)) rfl rfl (by kernel_rfl) (rv_load1 4 _ b3 0 _ _ (.bool (s)) rfl rfl L3 rfl (by kernel_rfl)) ?_
  simp only [p1, p2, p3, p4]
  refine sq_val (some 8) (.pointer (some ⟨b5, 0, none⟩)) rfl rfl (by kernel_rfl) (rvk (by kernel_rfl)) ?_
  simp only [p1, p2, p3, p4]
  replace L5 := L5.gr g7
  refine sq_val (some 9) (.bool (s)) rfl rfl (by kernel_rfl) (rv_load1 4 _ b5 0 _ _ (.bool (s)) rfl rfl L5 rfl (by kernel_rfl)) ?_
  simp only [p1, p2, p3, p4]
  refine sq_val (some 10) (.bool true) rfl rfl (by kernel_rfl) (RunV.bool (x := (s == s)) (rvk (by kernel_rfl)) hss) ?_
  simp only [p1, p2, p3, p4]
  refine sq_val (some 5) (.bool true) rfl rfl (by kernel_rfl) (rvk (by kernel_rfl)) ?_
  simp only [p1, p2, p3, p4]
  refine sq_nil ?_
  refine k9 _ _ ?_
  try clear k9 K9
  refine wp_cond_true rfl ?_
  refine wp_seq_k (fun K10 k10 => ?_)
  have gd19 := Gr.drew w7
  replace hB := Gr.trans hB gd19
  replace L3 := L3.gr gd19
  replace L5 := L5.gr gd19
  refine wp_region_ord (fun w' => Lc w' b3 #[(.bool (s)), (.slice ao la ca)] 29 ∧ Lc w' b5 #[(.bool (s)), (.slice bo lb cb)] 29) [(true, 0), (true, 1), (true, 2), (true, 3), (true, 4), (true, 5), (false, 6), (false, 7), (false, 8)] (by kernel_rfl) (by kernel_rfl) (by kernel_rfl) (by decide) (fun _ _ _ _ _ h => h) ⟨L3, L5⟩ ?_
  refine ord_pure (some 11) (.pointer (some ⟨b3, 0, none⟩)) rfl rfl rfl (fun w' hS => (rvk (by kernel_rfl))) ?_
  simp only [p1, p2, p3, p4]
  refine ord_pure (some 12) (.bool (s)) rfl rfl rfl (fun w' hS => (rv_load1 4 _ b3 0 _ _ (.bool (s)) rfl rfl hS.1 rfl (by kernel_rfl))) ?_
  simp only [p1, p2, p3, p4]
  refine ord_pure (some 13) (.pointer (some ⟨b3, 1, none⟩)) rfl rfl rfl (fun w' hS => (rvk (by kernel_rfl))) ?_
  simp only [p1, p2, p3, p4]
  refine ord_pure (some 14) (.slice ao la ca) rfl rfl rfl (fun w' hS => (rv_load1 27 _ b3 1 _ _ (.slice ao la ca) rfl rfl hS.1 rfl (by kernel_rfl))) ?_
  simp only [p1, p2, p3, p4]
  refine ord_pure (some 15) (.pointer (some ⟨b5, 1, none⟩)) rfl rfl rfl (fun w' hS => (rvk (by kernel_rfl))) ?_
  simp only [p1, p2, p3, p4]
  refine ord_pure (some 16) (.slice bo lb cb) rfl rfl rfl (fun w' hS => (rv_load1 27 _ b5 1 _ _ (.slice bo lb cb) rfl rfl hS.2 rfl (by kernel_rfl))) ?_
  simp only [p1, p2, p3, p4]
  refine ord_eff rfl rfl (fun K20 k20 => ?_)
  have kq22 := g3.kp.trans (g5.kp.trans (g7.kp.trans gd19.kp))
  replace ha := ha.kp kq22
  replace hb := hb.kp kq22
  refine eff_call (some 17) rfl (by kernel_rfl) (plus_m ha hb (by omega) (by omega)) ?_
  rintro e21 w21 ⟨⟨go21, n21, rfl, h21⟩, g21⟩
  refine ⟨_, rfl, ?_⟩
  replace hB := Gr.trans hB g21
  replace L3 := L3.gr g21
  replace L5 := L5.gr g21
  refine k20 _ _ ⟨L3, L5⟩ ?_
  try clear k20 K20
  simp only [p1, p2, p3, p4]
  refine ord_eff rfl rfl (fun K23 k23 => ?_)
  refine eff_call (some 18) rfl (by kernel_rfl) (signed_m (neg := s) h21) ?_
  rintro e24 w24 ⟨⟨k24, rfl, h24⟩, g24⟩
  refine ⟨_, rfl, ?_⟩
  replace hB := Gr.trans hB g24
  replace L3 := L3.gr g24
  replace L5 := L5.gr g24
  refine k23 _ _ ⟨L3, L5⟩ ?_
  try clear k23 K23
  simp only [p1, p2, p3, p4]
  refine ord_eff rfl rfl (fun K25 k25 => ?_)
  replace L7 := L7.gr (gd19.trans (g21.trans g24))
  refine eff_store 29 _ _ b7 0 (.agg #[(.bool (s && decide (0 < k24))), (.slice go21 k24 n21)]) [(.bool (s && decide (0 < k24))), (.slice go21 k24 n21)] _ #[(.bool (s && decide (0 < k24))), (.slice go21 k24 n21)] _ rfl rfl rfl rfl rfl L7 (by kernel_rfl) (Nat.le_of_ble_eq_true rfl) ⟨rfl, rfl, trivial⟩ (by kernel_rfl) (fun w26 st26 N26 => ?_)
  have kp26 := st26.kp L7 (by decide)
  replace hB := st26.gr hB q7
  replace L7 := N26
  replace L3 := st26.lc L3 ne3_7
  replace L5 := st26.lc L5 ne5_7
  refine k25 _ _ ⟨L3, L5⟩ ?_
  try clear k25 K25
  refine ord_nil ?_
  refine k10 _ _ ?_
  try clear k10 K10
  refine wp_ret ?_
  simp only [Exit.then, Exit.inBlock]
  refine bodyPost_ret (v := (.agg #[(.bool (s && decide (0 < k24))), (.slice go21 k24 n21)])) (ret_cell _ _ _ rfl rfl L7 (by kernel_rfl)) rfl ⟨?_, hB⟩
  replace h24 := h24.kp kp26
  exact ⟨_, _, _, rfl, h24⟩

set_option maxRecDepth 100000 in
set_option maxHeartbeats 1000000 in
theorem add_diff_ge {w : World} {s : Bool} {a b : Int} {ao bo : Option Addr} {la lb ca cb : Nat} (ha : Mag w ao la ca a) (hb : Mag w bo lb cb b) (hla : la ≤ 1000000) (hlb : lb ≤ 1000000) (hle : b ≤ a) :
    Calls Tryd.prog 65 #[(.agg #[(.bool (s)), (.slice ao la ca)]), (.agg #[(.bool (!s)), (.slice bo lb cb)])] w fun e w' => (∃ go n cap, e = .returned (.agg #[.bool (s && decide (0 < n)), .slice go n cap]) ∧ Mag w' go n cap (a - b)) ∧ Gr w w' := by
  have hss : (s == !s) = false := by simp
  have hor : decide ((0 : Int) ≤ sgn (a - b)) = true := by simp only [decide_eq_true_eq]; exact sgn_nonneg (by omega)
  go_enter Tryd.func65, Tryd.ntmps65
  have hB := Gr.refl w
  refine wp_seq_k (fun K1 k1 => ?_)
  refine wp_region ?_
  simp only [List.size_toArray, List.length_cons, List.length_nil, Nat.reduceAdd, List.range, List.range.loop]
  refine sq_eff rfl (by kernel_rfl) (fun K2 k2 => ?_)
  refine eff_box 29 _ (.agg #[(.bool (s)), (.slice ao la ca)]) #[(.bool (s)), (.slice ao la ca)] (some 2) rfl rfl rfl rfl (fun b3 w3 g3 L3 q3 => ?_)
  replace q3 := Nat.le_trans (Below.size hB) q3
  replace hB := Gr.trans hB g3
  refine k2 _ _ ?_
  try clear k2 K2
  simp only [p1, p2, p3, p4]
  refine sq_eff rfl (by kernel_rfl) (fun K4 k4 => ?_)
  refine eff_box 29 _ (.agg #[(.bool (!s)), (.slice bo lb cb)]) #[(.bool (!s)), (.slice bo lb cb)] (some 3) rfl rfl rfl rfl (fun b5 w5 g5 L5 q5 => ?_)
  have ne3_5 := L3.ne q5
  replace q5 := Nat.le_trans (Below.size hB) q5
  replace hB := Gr.trans hB g5
  refine k4 _ _ ?_
  try clear k4 K4
  simp only [p1, p2, p3, p4]
  refine sq_eff rfl (by kernel_rfl) (fun K6 k6 => ?_)
  refine eff_alloc 29 (.agg #[(.bool false), (.slice none 0 0)]) #[(.bool false), (.slice none 0 0)] (some 4) rfl rfl (by kernel_rfl) rfl (fun b7 w7 g7 L7 q7 => ?_)
  replace L3 := L3.gr g5
  have ne3_7 := L3.ne q7
  have ne5_7 := L5.ne q7
  replace q7 := Nat.le_trans (Below.size hB) q7
  replace hB := Gr.trans hB g7
  refine k6 _ _ ?_
  try clear k6 K6
  simp only [p1, p2, p3, p4]
  refine sq_nil ?_
  refine k1 _ _ ?_
  try clear k1 K1
  refine wp_seq_k (fun K8 k8 => ?_)
  refine wp_block ?_
  refine wp_seq_k (fun K9 k9 => ?_)
  refine wp_region ?_
  simp only [List.size_toArray, List.length_cons, List.length_nil, Nat.reduceAdd, List.range, List.range.loop]
  refine sq_val (some 6) (.pointer (some ⟨b3, 0, none⟩)) rfl rfl (by kernel_rfl) (rvk (by kernel_rfl)) ?_
  simp only [p1, p2, p3, p4]
  replace L3 := L3.gr g7
  refine sq_val (some 7) (.bool (s)) rfl rfl (by kernel_rfl) (rv_load1 4 _ b3 0 _ _ (.bool (s)) rfl rfl L3 rfl (by kernel_rfl)) ?_
  simp only [p1, p2, p3, p4]
  refine sq_val (some 8) (.pointer (some ⟨b5, 0, none⟩)) rfl rfl (by kernel_rfl) (rvk (by kernel_rfl)) ?_
  simp only [p1, p2, p3, p4]
  replace L5 := L5.gr g7
  refine sq_val (some 9) (.bool (!s)) rfl rfl (by kernel_rfl) (rv_load1 4 _ b5 0 _ _ (.bool (!s)) rfl rfl L5 rfl (by kernel_rfl)) ?_
  simp only [p1, p2, p3, p4]
  refine sq_val (some 10) (.bool false) rfl rfl (by kernel_rfl) (RunV.bool (x := (s == !s)) (rvk (by kernel_rfl)) hss) ?_
  simp only [p1, p2, p3, p4]
  refine sq_val (some 5) (.bool false) rfl rfl (by kernel_rfl) (rvk (by kernel_rfl)) ?_
  simp only [p1, p2, p3, p4]
  refine sq_nil ?_
  refine k9 _ _ ?_
  try clear k9 K9
  refine wp_cond_false rfl ?_
  refine wp_seq_k (fun K10 k10 => ?_)
  refine wp_region ?_
  simp only [List.size_toArray, List.length_cons, List.length_nil, Nat.reduceAdd, List.range, List.range.loop]
  refine sq_val (some 20) (.pointer (some ⟨b3, 1, none⟩)) rfl rfl (by kernel_rfl) (rvk (by kernel_rfl)) ?_
  simp only [p1, p2, p3, p4]
  refine sq_val (some 21) (.slice ao la ca) rfl rfl (by kernel_rfl) (rv_load1 27 _ b3 1 _ _ (.slice ao la ca) rfl rfl L3 rfl (by kernel_rfl)) ?_
  simp only [p1, p2, p3, p4]
  refine sq_val (some 22) (.pointer (some ⟨b5, 1, none⟩)) rfl rfl (by kernel_rfl) (rvk (by kernel_rfl)) ?_
  simp only [p1, p2, p3, p4]
  refine sq_val (some 23) (.slice bo lb cb) rfl rfl (by kernel_rfl) (rv_load1 27 _ b5 1 _ _ (.slice bo lb cb) rfl rfl L5 rfl (by kernel_rfl)) ?_
  simp only [p1, p2, p3, p4]
  refine sq_eff rfl (by kernel_rfl) (fun K11 k11 => ?_)
  have kq13 := g3.kp.trans (g5.kp.trans g7.kp)
  replace ha := ha.kp kq13
  replace hb := hb.kp kq13
  refine eff_call (some 24) rfl (by kernel_rfl) (order_m ha hb (by omega) (by omega)) ?_
  rintro e12 w12 ⟨rfl, g12⟩
  refine ⟨_, rfl, ?_⟩
  replace hB := Gr.trans hB g12
  refine k11 _ _ ?_
  try clear k11 K11
  simp only [p1, p2, p3, p4]
  refine sq_val (some 25) (.bool true) rfl rfl (by kernel_rfl) (RunV.bool (x := decide ((0 : Int) ≤ sgn (a - b))) (rvk (by kernel_rfl)) hor) ?_
  simp only [p1, p2, p3, p4]
  refine sq_val (some 19) (.bool true) rfl rfl (by kernel_rfl) (rvk (by kernel_rfl)) ?_
  simp only [p1, p2, p3, p4]
  refine sq_nil ?_
  refine k10 _ _ ?_
  try clear k10 K10
  refine wp_cond_true rfl ?_
  refine wp_seq_k (fun K14 k14 => ?_)
  have gd23 := Gr.drew w12
  replace hB := Gr.trans hB gd23
  replace L3 := L3.gr (g12.trans gd23)
  replace L5 := L5.gr (g12.trans gd23)
  refine wp_region_ord (fun w' => Lc w' b3 #[(.bool (s)), (.slice ao la ca)] 29 ∧ Lc w' b5 #[(.bool (!s)), (.slice bo lb cb)] 29) [(true, 0), (true, 1), (true, 2), (true, 3), (true, 4), (true, 5), (false, 6), (false, 7), (false, 8)] (by kernel_rfl) (by kernel_rfl) (by kernel_rfl) (by decide) (fun _ _ _ _ _ h => h) ⟨L3, L5⟩ ?_
  refine ord_pure (some 26) (.pointer (some ⟨b3, 0, none⟩)) rfl rfl rfl (fun w' hS => (rvk (by kernel_rfl))) ?_
  simp only [p1, p2, p3, p4]
  refine ord_pure (some 27) (.bool (s)) rfl rfl rfl (fun w' hS => (rv_load1 4 _ b3 0 _ _ (.bool (s)) rfl rfl hS.1 rfl (by kernel_rfl))) ?_
  simp only [p1, p2, p3, p4]
  refine ord_pure (some 28) (.pointer (some ⟨b3, 1, none⟩)) rfl rfl rfl (fun w' hS => (rvk (by kernel_rfl))) ?_
  simp only [p1, p2, p3, p4]
  refine ord_pure (some 29) (.slice ao la ca) rfl rfl rfl (fun w' hS => (rv_load1 27 _ b3 1 _ _ (.slice ao la ca) rfl rfl hS.1 rfl (by kernel_rfl))) ?_
  simp only [p1, p2, p3, p4]
  refine ord_pure (some 30) (.pointer (some ⟨b5, 1, none⟩)) rfl rfl rfl (fun w' hS => (rvk (by kernel_rfl))) ?_
  simp only [p1, p2, p3, p4]
  refine ord_pure (some 31) (.slice bo lb cb) rfl rfl rfl (fun w' hS => (rv_load1 27 _ b5 1 _ _ (.slice bo lb cb) rfl rfl hS.2 rfl (by kernel_rfl))) ?_
  simp only [p1, p2, p3, p4]
  refine ord_eff rfl rfl (fun K24 k24 => ?_)
  have kq26 := g12.kp.trans gd23.kp
  replace ha := ha.kp kq26
  replace hb := hb.kp kq26
  refine eff_call (some 32) rfl (by kernel_rfl) (minus_m ha hb (by omega) (by omega) (by omega)) ?_
  rintro e25 w25 ⟨⟨go25, n25, rfl, h25⟩, g25⟩
  refine ⟨_, rfl, ?_⟩
  replace hB := Gr.trans hB g25
  replace L3 := L3.gr g25
  replace L5 := L5.gr g25
  refine k24 _ _ ⟨L3, L5⟩ ?_
  try clear k24 K24
  simp only [p1, p2, p3, p4]
  refine ord_eff rfl rfl (fun K27 k27 => ?_)
  refine eff_call (some 33) rfl (by kernel_rfl) (signed_m (neg := s) h25) ?_
  rintro e28 w28 ⟨⟨k28, rfl, h28⟩, g28⟩
  refine ⟨_, rfl, ?_⟩
  replace hB := Gr.trans hB g28
  replace L3 := L3.gr g28
  replace L5 := L5.gr g28
  refine k27 _ _ ⟨L3, L5⟩ ?_
  try clear k27 K27
  simp only [p1, p2, p3, p4]
  refine ord_eff rfl rfl (fun K29 k29 => ?_)
  replace L7 := L7.gr (g12.trans (gd23.trans (g25.trans g28)))
  refine eff_store 29 _ _ b7 0 (.agg #[(.bool (s && decide (0 < k28))), (.slice go25 k28 n25)]) [(.bool (s && decide (0 < k28))), (.slice go25 k28 n25)] _ #[(.bool (s && decide (0 < k28))), (.slice go25 k28 n25)] _ rfl rfl rfl rfl rfl L7 (by kernel_rfl) (Nat.le_of_ble_eq_true rfl) ⟨rfl, rfl, trivial⟩ (by kernel_rfl) (fun w30 st30 N30 => ?_)
  have kp30 := st30.kp L7 (by decide)
  replace hB := st30.gr hB q7
  replace L7 := N30
  replace L3 := st30.lc L3 ne3_7
  replace L5 := st30.lc L5 ne5_7
  refine k29 _ _ ⟨L3, L5⟩ ?_
  try clear k29 K29
  refine ord_nil ?_
  refine k14 _ _ ?_
  try clear k14 K14
  refine wp_ret ?_
  simp only [Exit.then, Exit.inBlock]
  refine bodyPost_ret (v := (.agg #[(.bool (s && decide (0 < k28))), (.slice go25 k28 n25)])) (ret_cell _ _ _ rfl rfl L7 (by kernel_rfl)) rfl ⟨?_, hB⟩
  replace h28 := h28.kp kp30
  exact ⟨_, _, _, rfl, h28⟩

set_option maxRecDepth 100000 in
set_option maxHeartbeats 1000000 in
theorem add_diff_lt {w : World} {s : Bool} {a b : Int} {ao bo : Option Addr} {la lb ca cb : Nat} (ha : Mag w ao la ca a) (hb : Mag w bo lb cb b) (hla : la ≤ 1000000) (hlb : lb ≤ 1000000) (hle : a < b) :
    Calls Tryd.prog 65 #[(.agg #[(.bool (s)), (.slice ao la ca)]), (.agg #[(.bool (!s)), (.slice bo lb cb)])] w fun e w' => (∃ go n cap, e = .returned (.agg #[.bool (!s && decide (0 < n)), .slice go n cap]) ∧ Mag w' go n cap (b - a)) ∧ Gr w w' := by
  have hss : (s == !s) = false := by simp
  have hor : decide ((0 : Int) ≤ sgn (a - b)) = false := by rw [sgn_neg (by omega)]; rfl
  go_enter Tryd.func65, Tryd.ntmps65
  have hB := Gr.refl w
  refine wp_seq_k (fun K1 k1 => ?_)
  refine wp_region ?_
  simp only [List.size_toArray, List.length_cons, List.length_nil, Nat.reduceAdd, List.range, List.range.loop]
  refine sq_eff rfl (by kernel_rfl) (fun K2 k2 => ?_)
  refine eff_box 29 _ (.agg #[(.bool (s)), (.slice ao la ca)]) #[(.bool (s)), (.slice ao la ca)] (some 2) rfl rfl rfl rfl (fun b3 w3 g3 L3 q3 => ?_)
  replace q3 := Nat.le_trans (Below.size hB) q3
  replace hB := Gr.trans hB g3
  refine k2 _ _ ?_
  try clear k2 K2
  simp only [p1, p2, p3, p4]
  refine sq_eff rfl (by kernel_rfl) (fun K4 k4 => ?_)
  refine eff_box 29 _ (.agg #[(.bool (!s)), (.slice bo lb cb)]) #[(.bool (!s)), (.slice bo lb cb)] (some 3) rfl rfl rfl rfl (fun b5 w5 g5 L5 q5 => ?_)
  have ne3_5 := L3.ne q5
  replace q5 := Nat.le_trans (Below.size hB) q5
  replace hB := Gr.trans hB g5
  refine k4 _ _ ?_
  try clear k4 K4
  simp only [p1, p2, p3, p4]
  refine sq_eff rfl (by kernel_rfl) (fun K6 k6 => ?_)
  refine eff_alloc 29 (.agg #[(.bool false), (.slice none 0 0)]) #[(.bool false), (.slice none 0 0)] (some 4) rfl rfl (by kernel_rfl) rfl (fun b7 w7 g7 L7 q7 => ?_)
  replace L3 := L3.gr g5
  have ne3_7 := L3.ne q7
  have ne5_7 := L5.ne q7
  replace q7 := Nat.le_trans (Below.size hB) q7
  replace hB := Gr.trans hB g7
  refine k6 _ _ ?_
  try clear k6 K6
  simp only [p1, p2, p3, p4]
  refine sq_nil ?_
  refine k1 _ _ ?_
  try clear k1 K1
  refine wp_seq_k (fun K8 k8 => ?_)
  refine wp_block ?_
  refine wp_seq_k (fun K9 k9 => ?_)
  refine wp_region ?_
  simp only [List.size_toArray, List.length_cons, List.length_nil, Nat.reduceAdd, List.range, List.range.loop]
  refine sq_val (some 6) (.pointer (some ⟨b3, 0, none⟩)) rfl rfl (by kernel_rfl) (rvk (by kernel_rfl)) ?_
  simp only [p1, p2, p3, p4]
  replace L3 := L3.gr g7
  refine sq_val (some 7) (.bool (s)) rfl rfl (by kernel_rfl) (rv_load1 4 _ b3 0 _ _ (.bool (s)) rfl rfl L3 rfl (by kernel_rfl)) ?_
  simp only [p1, p2, p3, p4]
  refine sq_val (some 8) (.pointer (some ⟨b5, 0, none⟩)) rfl rfl (by kernel_rfl) (rvk (by kernel_rfl)) ?_
  simp only [p1, p2, p3, p4]
  replace L5 := L5.gr g7
  refine sq_val (some 9) (.bool (!s)) rfl rfl (by kernel_rfl) (rv_load1 4 _ b5 0 _ _ (.bool (!s)) rfl rfl L5 rfl (by kernel_rfl)) ?_
  simp only [p1, p2, p3, p4]
  refine sq_val (some 10) (.bool false) rfl rfl (by kernel_rfl) (RunV.bool (x := (s == !s)) (rvk (by kernel_rfl)) hss) ?_
  simp only [p1, p2, p3, p4]
  refine sq_val (some 5) (.bool false) rfl rfl (by kernel_rfl) (rvk (by kernel_rfl)) ?_
  simp only [p1, p2, p3, p4]
  refine sq_nil ?_
  refine k9 _ _ ?_
  try clear k9 K9
  refine wp_cond_false rfl ?_
  refine wp_seq_k (fun K10 k10 => ?_)
  refine wp_region ?_
  simp only [List.size_toArray, List.length_cons, List.length_nil, Nat.reduceAdd, List.range, List.range.loop]
  refine sq_val (some 20) (.pointer (some ⟨b3, 1, none⟩)) rfl rfl (by kernel_rfl) (rvk (by kernel_rfl)) ?_
  simp only [p1, p2, p3, p4]
  refine sq_val (some 21) (.slice ao la ca) rfl rfl (by kernel_rfl) (rv_load1 27 _ b3 1 _ _ (.slice ao la ca) rfl rfl L3 rfl (by kernel_rfl)) ?_
  simp only [p1, p2, p3, p4]
  refine sq_val (some 22) (.pointer (some ⟨b5, 1, none⟩)) rfl rfl (by kernel_rfl) (rvk (by kernel_rfl)) ?_
  simp only [p1, p2, p3, p4]
  refine sq_val (some 23) (.slice bo lb cb) rfl rfl (by kernel_rfl) (rv_load1 27 _ b5 1 _ _ (.slice bo lb cb) rfl rfl L5 rfl (by kernel_rfl)) ?_
  simp only [p1, p2, p3, p4]
  refine sq_eff rfl (by kernel_rfl) (fun K11 k11 => ?_)
  have kq13 := g3.kp.trans (g5.kp.trans g7.kp)
  replace ha := ha.kp kq13
  replace hb := hb.kp kq13
  refine eff_call (some 24) rfl (by kernel_rfl) (order_m ha hb (by omega) (by omega)) ?_
  rintro e12 w12 ⟨rfl, g12⟩
  refine ⟨_, rfl, ?_⟩
  replace hB := Gr.trans hB g12
  refine k11 _ _ ?_
  try clear k11 K11
  simp only [p1, p2, p3, p4]
  refine sq_val (some 25) (.bool false) rfl rfl (by kernel_rfl) (RunV.bool (x := decide ((0 : Int) ≤ sgn (a - b))) (rvk (by kernel_rfl)) hor) ?_
  simp only [p1, p2, p3, p4]
  refine sq_val (some 19) (.bool false) rfl rfl (by kernel_rfl) (rvk (by kernel_rfl)) ?_
  simp only [p1, p2, p3, p4]
  refine sq_nil ?_
  refine k10 _ _ ?_
  try clear k10 K10
  refine wp_cond_false rfl ?_
  refine wp_skip ?_
  refine k8 _ _ ?_
  try clear k8 K8
  refine wp_seq_k (fun K14 k14 => ?_)
  have gd23 := Gr.drew w12
  replace hB := Gr.trans hB gd23
  replace L3 := L3.gr (g12.trans gd23)
  replace L5 := L5.gr (g12.trans gd23)
  refine wp_region_ord (fun w' => Lc w' b3 #[(.bool (s)), (.slice ao la ca)] 29 ∧ Lc w' b5 #[(.bool (!s)), (.slice bo lb cb)] 29) [(true, 0), (true, 1), (true, 2), (true, 3), (true, 4), (true, 5), (false, 6), (false, 7), (false, 8)] (by kernel_rfl) (by kernel_rfl) (by kernel_rfl) (by decide) (fun _ _ _ _ _ h => h) ⟨L3, L5⟩ ?_
  refine ord_pure (some 34) (.pointer (some ⟨b5, 0, none⟩)) rfl rfl rfl (fun w' hS => (rvk (by kernel_rfl))) ?_
  simp only [p1, p2, p3, p4]
  refine ord_pure (some 35) (.bool (!s)) rfl rfl rfl (fun w' hS => (rv_load1 4 _ b5 0 _ _ (.bool (!s)) rfl rfl hS.2 rfl (by kernel_rfl))) ?_
  simp only [p1, p2, p3, p4]
  refine ord_pure (some 36) (.pointer (some ⟨b5, 1, none⟩)) rfl rfl rfl (fun w' hS => (rvk (by kernel_rfl))) ?_
  simp only [p1, p2, p3, p4]
  refine ord_pure (some 37) (.slice bo lb cb) rfl rfl rfl (fun w' hS => (rv_load1 27 _ b5 1 _ _ (.slice bo lb cb) rfl rfl hS.2 rfl (by kernel_rfl))) ?_
  simp only [p1, p2, p3, p4]
  refine ord_pure (some 38) (.pointer (some ⟨b3, 1, none⟩)) rfl rfl rfl (fun w' hS => (rvk (by kernel_rfl))) ?_
  simp only [p1, p2, p3, p4]
  refine ord_pure (some 39) (.slice ao la ca) rfl rfl rfl (fun w' hS => (rv_load1 27 _ b3 1 _ _ (.slice ao la ca) rfl rfl hS.1 rfl (by kernel_rfl))) ?_
  simp only [p1, p2, p3, p4]
  refine ord_eff rfl rfl (fun K24 k24 => ?_)
  have kq26 := g12.kp.trans gd23.kp
  replace hb := hb.kp kq26
  replace ha := ha.kp kq26
  refine eff_call (some 40) rfl (by kernel_rfl) (minus_m hb ha (by omega) (by omega) (by omega)) ?_
  rintro e25 w25 ⟨⟨go25, n25, rfl, h25⟩, g25⟩
  refine ⟨_, rfl, ?_⟩
  replace hB := Gr.trans hB g25
  replace L3 := L3.gr g25
  replace L5 := L5.gr g25
  refine k24 _ _ ⟨L3, L5⟩ ?_
  try clear k24 K24
  simp only [p1, p2, p3, p4]
  refine ord_eff rfl rfl (fun K27 k27 => ?_)
  refine eff_call (some 41) rfl (by kernel_rfl) (signed_m (neg := !s) h25) ?_
  rintro e28 w28 ⟨⟨k28, rfl, h28⟩, g28⟩
  refine ⟨_, rfl, ?_⟩
  replace hB := Gr.trans hB g28
  replace L3 := L3.gr g28
  replace L5 := L5.gr g28
  refine k27 _ _ ⟨L3, L5⟩ ?_
  try clear k27 K27
  simp only [p1, p2, p3, p4]
  refine ord_eff rfl rfl (fun K29 k29 => ?_)
  replace L7 := L7.gr (g12.trans (gd23.trans (g25.trans g28)))
  refine eff_store 29 _ _ b7 0 (.agg #[(.bool (!s && decide (0 < k28))), (.slice go25 k28 n25)]) [(.bool (!s && decide (0 < k28))), (.slice go25 k28 n25)] _ #[(.bool (!s && decide (0 < k28))), (.slice go25 k28 n25)] _ rfl rfl rfl rfl rfl L7 (by kernel_rfl) (Nat.le_of_ble_eq_true rfl) ⟨rfl, rfl, trivial⟩ (by kernel_rfl) (fun w30 st30 N30 => ?_)
  have kp30 := st30.kp L7 (by decide)
  replace hB := st30.gr hB q7
  replace L7 := N30
  replace L3 := st30.lc L3 ne3_7
  replace L5 := st30.lc L5 ne5_7
  refine k29 _ _ ⟨L3, L5⟩ ?_
  try clear k29 K29
  refine ord_nil ?_
  refine k14 _ _ ?_
  try clear k14 K14
  refine wp_ret ?_
  refine bodyPost_ret (v := (.agg #[(.bool (!s && decide (0 < k28))), (.slice go25 k28 n25)])) (ret_cell _ _ _ rfl rfl L7 (by kernel_rfl)) rfl ⟨?_, hB⟩
  replace h28 := h28.kp kp30
  exact ⟨_, _, _, rfl, h28⟩

end Go.Proofs.YtgopfikljndklaaDoor
