/- Printed by a program of the prover's: the comparisons of vectors. -/
import Derived.Test.YtgopfikljndklaaDoorGen5
namespace Go.Proofs.YtgopfikljndklaaDoor
open Go.RowKit

/-- the order of two vectors -/
def vcmp (a1 a2 a3 c1 c2 c3 : Rat) : Int := if rcmp a1 c1 = 0 then if rcmp a2 c2 = 0 then rcmp a3 c3 else rcmp a2 c2 else rcmp a1 c1
theorem vcmp_zero {a1 a2 a3 c1 c2 c3 : Rat} : vcmp a1 a2 a3 c1 c2 c3 = 0 ↔ a1 = c1 ∧ a2 = c2 ∧ a3 = c3 := by
  unfold vcmp
  rw [← rcmp_zero (a := a1), ← rcmp_zero (a := a2), ← rcmp_zero (a := a3)]
  split
  · split <;> simp_all
  · simp_all

set_option maxRecDepth 100000 in
set_option maxHeartbeats 1000000 in
theorem vcomp_1 {k m : Nat} {uaa0 uaa1 uaa2 uaa3 uab0 uab1 uab2 uab3 uac0 uac1 uac2 uac3 : Value} {a1 a2 a3 : Rat} {vaa0 vaa1 vaa2 vaa3 vab0 vab1 vab2 vab3 vac0 vac1 vac2 vac3 : Value} {c1 c2 c3 : Rat} {w : World} (hua1 : IsRat w k uaa0 uaa1 uaa2 uaa3 a1) (_hua2 : IsRat w k uab0 uab1 uab2 uab3 a2) (_hua3 : IsRat w k uac0 uac1 uac2 uac3 a3) (hva1 : IsRat w m vaa0 vaa1 vaa2 vaa3 c1) (_hva2 : IsRat w m vab0 vab1 vab2 vab3 c2) (_hva3 : IsRat w m vac0 vac1 vac2 vac3 c3) (_hk : k + m ≤ 100000) (e1 : (rcmp a1 c1 != (0 : Int)) = true) :
    Calls Tryd.prog 42 #[(.agg #[uaa0, uaa1, uaa2, uaa3, uab0, uab1, uab2, uab3, uac0, uac1, uac2, uac3]), (.agg #[vaa0, vaa1, vaa2, vaa3, vab0, vab1, vab2, vab3, vac0, vac1, vac2, vac3])] w fun e w' => e = .returned (.int .i64 (rcmp a1 c1)) ∧ Gr w w' := by
  go_enter Tryd.func42, Tryd.ntmps42
  have hB := Gr.refl w
  refine wp_seq_k (fun K1 k1 => ?_)
  refine wp_region ?_
  simp only [List.size_toArray, List.length_cons, List.length_nil, Nat.reduceAdd, List.range, List.range.loop]
  refine sq_eff rfl (by kernel_rfl) (fun K2 k2 => ?_)
  refine eff_box 33 _ (.agg #[uaa0, uaa1, uaa2, uaa3, uab0, uab1, uab2, uab3, uac0, uac1, uac2, uac3]) #[uaa0, uaa1, uaa2, uaa3, uab0, uab1, uab2, uab3, uac0, uac1, uac2, uac3] (some 2) rfl rfl rfl rfl (fun b3 w3 g3 L3 q3 => ?_)
  replace q3 := Nat.le_trans (Below.size hB) q3
  replace hB := Gr.trans hB g3
  refine k2 _ _ ?_
  try clear k2 K2
  simp only [p1, p2, p3, p4]
  refine sq_eff rfl (by kernel_rfl) (fun K4 k4 => ?_)
  refine eff_box 33 _ (.agg #[vaa0, vaa1, vaa2, vaa3, vab0, vab1, vab2, vab3, vac0, vac1, vac2, vac3]) #[vaa0, vaa1, vaa2, vaa3, vab0, vab1, vab2, vab3, vac0, vac1, vac2, vac3] (some 3) rfl rfl rfl rfl (fun b5 w5 g5 L5 q5 => ?_)
  have ne3_5 := L3.ne q5
  replace q5 := Nat.le_trans (Below.size hB) q5
  replace hB := Gr.trans hB g5
  refine k4 _ _ ?_
  try clear k4 K4
  simp only [p1, p2, p3, p4]
  refine sq_val (some 4) (.int .i64 0) rfl rfl (by kernel_rfl) (rvk (by kernel_rfl)) ?_
  simp only [p1, p2, p3, p4]
  refine sq_nil ?_
  refine k1 _ _ ?_
  try clear k1 K1
  refine wp_seq_k (fun K6 k6 => ?_)
  refine wp_seq_k (fun K7 k7 => ?_)
  refine wp_region ?_
  simp only [List.size_toArray, List.length_cons, List.length_nil, Nat.reduceAdd, List.range, List.range.loop]
  refine sq_val (some 7) (.int .i64 0) rfl rfl (by kernel_rfl) (rvk (by kernel_rfl)) ?_
  simp only [p1, p2, p3, p4]
  refine sq_nil ?_
  refine k7 _ _ ?_
  try clear k7 K7
  refine wp_block ?_
  refine wp_loop_rounds 4 ?_
  show Code.wp _ _ _ _ _
  refine wp_seq_k (fun K8 k8 => ?_)
  refine wp_region ?_
  simp only [List.size_toArray, List.length_cons, List.length_nil, Nat.reduceAdd, List.range, List.range.loop]
  refine sq_val (some 8) (.bool true) rfl rfl (by kernel_rfl) (rvk (by kernel_rfl)) ?_
  simp only [p1, p2, p3, p4]
  refine sq_nil ?_
  refine k8 _ _ ?_
  try clear k8 K8
  refine wp_seq_k (fun K9 k9 => ?_)
  refine wp_cond_true rfl ?_
  refine wp_skip ?_
  refine k9 _ _ ?_
  try clear k9 K9
  refine wp_seq_k (fun K10 k10 => ?_)
  refine wp_block ?_
  refine wp_seq_k (fun K11 k11 => ?_)
  refine wp_region ?_
  simp only [List.size_toArray, List.length_cons, List.length_nil, Nat.reduceAdd, List.range, List.range.loop]
  refine sq_val (some 9) (.int .i64 0) rfl rfl (by kernel_rfl) (rvk (by kernel_rfl)) ?_
  simp only [p1, p2, p3, p4]
  refine sq_val (some 5) (.int .i64 0) rfl rfl (by kernel_rfl) (rvk (by kernel_rfl)) ?_
  simp only [p1, p2, p3, p4]
  refine sq_nil ?_
  refine k11 _ _ ?_
  try clear k11 K11
  refine wp_seq_k (fun K12 k12 => ?_)
  have gd17 := Gr.drew w5
  replace hB := Gr.trans hB gd17
  replace L3 := L3.gr (g5.trans gd17)
  replace L5 := L5.gr gd17
  refine wp_region_ord (fun w' => Lc w' b3 #[uaa0, uaa1, uaa2, uaa3, uab0, uab1, uab2, uab3, uac0, uac1, uac2, uac3] 33 ∧ Lc w' b5 #[vaa0, vaa1, vaa2, vaa3, vab0, vab1, vab2, vab3, vac0, vac1, vac2, vac3] 33) [(true, 0), (true, 1), (true, 2), (true, 3), (true, 4), (true, 5), (false, 6), (true, 7)] (by kernel_rfl) (by kernel_rfl) (by kernel_rfl) (by decide) (fun _ _ _ _ _ h => h) ⟨L3, L5⟩ ?_
  refine ord_pure (some 10) (.int .i64 0) rfl rfl rfl (fun w' hS => (rvk (by kernel_rfl))) ?_
  simp only [p1, p2, p3, p4]
  refine ord_pure (some 11) (.pointer (some ⟨b3, 0, none⟩)) rfl rfl rfl (fun w' hS => (rvk (by kernel_rfl))) ?_
  simp only [p1, p2, p3, p4]
  refine ord_pure (some 12) (.agg #[uaa0, uaa1, uaa2, uaa3]) rfl rfl rfl (fun w' hS => (rv_load 31 _ b3 0 _ _ [uaa0, uaa1, uaa2, uaa3] rfl rfl hS.1 rfl (by kernel_rfl))) ?_
  simp only [p1, p2, p3, p4]
  refine ord_pure (some 13) (.int .i64 0) rfl rfl rfl (fun w' hS => (rvk (by kernel_rfl))) ?_
  simp only [p1, p2, p3, p4]
  refine ord_pure (some 14) (.pointer (some ⟨b5, 0, none⟩)) rfl rfl rfl (fun w' hS => (rvk (by kernel_rfl))) ?_
  simp only [p1, p2, p3, p4]
  refine ord_pure (some 15) (.agg #[vaa0, vaa1, vaa2, vaa3]) rfl rfl rfl (fun w' hS => (rv_load 31 _ b5 0 _ _ [vaa0, vaa1, vaa2, vaa3] rfl rfl hS.2 rfl (by kernel_rfl))) ?_
  simp only [p1, p2, p3, p4]
  refine ord_eff rfl rfl (fun K18 k18 => ?_)
  have kq20 := g3.kp.trans (g5.kp.trans gd17.kp)
  replace hua1 := hua1.kp kq20
  replace hva1 := hva1.kp kq20
  refine eff_call (some 16) rfl (by kernel_rfl) (compare_r hua1 hva1 (by omega)) ?_
  rintro e19 w19 ⟨rfl, g19⟩
  refine ⟨_, rfl, ?_⟩
  replace hB := Gr.trans hB g19
  replace L3 := L3.gr g19
  replace L5 := L5.gr g19
  refine k18 _ _ ⟨L3, L5⟩ ?_
  try clear k18 K18
  simp only [p1, p2, p3, p4]
  refine ord_pure (some 6) (.int .i64 (rcmp a1 c1)) rfl rfl rfl (fun w' hS => (rvk (by kernel_rfl))) ?_
  simp only [p1, p2, p3, p4]
  refine ord_nil ?_
  refine k12 _ _ ?_
  try clear k12 K12
  refine wp_seq_k (fun K21 k21 => ?_)
  refine wp_region ?_
  simp only [List.size_toArray, List.length_cons, List.length_nil, Nat.reduceAdd, List.range, List.range.loop]
  refine sq_val (some 17) (.int .i64 (rcmp a1 c1)) rfl rfl (by kernel_rfl) (rvk (by kernel_rfl)) ?_
  simp only [p1, p2, p3, p4]
  refine sq_val (some 18) (.bool true) rfl rfl (by kernel_rfl) (RunV.bool (x := (rcmp a1 c1 != (0 : Int))) (rvk (by kernel_rfl)) e1) ?_
  simp only [p1, p2, p3, p4]
  refine sq_nil ?_
  refine k21 _ _ ?_
  try clear k21 K21
  refine wp_cond_true rfl ?_
  refine wp_seq_k (fun K22 k22 => ?_)
  refine wp_region ?_
  simp only [List.size_toArray, List.length_cons, List.length_nil, Nat.reduceAdd, List.range, List.range.loop]
  refine sq_val (some 19) (.int .i64 (rcmp a1 c1)) rfl rfl (by kernel_rfl) (rvk (by kernel_rfl)) ?_
  simp only [p1, p2, p3, p4]
  refine sq_val (some 4) (.int .i64 (rcmp a1 c1)) rfl rfl (by kernel_rfl) (rvk (by kernel_rfl)) ?_
  simp only [p1, p2, p3, p4]
  refine sq_nil ?_
  refine k22 _ _ ?_
  try clear k22 K22
  refine wp_ret ?_
  simp only [Exit.then, Exit.inBlock]
  refine bodyPost_ret (v := (.int .i64 (rcmp a1 c1))) (ret_tmp rfl rfl) rfl ⟨?_, hB⟩
  exact rfl

set_option maxRecDepth 100000 in
set_option maxHeartbeats 1000000 in
theorem vcomp_2 {k m : Nat} {uaa0 uaa1 uaa2 uaa3 uab0 uab1 uab2 uab3 uac0 uac1 uac2 uac3 : Value} {a1 a2 a3 : Rat} {vaa0 vaa1 vaa2 vaa3 vab0 vab1 vab2 vab3 vac0 vac1 vac2 vac3 : Value} {c1 c2 c3 : Rat} {w : World} (hua1 : IsRat w k uaa0 uaa1 uaa2 uaa3 a1) (hua2 : IsRat w k uab0 uab1 uab2 uab3 a2) (_hua3 : IsRat w k uac0 uac1 uac2 uac3 a3) (hva1 : IsRat w m vaa0 vaa1 vaa2 vaa3 c1) (hva2 : IsRat w m vab0 vab1 vab2 vab3 c2) (_hva3 : IsRat w m vac0 vac1 vac2 vac3 c3) (_hk : k + m ≤ 100000) (e1 : (rcmp a1 c1 != (0 : Int)) = false) (e2 : (rcmp a2 c2 != (0 : Int)) = true) :
    Calls Tryd.prog 42 #[(.agg #[uaa0, uaa1, uaa2, uaa3, uab0, uab1, uab2, uab3, uac0, uac1, uac2, uac3]), (.agg #[vaa0, vaa1, vaa2, vaa3, vab0, vab1, vab2, vab3, vac0, vac1, vac2, vac3])] w fun e w' => e = .returned (.int .i64 (rcmp a2 c2)) ∧ Gr w w' := by
  go_enter Tryd.func42, Tryd.ntmps42
  have hB := Gr.refl w
  refine wp_seq_k (fun K1 k1 => ?_)
  refine wp_region ?_
  simp only [List.size_toArray, List.length_cons, List.length_nil, Nat.reduceAdd, List.range, List.range.loop]
  refine sq_eff rfl (by kernel_rfl) (fun K2 k2 => ?_)
  refine eff_box 33 _ (.agg #[uaa0, uaa1, uaa2, uaa3, uab0, uab1, uab2, uab3, uac0, uac1, uac2, uac3]) #[uaa0, uaa1, uaa2, uaa3, uab0, uab1, uab2, uab3, uac0, uac1, uac2, uac3] (some 2) rfl rfl rfl rfl (fun b3 w3 g3 L3 q3 => ?_)
  replace q3 := Nat.le_trans (Below.size hB) q3
  replace hB := Gr.trans hB g3
  refine k2 _ _ ?_
  try clear k2 K2
  simp only [p1, p2, p3, p4]
  refine sq_eff rfl (by kernel_rfl) (fun K4 k4 => ?_)
  refine eff_box 33 _ (.agg #[vaa0, vaa1, vaa2, vaa3, vab0, vab1, vab2, vab3, vac0, vac1, vac2, vac3]) #[vaa0, vaa1, vaa2, vaa3, vab0, vab1, vab2, vab3, vac0, vac1, vac2, vac3] (some 3) rfl rfl rfl rfl (fun b5 w5 g5 L5 q5 => ?_)
  have ne3_5 := L3.ne q5
  replace q5 := Nat.le_trans (Below.size hB) q5
  replace hB := Gr.trans hB g5
  refine k4 _ _ ?_
  try clear k4 K4
  simp only [p1, p2, p3, p4]
  refine sq_val (some 4) (.int .i64 0) rfl rfl (by kernel_rfl) (rvk (by kernel_rfl)) ?_
  simp only [p1, p2, p3, p4]
  refine sq_nil ?_
  refine k1 _ _ ?_
  try clear k1 K1
  refine wp_seq_k (fun K6 k6 => ?_)
  refine wp_seq_k (fun K7 k7 => ?_)
  refine wp_region ?_
  simp only [List.size_toArray, List.length_cons, List.length_nil, Nat.reduceAdd, List.range, List.range.loop]
  refine sq_val (some 7) (.int .i64 0) rfl rfl (by kernel_rfl) (rvk (by kernel_rfl)) ?_
  simp only [p1, p2, p3, p4]
  refine sq_nil ?_
  refine k7 _ _ ?_
  try clear k7 K7
  refine wp_block ?_
  refine wp_loop_rounds 4 ?_
  show Code.wp _ _ _ _ _
  refine wp_seq_k (fun K8 k8 => ?_)
  refine wp_region ?_
  simp only [List.size_toArray, List.length_cons, List.length_nil, Nat.reduceAdd, List.range, List.range.loop]
  refine sq_val (some 8) (.bool true) rfl rfl (by kernel_rfl) (rvk (by kernel_rfl)) ?_
  simp only [p1, p2, p3, p4]
  refine sq_nil ?_
  refine k8 _ _ ?_
  try clear k8 K8
  refine wp_seq_k (fun K9 k9 => ?_)
  refine wp_cond_true rfl ?_
  refine wp_skip ?_
  refine k9 _ _ ?_
  try clear k9 K9
  refine wp_seq_k (fun K10 k10 => ?_)
  refine wp_block ?_
  refine wp_seq_k (fun K11 k11 => ?_)
  refine wp_region ?_
  simp only [List.size_toArray, List.length_cons, List.length_nil, Nat.reduceAdd, List.range, List.range.loop]
  refine sq_val (some 9) (.int .i64 0) rfl rfl (by kernel_rfl) (rvk (by kernel_rfl)) ?_
  simp only [p1, p2, p3, p4]
  refine sq_val (some 5) (.int .i64 0) rfl rfl (by kernel_rfl) (rvk (by kernel_rfl)) ?_
  simp only [p1, p2, p3, p4]
  refine sq_nil ?_
  refine k11 _ _ ?_
  try clear k11 K11
  refine wp_seq_k (fun K12 k12 => ?_)
  have gd17 := Gr.drew w5
  replace hB := Gr.trans hB gd17
  replace L3 := L3.gr (g5.trans gd17)
  replace L5 := L5.gr gd17
  refine wp_region_ord (fun w' => Lc w' b3 #[uaa0, uaa1, uaa2, uaa3, uab0, uab1, uab2, uab3, uac0, uac1, uac2, uac3] 33 ∧ Lc w' b5 #[vaa0, vaa1, vaa2, vaa3, vab0, vab1, vab2, vab3, vac0, vac1, vac2, vac3] 33) [(true, 0), (true, 1), (true, 2), (true, 3), (true, 4), (true, 5), (false, 6), (true, 7)] (by kernel_rfl) (by kernel_rfl) (by kernel_rfl) (by decide) (fun _ _ _ _ _ h => h) ⟨L3, L5⟩ ?_
  refine ord_pure (some 10) (.int .i64 0) rfl rfl rfl (fun w' hS => (rvk (by kernel_rfl))) ?_
  simp only [p1, p2, p3, p4]
  refine ord_pure (some 11) (.pointer (some ⟨b3, 0, none⟩)) rfl rfl rfl (fun w' hS => (rvk (by kernel_rfl))) ?_
  simp only [p1, p2, p3, p4]
  refine ord_pure (some 12) (.agg #[uaa0, uaa1, uaa2, uaa3]) rfl rfl rfl (fun w' hS => (rv_load 31 _ b3 0 _ _ [uaa0, uaa1, uaa2, uaa3] rfl rfl hS.1 rfl (by kernel_rfl))) ?_
  simp only [p1, p2, p3, p4]
  refine ord_pure (some 13) (.int .i64 0) rfl rfl rfl (fun w' hS => (rvk (by kernel_rfl))) ?_
  simp only [p1, p2, p3, p4]
  refine ord_pure (some 14) (.pointer (some ⟨b5, 0, none⟩)) rfl rfl rfl (fun w' hS => (rvk (by kernel_rfl))) ?_
  simp only [p1, p2, p3, p4]
  refine ord_pure (some 15) (.agg #[vaa0, vaa1, vaa2, vaa3]) rfl rfl rfl (fun w' hS => (rv_load 31 _ b5 0 _ _ [vaa0, vaa1, vaa2, vaa3] rfl rfl hS.2 rfl (by kernel_rfl))) ?_
  simp only [p1, p2, p3, p4]
  refine ord_eff rfl rfl (fun K18 k18 => ?_)
  have kq20 := g3.kp.trans (g5.kp.trans gd17.kp)
  replace hua1 := hua1.kp kq20
  replace hva1 := hva1.kp kq20
  refine eff_call (some 16) rfl (by kernel_rfl) (compare_r hua1 hva1 (by omega)) ?_
  rintro e19 w19 ⟨rfl, g19⟩
  refine ⟨_, rfl, ?_⟩
  replace hB := Gr.trans hB g19
  replace L3 := L3.gr g19
  replace L5 := L5.gr g19
  refine k18 _ _ ⟨L3, L5⟩ ?_
  try clear k18 K18
  simp only [p1, p2, p3, p4]
  refine ord_pure (some 6) (.int .i64 (rcmp a1 c1)) rfl rfl rfl (fun w' hS => (rvk (by kernel_rfl))) ?_
  simp only [p1, p2, p3, p4]
  refine ord_nil ?_
  refine k12 _ _ ?_
  try clear k12 K12
  refine wp_seq_k (fun K21 k21 => ?_)
  refine wp_region ?_
  simp only [List.size_toArray, List.length_cons, List.length_nil, Nat.reduceAdd, List.range, List.range.loop]
  refine sq_val (some 17) (.int .i64 (rcmp a1 c1)) rfl rfl (by kernel_rfl) (rvk (by kernel_rfl)) ?_
  simp only [p1, p2, p3, p4]
  refine sq_val (some 18) (.bool false) rfl rfl (by kernel_rfl) (RunV.bool (x := (rcmp a1 c1 != (0 : Int))) (rvk (by kernel_rfl)) e1) ?_
  simp only [p1, p2, p3, p4]
  refine sq_nil ?_
  refine k21 _ _ ?_
  try clear k21 K21
  refine wp_cond_false rfl ?_
  refine wp_skip ?_
  refine k10 _ _ ?_
  try clear k10 K10
  refine wp_region ?_
  simp only [List.size_toArray, List.length_cons, List.length_nil, Nat.reduceAdd, List.range, List.range.loop]
  refine sq_val (some 20) (.int .i64 1) rfl rfl (by kernel_rfl) (rvk (by kernel_rfl)) ?_
  simp only [p1, p2, p3, p4]
  refine sq_val (some 7) (.int .i64 1) rfl rfl (by kernel_rfl) (rvk (by kernel_rfl)) ?_
  simp only [p1, p2, p3, p4]
  refine sq_nil ?_
  show Code.rounds _ _ _ _ _ _
  show Code.wp _ _ _ _ _
  refine wp_seq_k (fun K22 k22 => ?_)
  refine wp_region ?_
  simp only [List.size_toArray, List.length_cons, List.length_nil, Nat.reduceAdd, List.range, List.range.loop]
  refine sq_val (some 8) (.bool true) rfl rfl (by kernel_rfl) (rvk (by kernel_rfl)) ?_
  simp only [p1, p2, p3, p4]
  refine sq_nil ?_
  refine k22 _ _ ?_
  try clear k22 K22
  refine wp_seq_k (fun K23 k23 => ?_)
  refine wp_cond_true rfl ?_
  refine wp_skip ?_
  refine k23 _ _ ?_
  try clear k23 K23
  refine wp_seq_k (fun K24 k24 => ?_)
  refine wp_block ?_
  refine wp_seq_k (fun K25 k25 => ?_)
  refine wp_region ?_
  simp only [List.size_toArray, List.length_cons, List.length_nil, Nat.reduceAdd, List.range, List.range.loop]
  refine sq_val (some 9) (.int .i64 1) rfl rfl (by kernel_rfl) (rvk (by kernel_rfl)) ?_
  simp only [p1, p2, p3, p4]
  refine sq_val (some 5) (.int .i64 1) rfl rfl (by kernel_rfl) (rvk (by kernel_rfl)) ?_
  simp only [p1, p2, p3, p4]
  refine sq_nil ?_
  refine k25 _ _ ?_
  try clear k25 K25
  refine wp_seq_k (fun K26 k26 => ?_)
  have gd31 := Gr.drew w19
  replace hB := Gr.trans hB gd31
  replace L3 := L3.gr gd31
  replace L5 := L5.gr gd31
  refine wp_region_ord (fun w' => Lc w' b3 #[uaa0, uaa1, uaa2, uaa3, uab0, uab1, uab2, uab3, uac0, uac1, uac2, uac3] 33 ∧ Lc w' b5 #[vaa0, vaa1, vaa2, vaa3, vab0, vab1, vab2, vab3, vac0, vac1, vac2, vac3] 33) [(true, 0), (true, 1), (true, 2), (true, 3), (true, 4), (true, 5), (false, 6), (true, 7)] (by kernel_rfl) (by kernel_rfl) (by kernel_rfl) (by decide) (fun _ _ _ _ _ h => h) ⟨L3, L5⟩ ?_
  refine ord_pure (some 10) (.int .i64 1) rfl rfl rfl (fun w' hS => (rvk (by kernel_rfl))) ?_
  simp only [p1, p2, p3, p4]
  refine ord_pure (some 11) (.pointer (some ⟨b3, 4, none⟩)) rfl rfl rfl (fun w' hS => (rvk (by kernel_rfl))) ?_
  simp only [p1, p2, p3, p4]
  refine ord_pure (some 12) (.agg #[uab0, uab1, uab2, uab3]) rfl rfl rfl (fun w' hS => (rv_load 31 _ b3 4 _ _ [uab0, uab1, uab2, uab3] rfl rfl hS.1 rfl (by kernel_rfl))) ?_
  simp only [p1, p2, p3, p4]
  refine ord_pure (some 13) (.int .i64 1) rfl rfl rfl (fun w' hS => (rvk (by kernel_rfl))) ?_
  simp only [p1, p2, p3, p4]
  refine ord_pure (some 14) (.pointer (some ⟨b5, 4, none⟩)) rfl rfl rfl (fun w' hS => (rvk (by kernel_rfl))) ?_
  simp only [p1, p2, p3, p4]
  refine ord_pure (some 15) (.agg #[vab0, vab1, vab2, vab3]) rfl rfl rfl (fun w' hS => (rv_load 31 _ b5 4 _ _ [vab0, vab1, vab2, vab3] rfl rfl hS.2 rfl (by kernel_rfl))) ?_
  simp only [p1, p2, p3, p4]
  refine ord_eff rfl rfl (fun K32 k32 => ?_)
  have kq34 := g3.kp.trans (g5.kp.trans (gd17.kp.trans (g19.kp.trans gd31.kp)))
  replace hua2 := hua2.kp kq34
  replace hva2 := hva2.kp kq34
  refine eff_call (some 16) rfl (by kernel_rfl) (compare_r hua2 hva2 (by omega)) ?_
  rintro e33 w33 ⟨rfl, g33⟩
  refine ⟨_, rfl, ?_⟩
  replace hB := Gr.trans hB g33
  replace L3 := L3.gr g33
  replace L5 := L5.gr g33
  refine k32 _ _ ⟨L3, L5⟩ ?_
  try clear k32 K32
  simp only [p1, p2, p3, p4]
  refine ord_pure (some 6) (.int .i64 (rcmp a2 c2)) rfl rfl rfl (fun w' hS => (rvk (by kernel_rfl))) ?_
  simp only [p1, p2, p3, p4]
  refine ord_nil ?_
  refine k26 _ _ ?_
  try clear k26 K26
  refine wp_seq_k (fun K35 k35 => ?_)
  refine wp_region ?_
  simp only [List.size_toArray, List.length_cons, List.length_nil, Nat.reduceAdd, List.range, List.range.loop]
  refine sq_val (some 17) (.int .i64 (rcmp a2 c2)) rfl rfl (by kernel_rfl) (rvk (by kernel_rfl)) ?_
  simp only [p1, p2, p3, p4]
  refine sq_val (some 18) (.bool true) rfl rfl (by kernel_rfl) (RunV.bool (x := (rcmp a2 c2 != (0 : Int))) (rvk (by kernel_rfl)) e2) ?_
  simp only [p1, p2, p3, p4]
  refine sq_nil ?_
  refine k35 _ _ ?_
  try clear k35 K35
  refine wp_cond_true rfl ?_
  refine wp_seq_k (fun K36 k36 => ?_)
  refine wp_region ?_
  simp only [List.size_toArray, List.length_cons, List.length_nil, Nat.reduceAdd, List.range, List.range.loop]
  refine sq_val (some 19) (.int .i64 (rcmp a2 c2)) rfl rfl (by kernel_rfl) (rvk (by kernel_rfl)) ?_
  simp only [p1, p2, p3, p4]
  refine sq_val (some 4) (.int .i64 (rcmp a2 c2)) rfl rfl (by kernel_rfl) (rvk (by kernel_rfl)) ?_
  simp only [p1, p2, p3, p4]
  refine sq_nil ?_
  refine k36 _ _ ?_
  try clear k36 K36
  refine wp_ret ?_
  simp only [Exit.then, Exit.inBlock]
  refine bodyPost_ret (v := (.int .i64 (rcmp a2 c2))) (ret_tmp rfl rfl) rfl ⟨?_, hB⟩
  exact rfl

set_option maxRecDepth 100000 in
set_option maxHeartbeats 1000000 in
theorem vcomp_3 {k m : Nat} {uaa0 uaa1 uaa2 uaa3 uab0 uab1 uab2 uab3 uac0 uac1 uac2 uac3 : Value} {a1 a2 a3 : Rat} {vaa0 vaa1 vaa2 vaa3 vab0 vab1 vab2 vab3 vac0 vac1 vac2 vac3 : Value} {c1 c2 c3 : Rat} {w : World} (hua1 : IsRat w k uaa0 uaa1 uaa2 uaa3 a1) (hua2 : IsRat w k uab0 uab1 uab2 uab3 a2) (hua3 : IsRat w k uac0 uac1 uac2 uac3 a3) (hva1 : IsRat w m vaa0 vaa1 vaa2 vaa3 c1) (hva2 : IsRat w m vab0 vab1 vab2 vab3 c2) (hva3 : IsRat w m vac0 vac1 vac2 vac3 c3) (_hk : k + m ≤ 100000) (e1 : (rcmp a1 c1 != (0 : Int)) = false) (e2 : (rcmp a2 c2 != (0 : Int)) = false) (e3 : (rcmp a3 c3 != (0 : Int)) = true) :
    Calls Tryd.prog 42 #[(.agg #[uaa0, uaa1, uaa2, uaa3, uab0, uab1, uab2, uab3, uac0, uac1, uac2, uac3]), (.agg #[vaa0, vaa1, vaa2, vaa3, vab0, vab1, vab2, vab3, vac0, vac1, vac2, vac3])] w fun e w' => e = .returned (.int .i64 (rcmp a3 c3)) ∧ Gr w w' := by
  go_enter Tryd.func42, Tryd.ntmps42
  have hB := Gr.refl w
  refine wp_seq_k (fun K1 k1 => ?_)
  refine wp_region ?_
  simp only [List.size_toArray, List.length_cons, List.length_nil, Nat.reduceAdd, List.range, List.range.loop]
  refine sq_eff rfl (by kernel_rfl) (fun K2 k2 => ?_)
  refine eff_box 33 _ (.agg #[uaa0, uaa1, uaa2, uaa3, uab0, uab1, uab2, uab3, uac0, uac1, uac2, uac3]) #[uaa0, uaa1, uaa2, uaa3, uab0, uab1, uab2, uab3, uac0, uac1, uac2, uac3] (some 2) rfl rfl rfl rfl (fun b3 w3 g3 L3 q3 => ?_)
  replace q3 := Nat.le_trans (Below.size hB) q3
  replace hB := Gr.trans hB g3
  refine k2 _ _ ?_
  try clear k2 K2
  simp only [p1, p2, p3, p4]
  refine sq_eff rfl (by kernel_rfl) (fun K4 k4 => ?_)
  refine eff_box 33 _ (.agg #[vaa0, vaa1, vaa2, vaa3, vab0, vab1, vab2, vab3, vac0, vac1, vac2, vac3]) #[vaa0, vaa1, vaa2, vaa3, vab0, vab1, vab2, vab3, vac0, vac1, vac2, vac3] (some 3) rfl rfl rfl rfl (fun b5 w5 g5 L5 q5 => ?_)
  have ne3_5 := L3.ne q5
  replace q5 := Nat.le_trans (Below.size hB) q5
  replace hB := Gr.trans hB g5
  refine k4 _ _ ?_
  try clear k4 K4
  simp only [p1, p2, p3, p4]
  refine sq_val (some 4) (.int .i64 0) rfl rfl (by kernel_rfl) (rvk (by kernel_rfl)) ?_
  simp only [p1, p2, p3, p4]
  refine sq_nil ?_
  refine k1 _ _ ?_
  try clear k1 K1
  refine wp_seq_k (fun K6 k6 => ?_)
  refine wp_seq_k (fun K7 k7 => ?_)
  refine wp_region ?_
  simp only [List.size_toArray, List.length_cons, List.length_nil, Nat.reduceAdd, List.range, List.range.loop]
  refine sq_val (some 7) (.int .i64 0) rfl rfl (by kernel_rfl) (rvk (by kernel_rfl)) ?_
  simp only [p1, p2, p3, p4]
  refine sq_nil ?_
  refine k7 _ _ ?_
  try clear k7 K7
  refine wp_block ?_
  refine wp_loop_rounds 4 ?_
  show Code.wp _ _ _ _ _
  refine wp_seq_k (fun K8 k8 => ?_)
  refine wp_region ?_
  simp only [List.size_toArray, List.length_cons, List.length_nil, Nat.reduceAdd, List.range, List.range.loop]
  refine sq_val (some 8) (.bool true) rfl rfl (by kernel_rfl) (rvk (by kernel_rfl)) ?_
  simp only [p1, p2, p3, p4]
  refine sq_nil ?_
  refine k8 _ _ ?_
  try clear k8 K8
  refine wp_seq_k (fun K9 k9 => ?_)
  refine wp_cond_true rfl ?_
  refine wp_skip ?_
  refine k9 _ _ ?_
  try clear k9 K9
  refine wp_seq_k (fun K10 k10 => ?_)
  refine wp_block ?_
  refine wp_seq_k (fun K11 k11 => ?_)
  refine wp_region ?_
  simp only [List.size_toArray, List.length_cons, List.length_nil, Nat.reduceAdd, List.range, List.range.loop]
  refine sq_val (some 9) (.int .i64 0) rfl rfl (by kernel_rfl) (rvk (by kernel_rfl)) ?_
  simp only [p1, p2, p3, p4]
  refine sq_val (some 5) (.int .i64 0) rfl rfl (by kernel_rfl) (rvk (by kernel_rfl)) ?_
  simp only [p1, p2, p3, p4]
  refine sq_nil ?_
  refine k11 _ _ ?_
  try clear k11 K11
  refine wp_seq_k (fun K12 k12 => ?_)
  have gd17 := Gr.drew w5
  replace hB := Gr.trans hB gd17
  replace L3 := L3.gr (g5.trans gd17)
  replace L5 := L5.gr gd17
  refine wp_region_ord (fun w' => Lc w' b3 #[uaa0, uaa1, uaa2, uaa3, uab0, uab1, uab2, uab3, uac0, uac1, uac2, uac3] 33 ∧ Lc w' b5 #[vaa0, vaa1, vaa2, vaa3, vab0, vab1, vab2, vab3, vac0, vac1, vac2, vac3] 33) [(true, 0), (true, 1), (true, 2), (true, 3), (true, 4), (true, 5), (false, 6), (true, 7)] (by kernel_rfl) (by kernel_rfl) (by kernel_rfl) (by decide) (fun _ _ _ _ _ h => h) ⟨L3, L5⟩ ?_
  refine ord_pure (some 10) (.int .i64 0) rfl rfl rfl (fun w' hS => (rvk (by kernel_rfl))) ?_
  simp only [p1, p2, p3, p4]
  refine ord_pure (some 11) (.pointer (some ⟨b3, 0, none⟩)) rfl rfl rfl (fun w' hS => (rvk (by kernel_rfl))) ?_
  simp only [p1, p2, p3, p4]
  refine ord_pure (some 12) (.agg #[uaa0, uaa1, uaa2, uaa3]) rfl rfl rfl (fun w' hS => (rv_load 31 _ b3 0 _ _ [uaa0, uaa1, uaa2, uaa3] rfl rfl hS.1 rfl (by kernel_rfl))) ?_
  simp only [p1, p2, p3, p4]
  refine ord_pure (some 13) (.int .i64 0) rfl rfl rfl (fun w' hS => (rvk (by kernel_rfl))) ?_
  simp only [p1, p2, p3, p4]
  refine ord_pure (some 14) (.pointer (some ⟨b5, 0, none⟩)) rfl rfl rfl (fun w' hS => (rvk (by kernel_rfl))) ?_
  simp only [p1, p2, p3, p4]
  refine ord_pure (some 15) (.agg #[vaa0, vaa1, vaa2, vaa3]) rfl rfl rfl (fun w' hS => (rv_load 31 _ b5 0 _ _ [vaa0, vaa1, vaa2, vaa3] rfl rfl hS.2 rfl (by kernel_rfl))) ?_
  simp only [p1, p2, p3, p4]
  refine ord_eff rfl rfl (fun K18 k18 => ?_)
  have kq20 := g3.kp.trans (g5.kp.trans gd17.kp)
  replace hua1 := hua1.kp kq20
  replace hva1 := hva1.kp kq20
  refine eff_call (some 16) rfl (by kernel_rfl) (compare_r hua1 hva1 (by omega)) ?_
  rintro e19 w19 ⟨rfl, g19⟩
  refine ⟨_, rfl, ?_⟩
  replace hB := Gr.trans hB g19
  replace L3 := L3.gr g19
  replace L5 := L5.gr g19
  refine k18 _ _ ⟨L3, L5⟩ ?_
  try clear k18 K18
  simp only [p1, p2, p3, p4]
  refine ord_pure (some 6) (.int .i64 (rcmp a1 c1)) rfl rfl rfl (fun w' hS => (rvk (by kernel_rfl))) ?_
  simp only [p1, p2, p3, p4]
  refine ord_nil ?_
  refine k12 _ _ ?_
  try clear k12 K12
  refine wp_seq_k (fun K21 k21 => ?_)
  refine wp_region ?_
  simp only [List.size_toArray, List.length_cons, List.length_nil, Nat.reduceAdd, List.range, List.range.loop]
  refine sq_val (some 17) (.int .i64 (rcmp a1 c1)) rfl rfl (by kernel_rfl) (rvk (by kernel_rfl)) ?_
  simp only [p1, p2, p3, p4]
  refine sq_val (some 18) (.bool false) rfl rfl (by kernel_rfl) (RunV.bool (x := (rcmp a1 c1 != (0 : Int))) (rvk (by kernel_rfl)) e1) ?_
  simp only [p1, p2, p3, p4]
  refine sq_nil ?_
  refine k21 _ _ ?_
  try clear k21 K21
  refine wp_cond_false rfl ?_
  refine wp_skip ?_
  refine k10 _ _ ?_
  try clear k10 K10
  refine wp_region ?_
  simp only [List.size_toArray, List.length_cons, List.length_nil, Nat.reduceAdd, List.range, List.range.loop]
  refine sq_val (some 20) (.int .i64 1) rfl rfl (by kernel_rfl) (rvk (by kernel_rfl)) ?_
  simp only [p1, p2, p3, p4]
  refine sq_val (some 7) (.int .i64 1) rfl rfl (by kernel_rfl) (rvk (by kernel_rfl)) ?_
  simp only [p1, p2, p3, p4]
  refine sq_nil ?_
  show Code.rounds _ _ _ _ _ _
  show Code.wp _ _ _ _ _
  refine wp_seq_k (fun K22 k22 => ?_)
  refine wp_region ?_
  simp only [List.size_toArray, List.length_cons, List.length_nil, Nat.reduceAdd, List.range, List.range.loop]
  refine sq_val (some 8) (.bool true) rfl rfl (by kernel_rfl) (rvk (by kernel_rfl)) ?_
  simp only [p1, p2, p3, p4]
  refine sq_nil ?_
  refine k22 _ _ ?_
  try clear k22 K22
  refine wp_seq_k (fun K23 k23 => ?_)
  refine wp_cond_true rfl ?_
  refine wp_skip ?_
  refine k23 _ _ ?_
  try clear k23 K23
  refine wp_seq_k (fun K24 k24 => ?_)
  refine wp_block ?_
  refine wp_seq_k (fun K25 k25 => ?_)
  refine wp_region ?_
  simp only [List.size_toArray, List.length_cons, List.length_nil, Nat.reduceAdd, List.range, List.range.loop]
  refine sq_val (some 9) (.int .i64 1) rfl rfl (by kernel_rfl) (rvk (by kernel_rfl)) ?_
  simp only [p1, p2, p3, p4]
  refine sq_val (some 5) (.int .i64 1) rfl rfl (by kernel_rfl) (rvk (by kernel_rfl)) ?_
  simp only [p1, p2, p3, p4]
  refine sq_nil ?_
  refine k25 _ _ ?_
  try clear k25 K25
  refine wp_seq_k (fun K26 k26 => ?_)
  have gd31 := Gr.drew w19
  replace hB := Gr.trans hB gd31
  replace L3 := L3.gr gd31
  replace L5 := L5.gr gd31
  refine wp_region_ord (fun w' => Lc w' b3 #[uaa0, uaa1, uaa2, uaa3, uab0, uab1, uab2, uab3, uac0, uac1, uac2, uac3] 33 ∧ Lc w' b5 #[vaa0, vaa1, vaa2, vaa3, vab0, vab1, vab2, vab3, vac0, vac1, vac2, vac3] 33) [(true, 0), (true, 1), (true, 2), (true, 3), (true, 4), (true, 5), (false, 6), (true, 7)] (by kernel_rfl) (by kernel_rfl) (by kernel_rfl) (by decide) (fun _ _ _ _ _ h => h) ⟨L3, L5⟩ ?_
  refine ord_pure (some 10) (.int .i64 1) rfl rfl rfl (fun w' hS => (rvk (by kernel_rfl))) ?_
  simp only [p1, p2, p3, p4]
  refine ord_pure (some 11) (.pointer (some ⟨b3, 4, none⟩)) rfl rfl rfl (fun w' hS => (rvk (by kernel_rfl))) ?_
  simp only [p1, p2, p3, p4]
  refine ord_pure (some 12) (.agg #[uab0, uab1, uab2, uab3]) rfl rfl rfl (fun w' hS => (rv_load 31 _ b3 4 _ _ [uab0, uab1, uab2, uab3] rfl rfl hS.1 rfl (by kernel_rfl))) ?_
  simp only [p1, p2, p3, p4]
  refine ord_pure (some 13) (.int .i64 1) rfl rfl rfl (fun w' hS => (rvk (by kernel_rfl))) ?_
  simp only [p1, p2, p3, p4]
  refine ord_pure (some 14) (.pointer (some ⟨b5, 4, none⟩)) rfl rfl rfl (fun w' hS => (rvk (by kernel_rfl))) ?_
  simp only [p1, p2, p3, p4]
  refine ord_pure (some 15) (.agg #[vab0, vab1, vab2, vab3]) rfl rfl rfl (fun w' hS => (rv_load 31 _ b5 4 _ _ [vab0, vab1, vab2, vab3] rfl rfl hS.2 rfl (by kernel_rfl))) ?_
  simp only [p1, p2, p3, p4]
  refine ord_eff rfl rfl (fun K32 k32 => ?_)
  have kq34 := g3.kp.trans (g5.kp.trans (gd17.kp.trans (g19.kp.trans gd31.kp)))
  replace hua2 := hua2.kp kq34
  replace hva2 := hva2.kp kq34
  refine eff_call (some 16) rfl (by kernel_rfl) (compare_r hua2 hva2 (by omega)) ?_
  rintro e33 w33 ⟨rfl, g33⟩
  refine ⟨_, rfl, ?_⟩
  replace hB := Gr.trans hB g33
  replace L3 := L3.gr g33
  replace L5 := L5.gr g33
  refine k32 _ _ ⟨L3, L5⟩ ?_
  try clear k32 K32
  simp only [p1, p2, p3, p4]
  refine ord_pure (some 6) (.int .i64 (rcmp a2 c2)) rfl rfl rfl (fun w' hS => (rvk (by kernel_rfl))) ?_
  simp only [p1, p2, p3, p4]
  refine ord_nil ?_
  refine k26 _ _ ?_
  try clear k26 K26
  refine wp_seq_k (fun K35 k35 => ?_)
  refine wp_region ?_
  simp only [List.size_toArray, List.length_cons, List.length_nil, Nat.reduceAdd, List.range, List.range.loop]
  refine sq_val (some 17) (.int .i64 (rcmp a2 c2)) rfl rfl (by kernel_rfl) (rvk (by kernel_rfl)) ?_
  simp only [p1, p2, p3, p4]
  refine sq_val (some 18) (.bool false) rfl rfl (by kernel_rfl) (RunV.bool (x := (rcmp a2 c2 != (0 : Int))) (rvk (by kernel_rfl)) e2) ?_
  simp only [p1, p2, p3, p4]
  refine sq_nil ?_
  refine k35 _ _ ?_
  try clear k35 K35
  refine wp_cond_false rfl ?_
  refine wp_skip ?_
  refine k24 _ _ ?_
  try clear k24 K24
  refine wp_region ?_
  simp only [List.size_toArray, List.length_cons, List.length_nil, Nat.reduceAdd, List.range, List.range.loop]
  refine sq_val (some 20) (.int .i64 2) rfl rfl (by kernel_rfl) (rvk (by kernel_rfl)) ?_
  simp only [p1, p2, p3, p4]
  refine sq_val (some 7) (.int .i64 2) rfl rfl (by kernel_rfl) (rvk (by kernel_rfl)) ?_
  simp only [p1, p2, p3, p4]
  refine sq_nil ?_
  show Code.rounds _ _ _ _ _ _
  show Code.wp _ _ _ _ _
  refine wp_seq_k (fun K36 k36 => ?_)
  refine wp_region ?_
  simp only [List.size_toArray, List.length_cons, List.length_nil, Nat.reduceAdd, List.range, List.range.loop]
  refine sq_val (some 8) (.bool true) rfl rfl (by kernel_rfl) (rvk (by kernel_rfl)) ?_
  simp only [p1, p2, p3, p4]
  refine sq_nil ?_
  refine k36 _ _ ?_
  try clear k36 K36
  refine wp_seq_k (fun K37 k37 => ?_)
  refine wp_cond_true rfl ?_
  refine wp_skip ?_
  refine k37 _ _ ?_
  try clear k37 K37
  refine wp_seq_k (fun K38 k38 => ?_)
  refine wp_block ?_
  refine wp_seq_k (fun K39 k39 => ?_)
  refine wp_region ?_
  simp only [List.size_toArray, List.length_cons, List.length_nil, Nat.reduceAdd, List.range, List.range.loop]
  refine sq_val (some 9) (.int .i64 2) rfl rfl (by kernel_rfl) (rvk (by kernel_rfl)) ?_
  simp only [p1, p2, p3, p4]
  refine sq_val (some 5) (.int .i64 2) rfl rfl (by kernel_rfl) (rvk (by kernel_rfl)) ?_
  simp only [p1, p2, p3, p4]
  refine sq_nil ?_
  refine k39 _ _ ?_
  try clear k39 K39
  refine wp_seq_k (fun K40 k40 => ?_)
  have gd45 := Gr.drew w33
  replace hB := Gr.trans hB gd45
  replace L3 := L3.gr gd45
  replace L5 := L5.gr gd45
  refine wp_region_ord (fun w' => Lc w' b3 #[uaa0, uaa1, uaa2, uaa3, uab0, uab1, uab2, uab3, uac0, uac1, uac2, uac3] 33 ∧ Lc w' b5 #[vaa0, vaa1, vaa2, vaa3, vab0, vab1, vab2, vab3, vac0, vac1, vac2, vac3] 33) [(true, 0), (true, 1), (true, 2), (true, 3), (true, 4), (true, 5), (false, 6), (true, 7)] (by kernel_rfl) (by kernel_rfl) (by kernel_rfl) (by decide) (fun _ _ _ _ _ h => h) ⟨L3, L5⟩ ?_
  refine ord_pure (some 10) (.int .i64 2) rfl rfl rfl (fun w' hS => (rvk (by kernel_rfl))) ?_
  simp only [p1, p2, p3, p4]
  refine ord_pure (some 11) (.pointer (some ⟨b3, 8, none⟩)) rfl rfl rfl (fun w' hS => (rvk (by kernel_rfl))) ?_
  simp only [p1, p2, p3, p4]
  refine ord_pure (some 12) (.agg #[uac0, uac1, uac2, uac3]) rfl rfl rfl (fun w' hS => (rv_load 31 _ b3 8 _ _ [uac0, uac1, uac2, uac3] rfl rfl hS.1 rfl (by kernel_rfl))) ?_
  simp only [p1, p2, p3, p4]
  refine ord_pure (some 13) (.int .i64 2) rfl rfl rfl (fun w' hS => (rvk (by kernel_rfl))) ?_
  simp only [p1, p2, p3, p4]
  refine ord_pure (some 14) (.pointer (some ⟨b5, 8, none⟩)) rfl rfl rfl (fun w' hS => (rvk (by kernel_rfl))) ?_
  simp only [p1, p2, p3, p4]
  refine ord_pure (some 15) (.agg #[vac0, vac1, vac2, vac3]) rfl rfl rfl (fun w' hS => (rv_load 31 _ b5 8 _ _ [vac0, vac1, vac2, vac3] rfl rfl hS.2 rfl (by kernel_rfl))) ?_
  simp only [p1, p2, p3, p4]
  refine ord_eff rfl rfl (fun K46 k46 => ?_)
  have kq48 := g3.kp.trans (g5.kp.trans (gd17.kp.trans (g19.kp.trans (gd31.kp.trans (g33.kp.trans gd45.kp)))))
  replace hua3 := hua3.kp kq48
  replace hva3 := hva3.kp kq48
  refine eff_call (some 16) rfl (by kernel_rfl) (compare_r hua3 hva3 (by omega)) ?_
  rintro e47 w47 ⟨rfl, g47⟩
  refine ⟨_, rfl, ?_⟩
  replace hB := Gr.trans hB g47
  replace L3 := L3.gr g47
  replace L5 := L5.gr g47
  refine k46 _ _ ⟨L3, L5⟩ ?_
  try clear k46 K46
  simp only [p1, p2, p3, p4]
  refine ord_pure (some 6) (.int .i64 (rcmp a3 c3)) rfl rfl rfl (fun w' hS => (rvk (by kernel_rfl))) ?_
  simp only [p1, p2, p3, p4]
  refine ord_nil ?_
  refine k40 _ _ ?_
  try clear k40 K40
  refine wp_seq_k (fun K49 k49 => ?_)
  refine wp_region ?_
  simp only [List.size_toArray, List.length_cons, List.length_nil, Nat.reduceAdd, List.range, List.range.loop]
  refine sq_val (some 17) (.int .i64 (rcmp a3 c3)) rfl rfl (by kernel_rfl) (rvk (by kernel_rfl)) ?_
  simp only [p1, p2, p3, p4]
  refine sq_val (some 18) (.bool true) rfl rfl (by kernel_rfl) (RunV.bool (x := (rcmp a3 c3 != (0 : Int))) (rvk (by kernel_rfl)) e3) ?_
  simp only [p1, p2, p3, p4]
  refine sq_nil ?_
  refine k49 _ _ ?_
  try clear k49 K49
  refine wp_cond_true rfl ?_
  refine wp_seq_k (fun K50 k50 => ?_)
  refine wp_region ?_
  simp only [List.size_toArray, List.length_cons, List.length_nil, Nat.reduceAdd, List.range, List.range.loop]
  refine sq_val (some 19) (.int .i64 (rcmp a3 c3)) rfl rfl (by kernel_rfl) (rvk (by kernel_rfl)) ?_
  simp only [p1, p2, p3, p4]
  refine sq_val (some 4) (.int .i64 (rcmp a3 c3)) rfl rfl (by kernel_rfl) (rvk (by kernel_rfl)) ?_
  simp only [p1, p2, p3, p4]
  refine sq_nil ?_
  refine k50 _ _ ?_
  try clear k50 K50
  refine wp_ret ?_
  simp only [Exit.then, Exit.inBlock]
  refine bodyPost_ret (v := (.int .i64 (rcmp a3 c3))) (ret_tmp rfl rfl) rfl ⟨?_, hB⟩
  exact rfl

set_option maxRecDepth 100000 in
set_option maxHeartbeats 1000000 in
theorem vcomp_4 {k m : Nat} {uaa0 uaa1 uaa2 uaa3 uab0 uab1 uab2 uab3 uac0 uac1 uac2 uac3 : Value} {a1 a2 a3 : Rat} {vaa0 vaa1 vaa2 vaa3 vab0 vab1 vab2 vab3 vac0 vac1 vac2 vac3 : Value} {c1 c2 c3 : Rat} {w : World} (hua1 : IsRat w k uaa0 uaa1 uaa2 uaa3 a1) (hua2 : IsRat w k uab0 uab1 uab2 uab3 a2) (hua3 : IsRat w k uac0 uac1 uac2 uac3 a3) (hva1 : IsRat w m vaa0 vaa1 vaa2 vaa3 c1) (hva2 : IsRat w m vab0 vab1 vab2 vab3 c2) (hva3 : IsRat w m vac0 vac1 vac2 vac3 c3) (_hk : k + m ≤ 100000) (e1 : (rcmp a1 c1 != (0 : Int)) = false) (e2 : (rcmp a2 c2 != (0 : Int)) = false) (e3 : (rcmp a3 c3 != (0 : Int)) = false) :
    Calls Tryd.prog 42 #[(.agg #[uaa0, uaa1, uaa2, uaa3, uab0, uab1, uab2, uab3, uac0, uac1, uac2, uac3]), (.agg #[vaa0, vaa1, vaa2, vaa3, vab0, vab1, vab2, vab3, vac0, vac1, vac2, vac3])] w fun e w' => e = .returned (.int .i64 0) ∧ Gr w w' := by
  go_enter Tryd.func42, Tryd.ntmps42
  have hB := Gr.refl w
  refine wp_seq_k (fun K1 k1 => ?_)
  refine wp_region ?_
  simp only [List.size_toArray, List.length_cons, List.length_nil, Nat.reduceAdd, List.range, List.range.loop]
  refine sq_eff rfl (by kernel_rfl) (fun K2 k2 => ?_)
  refine eff_box 33 _ (.agg #[uaa0, uaa1, uaa2, uaa3, uab0, uab1, uab2, uab3, uac0, uac1, uac2, uac3]) #[uaa0, uaa1, uaa2, uaa3, uab0, uab1, uab2, uab3, uac0, uac1, uac2, uac3] (some 2) rfl rfl rfl rfl (fun b3 w3 g3 L3 q3 => ?_)
  replace q3 := Nat.le_trans (Below.size hB) q3
  replace hB := Gr.trans hB g3
  refine k2 _ _ ?_
  try clear k2 K2
  simp only [p1, p2, p3, p4]
  refine sq_eff rfl (by kernel_rfl) (fun K4 k4 => ?_)
  refine eff_box 33 _ (.agg #[vaa0, vaa1, vaa2, vaa3, vab0, vab1, vab2, vab3, vac0, vac1, vac2, vac3]) #[vaa0, vaa1, vaa2, vaa3, vab0, vab1, vab2, vab3, vac0, vac1, vac2, vac3] (some 3) rfl rfl rfl rfl (fun b5 w5 g5 L5 q5 => ?_)
  have ne3_5 := L3.ne q5
  replace q5 := Nat.le_trans (Below.size hB) q5
  replace hB := Gr.trans hB g5
  refine k4 _ _ ?_
  try clear k4 K4
  simp only [p1, p2, p3, p4]
  refine sq_val (some 4) (.int .i64 0) rfl rfl (by kernel_rfl) (rvk (by kernel_rfl)) ?_
  simp only [p1, p2, p3, p4]
  refine sq_nil ?_
  refine k1 _ _ ?_
  try clear k1 K1
  refine wp_seq_k (fun K6 k6 => ?_)
  refine wp_seq_k (fun K7 k7 => ?_)
  refine wp_region ?_
  simp only [List.size_toArray, List.length_cons, List.length_nil, Nat.reduceAdd, List.range, List.range.loop]
  refine sq_val (some 7) (.int .i64 0) rfl rfl (by kernel_rfl) (rvk (by kernel_rfl)) ?_
  simp only [p1, p2, p3, p4]
  refine sq_nil ?_
  refine k7 _ _ ?_
  try clear k7 K7
  refine wp_block ?_
  refine wp_loop_rounds 4 ?_
  show Code.wp _ _ _ _ _
  refine wp_seq_k (fun K8 k8 => ?_)
  refine wp_region ?_
  simp only [List.size_toArray, List.length_cons, List.length_nil, Nat.reduceAdd, List.range, List.range.loop]
  refine sq_val (some 8) (.bool true) rfl rfl (by kernel_rfl) (rvk (by kernel_rfl)) ?_
  simp only [p1, p2, p3, p4]
  refine sq_nil ?_
  refine k8 _ _ ?_
  try clear k8 K8
  refine wp_seq_k (fun K9 k9 => ?_)
  refine wp_cond_true rfl ?_
  refine wp_skip ?_
  refine k9 _ _ ?_
  try clear k9 K9
  refine wp_seq_k (fun K10 k10 => ?_)
  refine wp_block ?_
  refine wp_seq_k (fun K11 k11 => ?_)
  refine wp_region ?_
  simp only [List.size_toArray, List.length_cons, List.length_nil, Nat.reduceAdd, List.range, List.range.loop]
  refine sq_val (some 9) (.int .i64 0) rfl rfl (by kernel_rfl) (rvk (by kernel_rfl)) ?_
  simp only [p1, p2, p3, p4]
  refine sq_val (some 5) (.int .i64 0) rfl rfl (by kernel_rfl) (rvk (by kernel_rfl)) ?_
  simp only [p1, p2, p3, p4]
  refine sq_nil ?_
  refine k11 _ _ ?_
  try clear k11 K11
  refine wp_seq_k (fun K12 k12 => ?_)
  have gd17 := Gr.drew w5
  replace hB := Gr.trans hB gd17
  replace L3 := L3.gr (g5.trans gd17)
  replace L5 := L5.gr gd17
  refine wp_region_ord (fun w' => Lc w' b3 #[uaa0, uaa1, uaa2, uaa3, uab0, uab1, uab2, uab3, uac0, uac1, uac2, uac3] 33 ∧ Lc w' b5 #[vaa0, vaa1, vaa2, vaa3, vab0, vab1, vab2, vab3, vac0, vac1, vac2, vac3] 33) [(true, 0), (true, 1), (true, 2), (true, 3), (true, 4), (true, 5), (false, 6), (true, 7)] (by kernel_rfl) (by kernel_rfl) (by kernel_rfl) (by decide) (fun _ _ _ _ _ h => h) ⟨L3, L5⟩ ?_
  refine ord_pure (some 10) (.int .i64 0) rfl rfl rfl (fun w' hS => (rvk (by kernel_rfl))) ?_
  simp only [p1, p2, p3, p4]
  refine ord_pure (some 11) (.pointer (some ⟨b3, 0, none⟩)) rfl rfl rfl (fun w' hS => (rvk (by kernel_rfl))) ?_
  simp only [p1, p2, p3, p4]
  refine ord_pure (some 12) (.agg #[uaa0, uaa1, uaa2, uaa3]) rfl rfl rfl (fun w' hS => (rv_load 31 _ b3 0 _ _ [uaa0, uaa1, uaa2, uaa3] rfl rfl hS.1 rfl (by kernel_rfl))) ?_
  simp only [p1, p2, p3, p4]
  refine ord_pure (some 13) (.int .i64 0) rfl rfl rfl (fun w' hS => (rvk (by kernel_rfl))) ?_
  simp only [p1, p2, p3, p4]
  refine ord_pure (some 14) (.pointer (some ⟨b5, 0, none⟩)) rfl rfl rfl (fun w' hS => (rvk (by kernel_rfl))) ?_
  simp only [p1, p2, p3, p4]
  refine ord_pure (some 15) (.agg #[vaa0, vaa1, vaa2, vaa3]) rfl rfl rfl (fun w' hS => (rv_load 31 _ b5 0 _ _ [vaa0, vaa1, vaa2, vaa3] rfl rfl hS.2 rfl (by kernel_rfl))) ?_
  simp only [p1, p2, p3, p4]
  refine ord_eff rfl rfl (fun K18 k18 => ?_)
  have kq20 := g3.kp.trans (g5.kp.trans gd17.kp)
  replace hua1 := hua1.kp kq20
  replace hva1 := hva1.kp kq20
  refine eff_call (some 16) rfl (by kernel_rfl) (compare_r hua1 hva1 (by omega)) ?_
  rintro e19 w19 ⟨rfl, g19⟩
  refine ⟨_, rfl, ?_⟩
  replace hB := Gr.trans hB g19
  replace L3 := L3.gr g19
  replace L5 := L5.gr g19
  refine k18 _ _ ⟨L3, L5⟩ ?_
  try clear k18 K18
  simp only [p1, p2, p3, p4]
  refine ord_pure (some 6) (.int .i64 (rcmp a1 c1)) rfl rfl rfl (fun w' hS => (rvk (by kernel_rfl))) ?_
  simp only [p1, p2, p3, p4]
  refine ord_nil ?_
  refine k12 _ _ ?_
  try clear k12 K12
  refine wp_seq_k (fun K21 k21 => ?_)
  refine wp_region ?_
  simp only [List.size_toArray, List.length_cons, List.length_nil, Nat.reduceAdd, List.range, List.range.loop]
  refine sq_val (some 17) (.int .i64 (rcmp a1 c1)) rfl rfl (by kernel_rfl) (rvk (by kernel_rfl)) ?_
  simp only [p1, p2, p3, p4]
  refine sq_val (some 18) (.bool false) rfl rfl (by kernel_rfl) (RunV.bool (x := (rcmp a1 c1 != (0 : Int))) (rvk (by kernel_rfl)) e1) ?_
  simp only [p1, p2, p3, p4]
  refine sq_nil ?_
  refine k21 _ _ ?_
  try clear k21 K21
  refine wp_cond_false rfl ?_
  refine wp_skip ?_
  refine k10 _ _ ?_
  try clear k10 K10
  refine wp_region ?_
  simp only [List.size_toArray, List.length_cons, List.length_nil, Nat.reduceAdd, List.range, List.range.loop]
  refine sq_val (some 20) (.int .i64 1) rfl rfl (by kernel_rfl) (rvk (by kernel_rfl)) ?_
  simp only [p1, p2, p3, p4]
  refine sq_val (some 7) (.int .i64 1) rfl rfl (by kernel_rfl) (rvk (by kernel_rfl)) ?_
  simp only [p1, p2, p3, p4]
  refine sq_nil ?_
  show Code.rounds _ _ _ _ _ _
  show Code.wp _ _ _ _ _
  refine wp_seq_k (fun K22 k22 => ?_)
  refine wp_region ?_
  simp only [List.size_toArray, List.length_cons, List.length_nil, Nat.reduceAdd, List.range, List.range.loop]
  refine sq_val (some 8) (.bool true) rfl rfl (by kernel_rfl) (rvk (by kernel_rfl)) ?_
  simp only [p1, p2, p3, p4]
  refine sq_nil ?_
  refine k22 _ _ ?_
  try clear k22 K22
  refine wp_seq_k (fun K23 k23 => ?_)
  refine wp_cond_true rfl ?_
  refine wp_skip ?_
  refine k23 _ _ ?_
  try clear k23 K23
  refine wp_seq_k (fun K24 k24 => ?_)
  refine wp_block ?_
  refine wp_seq_k (fun K25 k25 => ?_)
  refine wp_region ?_
  simp only [List.size_toArray, List.length_cons, List.length_nil, Nat.reduceAdd, List.range, List.range.loop]
  refine sq_val (some 9) (.int .i64 1) rfl rfl (by kernel_rfl) (rvk (by kernel_rfl)) ?_
  simp only [p1, p2, p3, p4]
  refine sq_val (some 5) (.int .i64 1) rfl rfl (by kernel_rfl) (rvk (by kernel_rfl)) ?_
  simp only [p1, p2, p3, p4]
  refine sq_nil ?_
  refine k25 _ _ ?_
  try clear k25 K25
  refine wp_seq_k (fun K26 k26 => ?_)
  have gd31 := Gr.drew w19
  replace hB := Gr.trans hB gd31
  replace L3 := L3.gr gd31
  replace L5 := L5.gr gd31
  refine wp_region_ord (fun w' => Lc w' b3 #[uaa0, uaa1, uaa2, uaa3, uab0, uab1, uab2, uab3, uac0, uac1, uac2, uac3] 33 ∧ Lc w' b5 #[vaa0, vaa1, vaa2, vaa3, vab0, vab1, vab2, vab3, vac0, vac1, vac2, vac3] 33) [(true, 0), (true, 1), (true, 2), (true, 3), (true, 4), (true, 5), (false, 6), (true, 7)] (by kernel_rfl) (by kernel_rfl) (by kernel_rfl) (by decide) (fun _ _ _ _ _ h => h) ⟨L3, L5⟩ ?_
  refine ord_pure (some 10) (.int .i64 1) rfl rfl rfl (fun w' hS => (rvk (by kernel_rfl))) ?_
  simp only [p1, p2, p3, p4]
  refine ord_pure (some 11) (.pointer (some ⟨b3, 4, none⟩)) rfl rfl rfl (fun w' hS => (rvk (by kernel_rfl))) ?_
  simp only [p1, p2, p3, p4]
  refine ord_pure (some 12) (.agg #[uab0, uab1, uab2, uab3]) rfl rfl rfl (fun w' hS => (rv_load 31 _ b3 4 _ _ [uab0, uab1, uab2, uab3] rfl rfl hS.1 rfl (by kernel_rfl))) ?_
  simp only [p1, p2, p3, p4]
  refine ord_pure (some 13) (.int .i64 1) rfl rfl rfl (fun w' hS => (rvk (by kernel_rfl))) ?_
  simp only [p1, p2, p3, p4]
  refine ord_pure (some 14) (.pointer (some ⟨b5, 4, none⟩)) rfl rfl rfl (fun w' hS => (rvk (by kernel_rfl))) ?_
  simp only [p1, p2, p3, p4]
  refine ord_pure (some 15) (.agg #[vab0, vab1, vab2, vab3]) rfl rfl rfl (fun w' hS => (rv_load 31 _ b5 4 _ _ [vab0, vab1, vab2, vab3] rfl rfl hS.2 rfl (by kernel_rfl))) ?_
  simp only [p1, p2, p3, p4]
  refine ord_eff rfl rfl (fun K32 k32 => ?_)
  have kq34 := g3.kp.trans (g5.kp.trans (gd17.kp.trans (g19.kp.trans gd31.kp)))
  replace hua2 := hua2.kp kq34
  replace hva2 := hva2.kp kq34
  refine eff_call (some 16) rfl (by kernel_rfl) (compare_r hua2 hva2 (by omega)) ?_
  rintro e33 w33 ⟨rfl, g33⟩
  refine ⟨_, rfl, ?_⟩
  replace hB := Gr.trans hB g33
  replace L3 := L3.gr g33
  replace L5 := L5.gr g33
  refine k32 _ _ ⟨L3, L5⟩ ?_
  try clear k32 K32
  simp only [p1, p2, p3, p4]
  refine ord_pure (some 6) (.int .i64 (rcmp a2 c2)) rfl rfl rfl (fun w' hS => (rvk (by kernel_rfl))) ?_
  simp only [p1, p2, p3, p4]
  refine ord_nil ?_
  refine k26 _ _ ?_
  try clear k26 K26
  refine wp_seq_k (fun K35 k35 => ?_)
  refine wp_region ?_
  simp only [List.size_toArray, List.length_cons, List.length_nil, Nat.reduceAdd, List.range, List.range.loop]
  refine sq_val (some 17) (.int .i64 (rcmp a2 c2)) rfl rfl (by kernel_rfl) (rvk (by kernel_rfl)) ?_
  simp only [p1, p2, p3, p4]
  refine sq_val (some 18) (.bool false) rfl rfl (by kernel_rfl) (RunV.bool (x := (rcmp a2 c2 != (0 : Int))) (rvk (by kernel_rfl)) e2) ?_
  simp only [p1, p2, p3, p4]
  refine sq_nil ?_
  refine k35 _ _ ?_
  try clear k35 K35
  refine wp_cond_false rfl ?_
  refine wp_skip ?_
  refine k24 _ _ ?_
  try clear k24 K24
  refine wp_region ?_
  simp only [List.size_toArray, List.length_cons, List.length_nil, Nat.reduceAdd, List.range, List.range.loop]
  refine sq_val (some 20) (.int .i64 2) rfl rfl (by kernel_rfl) (rvk (by kernel_rfl)) ?_
  simp only [p1, p2, p3, p4]
  refine sq_val (some 7) (.int .i64 2) rfl rfl (by kernel_rfl) (rvk (by kernel_rfl)) ?_
  simp only [p1, p2, p3, p4]
  refine sq_nil ?_
  show Code.rounds _ _ _ _ _ _
  show Code.wp _ _ _ _ _
  refine wp_seq_k (fun K36 k36 => ?_)
  refine wp_region ?_
  simp only [List.size_toArray, List.length_cons, List.length_nil, Nat.reduceAdd, List.range, List.range.loop]
  refine sq_val (some 8) (.bool true) rfl rfl (by kernel_rfl) (rvk (by kernel_rfl)) ?_
  simp only [p1, p2, p3, p4]
  refine sq_nil ?_
  refine k36 _ _ ?_
  try clear k36 K36
  refine wp_seq_k (fun K37 k37 => ?_)
  refine wp_cond_true rfl ?_
  refine wp_skip ?_
  refine k37 _ _ ?_
  try clear k37 K37
  refine wp_seq_k (fun K38 k38 => ?_)
  refine wp_block ?_
  refine wp_seq_k (fun K39 k39 => ?_)
  refine wp_region ?_
  simp only [List.size_toArray, List.length_cons, List.length_nil, Nat.reduceAdd, List.range, List.range.loop]
  refine sq_val (some 9) (.int .i64 2) rfl rfl (by kernel_rfl) (rvk (by kernel_rfl)) ?_
  simp only [p1, p2, p3, p4]
  refine sq_val (some 5) (.int .i64 2) rfl rfl (by kernel_rfl) (rvk (by kernel_rfl)) ?_
  simp only [p1, p2, p3, p4]
  refine sq_nil ?_
  refine k39 _ _ ?_
  try clear k39 K39
  refine wp_seq_k (fun K40 k40 => ?_)
  have gd45 := Gr.drew w33
  replace hB := Gr.trans hB gd45
  replace L3 := L3.gr gd45
  replace L5 := L5.gr gd45
  refine wp_region_ord (fun w' => Lc w' b3 #[uaa0, uaa1, uaa2, uaa3, uab0, uab1, uab2, uab3, uac0, uac1, uac2, uac3] 33 ∧ Lc w' b5 #[vaa0, vaa1, vaa2, vaa3, vab0, vab1, vab2, vab3, vac0, vac1, vac2, vac3] 33) [(true, 0), (true, 1), (true, 2), (true, 3), (true, 4), (true, 5), (false, 6), (true, 7)] (by kernel_rfl) (by kernel_rfl) (by kernel_rfl) (by decide) (fun _ _ _ _ _ h => h) ⟨L3, L5⟩ ?_
  refine ord_pure (some 10) (.int .i64 2) rfl rfl rfl (fun w' hS => (rvk (by kernel_rfl))) ?_
  simp only [p1, p2, p3, p4]
  refine ord_pure (some 11) (.pointer (some ⟨b3, 8, none⟩)) rfl rfl rfl (fun w' hS => (rvk (by kernel_rfl))) ?_
  simp only [p1, p2, p3, p4]
  refine ord_pure (some 12) (.agg #[uac0, uac1, uac2, uac3]) rfl rfl rfl (fun w' hS => (rv_load 31 _ b3 8 _ _ [uac0, uac1, uac2, uac3] rfl rfl hS.1 rfl (by kernel_rfl))) ?_
  simp only [p1, p2, p3, p4]
  refine ord_pure (some 13) (.int .i64 2) rfl rfl rfl (fun w' hS => (rvk (by kernel_rfl))) ?_
  simp only [p1, p2, p3, p4]
  refine ord_pure (some 14) (.pointer (some ⟨b5, 8, none⟩)) rfl rfl rfl (fun w' hS => (rvk (by kernel_rfl))) ?_
  simp only [p1, p2, p3, p4]
  refine ord_pure (some 15) (.agg #[vac0, vac1, vac2, vac3]) rfl rfl rfl (fun w' hS => (rv_load 31 _ b5 8 _ _ [vac0, vac1, vac2, vac3] rfl rfl hS.2 rfl (by kernel_rfl))) ?_
  simp only [p1, p2, p3, p4]
  refine ord_eff rfl rfl (fun K46 k46 => ?_)
  have kq48 := g3.kp.trans (g5.kp.trans (gd17.kp.trans (g19.kp.trans (gd31.kp.trans (g33.kp.trans gd45.kp)))))
  replace hua3 := hua3.kp kq48
  replace hva3 := hva3.kp kq48
  refine eff_call (some 16) rfl (by kernel_rfl) (compare_r hua3 hva3 (by omega)) ?_
  rintro e47 w47 ⟨rfl, g47⟩
  refine ⟨_, rfl, ?_⟩
  replace hB := Gr.trans hB g47
  replace L3 := L3.gr g47
  replace L5 := L5.gr g47
  refine k46 _ _ ⟨L3, L5⟩ ?_
  try clear k46 K46
  simp only [p1, p2, p3, p4]
  refine ord_pure (some 6) (.int .i64 (rcmp a3 c3)) rfl rfl rfl (fun w' hS => (rvk (by kernel_rfl))) ?_
  simp only [p1, p2, p3, p4]
  refine ord_nil ?_
  refine k40 _ _ ?_
  try clear k40 K40
  refine wp_seq_k (fun K49 k49 => ?_)
  refine wp_region ?_
  simp only [List.size_toArray, List.length_cons, List.length_nil, Nat.reduceAdd, List.range, List.range.loop]
  refine sq_val (some 17) (.int .i64 (rcmp a3 c3)) rfl rfl (by kernel_rfl) (rvk (by kernel_rfl)) ?_
  simp only [p1, p2, p3, p4]
  refine sq_val (some 18) (.bool false) rfl rfl (by kernel_rfl) (RunV.bool (x := (rcmp a3 c3 != (0 : Int))) (rvk (by kernel_rfl)) e3) ?_
  simp only [p1, p2, p3, p4]
  refine sq_nil ?_
  refine k49 _ _ ?_
  try clear k49 K49
  refine wp_cond_false rfl ?_
  refine wp_skip ?_
  refine k38 _ _ ?_
  try clear k38 K38
  refine wp_region ?_
  simp only [List.size_toArray, List.length_cons, List.length_nil, Nat.reduceAdd, List.range, List.range.loop]
  refine sq_val (some 20) (.int .i64 3) rfl rfl (by kernel_rfl) (rvk (by kernel_rfl)) ?_
  simp only [p1, p2, p3, p4]
  refine sq_val (some 7) (.int .i64 3) rfl rfl (by kernel_rfl) (rvk (by kernel_rfl)) ?_
  simp only [p1, p2, p3, p4]
  refine sq_nil ?_
  show Code.rounds _ _ _ _ _ _
  show Code.wp _ _ _ _ _
  refine wp_seq_k (fun K50 k50 => ?_)
  refine wp_region ?_
  simp only [List.size_toArray, List.length_cons, List.length_nil, Nat.reduceAdd, List.range, List.range.loop]
  refine sq_val (some 8) (.bool false) rfl rfl (by kernel_rfl) (rvk (by kernel_rfl)) ?_
  simp only [p1, p2, p3, p4]
  refine sq_nil ?_
  refine k50 _ _ ?_
  try clear k50 K50
  refine wp_seq_k (fun K51 k51 => ?_)
  refine wp_cond_false rfl ?_
  refine wp_exit ?_
  simp only [Exit.then, Exit.inBlock, ↓reduceIte]
  refine k6 _ _ ?_
  try clear k6 K6
  refine wp_seq_k (fun K52 k52 => ?_)
  refine wp_region ?_
  simp only [List.size_toArray, List.length_cons, List.length_nil, Nat.reduceAdd, List.range, List.range.loop]
  refine sq_val (some 4) (.int .i64 0) rfl rfl (by kernel_rfl) (rvk (by kernel_rfl)) ?_
  simp only [p1, p2, p3, p4]
  refine sq_nil ?_
  refine k52 _ _ ?_
  try clear k52 K52
  refine wp_ret ?_
  refine bodyPost_ret (v := (.int .i64 0)) (ret_tmp rfl rfl) rfl ⟨?_, hB⟩
  exact rfl

theorem vcomp_v {k m : Nat} {uaa0 uaa1 uaa2 uaa3 uab0 uab1 uab2 uab3 uac0 uac1 uac2 uac3 : Value} {a1 a2 a3 : Rat} {vaa0 vaa1 vaa2 vaa3 vab0 vab1 vab2 vab3 vac0 vac1 vac2 vac3 : Value} {c1 c2 c3 : Rat} {w : World} (hua1 : IsRat w k uaa0 uaa1 uaa2 uaa3 a1) (hua2 : IsRat w k uab0 uab1 uab2 uab3 a2) (hua3 : IsRat w k uac0 uac1 uac2 uac3 a3) (hva1 : IsRat w m vaa0 vaa1 vaa2 vaa3 c1) (hva2 : IsRat w m vab0 vab1 vab2 vab3 c2) (hva3 : IsRat w m vac0 vac1 vac2 vac3 c3) (hk : k + m ≤ 100000) :
    Calls Tryd.prog 42 #[(.agg #[uaa0, uaa1, uaa2, uaa3, uab0, uab1, uab2, uab3, uac0, uac1, uac2, uac3]), (.agg #[vaa0, vaa1, vaa2, vaa3, vab0, vab1, vab2, vab3, vac0, vac1, vac2, vac3])] w fun e w' => e = .returned (.int .i64 (vcmp a1 a2 a3 c1 c2 c3)) ∧ Gr w w' := by
  unfold vcmp
  by_cases e1 : rcmp a1 c1 = 0
  · rw [if_pos e1]
    have d1 : (rcmp a1 c1 != (0 : Int)) = false := by simp [e1]
    by_cases e2 : rcmp a2 c2 = 0
    · rw [if_pos e2]
      have d2 : (rcmp a2 c2 != (0 : Int)) = false := by simp [e2]
      by_cases e3 : rcmp a3 c3 = 0
      · rw [e3]; exact vcomp_4 hua1 hua2 hua3 hva1 hva2 hva3 hk d1 d2 (by simp [e3])
      · exact vcomp_3 hua1 hua2 hua3 hva1 hva2 hva3 hk d1 d2 (by simp [e3])
    · rw [if_neg e2]; exact vcomp_2 hua1 hua2 hua3 hva1 hva2 hva3 hk d1 (by simp [e2])
  · rw [if_neg e1]; exact vcomp_1 hua1 hua2 hua3 hva1 hva2 hva3 hk (by simp [e1])

set_option maxRecDepth 100000 in
set_option maxHeartbeats 1000000 in
theorem vequal_v {k m : Nat} {uaa0 uaa1 uaa2 uaa3 uab0 uab1 uab2 uab3 uac0 uac1 uac2 uac3 : Value} {a1 a2 a3 : Rat} {vaa0 vaa1 vaa2 vaa3 vab0 vab1 vab2 vab3 vac0 vac1 vac2 vac3 : Value} {c1 c2 c3 : Rat} {w : World} (hua1 : IsRat w k uaa0 uaa1 uaa2 uaa3 a1) (hua2 : IsRat w k uab0 uab1 uab2 uab3 a2) (hua3 : IsRat w k uac0 uac1 uac2 uac3 a3) (hva1 : IsRat w m vaa0 vaa1 vaa2 vaa3 c1) (hva2 : IsRat w m vab0 vab1 vab2 vab3 c2) (hva3 : IsRat w m vac0 vac1 vac2 vac3 c3) (_hk : k + m ≤ 100000) :
    Calls Tryd.prog 15 #[(.agg #[uaa0, uaa1, uaa2, uaa3, uab0, uab1, uab2, uab3, uac0, uac1, uac2, uac3]), (.agg #[vaa0, vaa1, vaa2, vaa3, vab0, vab1, vab2, vab3, vac0, vac1, vac2, vac3])] w fun e w' => e = .returned (.bool (vcmp a1 a2 a3 c1 c2 c3 == (0 : Int))) ∧ Gr w w' := by
  go_enter Tryd.func15, Tryd.ntmps15
  have hB := Gr.refl w
  refine wp_seq_k (fun K1 k1 => ?_)
  refine wp_region ?_
  simp only [List.size_toArray, List.length_cons, List.length_nil, Nat.reduceAdd, List.range, List.range.loop]
  refine sq_eff rfl (by kernel_rfl) (fun K2 k2 => ?_)
  refine eff_box 33 _ (.agg #[uaa0, uaa1, uaa2, uaa3, uab0, uab1, uab2, uab3, uac0, uac1, uac2, uac3]) #[uaa0, uaa1, uaa2, uaa3, uab0, uab1, uab2, uab3, uac0, uac1, uac2, uac3] (some 2) rfl rfl rfl rfl (fun b3 w3 g3 L3 q3 => ?_)
  replace q3 := Nat.le_trans (Below.size hB) q3
  replace hB := Gr.trans hB g3
  refine k2 _ _ ?_
  try clear k2 K2
  simp only [p1, p2, p3, p4]
  refine sq_eff rfl (by kernel_rfl) (fun K4 k4 => ?_)
  refine eff_box 33 _ (.agg #[vaa0, vaa1, vaa2, vaa3, vab0, vab1, vab2, vab3, vac0, vac1, vac2, vac3]) #[vaa0, vaa1, vaa2, vaa3, vab0, vab1, vab2, vab3, vac0, vac1, vac2, vac3] (some 3) rfl rfl rfl rfl (fun b5 w5 g5 L5 q5 => ?_)
  have ne3_5 := L3.ne q5
  replace q5 := Nat.le_trans (Below.size hB) q5
  replace hB := Gr.trans hB g5
  refine k4 _ _ ?_
  try clear k4 K4
  simp only [p1, p2, p3, p4]
  refine sq_val (some 4) (.bool false) rfl rfl (by kernel_rfl) (rvk (by kernel_rfl)) ?_
  simp only [p1, p2, p3, p4]
  refine sq_nil ?_
  refine k1 _ _ ?_
  try clear k1 K1
  refine wp_seq_k (fun K6 k6 => ?_)
  refine wp_region ?_
  simp only [List.size_toArray, List.length_cons, List.length_nil, Nat.reduceAdd, List.range, List.range.loop]
  replace L3 := L3.gr g5
  refine sq_val (some 5) (.agg #[uaa0, uaa1, uaa2, uaa3, uab0, uab1, uab2, uab3, uac0, uac1, uac2, uac3]) rfl rfl (by kernel_rfl) (rv_load 33 _ b3 0 _ _ [uaa0, uaa1, uaa2, uaa3, uab0, uab1, uab2, uab3, uac0, uac1, uac2, uac3] rfl rfl L3 rfl (by kernel_rfl)) ?_
  simp only [p1, p2, p3, p4]
  refine sq_val (some 6) (.agg #[vaa0, vaa1, vaa2, vaa3, vab0, vab1, vab2, vab3, vac0, vac1, vac2, vac3]) rfl rfl (by kernel_rfl) (rv_load 33 _ b5 0 _ _ [vaa0, vaa1, vaa2, vaa3, vab0, vab1, vab2, vab3, vac0, vac1, vac2, vac3] rfl rfl L5 rfl (by kernel_rfl)) ?_
  simp only [p1, p2, p3, p4]
  refine sq_eff rfl (by kernel_rfl) (fun K7 k7 => ?_)
  have kq9 := g3.kp.trans g5.kp
  replace hua1 := hua1.kp kq9
  replace hua2 := hua2.kp kq9
  replace hua3 := hua3.kp kq9
  replace hva1 := hva1.kp kq9
  replace hva2 := hva2.kp kq9
  replace hva3 := hva3.kp kq9
  refine eff_call (some 7) rfl (by kernel_rfl) (vcomp_v hua1 hua2 hua3 hva1 hva2 hva3 (by omega)) ?_
  rintro e8 w8 ⟨rfl, g8⟩
  refine ⟨_, rfl, ?_⟩
  replace hB := Gr.trans hB g8
  refine k7 _ _ ?_
  try clear k7 K7
  simp only [p1, p2, p3, p4]
  refine sq_val (some 8) (.bool ((vcmp a1 a2 a3 c1 c2 c3 == (0 : Int)))) rfl rfl (by kernel_rfl) (rvk (by kernel_rfl)) ?_
  simp only [p1, p2, p3, p4]
  refine sq_val (some 4) (.bool ((vcmp a1 a2 a3 c1 c2 c3 == (0 : Int)))) rfl rfl (by kernel_rfl) (rvk (by kernel_rfl)) ?_
  simp only [p1, p2, p3, p4]
  refine sq_nil ?_
  refine k6 _ _ ?_
  try clear k6 K6
  refine wp_ret ?_
  refine bodyPost_ret (v := (.bool ((vcmp a1 a2 a3 c1 c2 c3 == (0 : Int))))) (ret_tmp rfl rfl) rfl ⟨?_, hB⟩
  exact rfl

set_option maxRecDepth 100000 in
set_option maxHeartbeats 1000000 in
theorem vzero_v {k : Nat} {uaa0 uaa1 uaa2 uaa3 uab0 uab1 uab2 uab3 uac0 uac1 uac2 uac3 : Value} {a1 a2 a3 : Rat} {w : World} (hua1 : IsRat w k uaa0 uaa1 uaa2 uaa3 a1) (hua2 : IsRat w k uab0 uab1 uab2 uab3 a2) (hua3 : IsRat w k uac0 uac1 uac2 uac3 a3) (_hk : k ≤ 25000) :
    Calls Tryd.prog 12 #[(.agg #[uaa0, uaa1, uaa2, uaa3, uab0, uab1, uab2, uab3, uac0, uac1, uac2, uac3])] w fun e w' => e = .returned (.bool (vcmp a1 a2 a3 0 0 0 == (0 : Int))) ∧ Gr w w' := by
  go_enter Tryd.func12, Tryd.ntmps12
  have hB := Gr.refl w
  refine wp_seq_k (fun K1 k1 => ?_)
  refine wp_region ?_
  simp only [List.size_toArray, List.length_cons, List.length_nil, Nat.reduceAdd, List.range, List.range.loop]
  refine sq_eff rfl (by kernel_rfl) (fun K2 k2 => ?_)
  refine eff_box 33 _ (.agg #[uaa0, uaa1, uaa2, uaa3, uab0, uab1, uab2, uab3, uac0, uac1, uac2, uac3]) #[uaa0, uaa1, uaa2, uaa3, uab0, uab1, uab2, uab3, uac0, uac1, uac2, uac3] (some 1) rfl rfl rfl rfl (fun b3 w3 g3 L3 q3 => ?_)
  replace q3 := Nat.le_trans (Below.size hB) q3
  replace hB := Gr.trans hB g3
  refine k2 _ _ ?_
  try clear k2 K2
  simp only [p1, p2, p3, p4]
  refine sq_val (some 2) (.bool false) rfl rfl (by kernel_rfl) (rvk (by kernel_rfl)) ?_
  simp only [p1, p2, p3, p4]
  refine sq_nil ?_
  refine k1 _ _ ?_
  try clear k1 K1
  refine wp_seq_k (fun K4 k4 => ?_)
  refine wp_region ?_
  simp only [List.size_toArray, List.length_cons, List.length_nil, Nat.reduceAdd, List.range, List.range.loop]
  refine sq_val (some 3) (.agg #[uaa0, uaa1, uaa2, uaa3, uab0, uab1, uab2, uab3, uac0, uac1, uac2, uac3]) rfl rfl (by kernel_rfl) (rv_load 33 _ b3 0 _ _ [uaa0, uaa1, uaa2, uaa3, uab0, uab1, uab2, uab3, uac0, uac1, uac2, uac3] rfl rfl L3 rfl (by kernel_rfl)) ?_
  simp only [p1, p2, p3, p4]
  refine sq_val (some 4) (.agg #[(.bool false), (.slice none 0 0), (.bool false), (.slice none 0 0), (.bool false), (.slice none 0 0), (.bool false), (.slice none 0 0), (.bool false), (.slice none 0 0), (.bool false), (.slice none 0 0)]) rfl rfl (by kernel_rfl) (rvk (by kernel_rfl)) ?_
  simp only [p1, p2, p3, p4]
  refine sq_eff rfl (by kernel_rfl) (fun K5 k5 => ?_)
  replace hua1 := hua1.kp g3.kp
  replace hua2 := hua2.kp g3.kp
  replace hua3 := hua3.kp g3.kp
  refine eff_call (some 5) rfl (by kernel_rfl) (vcomp_v hua1 hua2 hua3 (IsRat.zero _ (k := 64) (Nat.le_refl _)) (IsRat.zero _ (k := 64) (Nat.le_refl _)) (IsRat.zero _ (k := 64) (Nat.le_refl _)) (by omega)) ?_
  rintro e6 w6 ⟨rfl, g6⟩
  refine ⟨_, rfl, ?_⟩
  replace hB := Gr.trans hB g6
  refine k5 _ _ ?_
  try clear k5 K5
  simp only [p1, p2, p3, p4]
  refine sq_val (some 6) (.bool ((vcmp a1 a2 a3 0 0 0 == (0 : Int)))) rfl rfl (by kernel_rfl) (rvk (by kernel_rfl)) ?_
  simp only [p1, p2, p3, p4]
  refine sq_val (some 2) (.bool ((vcmp a1 a2 a3 0 0 0 == (0 : Int)))) rfl rfl (by kernel_rfl) (rvk (by kernel_rfl)) ?_
  simp only [p1, p2, p3, p4]
  refine sq_nil ?_
  refine k4 _ _ ?_
  try clear k4 K4
  refine wp_ret ?_
  refine bodyPost_ret (v := (.bool ((vcmp a1 a2 a3 0 0 0 == (0 : Int))))) (ret_tmp rfl rfl) rfl ⟨?_, hB⟩
  exact rfl

end Go.Proofs.YtgopfikljndklaaDoor
