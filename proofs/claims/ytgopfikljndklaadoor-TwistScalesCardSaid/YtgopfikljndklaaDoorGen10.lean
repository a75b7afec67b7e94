/- Printed by a program of the prover's: joined, Row, AxisOf. -/
import Derived.Test.YtgopfikljndklaaDoorGen9
namespace Go.Proofs.YtgopfikljndklaaDoor
open Go.RowKit

set_option maxRecDepth 100000 in
set_option maxHeartbeats 4000000 in
theorem joined_v {k m : Nat} {uaa0 uaa1 uaa2 uaa3 uab0 uab1 uab2 uab3 uac0 uac1 uac2 uac3 : Value} {a1 a2 a3 : Rat} {vaa0 vaa1 vaa2 vaa3 vab0 vab1 vab2 vab3 vac0 vac1 vac2 vac3 : Value} {c1 c2 c3 : Rat} {w : World} (hua1 : IsRat w k uaa0 uaa1 uaa2 uaa3 a1) (hua2 : IsRat w k uab0 uab1 uab2 uab3 a2) (hua3 : IsRat w k uac0 uac1 uac2 uac3 a3) (hva1 : IsRat w m vaa0 vaa1 vaa2 vaa3 c1) (hva2 : IsRat w m vab0 vab1 vab2 vab3 c2) (hva3 : IsRat w m vac0 vac1 vac2 vac3 c3) (_hk : k + m ≤ 25000) :
    Calls Tryd.prog 58 #[(.agg #[uaa0, uaa1, uaa2, uaa3, uab0, uab1, uab2, uab3, uac0, uac1, uac2, uac3]), (.agg #[vaa0, vaa1, vaa2, vaa3, vab0, vab1, vab2, vab3, vac0, vac1, vac2, vac3])] w fun e w' => (∃ b t0 t1 t2 t3 t4 t5 t6 t7 t8 t9 t10 t11 t12 t13 t14 t15 t16 t17 t18 t19 t20 t21 t22 t23, e = .returned (.slice (some ⟨b, 0, none⟩) 6 6) ∧ Lc w' b #[t0, t1, t2, t3, t4, t5, t6, t7, t8, t9, t10, t11, t12, t13, t14, t15, t16, t17, t18, t19, t20, t21, t22, t23] 31 ∧ w.heap.size ≤ b ∧ IsRat w' k t0 t1 t2 t3 (a1) ∧ IsRat w' k t4 t5 t6 t7 (a2) ∧ IsRat w' k t8 t9 t10 t11 (a3) ∧ IsRat w' m t12 t13 t14 t15 (c1) ∧ IsRat w' m t16 t17 t18 t19 (c2) ∧ IsRat w' m t20 t21 t22 t23 (c3)) ∧ Gr w w' := by
 go_enter Tryd.func58, Tryd.ntmps58
 have hB := Gr.refl w
 refine wp_seq_k (fun K1 k1 => ?_)
 refine rg [0, 1, 2] ?_
 refine se ?_
 refine eb 33 #[uaa0, uaa1, uaa2, uaa3, uab0, uab1, uab2, uab3, uac0, uac1, uac2, uac3] 2 hB fun b2 w2 g2 L2 o2 q2 hB => ?_
 simp only [p3, p4]
 refine se ?_
 refine eb 33 #[vaa0, vaa1, vaa2, vaa3, vab0, vab1, vab2, vab3, vac0, vac1, vac2, vac3] 3 hB fun b3 w3 g3 L3 o3 q3 hB => ?_
 simp only [p3, p4]
 refine sv 4 (.slice none 0 0) ?_
 simp only [p3, p4]
 refine sq_nil ?_
 refine k1 _ _ ?_
 try clear k1 K1
 refine wp_seq_k (fun K4 k4 => ?_)
 refine rg [0, 1] ?_
 refine se ?_
 refine eff_make 64 31 (.agg #[(.bool false), (.slice none 0 0), (.bool false), (.slice none 0 0)]) 6 6 4 #[(.bool false), (.slice none 0 0), (.bool false), (.slice none 0 0), (.bool false), (.slice none 0 0), (.bool false), (.slice none 0 0), (.bool false), (.slice none 0 0), (.bool false), (.slice none 0 0), (.bool false), (.slice none 0 0), (.bool false), (.slice none 0 0), (.bool false), (.slice none 0 0), (.bool false), (.slice none 0 0), (.bool false), (.slice none 0 0), (.bool false), (.slice none 0 0)] (some 7) rfl rfl rfl rfl (by kernel_rfl) (by kernel_rfl) (by kernel_rfl) (by kernel_rfl) (fun b5 w5 g5 L5 q5 => ?_)
 replace L2 := L2.gr g3
 have ne2_5 := L2.ne q5
 have ne3_5 := L3.ne q5
 replace q5 := Nat.le_trans (Below.size hB) q5
 replace hB := hB.trans g5
 simp only [putl, p3, p4]
 refine sv 5 (.slice (some ⟨b5, 0, none⟩) 6 6) ?_
 simp only [p3, p4]
 refine sq_nil ?_
 refine k4 _ _ ?_
 try clear k4 K4
 refine wp_seq_k (fun K6 k6 => ?_)
 refine wp_seq_k (fun K7 k7 => ?_)
 refine rg [0] ?_
 refine sv 8 (.int .i64 0) ?_
 simp only [p3, p4]
 refine sq_nil ?_
 refine k7 _ _ ?_
 try clear k7 K7
 refine wp_block ?_
 refine wp_loop_rounds 4 ?_
 show Code.wp _ _ _ _ _
 refine wp_seq_k (fun K8 k8 => ?_)
 refine rg [0] ?_
 refine sv 9 (.bool true) ?_
 simp only [p3, p4]
 refine sq_nil ?_
 refine k8 _ _ ?_
 try clear k8 K8
 refine wp_seq_k (fun K9 k9 => ?_)
 refine wp_cond_true rfl ?_
 refine wp_skip ?_
 refine k9 _ _ ?_
 try clear k9 K9
 refine wp_seq_k (fun K10 k10 => ?_)
 refine wp_block ?_
 refine wp_seq_k (fun K11 k11 => ?_)
 refine rg [0, 1] ?_
 refine sv 10 (.int .i64 0) ?_
 simp only [p3, p4]
 refine sv 6 (.int .i64 0) ?_
 simp only [p3, p4]
 refine sq_nil ?_
 refine k11 _ _ ?_
 try clear k11 K11
 have gd17 := Gr.drew w5
 replace hB := hB.trans gd17
 replace L2 := L2.gr (g5.trans gd17)
 replace L3 := L3.gr (g5.trans gd17)
 refine wp_region_ord (fun w' => Lc w' b2 #[uaa0, uaa1, uaa2, uaa3, uab0, uab1, uab2, uab3, uac0, uac1, uac2, uac3] 33 ∧ Lc w' b3 #[vaa0, vaa1, vaa2, vaa3, vab0, vab1, vab2, vab3, vac0, vac1, vac2, vac3] 33) [(true, 0), (true, 1), (true, 2), (true, 3), (true, 4), (true, 5), (true, 6), (true, 7), (true, 8), (true, 9), (true, 10), (true, 11), (false, 12), (true, 13), (false, 14)] (by kernel_rfl) (by kernel_rfl) (by kernel_rfl) (by decide) (fun _ _ _ _ _ h => h) ⟨L2, L3⟩ ?_
 refine ov 11 (.slice (some ⟨b5, 0, none⟩) 6 6) ?_
 simp only [p3, p4]
 refine ov 12 (.int .i64 0) ?_
 simp only [p3, p4]
 refine ov 13 (.slice (some ⟨b5, 0, none⟩) 6 6) ?_
 simp only [p3, p4]
 refine ov 14 (.int .i64 0) ?_
 simp only [p3, p4]
 refine ov 15 (.int .i64 3) ?_
 simp only [p3, p4]
 refine ov 16 (.int .i64 0) ?_
 simp only [p3, p4]
 refine ov 17 (.pointer (some ⟨b2, 0, none⟩)) ?_
 simp only [p3, p4]
 refine ow 18 (.agg #[uaa0, uaa1, uaa2, uaa3]) rfl (fun w' hS => (rl 31 0 [uaa0, uaa1, uaa2, uaa3] hS.1)) ?_
 simp only [p3, p4]
 refine ov 19 (.int .i64 0) ?_
 simp only [p3, p4]
 refine ov 20 (.pointer (some ⟨b3, 0, none⟩)) ?_
 simp only [p3, p4]
 refine ow 21 (.agg #[vaa0, vaa1, vaa2, vaa3]) rfl (fun w' hS => (rl 31 0 [vaa0, vaa1, vaa2, vaa3] hS.2)) ?_
 simp only [p3, p4]
 refine ov 22 (.pointer (some ⟨b5, 0, none⟩)) ?_
 simp only [p3, p4]
 refine oe ?_
 replace L5 := L5.gr gd17
 refine es 31 0 (.agg #[uaa0, uaa1, uaa2, uaa3]) [uaa0, uaa1, uaa2, uaa3] #[uaa0, uaa1, uaa2, uaa3, (.bool false), (.slice none 0 0), (.bool false), (.slice none 0 0), (.bool false), (.slice none 0 0), (.bool false), (.slice none 0 0), (.bool false), (.slice none 0 0), (.bool false), (.slice none 0 0), (.bool false), (.slice none 0 0), (.bool false), (.slice none 0 0), (.bool false), (.slice none 0 0), (.bool false), (.slice none 0 0)] L5 hB q5 ⟨hua1.one0, hua1.one1, hua1.one2, hua1.one3, trivial⟩ fun w19 st19 kp19 L5 hB => ?_
 replace L2 := st19.lc L2 ne2_5
 replace L3 := st19.lc L3 ne3_5
 refine ⟨⟨L2, L3⟩, ?_⟩
 refine ov 23 (.pointer (some ⟨b5, 12, none⟩)) ?_
 simp only [p3, p4]
 refine oe ?_
 refine es 31 12 (.agg #[vaa0, vaa1, vaa2, vaa3]) [vaa0, vaa1, vaa2, vaa3] #[uaa0, uaa1, uaa2, uaa3, (.bool false), (.slice none 0 0), (.bool false), (.slice none 0 0), (.bool false), (.slice none 0 0), (.bool false), (.slice none 0 0), vaa0, vaa1, vaa2, vaa3, (.bool false), (.slice none 0 0), (.bool false), (.slice none 0 0), (.bool false), (.slice none 0 0), (.bool false), (.slice none 0 0)] L5 hB q5 ⟨hva1.one0, hva1.one1, hva1.one2, hva1.one3, trivial⟩ fun w21 st21 kp21 L5 hB => ?_
 replace L2 := st21.lc L2 ne2_5
 replace L3 := st21.lc L3 ne3_5
 refine ⟨⟨L2, L3⟩, ?_⟩
 refine ord_nil ?_
 refine k10 _ _ ?_
 try clear k10 K10
 refine rg [0, 1] ?_
 refine sv 24 (.int .i64 1) ?_
 simp only [p3, p4]
 refine sv 8 (.int .i64 1) ?_
 simp only [p3, p4]
 refine sq_nil ?_
 show Code.rounds _ _ _ _ _ _
 show Code.wp _ _ _ _ _
 refine wp_seq_k (fun K22 k22 => ?_)
 refine rg [0] ?_
 refine sv 9 (.bool true) ?_
 simp only [p3, p4]
 refine sq_nil ?_
 refine k22 _ _ ?_
 try clear k22 K22
 refine wp_seq_k (fun K23 k23 => ?_)
 refine wp_cond_true rfl ?_
 refine wp_skip ?_
 refine k23 _ _ ?_
 try clear k23 K23
 refine wp_seq_k (fun K24 k24 => ?_)
 refine wp_block ?_
 refine wp_seq_k (fun K25 k25 => ?_)
 refine rg [0, 1] ?_
 refine sv 10 (.int .i64 1) ?_
 simp only [p3, p4]
 refine sv 6 (.int .i64 1) ?_
 simp only [p3, p4]
 refine sq_nil ?_
 refine k25 _ _ ?_
 try clear k25 K25
 have gd31 := Gr.drew w21
 replace hB := hB.trans gd31
 replace L2 := L2.gr gd31
 replace L3 := L3.gr gd31
 refine wp_region_ord (fun w' => Lc w' b2 #[uaa0, uaa1, uaa2, uaa3, uab0, uab1, uab2, uab3, uac0, uac1, uac2, uac3] 33 ∧ Lc w' b3 #[vaa0, vaa1, vaa2, vaa3, vab0, vab1, vab2, vab3, vac0, vac1, vac2, vac3] 33) [(true, 0), (true, 1), (true, 2), (true, 3), (true, 4), (true, 5), (true, 6), (true, 7), (true, 8), (true, 9), (true, 10), (true, 11), (false, 12), (true, 13), (false, 14)] (by kernel_rfl) (by kernel_rfl) (by kernel_rfl) (by decide) (fun _ _ _ _ _ h => h) ⟨L2, L3⟩ ?_
 refine ov 11 (.slice (some ⟨b5, 0, none⟩) 6 6) ?_
 simp only [p3, p4]
 refine ov 12 (.int .i64 1) ?_
 simp only [p3, p4]
 refine ov 13 (.slice (some ⟨b5, 0, none⟩) 6 6) ?_
 simp only [p3, p4]
 refine ov 14 (.int .i64 1) ?_
 simp only [p3, p4]
 refine ov 15 (.int .i64 4) ?_
 simp only [p3, p4]
 refine ov 16 (.int .i64 1) ?_
 simp only [p3, p4]
 refine ov 17 (.pointer (some ⟨b2, 4, none⟩)) ?_
 simp only [p3, p4]
 refine ow 18 (.agg #[uab0, uab1, uab2, uab3]) rfl (fun w' hS => (rl 31 4 [uab0, uab1, uab2, uab3] hS.1)) ?_
 simp only [p3, p4]
 refine ov 19 (.int .i64 1) ?_
 simp only [p3, p4]
 refine ov 20 (.pointer (some ⟨b3, 4, none⟩)) ?_
 simp only [p3, p4]
 refine ow 21 (.agg #[vab0, vab1, vab2, vab3]) rfl (fun w' hS => (rl 31 4 [vab0, vab1, vab2, vab3] hS.2)) ?_
 simp only [p3, p4]
 refine ov 22 (.pointer (some ⟨b5, 4, none⟩)) ?_
 simp only [p3, p4]
 refine oe ?_
 replace L5 := L5.gr gd31
 refine es 31 4 (.agg #[uab0, uab1, uab2, uab3]) [uab0, uab1, uab2, uab3] #[uaa0, uaa1, uaa2, uaa3, uab0, uab1, uab2, uab3, (.bool false), (.slice none 0 0), (.bool false), (.slice none 0 0), vaa0, vaa1, vaa2, vaa3, (.bool false), (.slice none 0 0), (.bool false), (.slice none 0 0), (.bool false), (.slice none 0 0), (.bool false), (.slice none 0 0)] L5 hB q5 ⟨hua2.one0, hua2.one1, hua2.one2, hua2.one3, trivial⟩ fun w33 st33 kp33 L5 hB => ?_
 replace L2 := st33.lc L2 ne2_5
 replace L3 := st33.lc L3 ne3_5
 refine ⟨⟨L2, L3⟩, ?_⟩
 refine ov 23 (.pointer (some ⟨b5, 16, none⟩)) ?_
 simp only [p3, p4]
 refine oe ?_
 refine es 31 16 (.agg #[vab0, vab1, vab2, vab3]) [vab0, vab1, vab2, vab3] #[uaa0, uaa1, uaa2, uaa3, uab0, uab1, uab2, uab3, (.bool false), (.slice none 0 0), (.bool false), (.slice none 0 0), vaa0, vaa1, vaa2, vaa3, vab0, vab1, vab2, vab3, (.bool false), (.slice none 0 0), (.bool false), (.slice none 0 0)] L5 hB q5 ⟨hva2.one0, hva2.one1, hva2.one2, hva2.one3, trivial⟩ fun w35 st35 kp35 L5 hB => ?_
 replace L2 := st35.lc L2 ne2_5
 replace L3 := st35.lc L3 ne3_5
 refine ⟨⟨L2, L3⟩, ?_⟩
 refine ord_nil ?_
 refine k24 _ _ ?_
 try clear k24 K24
 refine rg [0, 1] ?_
 refine sv 24 (.int .i64 2) ?_
 simp only [p3, p4]
 refine sv 8 (.int .i64 2) ?_
 simp only [p3, p4]
 refine sq_nil ?_
 show Code.rounds _ _ _ _ _ _
 show Code.wp _ _ _ _ _
 refine wp_seq_k (fun K36 k36 => ?_)
 refine rg [0] ?_
 refine sv 9 (.bool true) ?_
 simp only [p3, p4]
 refine sq_nil ?_
 refine k36 _ _ ?_
 try clear k36 K36
 refine wp_seq_k (fun K37 k37 => ?_)
 refine wp_cond_true rfl ?_
 refine wp_skip ?_
 refine k37 _ _ ?_
 try clear k37 K37
 refine wp_seq_k (fun K38 k38 => ?_)
 refine wp_block ?_
 refine wp_seq_k (fun K39 k39 => ?_)
 refine rg [0, 1] ?_
 refine sv 10 (.int .i64 2) ?_
 simp only [p3, p4]
 refine sv 6 (.int .i64 2) ?_
 simp only [p3, p4]
 refine sq_nil ?_
 refine k39 _ _ ?_
 try clear k39 K39
 have gd45 := Gr.drew w35
 replace hB := hB.trans gd45
 replace L2 := L2.gr gd45
 replace L3 := L3.gr gd45
 refine wp_region_ord (fun w' => Lc w' b2 #[uaa0, uaa1, uaa2, uaa3, uab0, uab1, uab2, uab3, uac0, uac1, uac2, uac3] 33 ∧ Lc w' b3 #[vaa0, vaa1, vaa2, vaa3, vab0, vab1, vab2, vab3, vac0, vac1, vac2, vac3] 33) [(true, 0), (true, 1), (true, 2), (true, 3), (true, 4), (true, 5), (true, 6), (true, 7), (true, 8), (true, 9), (true, 10), (true, 11), (false, 12), (true, 13), (false, 14)] (by kernel_rfl) (by kernel_rfl) (by kernel_rfl) (by decide) (fun _ _ _ _ _ h => h) ⟨L2, L3⟩ ?_
 refine ov 11 (.slice (some ⟨b5, 0, none⟩) 6 6) ?_
 simp only [p3, p4]
 refine ov 12 (.int .i64 2) ?_
 simp only [p3, p4]
 refine ov 13 (.slice (some ⟨b5, 0, none⟩) 6 6) ?_
 simp only [p3, p4]
 refine ov 14 (.int .i64 2) ?_
 simp only [p3, p4]
 refine ov 15 (.int .i64 5) ?_
 simp only [p3, p4]
 refine ov 16 (.int .i64 2) ?_
 simp only [p3, p4]
 refine ov 17 (.pointer (some ⟨b2, 8, none⟩)) ?_
 simp only [p3, p4]
 refine ow 18 (.agg #[uac0, uac1, uac2, uac3]) rfl (fun w' hS => (rl 31 8 [uac0, uac1, uac2, uac3] hS.1)) ?_
 simp only [p3, p4]
 refine ov 19 (.int .i64 2) ?_
 simp only [p3, p4]
 refine ov 20 (.pointer (some ⟨b3, 8, none⟩)) ?_
 simp only [p3, p4]
 refine ow 21 (.agg #[vac0, vac1, vac2, vac3]) rfl (fun w' hS => (rl 31 8 [vac0, vac1, vac2, vac3] hS.2)) ?_
 simp only [p3, p4]
 refine ov 22 (.pointer (some ⟨b5, 8, none⟩)) ?_
 simp only [p3, p4]
 refine oe ?_
 replace L5 := L5.gr gd45
 refine es 31 8 (.agg #[uac0, uac1, uac2, uac3]) [uac0, uac1, uac2, uac3] #[uaa0, uaa1, uaa2, uaa3, uab0, uab1, uab2, uab3, uac0, uac1, uac2, uac3, vaa0, vaa1, vaa2, vaa3, vab0, vab1, vab2, vab3, (.bool false), (.slice none 0 0), (.bool false), (.slice none 0 0)] L5 hB q5 ⟨hua3.one0, hua3.one1, hua3.one2, hua3.one3, trivial⟩ fun w47 st47 kp47 L5 hB => ?_
 replace L2 := st47.lc L2 ne2_5
 replace L3 := st47.lc L3 ne3_5
 refine ⟨⟨L2, L3⟩, ?_⟩
 refine ov 23 (.pointer (some ⟨b5, 20, none⟩)) ?_
 simp only [p3, p4]
 refine oe ?_
 refine es 31 20 (.agg #[vac0, vac1, vac2, vac3]) [vac0, vac1, vac2, vac3] #[uaa0, uaa1, uaa2, uaa3, uab0, uab1, uab2, uab3, uac0, uac1, uac2, uac3, vaa0, vaa1, vaa2, vaa3, vab0, vab1, vab2, vab3, vac0, vac1, vac2, vac3] L5 hB q5 ⟨hva3.one0, hva3.one1, hva3.one2, hva3.one3, trivial⟩ fun w49 st49 kp49 L5 hB => ?_
 replace L2 := st49.lc L2 ne2_5
 replace L3 := st49.lc L3 ne3_5
 refine ⟨⟨L2, L3⟩, ?_⟩
 refine ord_nil ?_
 refine k38 _ _ ?_
 try clear k38 K38
 refine rg [0, 1] ?_
 refine sv 24 (.int .i64 3) ?_
 simp only [p3, p4]
 refine sv 8 (.int .i64 3) ?_
 simp only [p3, p4]
 refine sq_nil ?_
 show Code.rounds _ _ _ _ _ _
 show Code.wp _ _ _ _ _
 refine wp_seq_k (fun K50 k50 => ?_)
 refine rg [0] ?_
 refine sv 9 (.bool false) ?_
 simp only [p3, p4]
 refine sq_nil ?_
 refine k50 _ _ ?_
 try clear k50 K50
 refine wp_seq_k (fun K51 k51 => ?_)
 refine wp_cond_false rfl ?_
 refine wp_exit ?_
 simp only [Exit.then, Exit.inBlock, ↓reduceIte]
 refine k6 _ _ ?_
 try clear k6 K6
 refine wp_seq_k (fun K52 k52 => ?_)
 refine rg [0, 1] ?_
 refine sv 25 (.slice (some ⟨b5, 0, none⟩) 6 6) ?_
 simp only [p3, p4]
 refine sv 4 (.slice (some ⟨b5, 0, none⟩) 6 6) ?_
 simp only [p3, p4]
 refine sq_nil ?_
 refine k52 _ _ ?_
 try clear k52 K52
 refine wp_ret ?_
 refine bodyPost_ret (v := (.slice (some ⟨b5, 0, none⟩) 6 6)) (ret_tmp rfl rfl) rfl ⟨?_, hB⟩
 have kq53 := g2.kp.trans (g3.kp.trans (g5.kp.trans (gd17.kp.trans (kp19.trans (kp21.trans (gd31.kp.trans (kp33.trans (kp35.trans (gd45.kp.trans (kp47.trans kp49))))))))))
 replace hua1 := hua1.kp kq53
 replace hua2 := hua2.kp kq53
 replace hua3 := hua3.kp kq53
 replace hva1 := hva1.kp kq53
 replace hva2 := hva2.kp kq53
 replace hva3 := hva3.kp kq53
 exact ⟨_, _, _, _, _, _, _, _, _, _, _, _, _, _, _, _, _, _, _, _, _, _, _, _, _, rfl, L5, q5, hua1, hua2, hua3, hva1, hva2, hva3⟩

set_option maxRecDepth 100000 in
set_option maxHeartbeats 1000000 in
theorem clip_r (b : Nat) (w : World) :
    Calls Tryd.prog 57 #[(.slice (some ⟨b, 0, none⟩) 6 6)] w fun e w' => e = .returned (.slice (some ⟨b, 0, none⟩) 6 6) ∧ Gr w w' := by
 go_enter Tryd.func57, Tryd.ntmps57
 have hB := Gr.refl w
 refine wp_seq_k (fun K1 k1 => ?_)
 refine rg [0] ?_
 refine sv 2 (.slice none 0 0) ?_
 simp only [p3, p4]
 refine sq_nil ?_
 refine k1 _ _ ?_
 try clear k1 K1
 refine wp_seq_k (fun K2 k2 => ?_)
 refine rg [0, 1, 2, 3, 4, 5, 6] ?_
 refine sv 3 (.slice (some ⟨b, 0, none⟩) 6 6) ?_
 simp only [p3, p4]
 refine sv 4 (.slice (some ⟨b, 0, none⟩) 6 6) ?_
 simp only [p3, p4]
 refine sv 5 (.int .i64 6) ?_
 simp only [p3, p4]
 refine sv 6 (.slice (some ⟨b, 0, none⟩) 6 6) ?_
 simp only [p3, p4]
 refine sv 7 (.int .i64 6) ?_
 simp only [p3, p4]
 refine sv 8 (.slice (some ⟨b, 0, none⟩) 6 6) ?_
 simp only [p3, p4]
 refine sv 2 (.slice (some ⟨b, 0, none⟩) 6 6) ?_
 simp only [p3, p4]
 refine sq_nil ?_
 refine k2 _ _ ?_
 try clear k2 K2
 refine wp_ret ?_
 refine bodyPost_ret (v := (.slice (some ⟨b, 0, none⟩) 6 6)) (ret_tmp rfl rfl) rfl ⟨?_, hB⟩
 exact rfl

set_option maxRecDepth 100000 in
set_option maxHeartbeats 1000000 in
theorem row_v {k m : Nat} {uaa0 uaa1 uaa2 uaa3 uab0 uab1 uab2 uab3 uac0 uac1 uac2 uac3 : Value} {a1 a2 a3 : Rat} {vaa0 vaa1 vaa2 vaa3 vab0 vab1 vab2 vab3 vac0 vac1 vac2 vac3 : Value} {c1 c2 c3 : Rat} {w : World} (hua1 : IsRat w k uaa0 uaa1 uaa2 uaa3 a1) (hua2 : IsRat w k uab0 uab1 uab2 uab3 a2) (hua3 : IsRat w k uac0 uac1 uac2 uac3 a3) (hva1 : IsRat w m vaa0 vaa1 vaa2 vaa3 c1) (hva2 : IsRat w m vab0 vab1 vab2 vab3 c2) (hva3 : IsRat w m vac0 vac1 vac2 vac3 c3) (_hk : k + m ≤ 2500) :
    Calls Tryd.prog 31 #[(.agg #[uaa0, uaa1, uaa2, uaa3, uab0, uab1, uab2, uab3, uac0, uac1, uac2, uac3]), (.agg #[vaa0, vaa1, vaa2, vaa3, vab0, vab1, vab2, vab3, vac0, vac1, vac2, vac3])] w fun e w' => (∃ b t0 t1 t2 t3 t4 t5 t6 t7 t8 t9 t10 t11 t12 t13 t14 t15 t16 t17 t18 t19 t20 t21 t22 t23, e = .returned (.slice (some ⟨b, 0, none⟩) 6 6) ∧ Lc w' b #[t0, t1, t2, t3, t4, t5, t6, t7, t8, t9, t10, t11, t12, t13, t14, t15, t16, t17, t18, t19, t20, t21, t22, t23] 31 ∧ w.heap.size ≤ b ∧ IsRat w' (k + m + (k + m) + 1) t0 t1 t2 t3 (a2 * c3 - a3 * c2) ∧ IsRat w' (k + m + (k + m) + 1) t4 t5 t6 t7 (a3 * c1 - a1 * c3) ∧ IsRat w' (k + m + (k + m) + 1) t8 t9 t10 t11 (a1 * c2 - a2 * c1) ∧ IsRat w' m t12 t13 t14 t15 (c1) ∧ IsRat w' m t16 t17 t18 t19 (c2) ∧ IsRat w' m t20 t21 t22 t23 (c3)) ∧ Gr w w' := by
 go_enter Tryd.func31, Tryd.ntmps31
 have hB := Gr.refl w
 refine wp_seq_k (fun K1 k1 => ?_)
 refine rg [0, 1, 2] ?_
 refine se ?_
 refine eb 33 #[uaa0, uaa1, uaa2, uaa3, uab0, uab1, uab2, uab3, uac0, uac1, uac2, uac3] 2 hB fun b2 w2 g2 L2 o2 q2 hB => ?_
 simp only [p3, p4]
 refine se ?_
 refine eb 33 #[vaa0, vaa1, vaa2, vaa3, vab0, vab1, vab2, vab3, vac0, vac1, vac2, vac3] 3 hB fun b3 w3 g3 L3 o3 q3 hB => ?_
 simp only [p3, p4]
 refine sv 4 (.slice none 0 0) ?_
 simp only [p3, p4]
 refine sq_nil ?_
 refine k1 _ _ ?_
 try clear k1 K1
 refine wp_seq_k (fun K4 k4 => ?_)
 have gd13 := Gr.drew w3
 replace hB := hB.trans gd13
 replace L2 := L2.gr (g3.trans gd13)
 replace L3 := L3.gr gd13
 refine wp_region_ord (fun w' => Lc w' b2 #[uaa0, uaa1, uaa2, uaa3, uab0, uab1, uab2, uab3, uac0, uac1, uac2, uac3] 33 ∧ Lc w' b3 #[vaa0, vaa1, vaa2, vaa3, vab0, vab1, vab2, vab3, vac0, vac1, vac2, vac3] 33) [(true, 0), (true, 1), (true, 3), (false, 2), (false, 4), (false, 5), (true, 6)] (by kernel_rfl) (by kernel_rfl) (by kernel_rfl) (by decide) (fun _ _ _ _ _ h => h) ⟨L2, L3⟩ ?_
 refine ow 5 (.agg #[uaa0, uaa1, uaa2, uaa3, uab0, uab1, uab2, uab3, uac0, uac1, uac2, uac3]) rfl (fun w' hS => (rl 33 0 [uaa0, uaa1, uaa2, uaa3, uab0, uab1, uab2, uab3, uac0, uac1, uac2, uac3] hS.1)) ?_
 simp only [p3, p4]
 refine ow 6 (.agg #[vaa0, vaa1, vaa2, vaa3, vab0, vab1, vab2, vab3, vac0, vac1, vac2, vac3]) rfl (fun w' hS => (rl 33 0 [vaa0, vaa1, vaa2, vaa3, vab0, vab1, vab2, vab3, vac0, vac1, vac2, vac3] hS.2)) ?_
 simp only [p3, p4]
 refine ow 8 (.agg #[vaa0, vaa1, vaa2, vaa3, vab0, vab1, vab2, vab3, vac0, vac1, vac2, vac3]) rfl (fun w' hS => (rl 33 0 [vaa0, vaa1, vaa2, vaa3, vab0, vab1, vab2, vab3, vac0, vac1, vac2, vac3] hS.2)) ?_
 simp only [p3, p4]
 refine oe ?_
 have kq16 := g2.kp.trans (g3.kp.trans gd13.kp)
 replace hua1 := hua1.kp kq16
 replace hua2 := hua2.kp kq16
 replace hua3 := hua3.kp kq16
 replace hva1 := hva1.kp kq16
 replace hva2 := hva2.kp kq16
 replace hva3 := hva3.kp kq16
 refine ec 7 (cross_v hua1 hua2 hua3 hva1 hva2 hva3 (by omega)) ?_
 rintro e15 w15 ⟨⟨t15_0, t15_1, t15_2, t15_3, t15_4, t15_5, t15_6, t15_7, t15_8, t15_9, t15_10, t15_11, rfl, h15a, h15b, h15c⟩, g15⟩
 refine ⟨_, rfl, ?_⟩
 replace hB := hB.trans g15
 replace L2 := L2.gr g15
 replace L3 := L3.gr g15
 refine ⟨⟨L2, L3⟩, ?_⟩
 simp only [p3, p4]
 refine oe ?_
 replace hva1 := hva1.kp g15.kp
 replace hva2 := hva2.kp g15.kp
 replace hva3 := hva3.kp g15.kp
 refine ec 9 (joined_v h15a h15b h15c hva1 hva2 hva3 (by omega)) ?_
 rintro e18 w18 ⟨⟨b18, t18_0, t18_1, t18_2, t18_3, t18_4, t18_5, t18_6, t18_7, t18_8, t18_9, t18_10, t18_11, t18_12, t18_13, t18_14, t18_15, t18_16, t18_17, t18_18, t18_19, t18_20, t18_21, t18_22, t18_23, rfl, L18, q18, h18a, h18b, h18c, h18d, h18e, h18f⟩, g18⟩
 refine ⟨_, rfl, ?_⟩
 replace q18 := Nat.le_trans (Below.size hB) q18
 replace hB := hB.trans g18
 replace L2 := L2.gr g18
 replace L3 := L3.gr g18
 refine ⟨⟨L2, L3⟩, ?_⟩
 simp only [p3, p4]
 refine oe ?_
 refine ec 10 (clip_r b18 _) ?_
 rintro e20 w20 ⟨rfl, g20⟩
 refine ⟨_, rfl, ?_⟩
 replace hB := hB.trans g20
 replace L2 := L2.gr g20
 replace L3 := L3.gr g20
 refine ⟨⟨L2, L3⟩, ?_⟩
 simp only [p3, p4]
 refine ov 4 (.slice (some ⟨b18, 0, none⟩) 6 6) ?_
 simp only [p3, p4]
 refine ord_nil ?_
 refine k4 _ _ ?_
 try clear k4 K4
 refine wp_ret ?_
 refine bodyPost_ret (v := (.slice (some ⟨b18, 0, none⟩) 6 6)) (ret_tmp rfl rfl) rfl ⟨?_, hB⟩
 replace L18 := L18.gr g20
 replace h18a := h18a.kp g20.kp
 replace h18b := h18b.kp g20.kp
 replace h18c := h18c.kp g20.kp
 replace h18d := h18d.kp g20.kp
 replace h18e := h18e.kp g20.kp
 replace h18f := h18f.kp g20.kp
 exact ⟨_, _, _, _, _, _, _, _, _, _, _, _, _, _, _, _, _, _, _, _, _, _, _, _, _, rfl, L18, q18, h18a, h18b, h18c, h18d, h18e, h18f⟩

end Go.Proofs.YtgopfikljndklaaDoor
