/- Joined of: Gen5, Gen6, Gen7, Gen8, Prim. -/
import Derived.Test.YtlcmllfacolkaaaGreatDoorPartC
/- Printed by a program of the prover's: the operations on vectors. -/
namespace Go.Proofs.YtlcmllfacolkaaaGreatDoor
open Go.RowKit

set_option maxRecDepth 100000 in
set_option maxHeartbeats 4000000 in
theorem each_add {k m : Nat} {uaa0 uaa1 uaa2 uaa3 uab0 uab1 uab2 uab3 uac0 uac1 uac2 uac3 : Value} {a1 a2 a3 : Rat} {vaa0 vaa1 vaa2 vaa3 vab0 vab1 vab2 vab3 vac0 vac1 vac2 vac3 : Value} {c1 c2 c3 : Rat} {w : World} (hua1 : IsRat w k uaa0 uaa1 uaa2 uaa3 a1) (hua2 : IsRat w k uab0 uab1 uab2 uab3 a2) (hua3 : IsRat w k uac0 uac1 uac2 uac3 a3) (hva1 : IsRat w m vaa0 vaa1 vaa2 vaa3 c1) (hva2 : IsRat w m vab0 vab1 vab2 vab3 c2) (hva3 : IsRat w m vac0 vac1 vac2 vac3 c3) (_hk : k + m ≤ 100000) :
    Calls Tryz.prog 65 #[(.agg #[uaa0, uaa1, uaa2, uaa3, uab0, uab1, uab2, uab3, uac0, uac1, uac2, uac3]), (.agg #[vaa0, vaa1, vaa2, vaa3, vab0, vab1, vab2, vab3, vac0, vac1, vac2, vac3]), (.func (.func 41) #[] #[])] w fun e w' => (∃ t0 t1 t2 t3 t4 t5 t6 t7 t8 t9 t10 t11, e = .returned (.agg #[t0, t1, t2, t3, t4, t5, t6, t7, t8, t9, t10, t11]) ∧ IsRat w' (k + m + 1) t0 t1 t2 t3 ((a1 + c1)) ∧ IsRat w' (k + m + 1) t4 t5 t6 t7 ((a2 + c2)) ∧ IsRat w' (k + m + 1) t8 t9 t10 t11 ((a3 + c3))) ∧ Gr w w' := by
 go_enter Tryz.func65, Tryz.ntmps65
 have hB := Gr.refl w
 refine wp_seq_k (fun K1 k1 => ?_)
 refine rg [0, 1, 2] ?_
 refine se ?_
 refine eb 32 #[uaa0, uaa1, uaa2, uaa3, uab0, uab1, uab2, uab3, uac0, uac1, uac2, uac3] 3 hB fun b2 w2 g2 L2 o2 q2 hB => ?_
 simp only [p3, p4]
 refine se ?_
 refine eb 32 #[vaa0, vaa1, vaa2, vaa3, vab0, vab1, vab2, vab3, vac0, vac1, vac2, vac3] 4 hB fun b3 w3 g3 L3 o3 q3 hB => ?_
 simp only [p3, p4]
 refine se ?_
 refine ea 32 #[(.bool false), (.slice none 0 0), (.bool false), (.slice none 0 0), (.bool false), (.slice none 0 0), (.bool false), (.slice none 0 0), (.bool false), (.slice none 0 0), (.bool false), (.slice none 0 0)] 6 hB fun b4 w4 g4 L4 o4 q4 hB => ?_
 replace L2 := L2.gr g3
 simp only [p3, p4]
 refine sq_nil ?_
 refine k1 _ _ ?_
 try clear k1 K1
 refine wp_seq_k (fun K5 k5 => ?_)
 refine rg [0] ?_
 refine se ?_
 refine ea 32 #[(.bool false), (.slice none 0 0), (.bool false), (.slice none 0 0), (.bool false), (.slice none 0 0), (.bool false), (.slice none 0 0), (.bool false), (.slice none 0 0), (.bool false), (.slice none 0 0)] 7 hB fun b6 w6 g6 L6 o6 q6 hB => ?_
 replace L2 := L2.gr g4
 have ne2_6 := L2.ne o6
 replace L3 := L3.gr g4
 have ne3_6 := L3.ne o6
 have ne4_6 := L4.ne o6
 simp only [p3, p4]
 refine sq_nil ?_
 refine k5 _ _ ?_
 try clear k5 K5
 refine wp_seq_k (fun K7 k7 => ?_)
 refine wp_seq_k (fun K8 k8 => ?_)
 refine rg [0] ?_
 refine sv 9 (.int .i64 0) ?_
 simp only [p3, p4]
 refine sq_nil ?_
 refine k8 _ _ ?_
 try clear k8 K8
 refine wp_block ?_
 refine wp_loop_rounds 4 ?_
 show Code.wp _ _ _ _ _
 refine wp_seq_k (fun K9 k9 => ?_)
 refine rg [0] ?_
 refine sv 10 (.bool true) ?_
 simp only [p3, p4]
 refine sq_nil ?_
 refine k9 _ _ ?_
 try clear k9 K9
 refine wp_seq_k (fun K10 k10 => ?_)
 refine wp_cond_true rfl ?_
 refine wp_skip ?_
 refine k10 _ _ ?_
 try clear k10 K10
 refine wp_seq_k (fun K11 k11 => ?_)
 refine wp_block ?_
 refine wp_seq_k (fun K12 k12 => ?_)
 refine rg [0, 1] ?_
 refine sv 11 (.int .i64 0) ?_
 simp only [p3, p4]
 refine sv 8 (.int .i64 0) ?_
 simp only [p3, p4]
 refine sq_nil ?_
 refine k12 _ _ ?_
 try clear k12 K12
 have gd19 := Gr.drew w6
 replace hB := hB.trans gd19
 replace L2 := L2.gr (g6.trans gd19)
 replace L3 := L3.gr (g6.trans gd19)
 refine wp_region_ord (fun w' => Lc w' b2 #[uaa0, uaa1, uaa2, uaa3, uab0, uab1, uab2, uab3, uac0, uac1, uac2, uac3] 32 ∧ Lc w' b3 #[vaa0, vaa1, vaa2, vaa3, vab0, vab1, vab2, vab3, vac0, vac1, vac2, vac3] 32) [(true, 0), (true, 1), (true, 2), (true, 3), (true, 4), (true, 5), (true, 6), (true, 7), (false, 8), (true, 9), (false, 10)] (by kernel_rfl) (by kernel_rfl) (by kernel_rfl) (by decide) (fun _ _ _ _ _ h => h) ⟨L2, L3⟩ ?_
 refine ov 12 (.int .i64 0) ?_
 simp only [p3, p4]
 refine ov 13 (.func (.func 41) #[] #[]) ?_
 simp only [p3, p4]
 refine ov 14 (.int .i64 0) ?_
 simp only [p3, p4]
 refine ov 15 (.pointer (some ⟨b2, 0, none⟩)) ?_
 simp only [p3, p4]
 refine ow 16 (.agg #[uaa0, uaa1, uaa2, uaa3]) rfl (fun w' hS => (rl 30 0 [uaa0, uaa1, uaa2, uaa3] hS.1)) ?_
 simp only [p3, p4]
 refine ov 17 (.int .i64 0) ?_
 simp only [p3, p4]
 refine ov 18 (.pointer (some ⟨b3, 0, none⟩)) ?_
 simp only [p3, p4]
 refine ow 19 (.agg #[vaa0, vaa1, vaa2, vaa3]) rfl (fun w' hS => (rl 30 0 [vaa0, vaa1, vaa2, vaa3] hS.2)) ?_
 simp only [p3, p4]
 refine oe ?_
 have kq22 := g2.kp.trans (g3.kp.trans (g4.kp.trans (g6.kp.trans gd19.kp)))
 replace hua1 := hua1.kp kq22
 replace hva1 := hva1.kp kq22
 refine ec 20 (add_r hua1 hva1 (by omega)) ?_
 rintro e21 w21 ⟨⟨p21, q21, r21, s21, rfl, h21⟩, g21⟩
 refine ⟨_, rfl, ?_⟩
 replace hB := hB.trans g21
 replace L2 := L2.gr g21
 replace L3 := L3.gr g21
 refine ⟨⟨L2, L3⟩, ?_⟩
 simp only [p3, p4]
 refine ov 21 (.pointer (some ⟨b6, 0, none⟩)) ?_
 simp only [p3, p4]
 refine oe ?_
 replace L6 := L6.gr (gd19.trans g21)
 refine es 30 0 (.agg #[p21, q21, r21, s21]) [p21, q21, r21, s21] #[p21, q21, r21, s21, (.bool false), (.slice none 0 0), (.bool false), (.slice none 0 0), (.bool false), (.slice none 0 0), (.bool false), (.slice none 0 0)] L6 hB q6 ⟨h21.one0, h21.one1, h21.one2, h21.one3, trivial⟩ fun w24 st24 kp24 L6 hB => ?_
 replace L2 := st24.lc L2 ne2_6
 replace L3 := st24.lc L3 ne3_6
 refine ⟨⟨L2, L3⟩, ?_⟩
 refine ord_nil ?_
 refine k11 _ _ ?_
 try clear k11 K11
 refine rg [0, 1] ?_
 refine sv 22 (.int .i64 1) ?_
 simp only [p3, p4]
 refine sv 9 (.int .i64 1) ?_
 simp only [p3, p4]
 refine sq_nil ?_
 show Code.rounds _ _ _ _ _ _
 show Code.wp _ _ _ _ _
 refine wp_seq_k (fun K25 k25 => ?_)
 refine rg [0] ?_
 refine sv 10 (.bool true) ?_
 simp only [p3, p4]
 refine sq_nil ?_
 refine k25 _ _ ?_
 try clear k25 K25
 refine wp_seq_k (fun K26 k26 => ?_)
 refine wp_cond_true rfl ?_
 refine wp_skip ?_
 refine k26 _ _ ?_
 try clear k26 K26
 refine wp_seq_k (fun K27 k27 => ?_)
 refine wp_block ?_
 refine wp_seq_k (fun K28 k28 => ?_)
 refine rg [0, 1] ?_
 refine sv 11 (.int .i64 1) ?_
 simp only [p3, p4]
 refine sv 8 (.int .i64 1) ?_
 simp only [p3, p4]
 refine sq_nil ?_
 refine k28 _ _ ?_
 try clear k28 K28
 have gd35 := Gr.drew w24
 replace hB := hB.trans gd35
 replace L2 := L2.gr gd35
 replace L3 := L3.gr gd35
 refine wp_region_ord (fun w' => Lc w' b2 #[uaa0, uaa1, uaa2, uaa3, uab0, uab1, uab2, uab3, uac0, uac1, uac2, uac3] 32 ∧ Lc w' b3 #[vaa0, vaa1, vaa2, vaa3, vab0, vab1, vab2, vab3, vac0, vac1, vac2, vac3] 32) [(true, 0), (true, 1), (true, 2), (true, 3), (true, 4), (true, 5), (true, 6), (true, 7), (false, 8), (true, 9), (false, 10)] (by kernel_rfl) (by kernel_rfl) (by kernel_rfl) (by decide) (fun _ _ _ _ _ h => h) ⟨L2, L3⟩ ?_
 refine ov 12 (.int .i64 1) ?_
 simp only [p3, p4]
 refine ov 13 (.func (.func 41) #[] #[]) ?_
 simp only [p3, p4]
 refine ov 14 (.int .i64 1) ?_
 simp only [p3, p4]
 refine ov 15 (.pointer (some ⟨b2, 4, none⟩)) ?_
 simp only [p3, p4]
 refine ow 16 (.agg #[uab0, uab1, uab2, uab3]) rfl (fun w' hS => (rl 30 4 [uab0, uab1, uab2, uab3] hS.1)) ?_
 simp only [p3, p4]
 refine ov 17 (.int .i64 1) ?_
 simp only [p3, p4]
 refine ov 18 (.pointer (some ⟨b3, 4, none⟩)) ?_
 simp only [p3, p4]
 refine ow 19 (.agg #[vab0, vab1, vab2, vab3]) rfl (fun w' hS => (rl 30 4 [vab0, vab1, vab2, vab3] hS.2)) ?_
 simp only [p3, p4]
 refine oe ?_
 have kq38 := g2.kp.trans (g3.kp.trans (g4.kp.trans (g6.kp.trans (gd19.kp.trans (g21.kp.trans (kp24.trans gd35.kp))))))
 replace hua2 := hua2.kp kq38
 replace hva2 := hva2.kp kq38
 refine ec 20 (add_r hua2 hva2 (by omega)) ?_
 rintro e37 w37 ⟨⟨p37, q37, r37, s37, rfl, h37⟩, g37⟩
 refine ⟨_, rfl, ?_⟩
 replace hB := hB.trans g37
 replace L2 := L2.gr g37
 replace L3 := L3.gr g37
 refine ⟨⟨L2, L3⟩, ?_⟩
 simp only [p3, p4]
 refine ov 21 (.pointer (some ⟨b6, 4, none⟩)) ?_
 simp only [p3, p4]
 refine oe ?_
 replace L6 := L6.gr (gd35.trans g37)
 refine es 30 4 (.agg #[p37, q37, r37, s37]) [p37, q37, r37, s37] #[p21, q21, r21, s21, p37, q37, r37, s37, (.bool false), (.slice none 0 0), (.bool false), (.slice none 0 0)] L6 hB q6 ⟨h37.one0, h37.one1, h37.one2, h37.one3, trivial⟩ fun w40 st40 kp40 L6 hB => ?_
 replace L2 := st40.lc L2 ne2_6
 replace L3 := st40.lc L3 ne3_6
 refine ⟨⟨L2, L3⟩, ?_⟩
 refine ord_nil ?_
 refine k27 _ _ ?_
 try clear k27 K27
 refine rg [0, 1] ?_
 refine sv 22 (.int .i64 2) ?_
 simp only [p3, p4]
 refine sv 9 (.int .i64 2) ?_
 simp only [p3, p4]
 refine sq_nil ?_
 show Code.rounds _ _ _ _ _ _
 show Code.wp _ _ _ _ _
 refine wp_seq_k (fun K41 k41 => ?_)
 refine rg [0] ?_
 refine sv 10 (.bool true) ?_
 simp only [p3, p4]
 refine sq_nil ?_
 refine k41 _ _ ?_
 try clear k41 K41
 refine wp_seq_k (fun K42 k42 => ?_)
 refine wp_cond_true rfl ?_
 refine wp_skip ?_
 refine k42 _ _ ?_
 try clear k42 K42
 refine wp_seq_k (fun K43 k43 => ?_)
 refine wp_block ?_
 refine wp_seq_k (fun K44 k44 => ?_)
 refine rg [0, 1] ?_
 refine sv 11 (.int .i64 2) ?_
 simp only [p3, p4]
 refine sv 8 (.int .i64 2) ?_
 simp only [p3, p4]
 refine sq_nil ?_
 refine k44 _ _ ?_
 try clear k44 K44
 have gd51 := Gr.drew w40
 replace hB := hB.trans gd51
 replace L2 := L2.gr gd51
 replace L3 := L3.gr gd51
 refine wp_region_ord (fun w' => Lc w' b2 #[uaa0, uaa1, uaa2, uaa3, uab0, uab1, uab2, uab3, uac0, uac1, uac2, uac3] 32 ∧ Lc w' b3 #[vaa0, vaa1, vaa2, vaa3, vab0, vab1, vab2, vab3, vac0, vac1, vac2, vac3] 32) [(true, 0), (true, 1), (true, 2), (true, 3), (true, 4), (true, 5), (true, 6), (true, 7), (false, 8), (true, 9), (false, 10)] (by kernel_rfl) (by kernel_rfl) (by kernel_rfl) (by decide) (fun _ _ _ _ _ h => h) ⟨L2, L3⟩ ?_
 refine ov 12 (.int .i64 2) ?_
 simp only [p3, p4]
 refine ov 13 (.func (.func 41) #[] #[]) ?_
 simp only [p3, p4]
 refine ov 14 (.int .i64 2) ?_
 simp only [p3, p4]
 refine ov 15 (.pointer (some ⟨b2, 8, none⟩)) ?_
 simp only [p3, p4]
 refine ow 16 (.agg #[uac0, uac1, uac2, uac3]) rfl (fun w' hS => (rl 30 8 [uac0, uac1, uac2, uac3] hS.1)) ?_
 simp only [p3, p4]
 refine ov 17 (.int .i64 2) ?_
 simp only [p3, p4]
 refine ov 18 (.pointer (some ⟨b3, 8, none⟩)) ?_
 simp only [p3, p4]
 refine ow 19 (.agg #[vac0, vac1, vac2, vac3]) rfl (fun w' hS => (rl 30 8 [vac0, vac1, vac2, vac3] hS.2)) ?_
 simp only [p3, p4]
 refine oe ?_
 have kq54 := g2.kp.trans (g3.kp.trans (g4.kp.trans (g6.kp.trans (gd19.kp.trans (g21.kp.trans (kp24.trans (gd35.kp.trans (g37.kp.trans (kp40.trans gd51.kp)))))))))
 replace hua3 := hua3.kp kq54
 replace hva3 := hva3.kp kq54
 refine ec 20 (add_r hua3 hva3 (by omega)) ?_
 rintro e53 w53 ⟨⟨p53, q53, r53, s53, rfl, h53⟩, g53⟩
 refine ⟨_, rfl, ?_⟩
 replace hB := hB.trans g53
 replace L2 := L2.gr g53
 replace L3 := L3.gr g53
 refine ⟨⟨L2, L3⟩, ?_⟩
 simp only [p3, p4]
 refine ov 21 (.pointer (some ⟨b6, 8, none⟩)) ?_
 simp only [p3, p4]
 refine oe ?_
 replace L6 := L6.gr (gd51.trans g53)
 refine es 30 8 (.agg #[p53, q53, r53, s53]) [p53, q53, r53, s53] #[p21, q21, r21, s21, p37, q37, r37, s37, p53, q53, r53, s53] L6 hB q6 ⟨h53.one0, h53.one1, h53.one2, h53.one3, trivial⟩ fun w56 st56 kp56 L6 hB => ?_
 replace L2 := st56.lc L2 ne2_6
 replace L3 := st56.lc L3 ne3_6
 refine ⟨⟨L2, L3⟩, ?_⟩
 refine ord_nil ?_
 refine k43 _ _ ?_
 try clear k43 K43
 refine rg [0, 1] ?_
 refine sv 22 (.int .i64 3) ?_
 simp only [p3, p4]
 refine sv 9 (.int .i64 3) ?_
 simp only [p3, p4]
 refine sq_nil ?_
 show Code.rounds _ _ _ _ _ _
 show Code.wp _ _ _ _ _
 refine wp_seq_k (fun K57 k57 => ?_)
 refine rg [0] ?_
 refine sv 10 (.bool false) ?_
 simp only [p3, p4]
 refine sq_nil ?_
 refine k57 _ _ ?_
 try clear k57 K57
 refine wp_seq_k (fun K58 k58 => ?_)
 refine wp_cond_false rfl ?_
 refine wp_exit ?_
 simp only [Exit.then, Exit.inBlock, ↓reduceIte]
 refine k7 _ _ ?_
 try clear k7 K7
 refine wp_seq_k (fun K59 k59 => ?_)
 refine rg [0, 1] ?_
 refine sw 23 (.agg #[p21, q21, r21, s21, p37, q37, r37, s37, p53, q53, r53, s53]) rfl (rl 32 0 [p21, q21, r21, s21, p37, q37, r37, s37, p53, q53, r53, s53] L6) ?_
 simp only [p3, p4]
 refine se ?_
 replace L4 := st56.lc ((st40.lc ((st24.lc (L4.gr (g6.trans (gd19.trans g21))) ne4_6).gr (gd35.trans g37)) ne4_6).gr (gd51.trans g53)) ne4_6
 refine es 32 0 (.agg #[p21, q21, r21, s21, p37, q37, r37, s37, p53, q53, r53, s53]) [p21, q21, r21, s21, p37, q37, r37, s37, p53, q53, r53, s53] #[p21, q21, r21, s21, p37, q37, r37, s37, p53, q53, r53, s53] L4 hB q4 ⟨h21.one0, h21.one1, h21.one2, h21.one3, h37.one0, h37.one1, h37.one2, h37.one3, h53.one0, h53.one1, h53.one2, h53.one3, trivial⟩ fun w60 st60 kp60 L4 hB => ?_
 refine sq_nil ?_
 refine k59 _ _ ?_
 try clear k59 K59
 refine wp_ret ?_
 refine bodyPost_ret (v := (.agg #[p21, q21, r21, s21, p37, q37, r37, s37, p53, q53, r53, s53])) (ret_cell _ _ _ rfl rfl L4 (by kernel_rfl)) rfl ⟨?_, hB⟩
 have kq61 := kp24.trans (gd35.kp.trans (g37.kp.trans (kp40.trans (gd51.kp.trans (g53.kp.trans (kp56.trans kp60))))))
 replace h21 := h21.kp kq61
 have kq62 := kp40.trans (gd51.kp.trans (g53.kp.trans (kp56.trans kp60)))
 replace h37 := h37.kp kq62
 have kq63 := kp56.trans kp60
 replace h53 := h53.kp kq63
 exact ⟨_, _, _, _, _, _, _, _, _, _, _, _, rfl, h21, h37, h53⟩

set_option maxRecDepth 100000 in
set_option maxHeartbeats 4000000 in
theorem each_sub {k m : Nat} {uaa0 uaa1 uaa2 uaa3 uab0 uab1 uab2 uab3 uac0 uac1 uac2 uac3 : Value} {a1 a2 a3 : Rat} {vaa0 vaa1 vaa2 vaa3 vab0 vab1 vab2 vab3 vac0 vac1 vac2 vac3 : Value} {c1 c2 c3 : Rat} {w : World} (hua1 : IsRat w k uaa0 uaa1 uaa2 uaa3 a1) (hua2 : IsRat w k uab0 uab1 uab2 uab3 a2) (hua3 : IsRat w k uac0 uac1 uac2 uac3 a3) (hva1 : IsRat w m vaa0 vaa1 vaa2 vaa3 c1) (hva2 : IsRat w m vab0 vab1 vab2 vab3 c2) (hva3 : IsRat w m vac0 vac1 vac2 vac3 c3) (_hk : k + m ≤ 100000) :
    Calls Tryz.prog 65 #[(.agg #[uaa0, uaa1, uaa2, uaa3, uab0, uab1, uab2, uab3, uac0, uac1, uac2, uac3]), (.agg #[vaa0, vaa1, vaa2, vaa3, vab0, vab1, vab2, vab3, vac0, vac1, vac2, vac3]), (.func (.func 71) #[] #[])] w fun e w' => (∃ t0 t1 t2 t3 t4 t5 t6 t7 t8 t9 t10 t11, e = .returned (.agg #[t0, t1, t2, t3, t4, t5, t6, t7, t8, t9, t10, t11]) ∧ IsRat w' (k + m + 1) t0 t1 t2 t3 ((a1 - c1)) ∧ IsRat w' (k + m + 1) t4 t5 t6 t7 ((a2 - c2)) ∧ IsRat w' (k + m + 1) t8 t9 t10 t11 ((a3 - c3))) ∧ Gr w w' := by
 go_enter Tryz.func65, Tryz.ntmps65
 have hB := Gr.refl w
 refine wp_seq_k (fun K1 k1 => ?_)
 refine rg [0, 1, 2] ?_
 refine se ?_
 refine eb 32 #[uaa0, uaa1, uaa2, uaa3, uab0, uab1, uab2, uab3, uac0, uac1, uac2, uac3] 3 hB fun b2 w2 g2 L2 o2 q2 hB => ?_
 simp only [p3, p4]
 refine se ?_
 refine eb 32 #[vaa0, vaa1, vaa2, vaa3, vab0, vab1, vab2, vab3, vac0, vac1, vac2, vac3] 4 hB fun b3 w3 g3 L3 o3 q3 hB => ?_
 simp only [p3, p4]
 refine se ?_
 refine ea 32 #[(.bool false), (.slice none 0 0), (.bool false), (.slice none 0 0), (.bool false), (.slice none 0 0), (.bool false), (.slice none 0 0), (.bool false), (.slice none 0 0), (.bool false), (.slice none 0 0)] 6 hB fun b4 w4 g4 L4 o4 q4 hB => ?_
 replace L2 := L2.gr g3
 simp only [p3, p4]
 refine sq_nil ?_
 refine k1 _ _ ?_
 try clear k1 K1
 refine wp_seq_k (fun K5 k5 => ?_)
 refine rg [0] ?_
 refine se ?_
 refine ea 32 #[(.bool false), (.slice none 0 0), (.bool false), (.slice none 0 0), (.bool false), (.slice none 0 0), (.bool false), (.slice none 0 0), (.bool false), (.slice none 0 0), (.bool false), (.slice none 0 0)] 7 hB fun b6 w6 g6 L6 o6 q6 hB => ?_
 replace L2 := L2.gr g4
 have ne2_6 := L2.ne o6
 replace L3 := L3.gr g4
 have ne3_6 := L3.ne o6
 have ne4_6 := L4.ne o6
 simp only [p3, p4]
 refine sq_nil ?_
 refine k5 _ _ ?_
 try clear k5 K5
 refine wp_seq_k (fun K7 k7 => ?_)
 refine wp_seq_k (fun K8 k8 => ?_)
 refine rg [0] ?_
 refine sv 9 (.int .i64 0) ?_
 simp only [p3, p4]
 refine sq_nil ?_
 refine k8 _ _ ?_
 try clear k8 K8
 refine wp_block ?_
 refine wp_loop_rounds 4 ?_
 show Code.wp _ _ _ _ _
 refine wp_seq_k (fun K9 k9 => ?_)
 refine rg [0] ?_
 refine sv 10 (.bool true) ?_
 simp only [p3, p4]
 refine sq_nil ?_
 refine k9 _ _ ?_
 try clear k9 K9
 refine wp_seq_k (fun K10 k10 => ?_)
 refine wp_cond_true rfl ?_
 refine wp_skip ?_
 refine k10 _ _ ?_
 try clear k10 K10
 refine wp_seq_k (fun K11 k11 => ?_)
 refine wp_block ?_
 refine wp_seq_k (fun K12 k12 => ?_)
 refine rg [0, 1] ?_
 refine sv 11 (.int .i64 0) ?_
 simp only [p3, p4]
 refine sv 8 (.int .i64 0) ?_
 simp only [p3, p4]
 refine sq_nil ?_
 refine k12 _ _ ?_
 try clear k12 K12
 have gd19 := Gr.drew w6
 replace hB := hB.trans gd19
 replace L2 := L2.gr (g6.trans gd19)
 replace L3 := L3.gr (g6.trans gd19)
 refine wp_region_ord (fun w' => Lc w' b2 #[uaa0, uaa1, uaa2, uaa3, uab0, uab1, uab2, uab3, uac0, uac1, uac2, uac3] 32 ∧ Lc w' b3 #[vaa0, vaa1, vaa2, vaa3, vab0, vab1, vab2, vab3, vac0, vac1, vac2, vac3] 32) [(true, 0), (true, 1), (true, 2), (true, 3), (true, 4), (true, 5), (true, 6), (true, 7), (false, 8), (true, 9), (false, 10)] (by kernel_rfl) (by kernel_rfl) (by kernel_rfl) (by decide) (fun _ _ _ _ _ h => h) ⟨L2, L3⟩ ?_
 refine ov 12 (.int .i64 0) ?_
 simp only [p3, p4]
 refine ov 13 (.func (.func 71) #[] #[]) ?_
 simp only [p3, p4]
 refine ov 14 (.int .i64 0) ?_
 simp only [p3, p4]
 refine ov 15 (.pointer (some ⟨b2, 0, none⟩)) ?_
 simp only [p3, p4]
 refine ow 16 (.agg #[uaa0, uaa1, uaa2, uaa3]) rfl (fun w' hS => (rl 30 0 [uaa0, uaa1, uaa2, uaa3] hS.1)) ?_
 simp only [p3, p4]
 refine ov 17 (.int .i64 0) ?_
 simp only [p3, p4]
 refine ov 18 (.pointer (some ⟨b3, 0, none⟩)) ?_
 simp only [p3, p4]
 refine ow 19 (.agg #[vaa0, vaa1, vaa2, vaa3]) rfl (fun w' hS => (rl 30 0 [vaa0, vaa1, vaa2, vaa3] hS.2)) ?_
 simp only [p3, p4]
 refine oe ?_
 have kq22 := g2.kp.trans (g3.kp.trans (g4.kp.trans (g6.kp.trans gd19.kp)))
 replace hua1 := hua1.kp kq22
 replace hva1 := hva1.kp kq22
 refine ec 20 (sub_r hua1 hva1 (by omega)) ?_
 rintro e21 w21 ⟨⟨p21, q21, r21, s21, rfl, h21⟩, g21⟩
 refine ⟨_, rfl, ?_⟩
 replace hB := hB.trans g21
 replace L2 := L2.gr g21
 replace L3 := L3.gr g21
 refine ⟨⟨L2, L3⟩, ?_⟩
 simp only [p3, p4]
 refine ov 21 (.pointer (some ⟨b6, 0, none⟩)) ?_
 simp only [p3, p4]
 refine oe ?_
 replace L6 := L6.gr (gd19.trans g21)
 refine es 30 0 (.agg #[p21, q21, r21, s21]) [p21, q21, r21, s21] #[p21, q21, r21, s21, (.bool false), (.slice none 0 0), (.bool false), (.slice none 0 0), (.bool false), (.slice none 0 0), (.bool false), (.slice none 0 0)] L6 hB q6 ⟨h21.one0, h21.one1, h21.one2, h21.one3, trivial⟩ fun w24 st24 kp24 L6 hB => ?_
 replace L2 := st24.lc L2 ne2_6
 replace L3 := st24.lc L3 ne3_6
 refine ⟨⟨L2, L3⟩, ?_⟩
 refine ord_nil ?_
 refine k11 _ _ ?_
 try clear k11 K11
 refine rg [0, 1] ?_
 refine sv 22 (.int .i64 1) ?_
 simp only [p3, p4]
 refine sv 9 (.int .i64 1) ?_
 simp only [p3, p4]
 refine sq_nil ?_
 show Code.rounds _ _ _ _ _ _
 show Code.wp _ _ _ _ _
 refine wp_seq_k (fun K25 k25 => ?_)
 refine rg [0] ?_
 refine sv 10 (.bool true) ?_
 simp only [p3, p4]
 refine sq_nil ?_
 refine k25 _ _ ?_
 try clear k25 K25
 refine wp_seq_k (fun K26 k26 => ?_)
 refine wp_cond_true rfl ?_
 refine wp_skip ?_
 refine k26 _ _ ?_
 try clear k26 K26
 refine wp_seq_k (fun K27 k27 => ?_)
 refine wp_block ?_
 refine wp_seq_k (fun K28 k28 => ?_)
 refine rg [0, 1] ?_
 refine sv 11 (.int .i64 1) ?_
 simp only [p3, p4]
 refine sv 8 (.int .i64 1) ?_
 simp only [p3, p4]
 refine sq_nil ?_
 refine k28 _ _ ?_
 try clear k28 K28
 have gd35 := Gr.drew w24
 replace hB := hB.trans gd35
 replace L2 := L2.gr gd35
 replace L3 := L3.gr gd35
 refine wp_region_ord (fun w' => Lc w' b2 #[uaa0, uaa1, uaa2, uaa3, uab0, uab1, uab2, uab3, uac0, uac1, uac2, uac3] 32 ∧ Lc w' b3 #[vaa0, vaa1, vaa2, vaa3, vab0, vab1, vab2, vab3, vac0, vac1, vac2, vac3] 32) [(true, 0), (true, 1), (true, 2), (true, 3), (true, 4), (true, 5), (true, 6), (true, 7), (false, 8), (true, 9), (false, 10)] (by kernel_rfl) (by kernel_rfl) (by kernel_rfl) (by decide) (fun _ _ _ _ _ h => h) ⟨L2, L3⟩ ?_
 refine ov 12 (.int .i64 1) ?_
 simp only [p3, p4]
 refine ov 13 (.func (.func 71) #[] #[]) ?_
 simp only [p3, p4]
 refine ov 14 (.int .i64 1) ?_
 simp only [p3, p4]
 refine ov 15 (.pointer (some ⟨b2, 4, none⟩)) ?_
 simp only [p3, p4]
 refine ow 16 (.agg #[uab0, uab1, uab2, uab3]) rfl (fun w' hS => (rl 30 4 [uab0, uab1, uab2, uab3] hS.1)) ?_
 simp only [p3, p4]
 refine ov 17 (.int .i64 1) ?_
 simp only [p3, p4]
 refine ov 18 (.pointer (some ⟨b3, 4, none⟩)) ?_
 simp only [p3, p4]
 refine ow 19 (.agg #[vab0, vab1, vab2, vab3]) rfl (fun w' hS => (rl 30 4 [vab0, vab1, vab2, vab3] hS.2)) ?_
 simp only [p3, p4]
 refine oe ?_
 have kq38 := g2.kp.trans (g3.kp.trans (g4.kp.trans (g6.kp.trans (gd19.kp.trans (g21.kp.trans (kp24.trans gd35.kp))))))
 replace hua2 := hua2.kp kq38
 replace hva2 := hva2.kp kq38
 refine ec 20 (sub_r hua2 hva2 (by omega)) ?_
 rintro e37 w37 ⟨⟨p37, q37, r37, s37, rfl, h37⟩, g37⟩
 refine ⟨_, rfl, ?_⟩
 replace hB := hB.trans g37
 replace L2 := L2.gr g37
 replace L3 := L3.gr g37
 refine ⟨⟨L2, L3⟩, ?_⟩
 simp only [p3, p4]
 refine ov 21 (.pointer (some ⟨b6, 4, none⟩)) ?_
 simp only [p3, p4]
 refine oe ?_
 replace L6 := L6.gr (gd35.trans g37)
 refine es 30 4 (.agg #[p37, q37, r37, s37]) [p37, q37, r37, s37] #[p21, q21, r21, s21, p37, q37, r37, s37, (.bool false), (.slice none 0 0), (.bool false), (.slice none 0 0)] L6 hB q6 ⟨h37.one0, h37.one1, h37.one2, h37.one3, trivial⟩ fun w40 st40 kp40 L6 hB => ?_
 replace L2 := st40.lc L2 ne2_6
 replace L3 := st40.lc L3 ne3_6
 refine ⟨⟨L2, L3⟩, ?_⟩
 refine ord_nil ?_
 refine k27 _ _ ?_
 try clear k27 K27
 refine rg [0, 1] ?_
 refine sv 22 (.int .i64 2) ?_
 simp only [p3, p4]
 refine sv 9 (.int .i64 2) ?_
 simp only [p3, p4]
 refine sq_nil ?_
 show Code.rounds _ _ _ _ _ _
 show Code.wp _ _ _ _ _
 refine wp_seq_k (fun K41 k41 => ?_)
 refine rg [0] ?_
 refine sv 10 (.bool true) ?_
 simp only [p3, p4]
 refine sq_nil ?_
 refine k41 _ _ ?_
 try clear k41 K41
 refine wp_seq_k (fun K42 k42 => ?_)
 refine wp_cond_true rfl ?_
 refine wp_skip ?_
 refine k42 _ _ ?_
 try clear k42 K42
 refine wp_seq_k (fun K43 k43 => ?_)
 refine wp_block ?_
 refine wp_seq_k (fun K44 k44 => ?_)
 refine rg [0, 1] ?_
 refine sv 11 (.int .i64 2) ?_
 simp only [p3, p4]
 refine sv 8 (.int .i64 2) ?_
 simp only [p3, p4]
 refine sq_nil ?_
 refine k44 _ _ ?_
 try clear k44 K44
 have gd51 := Gr.drew w40
 replace hB := hB.trans gd51
 replace L2 := L2.gr gd51
 replace L3 := L3.gr gd51
 refine wp_region_ord (fun w' => Lc w' b2 #[uaa0, uaa1, uaa2, uaa3, uab0, uab1, uab2, uab3, uac0, uac1, uac2, uac3] 32 ∧ Lc w' b3 #[vaa0, vaa1, vaa2, vaa3, vab0, vab1, vab2, vab3, vac0, vac1, vac2, vac3] 32) [(true, 0), (true, 1), (true, 2), (true, 3), (true, 4), (true, 5), (true, 6), (true, 7), (false, 8), (true, 9), (false, 10)] (by kernel_rfl) (by kernel_rfl) (by kernel_rfl) (by decide) (fun _ _ _ _ _ h => h) ⟨L2, L3⟩ ?_
 refine ov 12 (.int .i64 2) ?_
 simp only [p3, p4]
 refine ov 13 (.func (.func 71) #[] #[]) ?_
 simp only [p3, p4]
 refine ov 14 (.int .i64 2) ?_
 simp only [p3, p4]
 refine ov 15 (.pointer (some ⟨b2, 8, none⟩)) ?_
 simp only [p3, p4]
 refine ow 16 (.agg #[uac0, uac1, uac2, uac3]) rfl (fun w' hS => (rl 30 8 [uac0, uac1, uac2, uac3] hS.1)) ?_
 simp only [p3, p4]
 refine ov 17 (.int .i64 2) ?_
 simp only [p3, p4]
 refine ov 18 (.pointer (some ⟨b3, 8, none⟩)) ?_
 simp only [p3, p4]
 refine ow 19 (.agg #[vac0, vac1, vac2, vac3]) rfl (fun w' hS => (rl 30 8 [vac0, vac1, vac2, vac3] hS.2)) ?_
 simp only [p3, p4]
 refine oe ?_
 have kq54 := g2.kp.trans (g3.kp.trans (g4.kp.trans (g6.kp.trans (gd19.kp.trans (g21.kp.trans (kp24.trans (gd35.kp.trans (g37.kp.trans (kp40.trans gd51.kp)))))))))
 replace hua3 := hua3.kp kq54
 replace hva3 := hva3.kp kq54
 refine ec 20 (sub_r hua3 hva3 (by omega)) ?_
 rintro e53 w53 ⟨⟨p53, q53, r53, s53, rfl, h53⟩, g53⟩
 refine ⟨_, rfl, ?_⟩
 replace hB := hB.trans g53
 replace L2 := L2.gr g53
 replace L3 := L3.gr g53
 refine ⟨⟨L2, L3⟩, ?_⟩
 simp only [p3, p4]
 refine ov 21 (.pointer (some ⟨b6, 8, none⟩)) ?_
 simp only [p3, p4]
 refine oe ?_
 replace L6 := L6.gr (gd51.trans g53)
 refine es 30 8 (.agg #[p53, q53, r53, s53]) [p53, q53, r53, s53] #[p21, q21, r21, s21, p37, q37, r37, s37, p53, q53, r53, s53] L6 hB q6 ⟨h53.one0, h53.one1, h53.one2, h53.one3, trivial⟩ fun w56 st56 kp56 L6 hB => ?_
 replace L2 := st56.lc L2 ne2_6
 replace L3 := st56.lc L3 ne3_6
 refine ⟨⟨L2, L3⟩, ?_⟩
 refine ord_nil ?_
 refine k43 _ _ ?_
 try clear k43 K43
 refine rg [0, 1] ?_
 refine sv 22 (.int .i64 3) ?_
 simp only [p3, p4]
 refine sv 9 (.int .i64 3) ?_
 simp only [p3, p4]
 refine sq_nil ?_
 show Code.rounds _ _ _ _ _ _
 show Code.wp _ _ _ _ _
 refine wp_seq_k (fun K57 k57 => ?_)
 refine rg [0] ?_
 refine sv 10 (.bool false) ?_
 simp only [p3, p4]
 refine sq_nil ?_
 refine k57 _ _ ?_
 try clear k57 K57
 refine wp_seq_k (fun K58 k58 => ?_)
 refine wp_cond_false rfl ?_
 refine wp_exit ?_
 simp only [Exit.then, Exit.inBlock, ↓reduceIte]
 refine k7 _ _ ?_
 try clear k7 K7
 refine wp_seq_k (fun K59 k59 => ?_)
 refine rg [0, 1] ?_
 refine sw 23 (.agg #[p21, q21, r21, s21, p37, q37, r37, s37, p53, q53, r53, s53]) rfl (rl 32 0 [p21, q21, r21, s21, p37, q37, r37, s37, p53, q53, r53, s53] L6) ?_
 simp only [p3, p4]
 refine se ?_
 replace L4 := st56.lc ((st40.lc ((st24.lc (L4.gr (g6.trans (gd19.trans g21))) ne4_6).gr (gd35.trans g37)) ne4_6).gr (gd51.trans g53)) ne4_6
 refine es 32 0 (.agg #[p21, q21, r21, s21, p37, q37, r37, s37, p53, q53, r53, s53]) [p21, q21, r21, s21, p37, q37, r37, s37, p53, q53, r53, s53] #[p21, q21, r21, s21, p37, q37, r37, s37, p53, q53, r53, s53] L4 hB q4 ⟨h21.one0, h21.one1, h21.one2, h21.one3, h37.one0, h37.one1, h37.one2, h37.one3, h53.one0, h53.one1, h53.one2, h53.one3, trivial⟩ fun w60 st60 kp60 L4 hB => ?_
 refine sq_nil ?_
 refine k59 _ _ ?_
 try clear k59 K59
 refine wp_ret ?_
 refine bodyPost_ret (v := (.agg #[p21, q21, r21, s21, p37, q37, r37, s37, p53, q53, r53, s53])) (ret_cell _ _ _ rfl rfl L4 (by kernel_rfl)) rfl ⟨?_, hB⟩
 have kq61 := kp24.trans (gd35.kp.trans (g37.kp.trans (kp40.trans (gd51.kp.trans (g53.kp.trans (kp56.trans kp60))))))
 replace h21 := h21.kp kq61
 have kq62 := kp40.trans (gd51.kp.trans (g53.kp.trans (kp56.trans kp60)))
 replace h37 := h37.kp kq62
 have kq63 := kp56.trans kp60
 replace h53 := h53.kp kq63
 exact ⟨_, _, _, _, _, _, _, _, _, _, _, _, rfl, h21, h37, h53⟩

set_option maxRecDepth 100000 in
set_option maxHeartbeats 4000000 in
theorem each_mul {k m : Nat} {uaa0 uaa1 uaa2 uaa3 uab0 uab1 uab2 uab3 uac0 uac1 uac2 uac3 : Value} {a1 a2 a3 : Rat} {vaa0 vaa1 vaa2 vaa3 vab0 vab1 vab2 vab3 vac0 vac1 vac2 vac3 : Value} {c1 c2 c3 : Rat} {w : World} (hua1 : IsRat w k uaa0 uaa1 uaa2 uaa3 a1) (hua2 : IsRat w k uab0 uab1 uab2 uab3 a2) (hua3 : IsRat w k uac0 uac1 uac2 uac3 a3) (hva1 : IsRat w m vaa0 vaa1 vaa2 vaa3 c1) (hva2 : IsRat w m vab0 vab1 vab2 vab3 c2) (hva3 : IsRat w m vac0 vac1 vac2 vac3 c3) (_hk : k + m ≤ 100000) :
    Calls Tryz.prog 65 #[(.agg #[uaa0, uaa1, uaa2, uaa3, uab0, uab1, uab2, uab3, uac0, uac1, uac2, uac3]), (.agg #[vaa0, vaa1, vaa2, vaa3, vab0, vab1, vab2, vab3, vac0, vac1, vac2, vac3]), (.func (.func 42) #[] #[])] w fun e w' => (∃ t0 t1 t2 t3 t4 t5 t6 t7 t8 t9 t10 t11, e = .returned (.agg #[t0, t1, t2, t3, t4, t5, t6, t7, t8, t9, t10, t11]) ∧ IsRat w' (k + m) t0 t1 t2 t3 ((a1 * c1)) ∧ IsRat w' (k + m) t4 t5 t6 t7 ((a2 * c2)) ∧ IsRat w' (k + m) t8 t9 t10 t11 ((a3 * c3))) ∧ Gr w w' := by
 go_enter Tryz.func65, Tryz.ntmps65
 have hB := Gr.refl w
 refine wp_seq_k (fun K1 k1 => ?_)
 refine rg [0, 1, 2] ?_
 refine se ?_
 refine eb 32 #[uaa0, uaa1, uaa2, uaa3, uab0, uab1, uab2, uab3, uac0, uac1, uac2, uac3] 3 hB fun b2 w2 g2 L2 o2 q2 hB => ?_
 simp only [p3, p4]
 refine se ?_
 refine eb 32 #[vaa0, vaa1, vaa2, vaa3, vab0, vab1, vab2, vab3, vac0, vac1, vac2, vac3] 4 hB fun b3 w3 g3 L3 o3 q3 hB => ?_
 simp only [p3, p4]
 refine se ?_
 refine ea 32 #[(.bool false), (.slice none 0 0), (.bool false), (.slice none 0 0), (.bool false), (.slice none 0 0), (.bool false), (.slice none 0 0), (.bool false), (.slice none 0 0), (.bool false), (.slice none 0 0)] 6 hB fun b4 w4 g4 L4 o4 q4 hB => ?_
 replace L2 := L2.gr g3
 simp only [p3, p4]
 refine sq_nil ?_
 refine k1 _ _ ?_
 try clear k1 K1
 refine wp_seq_k (fun K5 k5 => ?_)
 refine rg [0] ?_
 refine se ?_
 refine ea 32 #[(.bool false), (.slice none 0 0), (.bool false), (.slice none 0 0), (.bool false), (.slice none 0 0), (.bool false), (.slice none 0 0), (.bool false), (.slice none 0 0), (.bool false), (.slice none 0 0)] 7 hB fun b6 w6 g6 L6 o6 q6 hB => ?_
 replace L2 := L2.gr g4
 have ne2_6 := L2.ne o6
 replace L3 := L3.gr g4
 have ne3_6 := L3.ne o6
 have ne4_6 := L4.ne o6
 simp only [p3, p4]
 refine sq_nil ?_
 refine k5 _ _ ?_
 try clear k5 K5
 refine wp_seq_k (fun K7 k7 => ?_)
 refine wp_seq_k (fun K8 k8 => ?_)
 refine rg [0] ?_
 refine sv 9 (.int .i64 0) ?_
 simp only [p3, p4]
 refine sq_nil ?_
 refine k8 _ _ ?_
 try clear k8 K8
 refine wp_block ?_
 refine wp_loop_rounds 4 ?_
 show Code.wp _ _ _ _ _
 refine wp_seq_k (fun K9 k9 => ?_)
 refine rg [0] ?_
 refine sv 10 (.bool true) ?_
 simp only [p3, p4]
 refine sq_nil ?_
 refine k9 _ _ ?_
 try clear k9 K9
 refine wp_seq_k (fun K10 k10 => ?_)
 refine wp_cond_true rfl ?_
 refine wp_skip ?_
 refine k10 _ _ ?_
 try clear k10 K10
 refine wp_seq_k (fun K11 k11 => ?_)
 refine wp_block ?_
 refine wp_seq_k (fun K12 k12 => ?_)
 refine rg [0, 1] ?_
 refine sv 11 (.int .i64 0) ?_
 simp only [p3, p4]
 refine sv 8 (.int .i64 0) ?_
 simp only [p3, p4]
 refine sq_nil ?_
 refine k12 _ _ ?_
 try clear k12 K12
 have gd19 := Gr.drew w6
 replace hB := hB.trans gd19
 replace L2 := L2.gr (g6.trans gd19)
 replace L3 := L3.gr (g6.trans gd19)
 refine wp_region_ord (fun w' => Lc w' b2 #[uaa0, uaa1, uaa2, uaa3, uab0, uab1, uab2, uab3, uac0, uac1, uac2, uac3] 32 ∧ Lc w' b3 #[vaa0, vaa1, vaa2, vaa3, vab0, vab1, vab2, vab3, vac0, vac1, vac2, vac3] 32) [(true, 0), (true, 1), (true, 2), (true, 3), (true, 4), (true, 5), (true, 6), (true, 7), (false, 8), (true, 9), (false, 10)] (by kernel_rfl) (by kernel_rfl) (by kernel_rfl) (by decide) (fun _ _ _ _ _ h => h) ⟨L2, L3⟩ ?_
 refine ov 12 (.int .i64 0) ?_
 simp only [p3, p4]
 refine ov 13 (.func (.func 42) #[] #[]) ?_
 simp only [p3, p4]
 refine ov 14 (.int .i64 0) ?_
 simp only [p3, p4]
 refine ov 15 (.pointer (some ⟨b2, 0, none⟩)) ?_
 simp only [p3, p4]
 refine ow 16 (.agg #[uaa0, uaa1, uaa2, uaa3]) rfl (fun w' hS => (rl 30 0 [uaa0, uaa1, uaa2, uaa3] hS.1)) ?_
 simp only [p3, p4]
 refine ov 17 (.int .i64 0) ?_
 simp only [p3, p4]
 refine ov 18 (.pointer (some ⟨b3, 0, none⟩)) ?_
 simp only [p3, p4]
 refine ow 19 (.agg #[vaa0, vaa1, vaa2, vaa3]) rfl (fun w' hS => (rl 30 0 [vaa0, vaa1, vaa2, vaa3] hS.2)) ?_
 simp only [p3, p4]
 refine oe ?_
 have kq22 := g2.kp.trans (g3.kp.trans (g4.kp.trans (g6.kp.trans gd19.kp)))
 replace hua1 := hua1.kp kq22
 replace hva1 := hva1.kp kq22
 refine ec 20 (mul_r hua1 hva1 (by omega)) ?_
 rintro e21 w21 ⟨⟨p21, q21, r21, s21, rfl, h21⟩, g21⟩
 refine ⟨_, rfl, ?_⟩
 replace hB := hB.trans g21
 replace L2 := L2.gr g21
 replace L3 := L3.gr g21
 refine ⟨⟨L2, L3⟩, ?_⟩
 simp only [p3, p4]
 refine ov 21 (.pointer (some ⟨b6, 0, none⟩)) ?_
 simp only [p3, p4]
 refine oe ?_
 replace L6 := L6.gr (gd19.trans g21)
 refine es 30 0 (.agg #[p21, q21, r21, s21]) [p21, q21, r21, s21] #[p21, q21, r21, s21, (.bool false), (.slice none 0 0), (.bool false), (.slice none 0 0), (.bool false), (.slice none 0 0), (.bool false), (.slice none 0 0)] L6 hB q6 ⟨h21.one0, h21.one1, h21.one2, h21.one3, trivial⟩ fun w24 st24 kp24 L6 hB => ?_
 replace L2 := st24.lc L2 ne2_6
 replace L3 := st24.lc L3 ne3_6
 refine ⟨⟨L2, L3⟩, ?_⟩
 refine ord_nil ?_
 refine k11 _ _ ?_
 try clear k11 K11
 refine rg [0, 1] ?_
 refine sv 22 (.int .i64 1) ?_
 simp only [p3, p4]
 refine sv 9 (.int .i64 1) ?_
 simp only [p3, p4]
 refine sq_nil ?_
 show Code.rounds _ _ _ _ _ _
 show Code.wp _ _ _ _ _
 refine wp_seq_k (fun K25 k25 => ?_)
 refine rg [0] ?_
 refine sv 10 (.bool true) ?_
 simp only [p3, p4]
 refine sq_nil ?_
 refine k25 _ _ ?_
 try clear k25 K25
 refine wp_seq_k (fun K26 k26 => ?_)
 refine wp_cond_true rfl ?_
 refine wp_skip ?_
 refine k26 _ _ ?_
 try clear k26 K26
 refine wp_seq_k (fun K27 k27 => ?_)
 refine wp_block ?_
 refine wp_seq_k (fun K28 k28 => ?_)
 refine rg [0, 1] ?_
 refine sv 11 (.int .i64 1) ?_
 simp only [p3, p4]
 refine sv 8 (.int .i64 1) ?_
 simp only [p3, p4]
 refine sq_nil ?_
 refine k28 _ _ ?_
 try clear k28 K28
 have gd35 := Gr.drew w24
 replace hB := hB.trans gd35
 replace L2 := L2.gr gd35
 replace L3 := L3.gr gd35
 refine wp_region_ord (fun w' => Lc w' b2 #[uaa0, uaa1, uaa2, uaa3, uab0, uab1, uab2, uab3, uac0, uac1, uac2, uac3] 32 ∧ Lc w' b3 #[vaa0, vaa1, vaa2, vaa3, vab0, vab1, vab2, vab3, vac0, vac1, vac2, vac3] 32) [(true, 0), (true, 1), (true, 2), (true, 3), (true, 4), (true, 5), (true, 6), (true, 7), (false, 8), (true, 9), (false, 10)] (by kernel_rfl) (by kernel_rfl) (by kernel_rfl) (by decide) (fun _ _ _ _ _ h => h) ⟨L2, L3⟩ ?_
 refine ov 12 (.int .i64 1) ?_
 simp only [p3, p4]
 refine ov 13 (.func (.func 42) #[] #[]) ?_
 simp only [p3, p4]
 refine ov 14 (.int .i64 1) ?_
 simp only [p3, p4]
 refine ov 15 (.pointer (some ⟨b2, 4, none⟩)) ?_
 simp only [p3, p4]
 refine ow 16 (.agg #[uab0, uab1, uab2, uab3]) rfl (fun w' hS => (rl 30 4 [uab0, uab1, uab2, uab3] hS.1)) ?_
 simp only [p3, p4]
 refine ov 17 (.int .i64 1) ?_
 simp only [p3, p4]
 refine ov 18 (.pointer (some ⟨b3, 4, none⟩)) ?_
 simp only [p3, p4]
 refine ow 19 (.agg #[vab0, vab1, vab2, vab3]) rfl (fun w' hS => (rl 30 4 [vab0, vab1, vab2, vab3] hS.2)) ?_
 simp only [p3, p4]
 refine oe ?_
 have kq38 := g2.kp.trans (g3.kp.trans (g4.kp.trans (g6.kp.trans (gd19.kp.trans (g21.kp.trans (kp24.trans gd35.kp))))))
 replace hua2 := hua2.kp kq38
 replace hva2 := hva2.kp kq38
 refine ec 20 (mul_r hua2 hva2 (by omega)) ?_
 rintro e37 w37 ⟨⟨p37, q37, r37, s37, rfl, h37⟩, g37⟩
 refine ⟨_, rfl, ?_⟩
 replace hB := hB.trans g37
 replace L2 := L2.gr g37
 replace L3 := L3.gr g37
 refine ⟨⟨L2, L3⟩, ?_⟩
 simp only [p3, p4]
 refine ov 21 (.pointer (some ⟨b6, 4, none⟩)) ?_
 simp only [p3, p4]
 refine oe ?_
 replace L6 := L6.gr (gd35.trans g37)
 refine es 30 4 (.agg #[p37, q37, r37, s37]) [p37, q37, r37, s37] #[p21, q21, r21, s21, p37, q37, r37, s37, (.bool false), (.slice none 0 0), (.bool false), (.slice none 0 0)] L6 hB q6 ⟨h37.one0, h37.one1, h37.one2, h37.one3, trivial⟩ fun w40 st40 kp40 L6 hB => ?_
 replace L2 := st40.lc L2 ne2_6
 replace L3 := st40.lc L3 ne3_6
 refine ⟨⟨L2, L3⟩, ?_⟩
 refine ord_nil ?_
 refine k27 _ _ ?_
 try clear k27 K27
 refine rg [0, 1] ?_
 refine sv 22 (.int .i64 2) ?_
 simp only [p3, p4]
 refine sv 9 (.int .i64 2) ?_
 simp only [p3, p4]
 refine sq_nil ?_
 show Code.rounds _ _ _ _ _ _
 show Code.wp _ _ _ _ _
 refine wp_seq_k (fun K41 k41 => ?_)
 refine rg [0] ?_
 refine sv 10 (.bool true) ?_
 simp only [p3, p4]
 refine sq_nil ?_
 refine k41 _ _ ?_
 try clear k41 K41
 refine wp_seq_k (fun K42 k42 => ?_)
 refine wp_cond_true rfl ?_
 refine wp_skip ?_
 refine k42 _ _ ?_
 try clear k42 K42
 refine wp_seq_k (fun K43 k43 => ?_)
 refine wp_block ?_
 refine wp_seq_k (fun K44 k44 => ?_)
 refine rg [0, 1] ?_
 refine sv 11 (.int .i64 2) ?_
 simp only [p3, p4]
 refine sv 8 (.int .i64 2) ?_
 simp only [p3, p4]
 refine sq_nil ?_
 refine k44 _ _ ?_
 try clear k44 K44
 have gd51 := Gr.drew w40
 replace hB := hB.trans gd51
 replace L2 := L2.gr gd51
 replace L3 := L3.gr gd51
 refine wp_region_ord (fun w' => Lc w' b2 #[uaa0, uaa1, uaa2, uaa3, uab0, uab1, uab2, uab3, uac0, uac1, uac2, uac3] 32 ∧ Lc w' b3 #[vaa0, vaa1, vaa2, vaa3, vab0, vab1, vab2, vab3, vac0, vac1, vac2, vac3] 32) [(true, 0), (true, 1), (true, 2), (true, 3), (true, 4), (true, 5), (true, 6), (true, 7), (false, 8), (true, 9), (false, 10)] (by kernel_rfl) (by kernel_rfl) (by kernel_rfl) (by decide) (fun _ _ _ _ _ h => h) ⟨L2, L3⟩ ?_
 refine ov 12 (.int .i64 2) ?_
 simp only [p3, p4]
 refine ov 13 (.func (.func 42) #[] #[]) ?_
 simp only [p3, p4]
 refine ov 14 (.int .i64 2) ?_
 simp only [p3, p4]
 refine ov 15 (.pointer (some ⟨b2, 8, none⟩)) ?_
 simp only [p3, p4]
 refine ow 16 (.agg #[uac0, uac1, uac2, uac3]) rfl (fun w' hS => (rl 30 8 [uac0, uac1, uac2, uac3] hS.1)) ?_
 simp only [p3, p4]
 refine ov 17 (.int .i64 2) ?_
 simp only [p3, p4]
 refine ov 18 (.pointer (some ⟨b3, 8, none⟩)) ?_
 simp only [p3, p4]
 refine ow 19 (.agg #[vac0, vac1, vac2, vac3]) rfl (fun w' hS => (rl 30 8 [vac0, vac1, vac2, vac3] hS.2)) ?_
 simp only [p3, p4]
 refine oe ?_
 have kq54 := g2.kp.trans (g3.kp.trans (g4.kp.trans (g6.kp.trans (gd19.kp.trans (g21.kp.trans (kp24.trans (gd35.kp.trans (g37.kp.trans (kp40.trans gd51.kp)))))))))
 replace hua3 := hua3.kp kq54
 replace hva3 := hva3.kp kq54
 refine ec 20 (mul_r hua3 hva3 (by omega)) ?_
 rintro e53 w53 ⟨⟨p53, q53, r53, s53, rfl, h53⟩, g53⟩
 refine ⟨_, rfl, ?_⟩
 replace hB := hB.trans g53
 replace L2 := L2.gr g53
 replace L3 := L3.gr g53
 refine ⟨⟨L2, L3⟩, ?_⟩
 simp only [p3, p4]
 refine ov 21 (.pointer (some ⟨b6, 8, none⟩)) ?_
 simp only [p3, p4]
 refine oe ?_
 replace L6 := L6.gr (gd51.trans g53)
 refine es 30 8 (.agg #[p53, q53, r53, s53]) [p53, q53, r53, s53] #[p21, q21, r21, s21, p37, q37, r37, s37, p53, q53, r53, s53] L6 hB q6 ⟨h53.one0, h53.one1, h53.one2, h53.one3, trivial⟩ fun w56 st56 kp56 L6 hB => ?_
 replace L2 := st56.lc L2 ne2_6
 replace L3 := st56.lc L3 ne3_6
 refine ⟨⟨L2, L3⟩, ?_⟩
 refine ord_nil ?_
 refine k43 _ _ ?_
 try clear k43 K43
 refine rg [0, 1] ?_
 refine sv 22 (.int .i64 3) ?_
 simp only [p3, p4]
 refine sv 9 (.int .i64 3) ?_
 simp only [p3, p4]
 refine sq_nil ?_
 show Code.rounds _ _ _ _ _ _
 show Code.wp _ _ _ _ _
 refine wp_seq_k (fun K57 k57 => ?_)
 refine rg [0] ?_
 refine sv 10 (.bool false) ?_
 simp only [p3, p4]
 refine sq_nil ?_
 refine k57 _ _ ?_
 try clear k57 K57
 refine wp_seq_k (fun K58 k58 => ?_)
 refine wp_cond_false rfl ?_
 refine wp_exit ?_
 simp only [Exit.then, Exit.inBlock, ↓reduceIte]
 refine k7 _ _ ?_
 try clear k7 K7
 refine wp_seq_k (fun K59 k59 => ?_)
 refine rg [0, 1] ?_
 refine sw 23 (.agg #[p21, q21, r21, s21, p37, q37, r37, s37, p53, q53, r53, s53]) rfl (rl 32 0 [p21, q21, r21, s21, p37, q37, r37, s37, p53, q53, r53, s53] L6) ?_
 simp only [p3, p4]
 refine se ?_
 replace L4 := st56.lc ((st40.lc ((st24.lc (L4.gr (g6.trans (gd19.trans g21))) ne4_6).gr (gd35.trans g37)) ne4_6).gr (gd51.trans g53)) ne4_6
 refine es 32 0 (.agg #[p21, q21, r21, s21, p37, q37, r37, s37, p53, q53, r53, s53]) [p21, q21, r21, s21, p37, q37, r37, s37, p53, q53, r53, s53] #[p21, q21, r21, s21, p37, q37, r37, s37, p53, q53, r53, s53] L4 hB q4 ⟨h21.one0, h21.one1, h21.one2, h21.one3, h37.one0, h37.one1, h37.one2, h37.one3, h53.one0, h53.one1, h53.one2, h53.one3, trivial⟩ fun w60 st60 kp60 L4 hB => ?_
 refine sq_nil ?_
 refine k59 _ _ ?_
 try clear k59 K59
 refine wp_ret ?_
 refine bodyPost_ret (v := (.agg #[p21, q21, r21, s21, p37, q37, r37, s37, p53, q53, r53, s53])) (ret_cell _ _ _ rfl rfl L4 (by kernel_rfl)) rfl ⟨?_, hB⟩
 have kq61 := kp24.trans (gd35.kp.trans (g37.kp.trans (kp40.trans (gd51.kp.trans (g53.kp.trans (kp56.trans kp60))))))
 replace h21 := h21.kp kq61
 have kq62 := kp40.trans (gd51.kp.trans (g53.kp.trans (kp56.trans kp60)))
 replace h37 := h37.kp kq62
 have kq63 := kp56.trans kp60
 replace h53 := h53.kp kq63
 exact ⟨_, _, _, _, _, _, _, _, _, _, _, _, rfl, h21, h37, h53⟩

set_option maxRecDepth 100000 in
set_option maxHeartbeats 1000000 in
theorem scale1_r {k m : Nat} {kb : Nat} {s0 s1 s2 s3 : Value} {sq : Rat} {u0 u1 u2 u3 v0 v1 v2 v3 : Value} {a : Rat} {w : World} (ha : IsRat w k u0 u1 u2 u3 a) (hL : Lc w kb #[s0, s1, s2, s3] 30) (hs : IsRat w m s0 s1 s2 s3 sq) (_hk : k + m ≤ 100000) :
    Calls Tryz.prog 84 #[(.agg #[u0, u1, u2, u3]), (.agg #[v0, v1, v2, v3]), (.pointer (some ⟨kb, 0, none⟩))] w fun e w' => (∃ z0 z1 z2 z3, e = .returned (.agg #[z0, z1, z2, z3]) ∧ IsRat w' (m + k) z0 z1 z2 z3 (sq * a)) ∧ Gr w w' := by
 go_enter Tryz.func84, Tryz.ntmps84
 have hB := Gr.refl w
 refine wp_seq_k (fun K1 k1 => ?_)
 refine rg [0, 1, 2] ?_
 refine se ?_
 refine eb 30 #[u0, u1, u2, u3] 3 hB fun b2 w2 g2 L2 o2 q2 hB => ?_
 simp only [p3, p4]
 refine se ?_
 refine eb 30 #[v0, v1, v2, v3] 4 hB fun b3 w3 g3 L3 o3 q3 hB => ?_
 replace hL := hL.gr g2
 simp only [p3, p4]
 refine se ?_
 refine ea 30 #[(.bool false), (.slice none 0 0), (.bool false), (.slice none 0 0)] 5 hB fun b4 w4 g4 L4 o4 q4 hB => ?_
 replace hL := hL.gr g3
 replace L2 := L2.gr g3
 simp only [p3, p4]
 refine sq_nil ?_
 refine k1 _ _ ?_
 try clear k1 K1
 refine wp_seq_k (fun K5 k5 => ?_)
 refine rg [0, 1, 2, 3] ?_
 replace hL := hL.gr g4
 refine sw 6 (.agg #[s0, s1, s2, s3]) rfl (rl 30 0 [s0, s1, s2, s3] hL) ?_
 simp only [p3, p4]
 replace L2 := L2.gr g4
 refine sw 7 (.agg #[u0, u1, u2, u3]) rfl (rl 30 0 [u0, u1, u2, u3] L2) ?_
 simp only [p3, p4]
 refine se ?_
 have kq7 := g2.kp.trans (g3.kp.trans g4.kp)
 replace hs := hs.kp kq7
 replace ha := ha.kp kq7
 refine ec 8 (mul_r hs ha (by omega)) ?_
 rintro e6 w6 ⟨⟨p6, q6, r6, s6, rfl, h6⟩, g6⟩
 refine ⟨_, rfl, ?_⟩
 replace hB := hB.trans g6
 simp only [p3, p4]
 refine se ?_
 replace L4 := L4.gr g6
 refine es 30 0 (.agg #[p6, q6, r6, s6]) [p6, q6, r6, s6] #[p6, q6, r6, s6] L4 hB q4 ⟨h6.one0, h6.one1, h6.one2, h6.one3, trivial⟩ fun w8 st8 kp8 L4 hB => ?_
 refine sq_nil ?_
 refine k5 _ _ ?_
 try clear k5 K5
 refine wp_ret ?_
 refine bodyPost_ret (v := (.agg #[p6, q6, r6, s6])) (ret_cell _ _ _ rfl rfl L4 (by kernel_rfl)) rfl ⟨?_, hB⟩
 replace h6 := h6.kp kp8
 exact ⟨_, _, _, _, rfl, h6⟩

set_option maxRecDepth 100000 in
set_option maxHeartbeats 4000000 in
theorem each_scale {k m : Nat} {kb : Nat} {s0 s1 s2 s3 : Value} {sq : Rat} {uaa0 uaa1 uaa2 uaa3 uab0 uab1 uab2 uab3 uac0 uac1 uac2 uac3 : Value} {a1 a2 a3 : Rat} {w : World} (hua1 : IsRat w k uaa0 uaa1 uaa2 uaa3 a1) (hua2 : IsRat w k uab0 uab1 uab2 uab3 a2) (hua3 : IsRat w k uac0 uac1 uac2 uac3 a3) (hL : Lc w kb #[s0, s1, s2, s3] 30) (hs : IsRat w m s0 s1 s2 s3 sq) (_hk : k + m ≤ 100000) :
    Calls Tryz.prog 65 #[(.agg #[uaa0, uaa1, uaa2, uaa3, uab0, uab1, uab2, uab3, uac0, uac1, uac2, uac3]), (.agg #[uaa0, uaa1, uaa2, uaa3, uab0, uab1, uab2, uab3, uac0, uac1, uac2, uac3]), (.func (.func 84) #[] #[(.pointer (some ⟨kb, 0, none⟩))])] w fun e w' => (∃ t0 t1 t2 t3 t4 t5 t6 t7 t8 t9 t10 t11, e = .returned (.agg #[t0, t1, t2, t3, t4, t5, t6, t7, t8, t9, t10, t11]) ∧ IsRat w' (m + k) t0 t1 t2 t3 (sq * a1) ∧ IsRat w' (m + k) t4 t5 t6 t7 (sq * a2) ∧ IsRat w' (m + k) t8 t9 t10 t11 (sq * a3)) ∧ Gr w w' := by
 go_enter Tryz.func65, Tryz.ntmps65
 have hB := Gr.refl w
 refine wp_seq_k (fun K1 k1 => ?_)
 refine rg [0, 1, 2] ?_
 refine se ?_
 refine eb 32 #[uaa0, uaa1, uaa2, uaa3, uab0, uab1, uab2, uab3, uac0, uac1, uac2, uac3] 3 hB fun b2 w2 g2 L2 o2 q2 hB => ?_
 simp only [p3, p4]
 refine se ?_
 refine eb 32 #[uaa0, uaa1, uaa2, uaa3, uab0, uab1, uab2, uab3, uac0, uac1, uac2, uac3] 4 hB fun b3 w3 g3 L3 o3 q3 hB => ?_
 replace hL := hL.gr g2
 simp only [p3, p4]
 refine se ?_
 refine ea 32 #[(.bool false), (.slice none 0 0), (.bool false), (.slice none 0 0), (.bool false), (.slice none 0 0), (.bool false), (.slice none 0 0), (.bool false), (.slice none 0 0), (.bool false), (.slice none 0 0)] 6 hB fun b4 w4 g4 L4 o4 q4 hB => ?_
 replace hL := hL.gr g3
 replace L2 := L2.gr g3
 simp only [p3, p4]
 refine sq_nil ?_
 refine k1 _ _ ?_
 try clear k1 K1
 refine wp_seq_k (fun K5 k5 => ?_)
 refine rg [0] ?_
 refine se ?_
 refine ea 32 #[(.bool false), (.slice none 0 0), (.bool false), (.slice none 0 0), (.bool false), (.slice none 0 0), (.bool false), (.slice none 0 0), (.bool false), (.slice none 0 0), (.bool false), (.slice none 0 0)] 7 hB fun b6 w6 g6 L6 o6 q6 hB => ?_
 replace hL := hL.gr g4
 have ne0_6 := hL.ne o6
 replace L2 := L2.gr g4
 have ne2_6 := L2.ne o6
 replace L3 := L3.gr g4
 have ne3_6 := L3.ne o6
 have ne4_6 := L4.ne o6
 simp only [p3, p4]
 refine sq_nil ?_
 refine k5 _ _ ?_
 try clear k5 K5
 refine wp_seq_k (fun K7 k7 => ?_)
 refine wp_seq_k (fun K8 k8 => ?_)
 refine rg [0] ?_
 refine sv 9 (.int .i64 0) ?_
 simp only [p3, p4]
 refine sq_nil ?_
 refine k8 _ _ ?_
 try clear k8 K8
 refine wp_block ?_
 refine wp_loop_rounds 4 ?_
 show Code.wp _ _ _ _ _
 refine wp_seq_k (fun K9 k9 => ?_)
 refine rg [0] ?_
 refine sv 10 (.bool true) ?_
 simp only [p3, p4]
 refine sq_nil ?_
 refine k9 _ _ ?_
 try clear k9 K9
 refine wp_seq_k (fun K10 k10 => ?_)
 refine wp_cond_true rfl ?_
 refine wp_skip ?_
 refine k10 _ _ ?_
 try clear k10 K10
 refine wp_seq_k (fun K11 k11 => ?_)
 refine wp_block ?_
 refine wp_seq_k (fun K12 k12 => ?_)
 refine rg [0, 1] ?_
 refine sv 11 (.int .i64 0) ?_
 simp only [p3, p4]
 refine sv 8 (.int .i64 0) ?_
 simp only [p3, p4]
 refine sq_nil ?_
 refine k12 _ _ ?_
 try clear k12 K12
 have gd19 := Gr.drew w6
 replace hB := hB.trans gd19
 replace L2 := L2.gr (g6.trans gd19)
 replace L3 := L3.gr (g6.trans gd19)
 refine wp_region_ord (fun w' => Lc w' b2 #[uaa0, uaa1, uaa2, uaa3, uab0, uab1, uab2, uab3, uac0, uac1, uac2, uac3] 32 ∧ Lc w' b3 #[uaa0, uaa1, uaa2, uaa3, uab0, uab1, uab2, uab3, uac0, uac1, uac2, uac3] 32) [(true, 0), (true, 1), (true, 2), (true, 3), (true, 4), (true, 5), (true, 6), (true, 7), (false, 8), (true, 9), (false, 10)] (by kernel_rfl) (by kernel_rfl) (by kernel_rfl) (by decide) (fun _ _ _ _ _ h => h) ⟨L2, L3⟩ ?_
 refine ov 12 (.int .i64 0) ?_
 simp only [p3, p4]
 refine ov 13 (.func (.func 84) #[] #[(.pointer (some ⟨kb, 0, none⟩))]) ?_
 simp only [p3, p4]
 refine ov 14 (.int .i64 0) ?_
 simp only [p3, p4]
 refine ov 15 (.pointer (some ⟨b2, 0, none⟩)) ?_
 simp only [p3, p4]
 refine ow 16 (.agg #[uaa0, uaa1, uaa2, uaa3]) rfl (fun w' hS => (rl 30 0 [uaa0, uaa1, uaa2, uaa3] hS.1)) ?_
 simp only [p3, p4]
 refine ov 17 (.int .i64 0) ?_
 simp only [p3, p4]
 refine ov 18 (.pointer (some ⟨b3, 0, none⟩)) ?_
 simp only [p3, p4]
 refine ow 19 (.agg #[uaa0, uaa1, uaa2, uaa3]) rfl (fun w' hS => (rl 30 0 [uaa0, uaa1, uaa2, uaa3] hS.2)) ?_
 simp only [p3, p4]
 refine oe ?_
 have kq22 := g2.kp.trans (g3.kp.trans (g4.kp.trans (g6.kp.trans gd19.kp)))
 replace hua1 := hua1.kp kq22
 replace hs := hs.kp kq22
 replace hL := hL.gr (g6.trans gd19)
 refine ec 20 (scale1_r (v0 := uaa0) (v1 := uaa1) (v2 := uaa2) (v3 := uaa3) hua1 hL hs (by omega)) ?_
 rintro e21 w21 ⟨⟨p21, q21, r21, s21, rfl, h21⟩, g21⟩
 refine ⟨_, rfl, ?_⟩
 replace hB := hB.trans g21
 replace L2 := L2.gr g21
 replace L3 := L3.gr g21
 refine ⟨⟨L2, L3⟩, ?_⟩
 simp only [p3, p4]
 refine ov 21 (.pointer (some ⟨b6, 0, none⟩)) ?_
 simp only [p3, p4]
 refine oe ?_
 replace L6 := L6.gr (gd19.trans g21)
 refine es 30 0 (.agg #[p21, q21, r21, s21]) [p21, q21, r21, s21] #[p21, q21, r21, s21, (.bool false), (.slice none 0 0), (.bool false), (.slice none 0 0), (.bool false), (.slice none 0 0), (.bool false), (.slice none 0 0)] L6 hB q6 ⟨h21.one0, h21.one1, h21.one2, h21.one3, trivial⟩ fun w24 st24 kp24 L6 hB => ?_
 replace L2 := st24.lc L2 ne2_6
 replace L3 := st24.lc L3 ne3_6
 refine ⟨⟨L2, L3⟩, ?_⟩
 refine ord_nil ?_
 refine k11 _ _ ?_
 try clear k11 K11
 refine rg [0, 1] ?_
 refine sv 22 (.int .i64 1) ?_
 simp only [p3, p4]
 refine sv 9 (.int .i64 1) ?_
 simp only [p3, p4]
 refine sq_nil ?_
 show Code.rounds _ _ _ _ _ _
 show Code.wp _ _ _ _ _
 refine wp_seq_k (fun K25 k25 => ?_)
 refine rg [0] ?_
 refine sv 10 (.bool true) ?_
 simp only [p3, p4]
 refine sq_nil ?_
 refine k25 _ _ ?_
 try clear k25 K25
 refine wp_seq_k (fun K26 k26 => ?_)
 refine wp_cond_true rfl ?_
 refine wp_skip ?_
 refine k26 _ _ ?_
 try clear k26 K26
 refine wp_seq_k (fun K27 k27 => ?_)
 refine wp_block ?_
 refine wp_seq_k (fun K28 k28 => ?_)
 refine rg [0, 1] ?_
 refine sv 11 (.int .i64 1) ?_
 simp only [p3, p4]
 refine sv 8 (.int .i64 1) ?_
 simp only [p3, p4]
 refine sq_nil ?_
 refine k28 _ _ ?_
 try clear k28 K28
 have gd36 := Gr.drew w24
 replace hB := hB.trans gd36
 replace L2 := L2.gr gd36
 replace L3 := L3.gr gd36
 refine wp_region_ord (fun w' => Lc w' b2 #[uaa0, uaa1, uaa2, uaa3, uab0, uab1, uab2, uab3, uac0, uac1, uac2, uac3] 32 ∧ Lc w' b3 #[uaa0, uaa1, uaa2, uaa3, uab0, uab1, uab2, uab3, uac0, uac1, uac2, uac3] 32) [(true, 0), (true, 1), (true, 2), (true, 3), (true, 4), (true, 5), (true, 6), (true, 7), (false, 8), (true, 9), (false, 10)] (by kernel_rfl) (by kernel_rfl) (by kernel_rfl) (by decide) (fun _ _ _ _ _ h => h) ⟨L2, L3⟩ ?_
 refine ov 12 (.int .i64 1) ?_
 simp only [p3, p4]
 refine ov 13 (.func (.func 84) #[] #[(.pointer (some ⟨kb, 0, none⟩))]) ?_
 simp only [p3, p4]
 refine ov 14 (.int .i64 1) ?_
 simp only [p3, p4]
 refine ov 15 (.pointer (some ⟨b2, 4, none⟩)) ?_
 simp only [p3, p4]
 refine ow 16 (.agg #[uab0, uab1, uab2, uab3]) rfl (fun w' hS => (rl 30 4 [uab0, uab1, uab2, uab3] hS.1)) ?_
 simp only [p3, p4]
 refine ov 17 (.int .i64 1) ?_
 simp only [p3, p4]
 refine ov 18 (.pointer (some ⟨b3, 4, none⟩)) ?_
 simp only [p3, p4]
 refine ow 19 (.agg #[uab0, uab1, uab2, uab3]) rfl (fun w' hS => (rl 30 4 [uab0, uab1, uab2, uab3] hS.2)) ?_
 simp only [p3, p4]
 refine oe ?_
 have kq39 := g2.kp.trans (g3.kp.trans (g4.kp.trans (g6.kp.trans (gd19.kp.trans (g21.kp.trans (kp24.trans gd36.kp))))))
 replace hua2 := hua2.kp kq39
 have kq40 := g21.kp.trans (kp24.trans gd36.kp)
 replace hs := hs.kp kq40
 replace hL := (st24.lc (hL.gr g21) ne0_6).gr gd36
 refine ec 20 (scale1_r (v0 := uab0) (v1 := uab1) (v2 := uab2) (v3 := uab3) hua2 hL hs (by omega)) ?_
 rintro e38 w38 ⟨⟨p38, q38, r38, s38, rfl, h38⟩, g38⟩
 refine ⟨_, rfl, ?_⟩
 replace hB := hB.trans g38
 replace L2 := L2.gr g38
 replace L3 := L3.gr g38
 refine ⟨⟨L2, L3⟩, ?_⟩
 simp only [p3, p4]
 refine ov 21 (.pointer (some ⟨b6, 4, none⟩)) ?_
 simp only [p3, p4]
 refine oe ?_
 replace L6 := L6.gr (gd36.trans g38)
 refine es 30 4 (.agg #[p38, q38, r38, s38]) [p38, q38, r38, s38] #[p21, q21, r21, s21, p38, q38, r38, s38, (.bool false), (.slice none 0 0), (.bool false), (.slice none 0 0)] L6 hB q6 ⟨h38.one0, h38.one1, h38.one2, h38.one3, trivial⟩ fun w42 st42 kp42 L6 hB => ?_
 replace L2 := st42.lc L2 ne2_6
 replace L3 := st42.lc L3 ne3_6
 refine ⟨⟨L2, L3⟩, ?_⟩
 refine ord_nil ?_
 refine k27 _ _ ?_
 try clear k27 K27
 refine rg [0, 1] ?_
 refine sv 22 (.int .i64 2) ?_
 simp only [p3, p4]
 refine sv 9 (.int .i64 2) ?_
 simp only [p3, p4]
 refine sq_nil ?_
 show Code.rounds _ _ _ _ _ _
 show Code.wp _ _ _ _ _
 refine wp_seq_k (fun K43 k43 => ?_)
 refine rg [0] ?_
 refine sv 10 (.bool true) ?_
 simp only [p3, p4]
 refine sq_nil ?_
 refine k43 _ _ ?_
 try clear k43 K43
 refine wp_seq_k (fun K44 k44 => ?_)
 refine wp_cond_true rfl ?_
 refine wp_skip ?_
 refine k44 _ _ ?_
 try clear k44 K44
 refine wp_seq_k (fun K45 k45 => ?_)
 refine wp_block ?_
 refine wp_seq_k (fun K46 k46 => ?_)
 refine rg [0, 1] ?_
 refine sv 11 (.int .i64 2) ?_
 simp only [p3, p4]
 refine sv 8 (.int .i64 2) ?_
 simp only [p3, p4]
 refine sq_nil ?_
 refine k46 _ _ ?_
 try clear k46 K46
 have gd54 := Gr.drew w42
 replace hB := hB.trans gd54
 replace L2 := L2.gr gd54
 replace L3 := L3.gr gd54
 refine wp_region_ord (fun w' => Lc w' b2 #[uaa0, uaa1, uaa2, uaa3, uab0, uab1, uab2, uab3, uac0, uac1, uac2, uac3] 32 ∧ Lc w' b3 #[uaa0, uaa1, uaa2, uaa3, uab0, uab1, uab2, uab3, uac0, uac1, uac2, uac3] 32) [(true, 0), (true, 1), (true, 2), (true, 3), (true, 4), (true, 5), (true, 6), (true, 7), (false, 8), (true, 9), (false, 10)] (by kernel_rfl) (by kernel_rfl) (by kernel_rfl) (by decide) (fun _ _ _ _ _ h => h) ⟨L2, L3⟩ ?_
 refine ov 12 (.int .i64 2) ?_
 simp only [p3, p4]
 refine ov 13 (.func (.func 84) #[] #[(.pointer (some ⟨kb, 0, none⟩))]) ?_
 simp only [p3, p4]
 refine ov 14 (.int .i64 2) ?_
 simp only [p3, p4]
 refine ov 15 (.pointer (some ⟨b2, 8, none⟩)) ?_
 simp only [p3, p4]
 refine ow 16 (.agg #[uac0, uac1, uac2, uac3]) rfl (fun w' hS => (rl 30 8 [uac0, uac1, uac2, uac3] hS.1)) ?_
 simp only [p3, p4]
 refine ov 17 (.int .i64 2) ?_
 simp only [p3, p4]
 refine ov 18 (.pointer (some ⟨b3, 8, none⟩)) ?_
 simp only [p3, p4]
 refine ow 19 (.agg #[uac0, uac1, uac2, uac3]) rfl (fun w' hS => (rl 30 8 [uac0, uac1, uac2, uac3] hS.2)) ?_
 simp only [p3, p4]
 refine oe ?_
 have kq57 := g2.kp.trans (g3.kp.trans (g4.kp.trans (g6.kp.trans (gd19.kp.trans (g21.kp.trans (kp24.trans (gd36.kp.trans (g38.kp.trans (kp42.trans gd54.kp)))))))))
 replace hua3 := hua3.kp kq57
 have kq58 := g38.kp.trans (kp42.trans gd54.kp)
 replace hs := hs.kp kq58
 replace hL := (st42.lc (hL.gr g38) ne0_6).gr gd54
 refine ec 20 (scale1_r (v0 := uac0) (v1 := uac1) (v2 := uac2) (v3 := uac3) hua3 hL hs (by omega)) ?_
 rintro e56 w56 ⟨⟨p56, q56, r56, s56, rfl, h56⟩, g56⟩
 refine ⟨_, rfl, ?_⟩
 replace hB := hB.trans g56
 replace L2 := L2.gr g56
 replace L3 := L3.gr g56
 refine ⟨⟨L2, L3⟩, ?_⟩
 simp only [p3, p4]
 refine ov 21 (.pointer (some ⟨b6, 8, none⟩)) ?_
 simp only [p3, p4]
 refine oe ?_
 replace L6 := L6.gr (gd54.trans g56)
 refine es 30 8 (.agg #[p56, q56, r56, s56]) [p56, q56, r56, s56] #[p21, q21, r21, s21, p38, q38, r38, s38, p56, q56, r56, s56] L6 hB q6 ⟨h56.one0, h56.one1, h56.one2, h56.one3, trivial⟩ fun w60 st60 kp60 L6 hB => ?_
 replace L2 := st60.lc L2 ne2_6
 replace L3 := st60.lc L3 ne3_6
 refine ⟨⟨L2, L3⟩, ?_⟩
 refine ord_nil ?_
 refine k45 _ _ ?_
 try clear k45 K45
 refine rg [0, 1] ?_
 refine sv 22 (.int .i64 3) ?_
 simp only [p3, p4]
 refine sv 9 (.int .i64 3) ?_
 simp only [p3, p4]
 refine sq_nil ?_
 show Code.rounds _ _ _ _ _ _
 show Code.wp _ _ _ _ _
 refine wp_seq_k (fun K61 k61 => ?_)
 refine rg [0] ?_
 refine sv 10 (.bool false) ?_
 simp only [p3, p4]
 refine sq_nil ?_
 refine k61 _ _ ?_
 try clear k61 K61
 refine wp_seq_k (fun K62 k62 => ?_)
 refine wp_cond_false rfl ?_
 refine wp_exit ?_
 simp only [Exit.then, Exit.inBlock, ↓reduceIte]
 refine k7 _ _ ?_
 try clear k7 K7
 refine wp_seq_k (fun K63 k63 => ?_)
 refine rg [0, 1] ?_
 refine sw 23 (.agg #[p21, q21, r21, s21, p38, q38, r38, s38, p56, q56, r56, s56]) rfl (rl 32 0 [p21, q21, r21, s21, p38, q38, r38, s38, p56, q56, r56, s56] L6) ?_
 simp only [p3, p4]
 refine se ?_
 replace L4 := st60.lc ((st42.lc ((st24.lc (L4.gr (g6.trans (gd19.trans g21))) ne4_6).gr (gd36.trans g38)) ne4_6).gr (gd54.trans g56)) ne4_6
 refine es 32 0 (.agg #[p21, q21, r21, s21, p38, q38, r38, s38, p56, q56, r56, s56]) [p21, q21, r21, s21, p38, q38, r38, s38, p56, q56, r56, s56] #[p21, q21, r21, s21, p38, q38, r38, s38, p56, q56, r56, s56] L4 hB q4 ⟨h21.one0, h21.one1, h21.one2, h21.one3, h38.one0, h38.one1, h38.one2, h38.one3, h56.one0, h56.one1, h56.one2, h56.one3, trivial⟩ fun w64 st64 kp64 L4 hB => ?_
 refine sq_nil ?_
 refine k63 _ _ ?_
 try clear k63 K63
 refine wp_ret ?_
 refine bodyPost_ret (v := (.agg #[p21, q21, r21, s21, p38, q38, r38, s38, p56, q56, r56, s56])) (ret_cell _ _ _ rfl rfl L4 (by kernel_rfl)) rfl ⟨?_, hB⟩
 have kq65 := kp24.trans (gd36.kp.trans (g38.kp.trans (kp42.trans (gd54.kp.trans (g56.kp.trans (kp60.trans kp64))))))
 replace h21 := h21.kp kq65
 have kq66 := kp42.trans (gd54.kp.trans (g56.kp.trans (kp60.trans kp64)))
 replace h38 := h38.kp kq66
 have kq67 := kp60.trans kp64
 replace h56 := h56.kp kq67
 exact ⟨_, _, _, _, _, _, _, _, _, _, _, _, rfl, h21, h38, h56⟩

set_option maxRecDepth 100000 in
set_option maxHeartbeats 1000000 in
theorem vadd_v {k m : Nat} {uaa0 uaa1 uaa2 uaa3 uab0 uab1 uab2 uab3 uac0 uac1 uac2 uac3 : Value} {a1 a2 a3 : Rat} {vaa0 vaa1 vaa2 vaa3 vab0 vab1 vab2 vab3 vac0 vac1 vac2 vac3 : Value} {c1 c2 c3 : Rat} {w : World} (hua1 : IsRat w k uaa0 uaa1 uaa2 uaa3 a1) (hua2 : IsRat w k uab0 uab1 uab2 uab3 a2) (hua3 : IsRat w k uac0 uac1 uac2 uac3 a3) (hva1 : IsRat w m vaa0 vaa1 vaa2 vaa3 c1) (hva2 : IsRat w m vab0 vab1 vab2 vab3 c2) (hva3 : IsRat w m vac0 vac1 vac2 vac3 c3) (_hk : k + m ≤ 100000) :
    Calls Tryz.prog 39 #[(.agg #[uaa0, uaa1, uaa2, uaa3, uab0, uab1, uab2, uab3, uac0, uac1, uac2, uac3]), (.agg #[vaa0, vaa1, vaa2, vaa3, vab0, vab1, vab2, vab3, vac0, vac1, vac2, vac3])] w fun e w' => (∃ t0 t1 t2 t3 t4 t5 t6 t7 t8 t9 t10 t11, e = .returned (.agg #[t0, t1, t2, t3, t4, t5, t6, t7, t8, t9, t10, t11]) ∧ IsRat w' (k + m + 1) t0 t1 t2 t3 ((a1 + c1)) ∧ IsRat w' (k + m + 1) t4 t5 t6 t7 ((a2 + c2)) ∧ IsRat w' (k + m + 1) t8 t9 t10 t11 ((a3 + c3))) ∧ Gr w w' := by
 go_enter Tryz.func39, Tryz.ntmps39
 have hB := Gr.refl w
 refine wp_seq_k (fun K1 k1 => ?_)
 refine rg [0, 1, 2] ?_
 refine se ?_
 refine eb 32 #[uaa0, uaa1, uaa2, uaa3, uab0, uab1, uab2, uab3, uac0, uac1, uac2, uac3] 2 hB fun b2 w2 g2 L2 o2 q2 hB => ?_
 simp only [p3, p4]
 refine se ?_
 refine eb 32 #[vaa0, vaa1, vaa2, vaa3, vab0, vab1, vab2, vab3, vac0, vac1, vac2, vac3] 3 hB fun b3 w3 g3 L3 o3 q3 hB => ?_
 simp only [p3, p4]
 refine se ?_
 refine ea 32 #[(.bool false), (.slice none 0 0), (.bool false), (.slice none 0 0), (.bool false), (.slice none 0 0), (.bool false), (.slice none 0 0), (.bool false), (.slice none 0 0), (.bool false), (.slice none 0 0)] 4 hB fun b4 w4 g4 L4 o4 q4 hB => ?_
 replace L2 := L2.gr g3
 simp only [p3, p4]
 refine sq_nil ?_
 refine k1 _ _ ?_
 try clear k1 K1
 refine wp_seq_k (fun K5 k5 => ?_)
 refine rg [0, 1, 2, 3] ?_
 replace L2 := L2.gr g4
 refine sw 5 (.agg #[uaa0, uaa1, uaa2, uaa3, uab0, uab1, uab2, uab3, uac0, uac1, uac2, uac3]) rfl (rl 32 0 [uaa0, uaa1, uaa2, uaa3, uab0, uab1, uab2, uab3, uac0, uac1, uac2, uac3] L2) ?_
 simp only [p3, p4]
 replace L3 := L3.gr g4
 refine sw 6 (.agg #[vaa0, vaa1, vaa2, vaa3, vab0, vab1, vab2, vab3, vac0, vac1, vac2, vac3]) rfl (rl 32 0 [vaa0, vaa1, vaa2, vaa3, vab0, vab1, vab2, vab3, vac0, vac1, vac2, vac3] L3) ?_
 simp only [p3, p4]
 refine se ?_
 have kq7 := g2.kp.trans (g3.kp.trans g4.kp)
 replace hua1 := hua1.kp kq7
 replace hua2 := hua2.kp kq7
 replace hua3 := hua3.kp kq7
 replace hva1 := hva1.kp kq7
 replace hva2 := hva2.kp kq7
 replace hva3 := hva3.kp kq7
 refine ec 7 (each_add hua1 hua2 hua3 hva1 hva2 hva3 (by omega)) ?_
 rintro e6 w6 ⟨⟨t6_0, t6_1, t6_2, t6_3, t6_4, t6_5, t6_6, t6_7, t6_8, t6_9, t6_10, t6_11, rfl, h6a, h6b, h6c⟩, g6⟩
 refine ⟨_, rfl, ?_⟩
 replace hB := hB.trans g6
 simp only [p3, p4]
 refine se ?_
 replace L4 := L4.gr g6
 refine es 32 0 (.agg #[t6_0, t6_1, t6_2, t6_3, t6_4, t6_5, t6_6, t6_7, t6_8, t6_9, t6_10, t6_11]) [t6_0, t6_1, t6_2, t6_3, t6_4, t6_5, t6_6, t6_7, t6_8, t6_9, t6_10, t6_11] #[t6_0, t6_1, t6_2, t6_3, t6_4, t6_5, t6_6, t6_7, t6_8, t6_9, t6_10, t6_11] L4 hB q4 ⟨h6a.one0, h6a.one1, h6a.one2, h6a.one3, h6b.one0, h6b.one1, h6b.one2, h6b.one3, h6c.one0, h6c.one1, h6c.one2, h6c.one3, trivial⟩ fun w8 st8 kp8 L4 hB => ?_
 refine sq_nil ?_
 refine k5 _ _ ?_
 try clear k5 K5
 refine wp_ret ?_
 refine bodyPost_ret (v := (.agg #[t6_0, t6_1, t6_2, t6_3, t6_4, t6_5, t6_6, t6_7, t6_8, t6_9, t6_10, t6_11])) (ret_cell _ _ _ rfl rfl L4 (by kernel_rfl)) rfl ⟨?_, hB⟩
 replace h6a := h6a.kp kp8
 replace h6b := h6b.kp kp8
 replace h6c := h6c.kp kp8
 exact ⟨_, _, _, _, _, _, _, _, _, _, _, _, rfl, h6a, h6b, h6c⟩

set_option maxRecDepth 100000 in
set_option maxHeartbeats 1000000 in
theorem vsub_v {k m : Nat} {uaa0 uaa1 uaa2 uaa3 uab0 uab1 uab2 uab3 uac0 uac1 uac2 uac3 : Value} {a1 a2 a3 : Rat} {vaa0 vaa1 vaa2 vaa3 vab0 vab1 vab2 vab3 vac0 vac1 vac2 vac3 : Value} {c1 c2 c3 : Rat} {w : World} (hua1 : IsRat w k uaa0 uaa1 uaa2 uaa3 a1) (hua2 : IsRat w k uab0 uab1 uab2 uab3 a2) (hua3 : IsRat w k uac0 uac1 uac2 uac3 a3) (hva1 : IsRat w m vaa0 vaa1 vaa2 vaa3 c1) (hva2 : IsRat w m vab0 vab1 vab2 vab3 c2) (hva3 : IsRat w m vac0 vac1 vac2 vac3 c3) (_hk : k + m ≤ 100000) :
    Calls Tryz.prog 51 #[(.agg #[uaa0, uaa1, uaa2, uaa3, uab0, uab1, uab2, uab3, uac0, uac1, uac2, uac3]), (.agg #[vaa0, vaa1, vaa2, vaa3, vab0, vab1, vab2, vab3, vac0, vac1, vac2, vac3])] w fun e w' => (∃ t0 t1 t2 t3 t4 t5 t6 t7 t8 t9 t10 t11, e = .returned (.agg #[t0, t1, t2, t3, t4, t5, t6, t7, t8, t9, t10, t11]) ∧ IsRat w' (k + m + 1) t0 t1 t2 t3 ((a1 - c1)) ∧ IsRat w' (k + m + 1) t4 t5 t6 t7 ((a2 - c2)) ∧ IsRat w' (k + m + 1) t8 t9 t10 t11 ((a3 - c3))) ∧ Gr w w' := by
 go_enter Tryz.func51, Tryz.ntmps51
 have hB := Gr.refl w
 refine wp_seq_k (fun K1 k1 => ?_)
 refine rg [0, 1, 2] ?_
 refine se ?_
 refine eb 32 #[uaa0, uaa1, uaa2, uaa3, uab0, uab1, uab2, uab3, uac0, uac1, uac2, uac3] 2 hB fun b2 w2 g2 L2 o2 q2 hB => ?_
 simp only [p3, p4]
 refine se ?_
 refine eb 32 #[vaa0, vaa1, vaa2, vaa3, vab0, vab1, vab2, vab3, vac0, vac1, vac2, vac3] 3 hB fun b3 w3 g3 L3 o3 q3 hB => ?_
 simp only [p3, p4]
 refine se ?_
 refine ea 32 #[(.bool false), (.slice none 0 0), (.bool false), (.slice none 0 0), (.bool false), (.slice none 0 0), (.bool false), (.slice none 0 0), (.bool false), (.slice none 0 0), (.bool false), (.slice none 0 0)] 4 hB fun b4 w4 g4 L4 o4 q4 hB => ?_
 replace L2 := L2.gr g3
 simp only [p3, p4]
 refine sq_nil ?_
 refine k1 _ _ ?_
 try clear k1 K1
 refine wp_seq_k (fun K5 k5 => ?_)
 refine rg [0, 1, 2, 3] ?_
 replace L2 := L2.gr g4
 refine sw 5 (.agg #[uaa0, uaa1, uaa2, uaa3, uab0, uab1, uab2, uab3, uac0, uac1, uac2, uac3]) rfl (rl 32 0 [uaa0, uaa1, uaa2, uaa3, uab0, uab1, uab2, uab3, uac0, uac1, uac2, uac3] L2) ?_
 simp only [p3, p4]
 replace L3 := L3.gr g4
 refine sw 6 (.agg #[vaa0, vaa1, vaa2, vaa3, vab0, vab1, vab2, vab3, vac0, vac1, vac2, vac3]) rfl (rl 32 0 [vaa0, vaa1, vaa2, vaa3, vab0, vab1, vab2, vab3, vac0, vac1, vac2, vac3] L3) ?_
 simp only [p3, p4]
 refine se ?_
 have kq7 := g2.kp.trans (g3.kp.trans g4.kp)
 replace hua1 := hua1.kp kq7
 replace hua2 := hua2.kp kq7
 replace hua3 := hua3.kp kq7
 replace hva1 := hva1.kp kq7
 replace hva2 := hva2.kp kq7
 replace hva3 := hva3.kp kq7
 refine ec 7 (each_sub hua1 hua2 hua3 hva1 hva2 hva3 (by omega)) ?_
 rintro e6 w6 ⟨⟨t6_0, t6_1, t6_2, t6_3, t6_4, t6_5, t6_6, t6_7, t6_8, t6_9, t6_10, t6_11, rfl, h6a, h6b, h6c⟩, g6⟩
 refine ⟨_, rfl, ?_⟩
 replace hB := hB.trans g6
 simp only [p3, p4]
 refine se ?_
 replace L4 := L4.gr g6
 refine es 32 0 (.agg #[t6_0, t6_1, t6_2, t6_3, t6_4, t6_5, t6_6, t6_7, t6_8, t6_9, t6_10, t6_11]) [t6_0, t6_1, t6_2, t6_3, t6_4, t6_5, t6_6, t6_7, t6_8, t6_9, t6_10, t6_11] #[t6_0, t6_1, t6_2, t6_3, t6_4, t6_5, t6_6, t6_7, t6_8, t6_9, t6_10, t6_11] L4 hB q4 ⟨h6a.one0, h6a.one1, h6a.one2, h6a.one3, h6b.one0, h6b.one1, h6b.one2, h6b.one3, h6c.one0, h6c.one1, h6c.one2, h6c.one3, trivial⟩ fun w8 st8 kp8 L4 hB => ?_
 refine sq_nil ?_
 refine k5 _ _ ?_
 try clear k5 K5
 refine wp_ret ?_
 refine bodyPost_ret (v := (.agg #[t6_0, t6_1, t6_2, t6_3, t6_4, t6_5, t6_6, t6_7, t6_8, t6_9, t6_10, t6_11])) (ret_cell _ _ _ rfl rfl L4 (by kernel_rfl)) rfl ⟨?_, hB⟩
 replace h6a := h6a.kp kp8
 replace h6b := h6b.kp kp8
 replace h6c := h6c.kp kp8
 exact ⟨_, _, _, _, _, _, _, _, _, _, _, _, rfl, h6a, h6b, h6c⟩

set_option maxRecDepth 100000 in
set_option maxHeartbeats 1000000 in
theorem vscale_v {k m : Nat} {s0 s1 s2 s3 : Value} {sq : Rat} {uaa0 uaa1 uaa2 uaa3 uab0 uab1 uab2 uab3 uac0 uac1 uac2 uac3 : Value} {a1 a2 a3 : Rat} {w : World} (hua1 : IsRat w k uaa0 uaa1 uaa2 uaa3 a1) (hua2 : IsRat w k uab0 uab1 uab2 uab3 a2) (hua3 : IsRat w k uac0 uac1 uac2 uac3 a3) (hs : IsRat w m s0 s1 s2 s3 sq) (_hk : k + m ≤ 100000) :
    Calls Tryz.prog 40 #[(.agg #[uaa0, uaa1, uaa2, uaa3, uab0, uab1, uab2, uab3, uac0, uac1, uac2, uac3]), (.agg #[s0, s1, s2, s3])] w fun e w' => (∃ t0 t1 t2 t3 t4 t5 t6 t7 t8 t9 t10 t11, e = .returned (.agg #[t0, t1, t2, t3, t4, t5, t6, t7, t8, t9, t10, t11]) ∧ IsRat w' (m + k) t0 t1 t2 t3 (sq * a1) ∧ IsRat w' (m + k) t4 t5 t6 t7 (sq * a2) ∧ IsRat w' (m + k) t8 t9 t10 t11 (sq * a3)) ∧ Gr w w' := by
 go_enter Tryz.func40, Tryz.ntmps40
 have hB := Gr.refl w
 refine wp_seq_k (fun K1 k1 => ?_)
 refine rg [0, 1, 2] ?_
 refine se ?_
 refine eb 32 #[uaa0, uaa1, uaa2, uaa3, uab0, uab1, uab2, uab3, uac0, uac1, uac2, uac3] 2 hB fun b2 w2 g2 L2 o2 q2 hB => ?_
 simp only [p3, p4]
 refine se ?_
 refine eb 30 #[s0, s1, s2, s3] 3 hB fun b3 w3 g3 L3 o3 q3 hB => ?_
 simp only [p3, p4]
 refine se ?_
 refine ea 32 #[(.bool false), (.slice none 0 0), (.bool false), (.slice none 0 0), (.bool false), (.slice none 0 0), (.bool false), (.slice none 0 0), (.bool false), (.slice none 0 0), (.bool false), (.slice none 0 0)] 4 hB fun b4 w4 g4 L4 o4 q4 hB => ?_
 replace L2 := L2.gr g3
 simp only [p3, p4]
 refine sq_nil ?_
 refine k1 _ _ ?_
 try clear k1 K1
 refine wp_seq_k (fun K5 k5 => ?_)
 refine rg [0, 1, 2, 3, 4] ?_
 replace L2 := L2.gr g4
 refine sw 5 (.agg #[uaa0, uaa1, uaa2, uaa3, uab0, uab1, uab2, uab3, uac0, uac1, uac2, uac3]) rfl (rl 32 0 [uaa0, uaa1, uaa2, uaa3, uab0, uab1, uab2, uab3, uac0, uac1, uac2, uac3] L2) ?_
 simp only [p3, p4]
 refine sw 6 (.agg #[uaa0, uaa1, uaa2, uaa3, uab0, uab1, uab2, uab3, uac0, uac1, uac2, uac3]) rfl (rl 32 0 [uaa0, uaa1, uaa2, uaa3, uab0, uab1, uab2, uab3, uac0, uac1, uac2, uac3] L2) ?_
 simp only [p3, p4]
 refine sv 7 (.func (.func 84) #[] #[(.pointer (some ⟨b3, 0, none⟩))]) ?_
 simp only [p3, p4]
 refine se ?_
 have kq7 := g2.kp.trans (g3.kp.trans g4.kp)
 replace hs := hs.kp kq7
 replace hua1 := hua1.kp kq7
 replace hua2 := hua2.kp kq7
 replace hua3 := hua3.kp kq7
 replace L3 := L3.gr g4
 refine ec 8 (each_scale hua1 hua2 hua3 L3 hs (by omega)) ?_
 rintro e6 w6 ⟨⟨t6_0, t6_1, t6_2, t6_3, t6_4, t6_5, t6_6, t6_7, t6_8, t6_9, t6_10, t6_11, rfl, h6a, h6b, h6c⟩, g6⟩
 refine ⟨_, rfl, ?_⟩
 replace hB := hB.trans g6
 simp only [p3, p4]
 refine se ?_
 replace L4 := L4.gr g6
 refine es 32 0 (.agg #[t6_0, t6_1, t6_2, t6_3, t6_4, t6_5, t6_6, t6_7, t6_8, t6_9, t6_10, t6_11]) [t6_0, t6_1, t6_2, t6_3, t6_4, t6_5, t6_6, t6_7, t6_8, t6_9, t6_10, t6_11] #[t6_0, t6_1, t6_2, t6_3, t6_4, t6_5, t6_6, t6_7, t6_8, t6_9, t6_10, t6_11] L4 hB q4 ⟨h6a.one0, h6a.one1, h6a.one2, h6a.one3, h6b.one0, h6b.one1, h6b.one2, h6b.one3, h6c.one0, h6c.one1, h6c.one2, h6c.one3, trivial⟩ fun w8 st8 kp8 L4 hB => ?_
 refine sq_nil ?_
 refine k5 _ _ ?_
 try clear k5 K5
 refine wp_ret ?_
 refine bodyPost_ret (v := (.agg #[t6_0, t6_1, t6_2, t6_3, t6_4, t6_5, t6_6, t6_7, t6_8, t6_9, t6_10, t6_11])) (ret_cell _ _ _ rfl rfl L4 (by kernel_rfl)) rfl ⟨?_, hB⟩
 replace h6a := h6a.kp kp8
 replace h6b := h6b.kp kp8
 replace h6c := h6c.kp kp8
 exact ⟨_, _, _, _, _, _, _, _, _, _, _, _, rfl, h6a, h6b, h6c⟩

set_option maxRecDepth 100000 in
set_option maxHeartbeats 4000000 in
theorem sum3_r {k : Nat} {ab : Nat} {uaa0 uaa1 uaa2 uaa3 uab0 uab1 uab2 uab3 uac0 uac1 uac2 uac3 : Value} {a1 a2 a3 : Rat} {w : World} (hua1 : IsRat w k uaa0 uaa1 uaa2 uaa3 a1) (hua2 : IsRat w k uab0 uab1 uab2 uab3 a2) (hua3 : IsRat w k uac0 uac1 uac2 uac3 a3) (hL : Lc w ab #[uaa0, uaa1, uaa2, uaa3, uab0, uab1, uab2, uab3, uac0, uac1, uac2, uac3] 32) (_hk : k ≤ 25000) :
    Calls Tryz.prog 66 #[(.slice (some ⟨ab, 0, none⟩) 3 3)] w fun e w' => (∃ z0 z1 z2 z3, e = .returned (.agg #[z0, z1, z2, z3]) ∧ IsRat w' (64 + k + 1 + k + 1 + k + 1) z0 z1 z2 z3 (0 + a1 + a2 + a3)) ∧ Gr w w' := by
 have hbig := hua1.big
 go_enter Tryz.func66, Tryz.ntmps66
 have hB := Gr.refl w
 refine wp_seq_k (fun K1 k1 => ?_)
 refine rg [0] ?_
 refine se ?_
 refine ea 30 #[(.bool false), (.slice none 0 0), (.bool false), (.slice none 0 0)] 2 hB fun b2 w2 g2 L2 o2 q2 hB => ?_
 simp only [p3, p4]
 refine sq_nil ?_
 refine k1 _ _ ?_
 try clear k1 K1
 refine wp_seq_k (fun K3 k3 => ?_)
 refine rg [0] ?_
 refine se ?_
 refine ea 30 #[(.bool false), (.slice none 0 0), (.bool false), (.slice none 0 0)] 3 hB fun b4 w4 g4 L4 o4 q4 hB => ?_
 replace hL := hL.gr g2
 have ne0_4 := hL.ne o4
 have ne2_4 := L2.ne o4
 simp only [p3, p4]
 refine sq_nil ?_
 refine k3 _ _ ?_
 try clear k3 K3
 refine wp_seq_k (fun K5 k5 => ?_)
 refine wp_seq_k (fun K6 k6 => ?_)
 refine rg [0, 1, 2] ?_
 refine sv 6 (.slice (some ⟨ab, 0, none⟩) 3 3) ?_
 simp only [p3, p4]
 refine sv 7 (.int .i64 3) ?_
 simp only [p3, p4]
 refine sv 8 (.int .i64 0) ?_
 simp only [p3, p4]
 refine sq_nil ?_
 refine k6 _ _ ?_
 try clear k6 K6
 refine wp_block ?_
 refine wp_loop_rounds 4 ?_
 show Code.wp _ _ _ _ _
 refine wp_seq_k (fun K7 k7 => ?_)
 refine rg [0] ?_
 refine sv 9 (.bool true) ?_
 simp only [p3, p4]
 refine sq_nil ?_
 refine k7 _ _ ?_
 try clear k7 K7
 refine wp_seq_k (fun K8 k8 => ?_)
 refine wp_cond_true rfl ?_
 refine wp_skip ?_
 refine k8 _ _ ?_
 try clear k8 K8
 refine wp_seq_k (fun K9 k9 => ?_)
 refine wp_block ?_
 refine wp_seq_k (fun K10 k10 => ?_)
 refine rg [0, 1, 2, 3] ?_
 refine sv 10 (.pointer (some ⟨ab, 0, none⟩)) ?_
 simp only [p3, p4]
 replace hL := hL.gr g4
 refine sw 11 (.agg #[uaa0, uaa1, uaa2, uaa3]) rfl (rl 30 0 [uaa0, uaa1, uaa2, uaa3] hL) ?_
 simp only [p3, p4]
 refine se ?_
 refine ea 30 #[(.bool false), (.slice none 0 0), (.bool false), (.slice none 0 0)] 5 hB fun b11 w11 g11 L11 o11 q11 hB => ?_
 have ne0_11 := hL.ne o11
 replace L2 := L2.gr g4
 have ne2_11 := L2.ne o11
 have ne4_11 := L4.ne o11
 simp only [p3, p4]
 refine se ?_
 refine es 30 0 (.agg #[uaa0, uaa1, uaa2, uaa3]) [uaa0, uaa1, uaa2, uaa3] #[uaa0, uaa1, uaa2, uaa3] L11 hB q11 ⟨hua1.one0, hua1.one1, hua1.one2, hua1.one3, trivial⟩ fun w12 st12 kp12 L11 hB => ?_
 refine sq_nil ?_
 refine k10 _ _ ?_
 try clear k10 K10
 refine rg [0, 1, 2, 3] ?_
 replace L4 := st12.lc (L4.gr g11) ne4_11
 refine sw 12 (.agg #[(.bool false), (.slice none 0 0), (.bool false), (.slice none 0 0)]) rfl (rl 30 0 [(.bool false), (.slice none 0 0), (.bool false), (.slice none 0 0)] L4) ?_
 simp only [p3, p4]
 refine sw 13 (.agg #[uaa0, uaa1, uaa2, uaa3]) rfl (rl 30 0 [uaa0, uaa1, uaa2, uaa3] L11) ?_
 simp only [p3, p4]
 refine se ?_
 have kq14 := g2.kp.trans (g4.kp.trans (g11.kp.trans kp12))
 replace hua1 := hua1.kp kq14
 refine ec 14 (add_r (IsRat.zero _ (k := 64) (Nat.le_refl _)) hua1 (by omega)) ?_
 rintro e13 w13 ⟨⟨p13, q13, r13, s13, rfl, h13⟩, g13⟩
 refine ⟨_, rfl, ?_⟩
 replace hB := hB.trans g13
 simp only [p3, p4]
 refine se ?_
 replace L4 := L4.gr g13
 refine es 30 0 (.agg #[p13, q13, r13, s13]) [p13, q13, r13, s13] #[p13, q13, r13, s13] L4 hB q4 ⟨h13.one0, h13.one1, h13.one2, h13.one3, trivial⟩ fun w15 st15 kp15 L4 hB => ?_
 refine sq_nil ?_
 refine k9 _ _ ?_
 try clear k9 K9
 refine rg [0, 1] ?_
 refine sv 15 (.int .i64 1) ?_
 simp only [p3, p4]
 refine sv 8 (.int .i64 1) ?_
 simp only [p3, p4]
 refine sq_nil ?_
 show Code.rounds _ _ _ _ _ _
 show Code.wp _ _ _ _ _
 refine wp_seq_k (fun K16 k16 => ?_)
 refine rg [0] ?_
 refine sv 9 (.bool true) ?_
 simp only [p3, p4]
 refine sq_nil ?_
 refine k16 _ _ ?_
 try clear k16 K16
 refine wp_seq_k (fun K17 k17 => ?_)
 refine wp_cond_true rfl ?_
 refine wp_skip ?_
 refine k17 _ _ ?_
 try clear k17 K17
 refine wp_seq_k (fun K18 k18 => ?_)
 refine wp_block ?_
 refine wp_seq_k (fun K19 k19 => ?_)
 refine rg [0, 1, 2, 3] ?_
 refine sv 10 (.pointer (some ⟨ab, 4, none⟩)) ?_
 simp only [p3, p4]
 replace hL := st15.lc ((st12.lc (hL.gr g11) ne0_11).gr g13) ne0_4
 refine sw 11 (.agg #[uab0, uab1, uab2, uab3]) rfl (rl 30 4 [uab0, uab1, uab2, uab3] hL) ?_
 simp only [p3, p4]
 refine se ?_
 refine ea 30 #[(.bool false), (.slice none 0 0), (.bool false), (.slice none 0 0)] 5 hB fun b20 w20 g20 L20 o20 q20 hB => ?_
 have ne0_20 := hL.ne o20
 replace L2 := st15.lc ((st12.lc (L2.gr g11) ne2_11).gr g13) ne2_4
 have ne2_20 := L2.ne o20
 have ne4_20 := L4.ne o20
 simp only [p3, p4]
 refine se ?_
 refine es 30 0 (.agg #[uab0, uab1, uab2, uab3]) [uab0, uab1, uab2, uab3] #[uab0, uab1, uab2, uab3] L20 hB q20 ⟨hua2.one0, hua2.one1, hua2.one2, hua2.one3, trivial⟩ fun w21 st21 kp21 L20 hB => ?_
 refine sq_nil ?_
 refine k19 _ _ ?_
 try clear k19 K19
 refine rg [0, 1, 2, 3] ?_
 replace L4 := st21.lc (L4.gr g20) ne4_20
 refine sw 12 (.agg #[p13, q13, r13, s13]) rfl (rl 30 0 [p13, q13, r13, s13] L4) ?_
 simp only [p3, p4]
 refine sw 13 (.agg #[uab0, uab1, uab2, uab3]) rfl (rl 30 0 [uab0, uab1, uab2, uab3] L20) ?_
 simp only [p3, p4]
 refine se ?_
 have kq23 := kp15.trans (g20.kp.trans kp21)
 replace h13 := h13.kp kq23
 have kq24 := g2.kp.trans (g4.kp.trans (g11.kp.trans (kp12.trans (g13.kp.trans (kp15.trans (g20.kp.trans kp21))))))
 replace hua2 := hua2.kp kq24
 refine ec 14 (add_r h13 hua2 (by omega)) ?_
 rintro e22 w22 ⟨⟨p22, q22, r22, s22, rfl, h22⟩, g22⟩
 refine ⟨_, rfl, ?_⟩
 replace hB := hB.trans g22
 simp only [p3, p4]
 refine se ?_
 replace L4 := L4.gr g22
 refine es 30 0 (.agg #[p22, q22, r22, s22]) [p22, q22, r22, s22] #[p22, q22, r22, s22] L4 hB q4 ⟨h22.one0, h22.one1, h22.one2, h22.one3, trivial⟩ fun w25 st25 kp25 L4 hB => ?_
 refine sq_nil ?_
 refine k18 _ _ ?_
 try clear k18 K18
 refine rg [0, 1] ?_
 refine sv 15 (.int .i64 2) ?_
 simp only [p3, p4]
 refine sv 8 (.int .i64 2) ?_
 simp only [p3, p4]
 refine sq_nil ?_
 show Code.rounds _ _ _ _ _ _
 show Code.wp _ _ _ _ _
 refine wp_seq_k (fun K26 k26 => ?_)
 refine rg [0] ?_
 refine sv 9 (.bool true) ?_
 simp only [p3, p4]
 refine sq_nil ?_
 refine k26 _ _ ?_
 try clear k26 K26
 refine wp_seq_k (fun K27 k27 => ?_)
 refine wp_cond_true rfl ?_
 refine wp_skip ?_
 refine k27 _ _ ?_
 try clear k27 K27
 refine wp_seq_k (fun K28 k28 => ?_)
 refine wp_block ?_
 refine wp_seq_k (fun K29 k29 => ?_)
 refine rg [0, 1, 2, 3] ?_
 refine sv 10 (.pointer (some ⟨ab, 8, none⟩)) ?_
 simp only [p3, p4]
 replace hL := st25.lc ((st21.lc (hL.gr g20) ne0_20).gr g22) ne0_4
 refine sw 11 (.agg #[uac0, uac1, uac2, uac3]) rfl (rl 30 8 [uac0, uac1, uac2, uac3] hL) ?_
 simp only [p3, p4]
 refine se ?_
 refine ea 30 #[(.bool false), (.slice none 0 0), (.bool false), (.slice none 0 0)] 5 hB fun b30 w30 g30 L30 o30 q30 hB => ?_
 replace L2 := st25.lc ((st21.lc (L2.gr g20) ne2_20).gr g22) ne2_4
 have ne2_30 := L2.ne o30
 have ne4_30 := L4.ne o30
 simp only [p3, p4]
 refine se ?_
 refine es 30 0 (.agg #[uac0, uac1, uac2, uac3]) [uac0, uac1, uac2, uac3] #[uac0, uac1, uac2, uac3] L30 hB q30 ⟨hua3.one0, hua3.one1, hua3.one2, hua3.one3, trivial⟩ fun w31 st31 kp31 L30 hB => ?_
 refine sq_nil ?_
 refine k29 _ _ ?_
 try clear k29 K29
 refine rg [0, 1, 2, 3] ?_
 replace L4 := st31.lc (L4.gr g30) ne4_30
 refine sw 12 (.agg #[p22, q22, r22, s22]) rfl (rl 30 0 [p22, q22, r22, s22] L4) ?_
 simp only [p3, p4]
 refine sw 13 (.agg #[uac0, uac1, uac2, uac3]) rfl (rl 30 0 [uac0, uac1, uac2, uac3] L30) ?_
 simp only [p3, p4]
 refine se ?_
 have kq33 := kp25.trans (g30.kp.trans kp31)
 replace h22 := h22.kp kq33
 have kq34 := g2.kp.trans (g4.kp.trans (g11.kp.trans (kp12.trans (g13.kp.trans (kp15.trans (g20.kp.trans (kp21.trans (g22.kp.trans (kp25.trans (g30.kp.trans kp31))))))))))
 replace hua3 := hua3.kp kq34
 refine ec 14 (add_r h22 hua3 (by omega)) ?_
 rintro e32 w32 ⟨⟨p32, q32, r32, s32, rfl, h32⟩, g32⟩
 refine ⟨_, rfl, ?_⟩
 replace hB := hB.trans g32
 simp only [p3, p4]
 refine se ?_
 replace L4 := L4.gr g32
 refine es 30 0 (.agg #[p32, q32, r32, s32]) [p32, q32, r32, s32] #[p32, q32, r32, s32] L4 hB q4 ⟨h32.one0, h32.one1, h32.one2, h32.one3, trivial⟩ fun w35 st35 kp35 L4 hB => ?_
 refine sq_nil ?_
 refine k28 _ _ ?_
 try clear k28 K28
 refine rg [0, 1] ?_
 refine sv 15 (.int .i64 3) ?_
 simp only [p3, p4]
 refine sv 8 (.int .i64 3) ?_
 simp only [p3, p4]
 refine sq_nil ?_
 show Code.rounds _ _ _ _ _ _
 show Code.wp _ _ _ _ _
 refine wp_seq_k (fun K36 k36 => ?_)
 refine rg [0] ?_
 refine sv 9 (.bool false) ?_
 simp only [p3, p4]
 refine sq_nil ?_
 refine k36 _ _ ?_
 try clear k36 K36
 refine wp_seq_k (fun K37 k37 => ?_)
 refine wp_cond_false rfl ?_
 refine wp_exit ?_
 simp only [Exit.then, Exit.inBlock, ↓reduceIte]
 refine k5 _ _ ?_
 try clear k5 K5
 refine wp_seq_k (fun K38 k38 => ?_)
 refine rg [0, 1] ?_
 refine sw 16 (.agg #[p32, q32, r32, s32]) rfl (rl 30 0 [p32, q32, r32, s32] L4) ?_
 simp only [p3, p4]
 refine se ?_
 replace L2 := st35.lc ((st31.lc (L2.gr g30) ne2_30).gr g32) ne2_4
 refine es 30 0 (.agg #[p32, q32, r32, s32]) [p32, q32, r32, s32] #[p32, q32, r32, s32] L2 hB q2 ⟨h32.one0, h32.one1, h32.one2, h32.one3, trivial⟩ fun w39 st39 kp39 L2 hB => ?_
 refine sq_nil ?_
 refine k38 _ _ ?_
 try clear k38 K38
 refine wp_ret ?_
 refine bodyPost_ret (v := (.agg #[p32, q32, r32, s32])) (ret_cell _ _ _ rfl rfl L2 (by kernel_rfl)) rfl ⟨?_, hB⟩
 have kq40 := kp35.trans kp39
 replace h32 := h32.kp kq40
 exact ⟨_, _, _, _, rfl, h32⟩

set_option maxRecDepth 100000 in
set_option maxHeartbeats 1000000 in
theorem dot_v {k m : Nat} {uaa0 uaa1 uaa2 uaa3 uab0 uab1 uab2 uab3 uac0 uac1 uac2 uac3 : Value} {a1 a2 a3 : Rat} {vaa0 vaa1 vaa2 vaa3 vab0 vab1 vab2 vab3 vac0 vac1 vac2 vac3 : Value} {c1 c2 c3 : Rat} {w : World} (hua1 : IsRat w k uaa0 uaa1 uaa2 uaa3 a1) (hua2 : IsRat w k uab0 uab1 uab2 uab3 a2) (hua3 : IsRat w k uac0 uac1 uac2 uac3 a3) (hva1 : IsRat w m vaa0 vaa1 vaa2 vaa3 c1) (hva2 : IsRat w m vab0 vab1 vab2 vab3 c2) (hva3 : IsRat w m vac0 vac1 vac2 vac3 c3) (_hk : k + m ≤ 25000) :
    Calls Tryz.prog 21 #[(.agg #[uaa0, uaa1, uaa2, uaa3, uab0, uab1, uab2, uab3, uac0, uac1, uac2, uac3]), (.agg #[vaa0, vaa1, vaa2, vaa3, vab0, vab1, vab2, vab3, vac0, vac1, vac2, vac3])] w fun e w' => (∃ z0 z1 z2 z3, e = .returned (.agg #[z0, z1, z2, z3]) ∧ IsRat w' (64 + (k + m) + 1 + (k + m) + 1 + (k + m) + 1) z0 z1 z2 z3 (0 + a1 * c1 + a2 * c2 + a3 * c3)) ∧ Gr w w' := by
 go_enter Tryz.func21, Tryz.ntmps21
 have hB := Gr.refl w
 refine wp_seq_k (fun K1 k1 => ?_)
 refine rg [0, 1, 2] ?_
 refine se ?_
 refine eb 32 #[uaa0, uaa1, uaa2, uaa3, uab0, uab1, uab2, uab3, uac0, uac1, uac2, uac3] 2 hB fun b2 w2 g2 L2 o2 q2 hB => ?_
 simp only [p3, p4]
 refine se ?_
 refine eb 32 #[vaa0, vaa1, vaa2, vaa3, vab0, vab1, vab2, vab3, vac0, vac1, vac2, vac3] 3 hB fun b3 w3 g3 L3 o3 q3 hB => ?_
 simp only [p3, p4]
 refine se ?_
 refine ea 30 #[(.bool false), (.slice none 0 0), (.bool false), (.slice none 0 0)] 4 hB fun b4 w4 g4 L4 o4 q4 hB => ?_
 replace L2 := L2.gr g3
 simp only [p3, p4]
 refine sq_nil ?_
 refine k1 _ _ ?_
 try clear k1 K1
 refine wp_seq_k (fun K5 k5 => ?_)
 refine rg [0, 1, 2, 3, 4] ?_
 replace L2 := L2.gr g4
 refine sw 6 (.agg #[uaa0, uaa1, uaa2, uaa3, uab0, uab1, uab2, uab3, uac0, uac1, uac2, uac3]) rfl (rl 32 0 [uaa0, uaa1, uaa2, uaa3, uab0, uab1, uab2, uab3, uac0, uac1, uac2, uac3] L2) ?_
 simp only [p3, p4]
 replace L3 := L3.gr g4
 refine sw 7 (.agg #[vaa0, vaa1, vaa2, vaa3, vab0, vab1, vab2, vab3, vac0, vac1, vac2, vac3]) rfl (rl 32 0 [vaa0, vaa1, vaa2, vaa3, vab0, vab1, vab2, vab3, vac0, vac1, vac2, vac3] L3) ?_
 simp only [p3, p4]
 refine se ?_
 have kq7 := g2.kp.trans (g3.kp.trans g4.kp)
 replace hua1 := hua1.kp kq7
 replace hua2 := hua2.kp kq7
 replace hua3 := hua3.kp kq7
 replace hva1 := hva1.kp kq7
 replace hva2 := hva2.kp kq7
 replace hva3 := hva3.kp kq7
 refine ec 8 (each_mul hua1 hua2 hua3 hva1 hva2 hva3 (by omega)) ?_
 rintro e6 w6 ⟨⟨t6_0, t6_1, t6_2, t6_3, t6_4, t6_5, t6_6, t6_7, t6_8, t6_9, t6_10, t6_11, rfl, h6a, h6b, h6c⟩, g6⟩
 refine ⟨_, rfl, ?_⟩
 replace hB := hB.trans g6
 simp only [p3, p4]
 refine se ?_
 refine ea 32 #[(.bool false), (.slice none 0 0), (.bool false), (.slice none 0 0), (.bool false), (.slice none 0 0), (.bool false), (.slice none 0 0), (.bool false), (.slice none 0 0), (.bool false), (.slice none 0 0)] 5 hB fun b8 w8 g8 L8 o8 q8 hB => ?_
 replace L4 := L4.gr g6
 have ne4_8 := L4.ne o8
 simp only [p3, p4]
 refine se ?_
 refine es 32 0 (.agg #[t6_0, t6_1, t6_2, t6_3, t6_4, t6_5, t6_6, t6_7, t6_8, t6_9, t6_10, t6_11]) [t6_0, t6_1, t6_2, t6_3, t6_4, t6_5, t6_6, t6_7, t6_8, t6_9, t6_10, t6_11] #[t6_0, t6_1, t6_2, t6_3, t6_4, t6_5, t6_6, t6_7, t6_8, t6_9, t6_10, t6_11] L8 hB q8 ⟨h6a.one0, h6a.one1, h6a.one2, h6a.one3, h6b.one0, h6b.one1, h6b.one2, h6b.one3, h6c.one0, h6c.one1, h6c.one2, h6c.one3, trivial⟩ fun w9 st9 kp9 L8 hB => ?_
 refine sq_nil ?_
 refine k5 _ _ ?_
 try clear k5 K5
 refine wp_seq_k (fun K10 k10 => ?_)
 refine rg [0, 1, 2] ?_
 refine sv 9 (.slice (some ⟨b8, 0, none⟩) 3 3) ?_
 simp only [p3, p4]
 refine se ?_
 have kq12 := g8.kp.trans kp9
 replace h6a := h6a.kp kq12
 replace h6b := h6b.kp kq12
 replace h6c := h6c.kp kq12
 refine ec 10 (sum3_r h6a h6b h6c L8 (by omega)) ?_
 rintro e11 w11 ⟨⟨p11, q11, r11, s11, rfl, h11⟩, g11⟩
 refine ⟨_, rfl, ?_⟩
 replace hB := hB.trans g11
 simp only [p3, p4]
 refine se ?_
 replace L4 := (st9.lc (L4.gr g8) ne4_8).gr g11
 refine es 30 0 (.agg #[p11, q11, r11, s11]) [p11, q11, r11, s11] #[p11, q11, r11, s11] L4 hB q4 ⟨h11.one0, h11.one1, h11.one2, h11.one3, trivial⟩ fun w13 st13 kp13 L4 hB => ?_
 refine sq_nil ?_
 refine k10 _ _ ?_
 try clear k10 K10
 refine wp_ret ?_
 refine bodyPost_ret (v := (.agg #[p11, q11, r11, s11])) (ret_cell _ _ _ rfl rfl L4 (by kernel_rfl)) rfl ⟨?_, hB⟩
 replace h11 := h11.kp kp13
 exact ⟨_, _, _, _, rfl, h11⟩

set_option maxRecDepth 100000 in
set_option maxHeartbeats 8000000 in
theorem cross_v {k m : Nat} {uaa0 uaa1 uaa2 uaa3 uab0 uab1 uab2 uab3 uac0 uac1 uac2 uac3 : Value} {a1 a2 a3 : Rat} {vaa0 vaa1 vaa2 vaa3 vab0 vab1 vab2 vab3 vac0 vac1 vac2 vac3 : Value} {c1 c2 c3 : Rat} {w : World} (hua1 : IsRat w k uaa0 uaa1 uaa2 uaa3 a1) (hua2 : IsRat w k uab0 uab1 uab2 uab3 a2) (hua3 : IsRat w k uac0 uac1 uac2 uac3 a3) (hva1 : IsRat w m vaa0 vaa1 vaa2 vaa3 c1) (hva2 : IsRat w m vab0 vab1 vab2 vab3 c2) (hva3 : IsRat w m vac0 vac1 vac2 vac3 c3) (_hk : k + m ≤ 25000) :
    Calls Tryz.prog 25 #[(.agg #[uaa0, uaa1, uaa2, uaa3, uab0, uab1, uab2, uab3, uac0, uac1, uac2, uac3]), (.agg #[vaa0, vaa1, vaa2, vaa3, vab0, vab1, vab2, vab3, vac0, vac1, vac2, vac3])] w fun e w' => (∃ t0 t1 t2 t3 t4 t5 t6 t7 t8 t9 t10 t11, e = .returned (.agg #[t0, t1, t2, t3, t4, t5, t6, t7, t8, t9, t10, t11]) ∧ IsRat w' (k + m + (k + m) + 1) t0 t1 t2 t3 (a2 * c3 - a3 * c2) ∧ IsRat w' (k + m + (k + m) + 1) t4 t5 t6 t7 (a3 * c1 - a1 * c3) ∧ IsRat w' (k + m + (k + m) + 1) t8 t9 t10 t11 (a1 * c2 - a2 * c1)) ∧ Gr w w' := by
 go_enter Tryz.func25, Tryz.ntmps25
 have hB := Gr.refl w
 refine wp_seq_k (fun K1 k1 => ?_)
 refine rg [0, 1, 2] ?_
 refine se ?_
 refine eb 32 #[uaa0, uaa1, uaa2, uaa3, uab0, uab1, uab2, uab3, uac0, uac1, uac2, uac3] 2 hB fun b2 w2 g2 L2 o2 q2 hB => ?_
 simp only [p3, p4]
 refine se ?_
 refine eb 32 #[vaa0, vaa1, vaa2, vaa3, vab0, vab1, vab2, vab3, vac0, vac1, vac2, vac3] 3 hB fun b3 w3 g3 L3 o3 q3 hB => ?_
 simp only [p3, p4]
 refine se ?_
 refine ea 32 #[(.bool false), (.slice none 0 0), (.bool false), (.slice none 0 0), (.bool false), (.slice none 0 0), (.bool false), (.slice none 0 0), (.bool false), (.slice none 0 0), (.bool false), (.slice none 0 0)] 4 hB fun b4 w4 g4 L4 o4 q4 hB => ?_
 replace L2 := L2.gr g3
 simp only [p3, p4]
 refine sq_nil ?_
 refine k1 _ _ ?_
 try clear k1 K1
 refine wp_seq_k (fun K5 k5 => ?_)
 refine rg [0] ?_
 refine se ?_
 refine ea 32 #[(.bool false), (.slice none 0 0), (.bool false), (.slice none 0 0), (.bool false), (.slice none 0 0), (.bool false), (.slice none 0 0), (.bool false), (.slice none 0 0), (.bool false), (.slice none 0 0)] 5 hB fun b6 w6 g6 L6 o6 q6 hB => ?_
 replace L2 := L2.gr g4
 have ne2_6 := L2.ne o6
 replace L3 := L3.gr g4
 have ne3_6 := L3.ne o6
 have ne4_6 := L4.ne o6
 simp only [p3, p4]
 refine sq_nil ?_
 refine k5 _ _ ?_
 try clear k5 K5
 refine wp_seq_k (fun K7 k7 => ?_)
 refine wp_seq_k (fun K8 k8 => ?_)
 refine rg [0] ?_
 refine sv 9 (.int .i64 0) ?_
 simp only [p3, p4]
 refine sq_nil ?_
 refine k8 _ _ ?_
 try clear k8 K8
 refine wp_block ?_
 refine wp_loop_rounds 4 ?_
 show Code.wp _ _ _ _ _
 refine wp_seq_k (fun K9 k9 => ?_)
 refine rg [0] ?_
 refine sv 10 (.bool true) ?_
 simp only [p3, p4]
 refine sq_nil ?_
 refine k9 _ _ ?_
 try clear k9 K9
 refine wp_seq_k (fun K10 k10 => ?_)
 refine wp_cond_true rfl ?_
 refine wp_skip ?_
 refine k10 _ _ ?_
 try clear k10 K10
 refine wp_seq_k (fun K11 k11 => ?_)
 refine wp_block ?_
 refine wp_seq_k (fun K12 k12 => ?_)
 refine rg [0, 1] ?_
 refine sv 11 (.int .i64 0) ?_
 simp only [p3, p4]
 refine sv 6 (.int .i64 0) ?_
 simp only [p3, p4]
 refine sq_nil ?_
 refine k12 _ _ ?_
 try clear k12 K12
 refine wp_seq_k (fun K13 k13 => ?_)
 refine rg [0, 1, 2, 3, 4, 5, 6, 7] ?_
 refine sv 12 (.int .i64 0) ?_
 simp only [p3, p4]
 refine sv 13 (.int .i64 1) ?_
 simp only [p3, p4]
 refine sv 14 (.int .i64 1) ?_
 simp only [p3, p4]
 refine sv 15 (.int .i64 0) ?_
 simp only [p3, p4]
 refine sv 16 (.int .i64 2) ?_
 simp only [p3, p4]
 refine sv 17 (.int .i64 2) ?_
 simp only [p3, p4]
 refine sv 7 (.int .i64 1) ?_
 simp only [p3, p4]
 refine sv 8 (.int .i64 2) ?_
 simp only [p3, p4]
 refine sq_nil ?_
 refine k13 _ _ ?_
 try clear k13 K13
 have gd25 := Gr.drew w6
 replace hB := hB.trans gd25
 replace L2 := L2.gr (g6.trans gd25)
 replace L3 := L3.gr (g6.trans gd25)
 refine wp_region_ord (fun w' => Lc w' b2 #[uaa0, uaa1, uaa2, uaa3, uab0, uab1, uab2, uab3, uac0, uac1, uac2, uac3] 32 ∧ Lc w' b3 #[vaa0, vaa1, vaa2, vaa3, vab0, vab1, vab2, vab3, vac0, vac1, vac2, vac3] 32) [(true, 0), (true, 1), (true, 2), (true, 3), (true, 4), (true, 5), (true, 6), (true, 8), (true, 9), (true, 10), (true, 11), (true, 12), (true, 13), (false, 7), (false, 14), (false, 15), (true, 16), (false, 17)] (by kernel_rfl) (by kernel_rfl) (by kernel_rfl) (by decide) (fun _ _ _ _ _ h => h) ⟨L2, L3⟩ ?_
 refine ov 18 (.int .i64 0) ?_
 simp only [p3, p4]
 refine ov 19 (.int .i64 1) ?_
 simp only [p3, p4]
 refine ov 20 (.pointer (some ⟨b2, 4, none⟩)) ?_
 simp only [p3, p4]
 refine ow 21 (.agg #[uab0, uab1, uab2, uab3]) rfl (fun w' hS => (rl 30 4 [uab0, uab1, uab2, uab3] hS.1)) ?_
 simp only [p3, p4]
 refine ov 22 (.int .i64 2) ?_
 simp only [p3, p4]
 refine ov 23 (.pointer (some ⟨b3, 8, none⟩)) ?_
 simp only [p3, p4]
 refine ow 24 (.agg #[vac0, vac1, vac2, vac3]) rfl (fun w' hS => (rl 30 8 [vac0, vac1, vac2, vac3] hS.2)) ?_
 simp only [p3, p4]
 refine ov 26 (.int .i64 2) ?_
 simp only [p3, p4]
 refine ov 27 (.pointer (some ⟨b2, 8, none⟩)) ?_
 simp only [p3, p4]
 refine ow 28 (.agg #[uac0, uac1, uac2, uac3]) rfl (fun w' hS => (rl 30 8 [uac0, uac1, uac2, uac3] hS.1)) ?_
 simp only [p3, p4]
 refine ov 29 (.int .i64 1) ?_
 simp only [p3, p4]
 refine ov 30 (.pointer (some ⟨b3, 4, none⟩)) ?_
 simp only [p3, p4]
 refine ow 31 (.agg #[vab0, vab1, vab2, vab3]) rfl (fun w' hS => (rl 30 4 [vab0, vab1, vab2, vab3] hS.2)) ?_
 simp only [p3, p4]
 refine oe ?_
 have kq28 := g2.kp.trans (g3.kp.trans (g4.kp.trans (g6.kp.trans gd25.kp)))
 replace hua2 := hua2.kp kq28
 replace hva3 := hva3.kp kq28
 refine ec 25 (mul_r hua2 hva3 (by omega)) ?_
 rintro e27 w27 ⟨⟨p27, q27, r27, s27, rfl, h27⟩, g27⟩
 refine ⟨_, rfl, ?_⟩
 replace hB := hB.trans g27
 replace L2 := L2.gr g27
 replace L3 := L3.gr g27
 refine ⟨⟨L2, L3⟩, ?_⟩
 simp only [p3, p4]
 refine oe ?_
 have kq31 := g2.kp.trans (g3.kp.trans (g4.kp.trans (g6.kp.trans (gd25.kp.trans g27.kp))))
 replace hua3 := hua3.kp kq31
 replace hva2 := hva2.kp kq31
 refine ec 32 (mul_r hua3 hva2 (by omega)) ?_
 rintro e30 w30 ⟨⟨p30, q30, r30, s30, rfl, h30⟩, g30⟩
 refine ⟨_, rfl, ?_⟩
 replace hB := hB.trans g30
 replace L2 := L2.gr g30
 replace L3 := L3.gr g30
 refine ⟨⟨L2, L3⟩, ?_⟩
 simp only [p3, p4]
 refine oe ?_
 replace h27 := h27.kp g30.kp
 refine ec 33 (sub_r h27 h30 (by omega)) ?_
 rintro e33 w33 ⟨⟨p33, q33, r33, s33, rfl, h33⟩, g33⟩
 refine ⟨_, rfl, ?_⟩
 replace hB := hB.trans g33
 replace L2 := L2.gr g33
 replace L3 := L3.gr g33
 refine ⟨⟨L2, L3⟩, ?_⟩
 simp only [p3, p4]
 refine ov 34 (.pointer (some ⟨b6, 0, none⟩)) ?_
 simp only [p3, p4]
 refine oe ?_
 replace L6 := L6.gr (gd25.trans (g27.trans (g30.trans g33)))
 refine es 30 0 (.agg #[p33, q33, r33, s33]) [p33, q33, r33, s33] #[p33, q33, r33, s33, (.bool false), (.slice none 0 0), (.bool false), (.slice none 0 0), (.bool false), (.slice none 0 0), (.bool false), (.slice none 0 0)] L6 hB q6 ⟨h33.one0, h33.one1, h33.one2, h33.one3, trivial⟩ fun w35 st35 kp35 L6 hB => ?_
 replace L2 := st35.lc L2 ne2_6
 replace L3 := st35.lc L3 ne3_6
 refine ⟨⟨L2, L3⟩, ?_⟩
 refine ord_nil ?_
 refine k11 _ _ ?_
 try clear k11 K11
 refine rg [0, 1] ?_
 refine sv 35 (.int .i64 1) ?_
 simp only [p3, p4]
 refine sv 9 (.int .i64 1) ?_
 simp only [p3, p4]
 refine sq_nil ?_
 show Code.rounds _ _ _ _ _ _
 show Code.wp _ _ _ _ _
 refine wp_seq_k (fun K36 k36 => ?_)
 refine rg [0] ?_
 refine sv 10 (.bool true) ?_
 simp only [p3, p4]
 refine sq_nil ?_
 refine k36 _ _ ?_
 try clear k36 K36
 refine wp_seq_k (fun K37 k37 => ?_)
 refine wp_cond_true rfl ?_
 refine wp_skip ?_
 refine k37 _ _ ?_
 try clear k37 K37
 refine wp_seq_k (fun K38 k38 => ?_)
 refine wp_block ?_
 refine wp_seq_k (fun K39 k39 => ?_)
 refine rg [0, 1] ?_
 refine sv 11 (.int .i64 1) ?_
 simp only [p3, p4]
 refine sv 6 (.int .i64 1) ?_
 simp only [p3, p4]
 refine sq_nil ?_
 refine k39 _ _ ?_
 try clear k39 K39
 refine wp_seq_k (fun K40 k40 => ?_)
 refine rg [0, 1, 2, 3, 4, 5, 6, 7] ?_
 refine sv 12 (.int .i64 1) ?_
 simp only [p3, p4]
 refine sv 13 (.int .i64 2) ?_
 simp only [p3, p4]
 refine sv 14 (.int .i64 2) ?_
 simp only [p3, p4]
 refine sv 15 (.int .i64 1) ?_
 simp only [p3, p4]
 refine sv 16 (.int .i64 3) ?_
 simp only [p3, p4]
 refine sv 17 (.int .i64 0) ?_
 simp only [p3, p4]
 refine sv 7 (.int .i64 2) ?_
 simp only [p3, p4]
 refine sv 8 (.int .i64 0) ?_
 simp only [p3, p4]
 refine sq_nil ?_
 refine k40 _ _ ?_
 try clear k40 K40
 have gd54 := Gr.drew w35
 replace hB := hB.trans gd54
 replace L2 := L2.gr gd54
 replace L3 := L3.gr gd54
 refine wp_region_ord (fun w' => Lc w' b2 #[uaa0, uaa1, uaa2, uaa3, uab0, uab1, uab2, uab3, uac0, uac1, uac2, uac3] 32 ∧ Lc w' b3 #[vaa0, vaa1, vaa2, vaa3, vab0, vab1, vab2, vab3, vac0, vac1, vac2, vac3] 32) [(true, 0), (true, 1), (true, 2), (true, 3), (true, 4), (true, 5), (true, 6), (true, 8), (true, 9), (true, 10), (true, 11), (true, 12), (true, 13), (false, 7), (false, 14), (false, 15), (true, 16), (false, 17)] (by kernel_rfl) (by kernel_rfl) (by kernel_rfl) (by decide) (fun _ _ _ _ _ h => h) ⟨L2, L3⟩ ?_
 refine ov 18 (.int .i64 1) ?_
 simp only [p3, p4]
 refine ov 19 (.int .i64 2) ?_
 simp only [p3, p4]
 refine ov 20 (.pointer (some ⟨b2, 8, none⟩)) ?_
 simp only [p3, p4]
 refine ow 21 (.agg #[uac0, uac1, uac2, uac3]) rfl (fun w' hS => (rl 30 8 [uac0, uac1, uac2, uac3] hS.1)) ?_
 simp only [p3, p4]
 refine ov 22 (.int .i64 0) ?_
 simp only [p3, p4]
 refine ov 23 (.pointer (some ⟨b3, 0, none⟩)) ?_
 simp only [p3, p4]
 refine ow 24 (.agg #[vaa0, vaa1, vaa2, vaa3]) rfl (fun w' hS => (rl 30 0 [vaa0, vaa1, vaa2, vaa3] hS.2)) ?_
 simp only [p3, p4]
 refine ov 26 (.int .i64 0) ?_
 simp only [p3, p4]
 refine ov 27 (.pointer (some ⟨b2, 0, none⟩)) ?_
 simp only [p3, p4]
 refine ow 28 (.agg #[uaa0, uaa1, uaa2, uaa3]) rfl (fun w' hS => (rl 30 0 [uaa0, uaa1, uaa2, uaa3] hS.1)) ?_
 simp only [p3, p4]
 refine ov 29 (.int .i64 2) ?_
 simp only [p3, p4]
 refine ov 30 (.pointer (some ⟨b3, 8, none⟩)) ?_
 simp only [p3, p4]
 refine ow 31 (.agg #[vac0, vac1, vac2, vac3]) rfl (fun w' hS => (rl 30 8 [vac0, vac1, vac2, vac3] hS.2)) ?_
 simp only [p3, p4]
 refine oe ?_
 have kq57 := g30.kp.trans (g33.kp.trans (kp35.trans gd54.kp))
 replace hua3 := hua3.kp kq57
 have kq58 := g2.kp.trans (g3.kp.trans (g4.kp.trans (g6.kp.trans (gd25.kp.trans (g27.kp.trans (g30.kp.trans (g33.kp.trans (kp35.trans gd54.kp))))))))
 replace hva1 := hva1.kp kq58
 refine ec 25 (mul_r hua3 hva1 (by omega)) ?_
 rintro e56 w56 ⟨⟨p56, q56, r56, s56, rfl, h56⟩, g56⟩
 refine ⟨_, rfl, ?_⟩
 replace hB := hB.trans g56
 replace L2 := L2.gr g56
 replace L3 := L3.gr g56
 refine ⟨⟨L2, L3⟩, ?_⟩
 simp only [p3, p4]
 refine oe ?_
 have kq61 := g2.kp.trans (g3.kp.trans (g4.kp.trans (g6.kp.trans (gd25.kp.trans (g27.kp.trans (g30.kp.trans (g33.kp.trans (kp35.trans (gd54.kp.trans g56.kp)))))))))
 replace hua1 := hua1.kp kq61
 have kq62 := g27.kp.trans (g30.kp.trans (g33.kp.trans (kp35.trans (gd54.kp.trans g56.kp))))
 replace hva3 := hva3.kp kq62
 refine ec 32 (mul_r hua1 hva3 (by omega)) ?_
 rintro e60 w60 ⟨⟨p60, q60, r60, s60, rfl, h60⟩, g60⟩
 refine ⟨_, rfl, ?_⟩
 replace hB := hB.trans g60
 replace L2 := L2.gr g60
 replace L3 := L3.gr g60
 refine ⟨⟨L2, L3⟩, ?_⟩
 simp only [p3, p4]
 refine oe ?_
 replace h56 := h56.kp g60.kp
 refine ec 33 (sub_r h56 h60 (by omega)) ?_
 rintro e64 w64 ⟨⟨p64, q64, r64, s64, rfl, h64⟩, g64⟩
 refine ⟨_, rfl, ?_⟩
 replace hB := hB.trans g64
 replace L2 := L2.gr g64
 replace L3 := L3.gr g64
 refine ⟨⟨L2, L3⟩, ?_⟩
 simp only [p3, p4]
 refine ov 34 (.pointer (some ⟨b6, 4, none⟩)) ?_
 simp only [p3, p4]
 refine oe ?_
 replace L6 := L6.gr (gd54.trans (g56.trans (g60.trans g64)))
 refine es 30 4 (.agg #[p64, q64, r64, s64]) [p64, q64, r64, s64] #[p33, q33, r33, s33, p64, q64, r64, s64, (.bool false), (.slice none 0 0), (.bool false), (.slice none 0 0)] L6 hB q6 ⟨h64.one0, h64.one1, h64.one2, h64.one3, trivial⟩ fun w66 st66 kp66 L6 hB => ?_
 replace L2 := st66.lc L2 ne2_6
 replace L3 := st66.lc L3 ne3_6
 refine ⟨⟨L2, L3⟩, ?_⟩
 refine ord_nil ?_
 refine k38 _ _ ?_
 try clear k38 K38
 refine rg [0, 1] ?_
 refine sv 35 (.int .i64 2) ?_
 simp only [p3, p4]
 refine sv 9 (.int .i64 2) ?_
 simp only [p3, p4]
 refine sq_nil ?_
 show Code.rounds _ _ _ _ _ _
 show Code.wp _ _ _ _ _
 refine wp_seq_k (fun K67 k67 => ?_)
 refine rg [0] ?_
 refine sv 10 (.bool true) ?_
 simp only [p3, p4]
 refine sq_nil ?_
 refine k67 _ _ ?_
 try clear k67 K67
 refine wp_seq_k (fun K68 k68 => ?_)
 refine wp_cond_true rfl ?_
 refine wp_skip ?_
 refine k68 _ _ ?_
 try clear k68 K68
 refine wp_seq_k (fun K69 k69 => ?_)
 refine wp_block ?_
 refine wp_seq_k (fun K70 k70 => ?_)
 refine rg [0, 1] ?_
 refine sv 11 (.int .i64 2) ?_
 simp only [p3, p4]
 refine sv 6 (.int .i64 2) ?_
 simp only [p3, p4]
 refine sq_nil ?_
 refine k70 _ _ ?_
 try clear k70 K70
 refine wp_seq_k (fun K71 k71 => ?_)
 refine rg [0, 1, 2, 3, 4, 5, 6, 7] ?_
 refine sv 12 (.int .i64 2) ?_
 simp only [p3, p4]
 refine sv 13 (.int .i64 3) ?_
 simp only [p3, p4]
 refine sv 14 (.int .i64 0) ?_
 simp only [p3, p4]
 refine sv 15 (.int .i64 2) ?_
 simp only [p3, p4]
 refine sv 16 (.int .i64 4) ?_
 simp only [p3, p4]
 refine sv 17 (.int .i64 1) ?_
 simp only [p3, p4]
 refine sv 7 (.int .i64 0) ?_
 simp only [p3, p4]
 refine sv 8 (.int .i64 1) ?_
 simp only [p3, p4]
 refine sq_nil ?_
 refine k71 _ _ ?_
 try clear k71 K71
 have gd85 := Gr.drew w66
 replace hB := hB.trans gd85
 replace L2 := L2.gr gd85
 replace L3 := L3.gr gd85
 refine wp_region_ord (fun w' => Lc w' b2 #[uaa0, uaa1, uaa2, uaa3, uab0, uab1, uab2, uab3, uac0, uac1, uac2, uac3] 32 ∧ Lc w' b3 #[vaa0, vaa1, vaa2, vaa3, vab0, vab1, vab2, vab3, vac0, vac1, vac2, vac3] 32) [(true, 0), (true, 1), (true, 2), (true, 3), (true, 4), (true, 5), (true, 6), (true, 8), (true, 9), (true, 10), (true, 11), (true, 12), (true, 13), (false, 7), (false, 14), (false, 15), (true, 16), (false, 17)] (by kernel_rfl) (by kernel_rfl) (by kernel_rfl) (by decide) (fun _ _ _ _ _ h => h) ⟨L2, L3⟩ ?_
 refine ov 18 (.int .i64 2) ?_
 simp only [p3, p4]
 refine ov 19 (.int .i64 0) ?_
 simp only [p3, p4]
 refine ov 20 (.pointer (some ⟨b2, 0, none⟩)) ?_
 simp only [p3, p4]
 refine ow 21 (.agg #[uaa0, uaa1, uaa2, uaa3]) rfl (fun w' hS => (rl 30 0 [uaa0, uaa1, uaa2, uaa3] hS.1)) ?_
 simp only [p3, p4]
 refine ov 22 (.int .i64 1) ?_
 simp only [p3, p4]
 refine ov 23 (.pointer (some ⟨b3, 4, none⟩)) ?_
 simp only [p3, p4]
 refine ow 24 (.agg #[vab0, vab1, vab2, vab3]) rfl (fun w' hS => (rl 30 4 [vab0, vab1, vab2, vab3] hS.2)) ?_
 simp only [p3, p4]
 refine ov 26 (.int .i64 1) ?_
 simp only [p3, p4]
 refine ov 27 (.pointer (some ⟨b2, 4, none⟩)) ?_
 simp only [p3, p4]
 refine ow 28 (.agg #[uab0, uab1, uab2, uab3]) rfl (fun w' hS => (rl 30 4 [uab0, uab1, uab2, uab3] hS.1)) ?_
 simp only [p3, p4]
 refine ov 29 (.int .i64 0) ?_
 simp only [p3, p4]
 refine ov 30 (.pointer (some ⟨b3, 0, none⟩)) ?_
 simp only [p3, p4]
 refine ow 31 (.agg #[vaa0, vaa1, vaa2, vaa3]) rfl (fun w' hS => (rl 30 0 [vaa0, vaa1, vaa2, vaa3] hS.2)) ?_
 simp only [p3, p4]
 refine oe ?_
 have kq88 := g60.kp.trans (g64.kp.trans (kp66.trans gd85.kp))
 replace hua1 := hua1.kp kq88
 have kq89 := g30.kp.trans (g33.kp.trans (kp35.trans (gd54.kp.trans (g56.kp.trans (g60.kp.trans (g64.kp.trans (kp66.trans gd85.kp)))))))
 replace hva2 := hva2.kp kq89
 refine ec 25 (mul_r hua1 hva2 (by omega)) ?_
 rintro e87 w87 ⟨⟨p87, q87, r87, s87, rfl, h87⟩, g87⟩
 refine ⟨_, rfl, ?_⟩
 replace hB := hB.trans g87
 replace L2 := L2.gr g87
 replace L3 := L3.gr g87
 refine ⟨⟨L2, L3⟩, ?_⟩
 simp only [p3, p4]
 refine oe ?_
 have kq92 := g27.kp.trans (g30.kp.trans (g33.kp.trans (kp35.trans (gd54.kp.trans (g56.kp.trans (g60.kp.trans (g64.kp.trans (kp66.trans (gd85.kp.trans g87.kp)))))))))
 replace hua2 := hua2.kp kq92
 have kq93 := g56.kp.trans (g60.kp.trans (g64.kp.trans (kp66.trans (gd85.kp.trans g87.kp))))
 replace hva1 := hva1.kp kq93
 refine ec 32 (mul_r hua2 hva1 (by omega)) ?_
 rintro e91 w91 ⟨⟨p91, q91, r91, s91, rfl, h91⟩, g91⟩
 refine ⟨_, rfl, ?_⟩
 replace hB := hB.trans g91
 replace L2 := L2.gr g91
 replace L3 := L3.gr g91
 refine ⟨⟨L2, L3⟩, ?_⟩
 simp only [p3, p4]
 refine oe ?_
 replace h87 := h87.kp g91.kp
 refine ec 33 (sub_r h87 h91 (by omega)) ?_
 rintro e95 w95 ⟨⟨p95, q95, r95, s95, rfl, h95⟩, g95⟩
 refine ⟨_, rfl, ?_⟩
 replace hB := hB.trans g95
 replace L2 := L2.gr g95
 replace L3 := L3.gr g95
 refine ⟨⟨L2, L3⟩, ?_⟩
 simp only [p3, p4]
 refine ov 34 (.pointer (some ⟨b6, 8, none⟩)) ?_
 simp only [p3, p4]
 refine oe ?_
 replace L6 := L6.gr (gd85.trans (g87.trans (g91.trans g95)))
 refine es 30 8 (.agg #[p95, q95, r95, s95]) [p95, q95, r95, s95] #[p33, q33, r33, s33, p64, q64, r64, s64, p95, q95, r95, s95] L6 hB q6 ⟨h95.one0, h95.one1, h95.one2, h95.one3, trivial⟩ fun w97 st97 kp97 L6 hB => ?_
 replace L2 := st97.lc L2 ne2_6
 replace L3 := st97.lc L3 ne3_6
 refine ⟨⟨L2, L3⟩, ?_⟩
 refine ord_nil ?_
 refine k69 _ _ ?_
 try clear k69 K69
 refine rg [0, 1] ?_
 refine sv 35 (.int .i64 3) ?_
 simp only [p3, p4]
 refine sv 9 (.int .i64 3) ?_
 simp only [p3, p4]
 refine sq_nil ?_
 show Code.rounds _ _ _ _ _ _
 show Code.wp _ _ _ _ _
 refine wp_seq_k (fun K98 k98 => ?_)
 refine rg [0] ?_
 refine sv 10 (.bool false) ?_
 simp only [p3, p4]
 refine sq_nil ?_
 refine k98 _ _ ?_
 try clear k98 K98
 refine wp_seq_k (fun K99 k99 => ?_)
 refine wp_cond_false rfl ?_
 refine wp_exit ?_
 simp only [Exit.then, Exit.inBlock, ↓reduceIte]
 refine k7 _ _ ?_
 try clear k7 K7
 refine wp_seq_k (fun K100 k100 => ?_)
 refine rg [0, 1] ?_
 refine sw 36 (.agg #[p33, q33, r33, s33, p64, q64, r64, s64, p95, q95, r95, s95]) rfl (rl 32 0 [p33, q33, r33, s33, p64, q64, r64, s64, p95, q95, r95, s95] L6) ?_
 simp only [p3, p4]
 refine se ?_
 replace L4 := st97.lc ((st66.lc ((st35.lc (L4.gr (g6.trans (gd25.trans (g27.trans (g30.trans g33))))) ne4_6).gr (gd54.trans (g56.trans (g60.trans g64)))) ne4_6).gr (gd85.trans (g87.trans (g91.trans g95)))) ne4_6
 refine es 32 0 (.agg #[p33, q33, r33, s33, p64, q64, r64, s64, p95, q95, r95, s95]) [p33, q33, r33, s33, p64, q64, r64, s64, p95, q95, r95, s95] #[p33, q33, r33, s33, p64, q64, r64, s64, p95, q95, r95, s95] L4 hB q4 ⟨h33.one0, h33.one1, h33.one2, h33.one3, h64.one0, h64.one1, h64.one2, h64.one3, h95.one0, h95.one1, h95.one2, h95.one3, trivial⟩ fun w101 st101 kp101 L4 hB => ?_
 refine sq_nil ?_
 refine k100 _ _ ?_
 try clear k100 K100
 refine wp_ret ?_
 refine bodyPost_ret (v := (.agg #[p33, q33, r33, s33, p64, q64, r64, s64, p95, q95, r95, s95])) (ret_cell _ _ _ rfl rfl L4 (by kernel_rfl)) rfl ⟨?_, hB⟩
 have kq102 := kp35.trans (gd54.kp.trans (g56.kp.trans (g60.kp.trans (g64.kp.trans (kp66.trans (gd85.kp.trans (g87.kp.trans (g91.kp.trans (g95.kp.trans (kp97.trans kp101))))))))))
 replace h33 := h33.kp kq102
 have kq103 := kp66.trans (gd85.kp.trans (g87.kp.trans (g91.kp.trans (g95.kp.trans (kp97.trans kp101)))))
 replace h64 := h64.kp kq103
 have kq104 := kp97.trans kp101
 replace h95 := h95.kp kq104
 exact ⟨_, _, _, _, _, _, _, _, _, _, _, _, rfl, h33, h64, h95⟩

end Go.Proofs.YtlcmllfacolkaaaGreatDoor
/- Printed by a program of the prover's: the comparisons of vectors. -/
namespace Go.Proofs.YtlcmllfacolkaaaGreatDoor
open Go.RowKit

/-- the order of two vectors -/
def vcmp (a1 a2 a3 c1 c2 c3 : Rat) : Int := if rcmp a1 c1 = 0 then if rcmp a2 c2 = 0 then rcmp a3 c3 else rcmp a2 c2 else rcmp a1 c1
theorem vcmp_zero {a1 a2 a3 c1 c2 c3 : Rat} : vcmp a1 a2 a3 c1 c2 c3 = 0 ↔ a1 = c1 ∧ a2 = c2 ∧ a3 = c3 := by
  unfold vcmp
  rw [← rcmp_zero (a := a1), ← rcmp_zero (a := a2), ← rcmp_zero (a := a3)]
  split
  · split <;> simp_all
  · simp_all

set_option maxRecDepth 100000 in
set_option maxHeartbeats 1000000 in
theorem vcomp_1 {k m : Nat} {uaa0 uaa1 uaa2 uaa3 uab0 uab1 uab2 uab3 uac0 uac1 uac2 uac3 : Value} {a1 a2 a3 : Rat} {vaa0 vaa1 vaa2 vaa3 vab0 vab1 vab2 vab3 vac0 vac1 vac2 vac3 : Value} {c1 c2 c3 : Rat} {w : World} (hua1 : IsRat w k uaa0 uaa1 uaa2 uaa3 a1) (_hua2 : IsRat w k uab0 uab1 uab2 uab3 a2) (_hua3 : IsRat w k uac0 uac1 uac2 uac3 a3) (hva1 : IsRat w m vaa0 vaa1 vaa2 vaa3 c1) (_hva2 : IsRat w m vab0 vab1 vab2 vab3 c2) (_hva3 : IsRat w m vac0 vac1 vac2 vac3 c3) (_hk : k + m ≤ 100000) (e1 : (rcmp a1 c1 != (0 : Int)) = true) :
    Calls Tryz.prog 32 #[(.agg #[uaa0, uaa1, uaa2, uaa3, uab0, uab1, uab2, uab3, uac0, uac1, uac2, uac3]), (.agg #[vaa0, vaa1, vaa2, vaa3, vab0, vab1, vab2, vab3, vac0, vac1, vac2, vac3])] w fun e w' => e = .returned (.int .i64 (rcmp a1 c1)) ∧ Gr w w' := by
 go_enter Tryz.func32, Tryz.ntmps32
 have hB := Gr.refl w
 refine wp_seq_k (fun K1 k1 => ?_)
 refine rg [0, 1, 2] ?_
 refine se ?_
 refine eb 32 #[uaa0, uaa1, uaa2, uaa3, uab0, uab1, uab2, uab3, uac0, uac1, uac2, uac3] 2 hB fun b2 w2 g2 L2 o2 q2 hB => ?_
 simp only [p3, p4]
 refine se ?_
 refine eb 32 #[vaa0, vaa1, vaa2, vaa3, vab0, vab1, vab2, vab3, vac0, vac1, vac2, vac3] 3 hB fun b3 w3 g3 L3 o3 q3 hB => ?_
 simp only [p3, p4]
 refine sv 4 (.int .i64 0) ?_
 simp only [p3, p4]
 refine sq_nil ?_
 refine k1 _ _ ?_
 try clear k1 K1
 refine wp_seq_k (fun K4 k4 => ?_)
 refine wp_seq_k (fun K5 k5 => ?_)
 refine rg [0] ?_
 refine sv 7 (.int .i64 0) ?_
 simp only [p3, p4]
 refine sq_nil ?_
 refine k5 _ _ ?_
 try clear k5 K5
 refine wp_block ?_
 refine wp_loop_rounds 4 ?_
 show Code.wp _ _ _ _ _
 refine wp_seq_k (fun K6 k6 => ?_)
 refine rg [0] ?_
 refine sv 8 (.bool true) ?_
 simp only [p3, p4]
 refine sq_nil ?_
 refine k6 _ _ ?_
 try clear k6 K6
 refine wp_seq_k (fun K7 k7 => ?_)
 refine wp_cond_true rfl ?_
 refine wp_skip ?_
 refine k7 _ _ ?_
 try clear k7 K7
 refine wp_seq_k (fun K8 k8 => ?_)
 refine wp_block ?_
 refine wp_seq_k (fun K9 k9 => ?_)
 refine rg [0, 1] ?_
 refine sv 9 (.int .i64 0) ?_
 simp only [p3, p4]
 refine sv 5 (.int .i64 0) ?_
 simp only [p3, p4]
 refine sq_nil ?_
 refine k9 _ _ ?_
 try clear k9 K9
 refine wp_seq_k (fun K10 k10 => ?_)
 have gd15 := Gr.drew w3
 replace hB := hB.trans gd15
 replace L2 := L2.gr (g3.trans gd15)
 replace L3 := L3.gr gd15
 refine wp_region_ord (fun w' => Lc w' b2 #[uaa0, uaa1, uaa2, uaa3, uab0, uab1, uab2, uab3, uac0, uac1, uac2, uac3] 32 ∧ Lc w' b3 #[vaa0, vaa1, vaa2, vaa3, vab0, vab1, vab2, vab3, vac0, vac1, vac2, vac3] 32) [(true, 0), (true, 1), (true, 2), (true, 3), (true, 4), (true, 5), (false, 6), (true, 7)] (by kernel_rfl) (by kernel_rfl) (by kernel_rfl) (by decide) (fun _ _ _ _ _ h => h) ⟨L2, L3⟩ ?_
 refine ov 10 (.int .i64 0) ?_
 simp only [p3, p4]
 refine ov 11 (.pointer (some ⟨b2, 0, none⟩)) ?_
 simp only [p3, p4]
 refine ow 12 (.agg #[uaa0, uaa1, uaa2, uaa3]) rfl (fun w' hS => (rl 30 0 [uaa0, uaa1, uaa2, uaa3] hS.1)) ?_
 simp only [p3, p4]
 refine ov 13 (.int .i64 0) ?_
 simp only [p3, p4]
 refine ov 14 (.pointer (some ⟨b3, 0, none⟩)) ?_
 simp only [p3, p4]
 refine ow 15 (.agg #[vaa0, vaa1, vaa2, vaa3]) rfl (fun w' hS => (rl 30 0 [vaa0, vaa1, vaa2, vaa3] hS.2)) ?_
 simp only [p3, p4]
 refine oe ?_
 have kq18 := g2.kp.trans (g3.kp.trans gd15.kp)
 replace hua1 := hua1.kp kq18
 replace hva1 := hva1.kp kq18
 refine ec 16 (compare_r hua1 hva1 (by omega)) ?_
 rintro e17 w17 ⟨rfl, g17⟩
 refine ⟨_, rfl, ?_⟩
 replace hB := hB.trans g17
 replace L2 := L2.gr g17
 replace L3 := L3.gr g17
 refine ⟨⟨L2, L3⟩, ?_⟩
 simp only [p3, p4]
 refine ov 6 (.int .i64 (rcmp a1 c1)) ?_
 simp only [p3, p4]
 refine ord_nil ?_
 refine k10 _ _ ?_
 try clear k10 K10
 refine wp_seq_k (fun K19 k19 => ?_)
 refine rg [0, 1] ?_
 refine sv 17 (.int .i64 (rcmp a1 c1)) ?_
 simp only [p3, p4]
 refine sw 18 (.bool true) rfl (RunV.bool (x := (rcmp a1 c1 != (0 : Int))) (rvk (by kernel_rfl)) e1) ?_
 simp only [p3, p4]
 refine sq_nil ?_
 refine k19 _ _ ?_
 try clear k19 K19
 refine wp_cond_true rfl ?_
 refine wp_seq_k (fun K20 k20 => ?_)
 refine rg [0, 1] ?_
 refine sv 19 (.int .i64 (rcmp a1 c1)) ?_
 simp only [p3, p4]
 refine sv 4 (.int .i64 (rcmp a1 c1)) ?_
 simp only [p3, p4]
 refine sq_nil ?_
 refine k20 _ _ ?_
 try clear k20 K20
 refine wp_ret ?_
 simp only [Exit.then, Exit.inBlock]
 refine bodyPost_ret (v := (.int .i64 (rcmp a1 c1))) (ret_tmp rfl rfl) rfl ⟨?_, hB⟩
 exact rfl

set_option maxRecDepth 100000 in
set_option maxHeartbeats 1000000 in
theorem vcomp_2 {k m : Nat} {uaa0 uaa1 uaa2 uaa3 uab0 uab1 uab2 uab3 uac0 uac1 uac2 uac3 : Value} {a1 a2 a3 : Rat} {vaa0 vaa1 vaa2 vaa3 vab0 vab1 vab2 vab3 vac0 vac1 vac2 vac3 : Value} {c1 c2 c3 : Rat} {w : World} (hua1 : IsRat w k uaa0 uaa1 uaa2 uaa3 a1) (hua2 : IsRat w k uab0 uab1 uab2 uab3 a2) (_hua3 : IsRat w k uac0 uac1 uac2 uac3 a3) (hva1 : IsRat w m vaa0 vaa1 vaa2 vaa3 c1) (hva2 : IsRat w m vab0 vab1 vab2 vab3 c2) (_hva3 : IsRat w m vac0 vac1 vac2 vac3 c3) (_hk : k + m ≤ 100000) (e1 : (rcmp a1 c1 != (0 : Int)) = false) (e2 : (rcmp a2 c2 != (0 : Int)) = true) :
    Calls Tryz.prog 32 #[(.agg #[uaa0, uaa1, uaa2, uaa3, uab0, uab1, uab2, uab3, uac0, uac1, uac2, uac3]), (.agg #[vaa0, vaa1, vaa2, vaa3, vab0, vab1, vab2, vab3, vac0, vac1, vac2, vac3])] w fun e w' => e = .returned (.int .i64 (rcmp a2 c2)) ∧ Gr w w' := by
 go_enter Tryz.func32, Tryz.ntmps32
 have hB := Gr.refl w
 refine wp_seq_k (fun K1 k1 => ?_)
 refine rg [0, 1, 2] ?_
 refine se ?_
 refine eb 32 #[uaa0, uaa1, uaa2, uaa3, uab0, uab1, uab2, uab3, uac0, uac1, uac2, uac3] 2 hB fun b2 w2 g2 L2 o2 q2 hB => ?_
 simp only [p3, p4]
 refine se ?_
 refine eb 32 #[vaa0, vaa1, vaa2, vaa3, vab0, vab1, vab2, vab3, vac0, vac1, vac2, vac3] 3 hB fun b3 w3 g3 L3 o3 q3 hB => ?_
 simp only [p3, p4]
 refine sv 4 (.int .i64 0) ?_
 simp only [p3, p4]
 refine sq_nil ?_
 refine k1 _ _ ?_
 try clear k1 K1
 refine wp_seq_k (fun K4 k4 => ?_)
 refine wp_seq_k (fun K5 k5 => ?_)
 refine rg [0] ?_
 refine sv 7 (.int .i64 0) ?_
 simp only [p3, p4]
 refine sq_nil ?_
 refine k5 _ _ ?_
 try clear k5 K5
 refine wp_block ?_
 refine wp_loop_rounds 4 ?_
 show Code.wp _ _ _ _ _
 refine wp_seq_k (fun K6 k6 => ?_)
 refine rg [0] ?_
 refine sv 8 (.bool true) ?_
 simp only [p3, p4]
 refine sq_nil ?_
 refine k6 _ _ ?_
 try clear k6 K6
 refine wp_seq_k (fun K7 k7 => ?_)
 refine wp_cond_true rfl ?_
 refine wp_skip ?_
 refine k7 _ _ ?_
 try clear k7 K7
 refine wp_seq_k (fun K8 k8 => ?_)
 refine wp_block ?_
 refine wp_seq_k (fun K9 k9 => ?_)
 refine rg [0, 1] ?_
 refine sv 9 (.int .i64 0) ?_
 simp only [p3, p4]
 refine sv 5 (.int .i64 0) ?_
 simp only [p3, p4]
 refine sq_nil ?_
 refine k9 _ _ ?_
 try clear k9 K9
 refine wp_seq_k (fun K10 k10 => ?_)
 have gd15 := Gr.drew w3
 replace hB := hB.trans gd15
 replace L2 := L2.gr (g3.trans gd15)
 replace L3 := L3.gr gd15
 refine wp_region_ord (fun w' => Lc w' b2 #[uaa0, uaa1, uaa2, uaa3, uab0, uab1, uab2, uab3, uac0, uac1, uac2, uac3] 32 ∧ Lc w' b3 #[vaa0, vaa1, vaa2, vaa3, vab0, vab1, vab2, vab3, vac0, vac1, vac2, vac3] 32) [(true, 0), (true, 1), (true, 2), (true, 3), (true, 4), (true, 5), (false, 6), (true, 7)] (by kernel_rfl) (by kernel_rfl) (by kernel_rfl) (by decide) (fun _ _ _ _ _ h => h) ⟨L2, L3⟩ ?_
 refine ov 10 (.int .i64 0) ?_
 simp only [p3, p4]
 refine ov 11 (.pointer (some ⟨b2, 0, none⟩)) ?_
 simp only [p3, p4]
 refine ow 12 (.agg #[uaa0, uaa1, uaa2, uaa3]) rfl (fun w' hS => (rl 30 0 [uaa0, uaa1, uaa2, uaa3] hS.1)) ?_
 simp only [p3, p4]
 refine ov 13 (.int .i64 0) ?_
 simp only [p3, p4]
 refine ov 14 (.pointer (some ⟨b3, 0, none⟩)) ?_
 simp only [p3, p4]
 refine ow 15 (.agg #[vaa0, vaa1, vaa2, vaa3]) rfl (fun w' hS => (rl 30 0 [vaa0, vaa1, vaa2, vaa3] hS.2)) ?_
 simp only [p3, p4]
 refine oe ?_
 have kq18 := g2.kp.trans (g3.kp.trans gd15.kp)
 replace hua1 := hua1.kp kq18
 replace hva1 := hva1.kp kq18
 refine ec 16 (compare_r hua1 hva1 (by omega)) ?_
 rintro e17 w17 ⟨rfl, g17⟩
 refine ⟨_, rfl, ?_⟩
 replace hB := hB.trans g17
 replace L2 := L2.gr g17
 replace L3 := L3.gr g17
 refine ⟨⟨L2, L3⟩, ?_⟩
 simp only [p3, p4]
 refine ov 6 (.int .i64 (rcmp a1 c1)) ?_
 simp only [p3, p4]
 refine ord_nil ?_
 refine k10 _ _ ?_
 try clear k10 K10
 refine wp_seq_k (fun K19 k19 => ?_)
 refine rg [0, 1] ?_
 refine sv 17 (.int .i64 (rcmp a1 c1)) ?_
 simp only [p3, p4]
 refine sw 18 (.bool false) rfl (RunV.bool (x := (rcmp a1 c1 != (0 : Int))) (rvk (by kernel_rfl)) e1) ?_
 simp only [p3, p4]
 refine sq_nil ?_
 refine k19 _ _ ?_
 try clear k19 K19
 refine wp_cond_false rfl ?_
 refine wp_skip ?_
 refine k8 _ _ ?_
 try clear k8 K8
 refine rg [0, 1] ?_
 refine sv 20 (.int .i64 1) ?_
 simp only [p3, p4]
 refine sv 7 (.int .i64 1) ?_
 simp only [p3, p4]
 refine sq_nil ?_
 show Code.rounds _ _ _ _ _ _
 show Code.wp _ _ _ _ _
 refine wp_seq_k (fun K20 k20 => ?_)
 refine rg [0] ?_
 refine sv 8 (.bool true) ?_
 simp only [p3, p4]
 refine sq_nil ?_
 refine k20 _ _ ?_
 try clear k20 K20
 refine wp_seq_k (fun K21 k21 => ?_)
 refine wp_cond_true rfl ?_
 refine wp_skip ?_
 refine k21 _ _ ?_
 try clear k21 K21
 refine wp_seq_k (fun K22 k22 => ?_)
 refine wp_block ?_
 refine wp_seq_k (fun K23 k23 => ?_)
 refine rg [0, 1] ?_
 refine sv 9 (.int .i64 1) ?_
 simp only [p3, p4]
 refine sv 5 (.int .i64 1) ?_
 simp only [p3, p4]
 refine sq_nil ?_
 refine k23 _ _ ?_
 try clear k23 K23
 refine wp_seq_k (fun K24 k24 => ?_)
 have gd29 := Gr.drew w17
 replace hB := hB.trans gd29
 replace L2 := L2.gr gd29
 replace L3 := L3.gr gd29
 refine wp_region_ord (fun w' => Lc w' b2 #[uaa0, uaa1, uaa2, uaa3, uab0, uab1, uab2, uab3, uac0, uac1, uac2, uac3] 32 ∧ Lc w' b3 #[vaa0, vaa1, vaa2, vaa3, vab0, vab1, vab2, vab3, vac0, vac1, vac2, vac3] 32) [(true, 0), (true, 1), (true, 2), (true, 3), (true, 4), (true, 5), (false, 6), (true, 7)] (by kernel_rfl) (by kernel_rfl) (by kernel_rfl) (by decide) (fun _ _ _ _ _ h => h) ⟨L2, L3⟩ ?_
 refine ov 10 (.int .i64 1) ?_
 simp only [p3, p4]
 refine ov 11 (.pointer (some ⟨b2, 4, none⟩)) ?_
 simp only [p3, p4]
 refine ow 12 (.agg #[uab0, uab1, uab2, uab3]) rfl (fun w' hS => (rl 30 4 [uab0, uab1, uab2, uab3] hS.1)) ?_
 simp only [p3, p4]
 refine ov 13 (.int .i64 1) ?_
 simp only [p3, p4]
 refine ov 14 (.pointer (some ⟨b3, 4, none⟩)) ?_
 simp only [p3, p4]
 refine ow 15 (.agg #[vab0, vab1, vab2, vab3]) rfl (fun w' hS => (rl 30 4 [vab0, vab1, vab2, vab3] hS.2)) ?_
 simp only [p3, p4]
 refine oe ?_
 have kq32 := g2.kp.trans (g3.kp.trans (gd15.kp.trans (g17.kp.trans gd29.kp)))
 replace hua2 := hua2.kp kq32
 replace hva2 := hva2.kp kq32
 refine ec 16 (compare_r hua2 hva2 (by omega)) ?_
 rintro e31 w31 ⟨rfl, g31⟩
 refine ⟨_, rfl, ?_⟩
 replace hB := hB.trans g31
 replace L2 := L2.gr g31
 replace L3 := L3.gr g31
 refine ⟨⟨L2, L3⟩, ?_⟩
 simp only [p3, p4]
 refine ov 6 (.int .i64 (rcmp a2 c2)) ?_
 simp only [p3, p4]
 refine ord_nil ?_
 refine k24 _ _ ?_
 try clear k24 K24
 refine wp_seq_k (fun K33 k33 => ?_)
 refine rg [0, 1] ?_
 refine sv 17 (.int .i64 (rcmp a2 c2)) ?_
 simp only [p3, p4]
 refine sw 18 (.bool true) rfl (RunV.bool (x := (rcmp a2 c2 != (0 : Int))) (rvk (by kernel_rfl)) e2) ?_
 simp only [p3, p4]
 refine sq_nil ?_
 refine k33 _ _ ?_
 try clear k33 K33
 refine wp_cond_true rfl ?_
 refine wp_seq_k (fun K34 k34 => ?_)
 refine rg [0, 1] ?_
 refine sv 19 (.int .i64 (rcmp a2 c2)) ?_
 simp only [p3, p4]
 refine sv 4 (.int .i64 (rcmp a2 c2)) ?_
 simp only [p3, p4]
 refine sq_nil ?_
 refine k34 _ _ ?_
 try clear k34 K34
 refine wp_ret ?_
 simp only [Exit.then, Exit.inBlock]
 refine bodyPost_ret (v := (.int .i64 (rcmp a2 c2))) (ret_tmp rfl rfl) rfl ⟨?_, hB⟩
 exact rfl

set_option maxRecDepth 100000 in
set_option maxHeartbeats 1000000 in
theorem vcomp_3 {k m : Nat} {uaa0 uaa1 uaa2 uaa3 uab0 uab1 uab2 uab3 uac0 uac1 uac2 uac3 : Value} {a1 a2 a3 : Rat} {vaa0 vaa1 vaa2 vaa3 vab0 vab1 vab2 vab3 vac0 vac1 vac2 vac3 : Value} {c1 c2 c3 : Rat} {w : World} (hua1 : IsRat w k uaa0 uaa1 uaa2 uaa3 a1) (hua2 : IsRat w k uab0 uab1 uab2 uab3 a2) (hua3 : IsRat w k uac0 uac1 uac2 uac3 a3) (hva1 : IsRat w m vaa0 vaa1 vaa2 vaa3 c1) (hva2 : IsRat w m vab0 vab1 vab2 vab3 c2) (hva3 : IsRat w m vac0 vac1 vac2 vac3 c3) (_hk : k + m ≤ 100000) (e1 : (rcmp a1 c1 != (0 : Int)) = false) (e2 : (rcmp a2 c2 != (0 : Int)) = false) (e3 : (rcmp a3 c3 != (0 : Int)) = true) :
    Calls Tryz.prog 32 #[(.agg #[uaa0, uaa1, uaa2, uaa3, uab0, uab1, uab2, uab3, uac0, uac1, uac2, uac3]), (.agg #[vaa0, vaa1, vaa2, vaa3, vab0, vab1, vab2, vab3, vac0, vac1, vac2, vac3])] w fun e w' => e = .returned (.int .i64 (rcmp a3 c3)) ∧ Gr w w' := by
 go_enter Tryz.func32, Tryz.ntmps32
 have hB := Gr.refl w
 refine wp_seq_k (fun K1 k1 => ?_)
 refine rg [0, 1, 2] ?_
 refine se ?_
 refine eb 32 #[uaa0, uaa1, uaa2, uaa3, uab0, uab1, uab2, uab3, uac0, uac1, uac2, uac3] 2 hB fun b2 w2 g2 L2 o2 q2 hB => ?_
 simp only [p3, p4]
 refine se ?_
 refine eb 32 #[vaa0, vaa1, vaa2, vaa3, vab0, vab1, vab2, vab3, vac0, vac1, vac2, vac3] 3 hB fun b3 w3 g3 L3 o3 q3 hB => ?_
 simp only [p3, p4]
 refine sv 4 (.int .i64 0) ?_
 simp only [p3, p4]
 refine sq_nil ?_
 refine k1 _ _ ?_
 try clear k1 K1
 refine wp_seq_k (fun K4 k4 => ?_)
 refine wp_seq_k (fun K5 k5 => ?_)
 refine rg [0] ?_
 refine sv 7 (.int .i64 0) ?_
 simp only [p3, p4]
 refine sq_nil ?_
 refine k5 _ _ ?_
 try clear k5 K5
 refine wp_block ?_
 refine wp_loop_rounds 4 ?_
 show Code.wp _ _ _ _ _
 refine wp_seq_k (fun K6 k6 => ?_)
 refine rg [0] ?_
 refine sv 8 (.bool true) ?_
 simp only [p3, p4]
 refine sq_nil ?_
 refine k6 _ _ ?_
 try clear k6 K6
 refine wp_seq_k (fun K7 k7 => ?_)
 refine wp_cond_true rfl ?_
 refine wp_skip ?_
 refine k7 _ _ ?_
 try clear k7 K7
 refine wp_seq_k (fun K8 k8 => ?_)
 refine wp_block ?_
 refine wp_seq_k (fun K9 k9 => ?_)
 refine rg [0, 1] ?_
 refine sv 9 (.int .i64 0) ?_
 simp only [p3, p4]
 refine sv 5 (.int .i64 0) ?_
 simp only [p3, p4]
 refine sq_nil ?_
 refine k9 _ _ ?_
 try clear k9 K9
 refine wp_seq_k (fun K10 k10 => ?_)
 have gd15 := Gr.drew w3
 replace hB := hB.trans gd15
 replace L2 := L2.gr (g3.trans gd15)
 replace L3 := L3.gr gd15
 refine wp_region_ord (fun w' => Lc w' b2 #[uaa0, uaa1, uaa2, uaa3, uab0, uab1, uab2, uab3, uac0, uac1, uac2, uac3] 32 ∧ Lc w' b3 #[vaa0, vaa1, vaa2, vaa3, vab0, vab1, vab2, vab3, vac0, vac1, vac2, vac3] 32) [(true, 0), (true, 1), (true, 2), (true, 3), (true, 4), (true, 5), (false, 6), (true, 7)] (by kernel_rfl) (by kernel_rfl) (by kernel_rfl) (by decide) (fun _ _ _ _ _ h => h) ⟨L2, L3⟩ ?_
 refine ov 10 (.int .i64 0) ?_
 simp only [p3, p4]
 refine ov 11 (.pointer (some ⟨b2, 0, none⟩)) ?_
 simp only [p3, p4]
 refine ow 12 (.agg #[uaa0, uaa1, uaa2, uaa3]) rfl (fun w' hS => (rl 30 0 [uaa0, uaa1, uaa2, uaa3] hS.1)) ?_
 simp only [p3, p4]
 refine ov 13 (.int .i64 0) ?_
 simp only [p3, p4]
 refine ov 14 (.pointer (some ⟨b3, 0, none⟩)) ?_
 simp only [p3, p4]
 refine ow 15 (.agg #[vaa0, vaa1, vaa2, vaa3]) rfl (fun w' hS => (rl 30 0 [vaa0, vaa1, vaa2, vaa3] hS.2)) ?_
 simp only [p3, p4]
 refine oe ?_
 have kq18 := g2.kp.trans (g3.kp.trans gd15.kp)
 replace hua1 := hua1.kp kq18
 replace hva1 := hva1.kp kq18
 refine ec 16 (compare_r hua1 hva1 (by omega)) ?_
 rintro e17 w17 ⟨rfl, g17⟩
 refine ⟨_, rfl, ?_⟩
 replace hB := hB.trans g17
 replace L2 := L2.gr g17
 replace L3 := L3.gr g17
 refine ⟨⟨L2, L3⟩, ?_⟩
 simp only [p3, p4]
 refine ov 6 (.int .i64 (rcmp a1 c1)) ?_
 simp only [p3, p4]
 refine ord_nil ?_
 refine k10 _ _ ?_
 try clear k10 K10
 refine wp_seq_k (fun K19 k19 => ?_)
 refine rg [0, 1] ?_
 refine sv 17 (.int .i64 (rcmp a1 c1)) ?_
 simp only [p3, p4]
 refine sw 18 (.bool false) rfl (RunV.bool (x := (rcmp a1 c1 != (0 : Int))) (rvk (by kernel_rfl)) e1) ?_
 simp only [p3, p4]
 refine sq_nil ?_
 refine k19 _ _ ?_
 try clear k19 K19
 refine wp_cond_false rfl ?_
 refine wp_skip ?_
 refine k8 _ _ ?_
 try clear k8 K8
 refine rg [0, 1] ?_
 refine sv 20 (.int .i64 1) ?_
 simp only [p3, p4]
 refine sv 7 (.int .i64 1) ?_
 simp only [p3, p4]
 refine sq_nil ?_
 show Code.rounds _ _ _ _ _ _
 show Code.wp _ _ _ _ _
 refine wp_seq_k (fun K20 k20 => ?_)
 refine rg [0] ?_
 refine sv 8 (.bool true) ?_
 simp only [p3, p4]
 refine sq_nil ?_
 refine k20 _ _ ?_
 try clear k20 K20
 refine wp_seq_k (fun K21 k21 => ?_)
 refine wp_cond_true rfl ?_
 refine wp_skip ?_
 refine k21 _ _ ?_
 try clear k21 K21
 refine wp_seq_k (fun K22 k22 => ?_)
 refine wp_block ?_
 refine wp_seq_k (fun K23 k23 => ?_)
 refine rg [0, 1] ?_
 refine sv 9 (.int .i64 1) ?_
 simp only [p3, p4]
 refine sv 5 (.int .i64 1) ?_
 simp only [p3, p4]
 refine sq_nil ?_
 refine k23 _ _ ?_
 try clear k23 K23
 refine wp_seq_k (fun K24 k24 => ?_)
 have gd29 := Gr.drew w17
 replace hB := hB.trans gd29
 replace L2 := L2.gr gd29
 replace L3 := L3.gr gd29
 refine wp_region_ord (fun w' => Lc w' b2 #[uaa0, uaa1, uaa2, uaa3, uab0, uab1, uab2, uab3, uac0, uac1, uac2, uac3] 32 ∧ Lc w' b3 #[vaa0, vaa1, vaa2, vaa3, vab0, vab1, vab2, vab3, vac0, vac1, vac2, vac3] 32) [(true, 0), (true, 1), (true, 2), (true, 3), (true, 4), (true, 5), (false, 6), (true, 7)] (by kernel_rfl) (by kernel_rfl) (by kernel_rfl) (by decide) (fun _ _ _ _ _ h => h) ⟨L2, L3⟩ ?_
 refine ov 10 (.int .i64 1) ?_
 simp only [p3, p4]
 refine ov 11 (.pointer (some ⟨b2, 4, none⟩)) ?_
 simp only [p3, p4]
 refine ow 12 (.agg #[uab0, uab1, uab2, uab3]) rfl (fun w' hS => (rl 30 4 [uab0, uab1, uab2, uab3] hS.1)) ?_
 simp only [p3, p4]
 refine ov 13 (.int .i64 1) ?_
 simp only [p3, p4]
 refine ov 14 (.pointer (some ⟨b3, 4, none⟩)) ?_
 simp only [p3, p4]
 refine ow 15 (.agg #[vab0, vab1, vab2, vab3]) rfl (fun w' hS => (rl 30 4 [vab0, vab1, vab2, vab3] hS.2)) ?_
 simp only [p3, p4]
 refine oe ?_
 have kq32 := g2.kp.trans (g3.kp.trans (gd15.kp.trans (g17.kp.trans gd29.kp)))
 replace hua2 := hua2.kp kq32
 replace hva2 := hva2.kp kq32
 refine ec 16 (compare_r hua2 hva2 (by omega)) ?_
 rintro e31 w31 ⟨rfl, g31⟩
 refine ⟨_, rfl, ?_⟩
 replace hB := hB.trans g31
 replace L2 := L2.gr g31
 replace L3 := L3.gr g31
 refine ⟨⟨L2, L3⟩, ?_⟩
 simp only [p3, p4]
 refine ov 6 (.int .i64 (rcmp a2 c2)) ?_
 simp only [p3, p4]
 refine ord_nil ?_
 refine k24 _ _ ?_
 try clear k24 K24
 refine wp_seq_k (fun K33 k33 => ?_)
 refine rg [0, 1] ?_
 refine sv 17 (.int .i64 (rcmp a2 c2)) ?_
 simp only [p3, p4]
 refine sw 18 (.bool false) rfl (RunV.bool (x := (rcmp a2 c2 != (0 : Int))) (rvk (by kernel_rfl)) e2) ?_
 simp only [p3, p4]
 refine sq_nil ?_
 refine k33 _ _ ?_
 try clear k33 K33
 refine wp_cond_false rfl ?_
 refine wp_skip ?_
 refine k22 _ _ ?_
 try clear k22 K22
 refine rg [0, 1] ?_
 refine sv 20 (.int .i64 2) ?_
 simp only [p3, p4]
 refine sv 7 (.int .i64 2) ?_
 simp only [p3, p4]
 refine sq_nil ?_
 show Code.rounds _ _ _ _ _ _
 show Code.wp _ _ _ _ _
 refine wp_seq_k (fun K34 k34 => ?_)
 refine rg [0] ?_
 refine sv 8 (.bool true) ?_
 simp only [p3, p4]
 refine sq_nil ?_
 refine k34 _ _ ?_
 try clear k34 K34
 refine wp_seq_k (fun K35 k35 => ?_)
 refine wp_cond_true rfl ?_
 refine wp_skip ?_
 refine k35 _ _ ?_
 try clear k35 K35
 refine wp_seq_k (fun K36 k36 => ?_)
 refine wp_block ?_
 refine wp_seq_k (fun K37 k37 => ?_)
 refine rg [0, 1] ?_
 refine sv 9 (.int .i64 2) ?_
 simp only [p3, p4]
 refine sv 5 (.int .i64 2) ?_
 simp only [p3, p4]
 refine sq_nil ?_
 refine k37 _ _ ?_
 try clear k37 K37
 refine wp_seq_k (fun K38 k38 => ?_)
 have gd43 := Gr.drew w31
 replace hB := hB.trans gd43
 replace L2 := L2.gr gd43
 replace L3 := L3.gr gd43
 refine wp_region_ord (fun w' => Lc w' b2 #[uaa0, uaa1, uaa2, uaa3, uab0, uab1, uab2, uab3, uac0, uac1, uac2, uac3] 32 ∧ Lc w' b3 #[vaa0, vaa1, vaa2, vaa3, vab0, vab1, vab2, vab3, vac0, vac1, vac2, vac3] 32) [(true, 0), (true, 1), (true, 2), (true, 3), (true, 4), (true, 5), (false, 6), (true, 7)] (by kernel_rfl) (by kernel_rfl) (by kernel_rfl) (by decide) (fun _ _ _ _ _ h => h) ⟨L2, L3⟩ ?_
 refine ov 10 (.int .i64 2) ?_
 simp only [p3, p4]
 refine ov 11 (.pointer (some ⟨b2, 8, none⟩)) ?_
 simp only [p3, p4]
 refine ow 12 (.agg #[uac0, uac1, uac2, uac3]) rfl (fun w' hS => (rl 30 8 [uac0, uac1, uac2, uac3] hS.1)) ?_
 simp only [p3, p4]
 refine ov 13 (.int .i64 2) ?_
 simp only [p3, p4]
 refine ov 14 (.pointer (some ⟨b3, 8, none⟩)) ?_
 simp only [p3, p4]
 refine ow 15 (.agg #[vac0, vac1, vac2, vac3]) rfl (fun w' hS => (rl 30 8 [vac0, vac1, vac2, vac3] hS.2)) ?_
 simp only [p3, p4]
 refine oe ?_
 have kq46 := g2.kp.trans (g3.kp.trans (gd15.kp.trans (g17.kp.trans (gd29.kp.trans (g31.kp.trans gd43.kp)))))
 replace hua3 := hua3.kp kq46
 replace hva3 := hva3.kp kq46
 refine ec 16 (compare_r hua3 hva3 (by omega)) ?_
 rintro e45 w45 ⟨rfl, g45⟩
 refine ⟨_, rfl, ?_⟩
 replace hB := hB.trans g45
 replace L2 := L2.gr g45
 replace L3 := L3.gr g45
 refine ⟨⟨L2, L3⟩, ?_⟩
 simp only [p3, p4]
 refine ov 6 (.int .i64 (rcmp a3 c3)) ?_
 simp only [p3, p4]
 refine ord_nil ?_
 refine k38 _ _ ?_
 try clear k38 K38
 refine wp_seq_k (fun K47 k47 => ?_)
 refine rg [0, 1] ?_
 refine sv 17 (.int .i64 (rcmp a3 c3)) ?_
 simp only [p3, p4]
 refine sw 18 (.bool true) rfl (RunV.bool (x := (rcmp a3 c3 != (0 : Int))) (rvk (by kernel_rfl)) e3) ?_
 simp only [p3, p4]
 refine sq_nil ?_
 refine k47 _ _ ?_
 try clear k47 K47
 refine wp_cond_true rfl ?_
 refine wp_seq_k (fun K48 k48 => ?_)
 refine rg [0, 1] ?_
 refine sv 19 (.int .i64 (rcmp a3 c3)) ?_
 simp only [p3, p4]
 refine sv 4 (.int .i64 (rcmp a3 c3)) ?_
 simp only [p3, p4]
 refine sq_nil ?_
 refine k48 _ _ ?_
 try clear k48 K48
 refine wp_ret ?_
 simp only [Exit.then, Exit.inBlock]
 refine bodyPost_ret (v := (.int .i64 (rcmp a3 c3))) (ret_tmp rfl rfl) rfl ⟨?_, hB⟩
 exact rfl

set_option maxRecDepth 100000 in
set_option maxHeartbeats 1000000 in
theorem vcomp_4 {k m : Nat} {uaa0 uaa1 uaa2 uaa3 uab0 uab1 uab2 uab3 uac0 uac1 uac2 uac3 : Value} {a1 a2 a3 : Rat} {vaa0 vaa1 vaa2 vaa3 vab0 vab1 vab2 vab3 vac0 vac1 vac2 vac3 : Value} {c1 c2 c3 : Rat} {w : World} (hua1 : IsRat w k uaa0 uaa1 uaa2 uaa3 a1) (hua2 : IsRat w k uab0 uab1 uab2 uab3 a2) (hua3 : IsRat w k uac0 uac1 uac2 uac3 a3) (hva1 : IsRat w m vaa0 vaa1 vaa2 vaa3 c1) (hva2 : IsRat w m vab0 vab1 vab2 vab3 c2) (hva3 : IsRat w m vac0 vac1 vac2 vac3 c3) (_hk : k + m ≤ 100000) (e1 : (rcmp a1 c1 != (0 : Int)) = false) (e2 : (rcmp a2 c2 != (0 : Int)) = false) (e3 : (rcmp a3 c3 != (0 : Int)) = false) :
    Calls Tryz.prog 32 #[(.agg #[uaa0, uaa1, uaa2, uaa3, uab0, uab1, uab2, uab3, uac0, uac1, uac2, uac3]), (.agg #[vaa0, vaa1, vaa2, vaa3, vab0, vab1, vab2, vab3, vac0, vac1, vac2, vac3])] w fun e w' => e = .returned (.int .i64 0) ∧ Gr w w' := by
 go_enter Tryz.func32, Tryz.ntmps32
 have hB := Gr.refl w
 refine wp_seq_k (fun K1 k1 => ?_)
 refine rg [0, 1, 2] ?_
 refine se ?_
 refine eb 32 #[uaa0, uaa1, uaa2, uaa3, uab0, uab1, uab2, uab3, uac0, uac1, uac2, uac3] 2 hB fun b2 w2 g2 L2 o2 q2 hB => ?_
 simp only [p3, p4]
 refine se ?_
 refine eb 32 #[vaa0, vaa1, vaa2, vaa3, vab0, vab1, vab2, vab3, vac0, vac1, vac2, vac3] 3 hB fun b3 w3 g3 L3 o3 q3 hB => ?_
 simp only [p3, p4]
 refine sv 4 (.int .i64 0) ?_
 simp only [p3, p4]
 refine sq_nil ?_
 refine k1 _ _ ?_
 try clear k1 K1
 refine wp_seq_k (fun K4 k4 => ?_)
 refine wp_seq_k (fun K5 k5 => ?_)
 refine rg [0] ?_
 refine sv 7 (.int .i64 0) ?_
 simp only [p3, p4]
 refine sq_nil ?_
 refine k5 _ _ ?_
 try clear k5 K5
 refine wp_block ?_
 refine wp_loop_rounds 4 ?_
 show Code.wp _ _ _ _ _
 refine wp_seq_k (fun K6 k6 => ?_)
 refine rg [0] ?_
 refine sv 8 (.bool true) ?_
 simp only [p3, p4]
 refine sq_nil ?_
 refine k6 _ _ ?_
 try clear k6 K6
 refine wp_seq_k (fun K7 k7 => ?_)
 refine wp_cond_true rfl ?_
 refine wp_skip ?_
 refine k7 _ _ ?_
 try clear k7 K7
 refine wp_seq_k (fun K8 k8 => ?_)
 refine wp_block ?_
 refine wp_seq_k (fun K9 k9 => ?_)
 refine rg [0, 1] ?_
 refine sv 9 (.int .i64 0) ?_
 simp only [p3, p4]
 refine sv 5 (.int .i64 0) ?_
 simp only [p3, p4]
 refine sq_nil ?_
 refine k9 _ _ ?_
 try clear k9 K9
 refine wp_seq_k (fun K10 k10 => ?_)
 have gd15 := Gr.drew w3
 replace hB := hB.trans gd15
 replace L2 := L2.gr (g3.trans gd15)
 replace L3 := L3.gr gd15
 refine wp_region_ord (fun w' => Lc w' b2 #[uaa0, uaa1, uaa2, uaa3, uab0, uab1, uab2, uab3, uac0, uac1, uac2, uac3] 32 ∧ Lc w' b3 #[vaa0, vaa1, vaa2, vaa3, vab0, vab1, vab2, vab3, vac0, vac1, vac2, vac3] 32) [(true, 0), (true, 1), (true, 2), (true, 3), (true, 4), (true, 5), (false, 6), (true, 7)] (by kernel_rfl) (by kernel_rfl) (by kernel_rfl) (by decide) (fun _ _ _ _ _ h => h) ⟨L2, L3⟩ ?_
 refine ov 10 (.int .i64 0) ?_
 simp only [p3, p4]
 refine ov 11 (.pointer (some ⟨b2, 0, none⟩)) ?_
 simp only [p3, p4]
 refine ow 12 (.agg #[uaa0, uaa1, uaa2, uaa3]) rfl (fun w' hS => (rl 30 0 [uaa0, uaa1, uaa2, uaa3] hS.1)) ?_
 simp only [p3, p4]
 refine ov 13 (.int .i64 0) ?_
 simp only [p3, p4]
 refine ov 14 (.pointer (some ⟨b3, 0, none⟩)) ?_
 simp only [p3, p4]
 refine ow 15 (.agg #[vaa0, vaa1, vaa2, vaa3]) rfl (fun w' hS => (rl 30 0 [vaa0, vaa1, vaa2, vaa3] hS.2)) ?_
 simp only [p3, p4]
 refine oe ?_
 have kq18 := g2.kp.trans (g3.kp.trans gd15.kp)
 replace hua1 := hua1.kp kq18
 replace hva1 := hva1.kp kq18
 refine ec 16 (compare_r hua1 hva1 (by omega)) ?_
 rintro e17 w17 ⟨rfl, g17⟩
 refine ⟨_, rfl, ?_⟩
 replace hB := hB.trans g17
 replace L2 := L2.gr g17
 replace L3 := L3.gr g17
 refine ⟨⟨L2, L3⟩, ?_⟩
 simp only [p3, p4]
 refine ov 6 (.int .i64 (rcmp a1 c1)) ?_
 simp only [p3, p4]
 refine ord_nil ?_
 refine k10 _ _ ?_
 try clear k10 K10
 refine wp_seq_k (fun K19 k19 => ?_)
 refine rg [0, 1] ?_
 refine sv 17 (.int .i64 (rcmp a1 c1)) ?_
 simp only [p3, p4]
 refine sw 18 (.bool false) rfl (RunV.bool (x := (rcmp a1 c1 != (0 : Int))) (rvk (by kernel_rfl)) e1) ?_
 simp only [p3, p4]
 refine sq_nil ?_
 refine k19 _ _ ?_
 try clear k19 K19
 refine wp_cond_false rfl ?_
 refine wp_skip ?_
 refine k8 _ _ ?_
 try clear k8 K8
 refine rg [0, 1] ?_
 refine sv 20 (.int .i64 1) ?_
 simp only [p3, p4]
 refine sv 7 (.int .i64 1) ?_
 simp only [p3, p4]
 refine sq_nil ?_
 show Code.rounds _ _ _ _ _ _
 show Code.wp _ _ _ _ _
 refine wp_seq_k (fun K20 k20 => ?_)
 refine rg [0] ?_
 refine sv 8 (.bool true) ?_
 simp only [p3, p4]
 refine sq_nil ?_
 refine k20 _ _ ?_
 try clear k20 K20
 refine wp_seq_k (fun K21 k21 => ?_)
 refine wp_cond_true rfl ?_
 refine wp_skip ?_
 refine k21 _ _ ?_
 try clear k21 K21
 refine wp_seq_k (fun K22 k22 => ?_)
 refine wp_block ?_
 refine wp_seq_k (fun K23 k23 => ?_)
 refine rg [0, 1] ?_
 refine sv 9 (.int .i64 1) ?_
 simp only [p3, p4]
 refine sv 5 (.int .i64 1) ?_
 simp only [p3, p4]
 refine sq_nil ?_
 refine k23 _ _ ?_
 try clear k23 K23
 refine wp_seq_k (fun K24 k24 => ?_)
 have gd29 := Gr.drew w17
 replace hB := hB.trans gd29
 replace L2 := L2.gr gd29
 replace L3 := L3.gr gd29
 refine wp_region_ord (fun w' => Lc w' b2 #[uaa0, uaa1, uaa2, uaa3, uab0, uab1, uab2, uab3, uac0, uac1, uac2, uac3] 32 ∧ Lc w' b3 #[vaa0, vaa1, vaa2, vaa3, vab0, vab1, vab2, vab3, vac0, vac1, vac2, vac3] 32) [(true, 0), (true, 1), (true, 2), (true, 3), (true, 4), (true, 5), (false, 6), (true, 7)] (by kernel_rfl) (by kernel_rfl) (by kernel_rfl) (by decide) (fun _ _ _ _ _ h => h) ⟨L2, L3⟩ ?_
 refine ov 10 (.int .i64 1) ?_
 simp only [p3, p4]
 refine ov 11 (.pointer (some ⟨b2, 4, none⟩)) ?_
 simp only [p3, p4]
 refine ow 12 (.agg #[uab0, uab1, uab2, uab3]) rfl (fun w' hS => (rl 30 4 [uab0, uab1, uab2, uab3] hS.1)) ?_
 simp only [p3, p4]
 refine ov 13 (.int .i64 1) ?_
 simp only [p3, p4]
 refine ov 14 (.pointer (some ⟨b3, 4, none⟩)) ?_
 simp only [p3, p4]
 refine ow 15 (.agg #[vab0, vab1, vab2, vab3]) rfl (fun w' hS => (rl 30 4 [vab0, vab1, vab2, vab3] hS.2)) ?_
 simp only [p3, p4]
 refine oe ?_
 have kq32 := g2.kp.trans (g3.kp.trans (gd15.kp.trans (g17.kp.trans gd29.kp)))
 replace hua2 := hua2.kp kq32
 replace hva2 := hva2.kp kq32
 refine ec 16 (compare_r hua2 hva2 (by omega)) ?_
 rintro e31 w31 ⟨rfl, g31⟩
 refine ⟨_, rfl, ?_⟩
 replace hB := hB.trans g31
 replace L2 := L2.gr g31
 replace L3 := L3.gr g31
 refine ⟨⟨L2, L3⟩, ?_⟩
 simp only [p3, p4]
 refine ov 6 (.int .i64 (rcmp a2 c2)) ?_
 simp only [p3, p4]
 refine ord_nil ?_
 refine k24 _ _ ?_
 try clear k24 K24
 refine wp_seq_k (fun K33 k33 => ?_)
 refine rg [0, 1] ?_
 refine sv 17 (.int .i64 (rcmp a2 c2)) ?_
 simp only [p3, p4]
 refine sw 18 (.bool false) rfl (RunV.bool (x := (rcmp a2 c2 != (0 : Int))) (rvk (by kernel_rfl)) e2) ?_
 simp only [p3, p4]
 refine sq_nil ?_
 refine k33 _ _ ?_
 try clear k33 K33
 refine wp_cond_false rfl ?_
 refine wp_skip ?_
 refine k22 _ _ ?_
 try clear k22 K22
 refine rg [0, 1] ?_
 refine sv 20 (.int .i64 2) ?_
 simp only [p3, p4]
 refine sv 7 (.int .i64 2) ?_
 simp only [p3, p4]
 refine sq_nil ?_
 show Code.rounds _ _ _ _ _ _
 show Code.wp _ _ _ _ _
 refine wp_seq_k (fun K34 k34 => ?_)
 refine rg [0] ?_
 refine sv 8 (.bool true) ?_
 simp only [p3, p4]
 refine sq_nil ?_
 refine k34 _ _ ?_
 try clear k34 K34
 refine wp_seq_k (fun K35 k35 => ?_)
 refine wp_cond_true rfl ?_
 refine wp_skip ?_
 refine k35 _ _ ?_
 try clear k35 K35
 refine wp_seq_k (fun K36 k36 => ?_)
 refine wp_block ?_
 refine wp_seq_k (fun K37 k37 => ?_)
 refine rg [0, 1] ?_
 refine sv 9 (.int .i64 2) ?_
 simp only [p3, p4]
 refine sv 5 (.int .i64 2) ?_
 simp only [p3, p4]
 refine sq_nil ?_
 refine k37 _ _ ?_
 try clear k37 K37
 refine wp_seq_k (fun K38 k38 => ?_)
 have gd43 := Gr.drew w31
 replace hB := hB.trans gd43
 replace L2 := L2.gr gd43
 replace L3 := L3.gr gd43
 refine wp_region_ord (fun w' => Lc w' b2 #[uaa0, uaa1, uaa2, uaa3, uab0, uab1, uab2, uab3, uac0, uac1, uac2, uac3] 32 ∧ Lc w' b3 #[vaa0, vaa1, vaa2, vaa3, vab0, vab1, vab2, vab3, vac0, vac1, vac2, vac3] 32) [(true, 0), (true, 1), (true, 2), (true, 3), (true, 4), (true, 5), (false, 6), (true, 7)] (by kernel_rfl) (by kernel_rfl) (by kernel_rfl) (by decide) (fun _ _ _ _ _ h => h) ⟨L2, L3⟩ ?_
 refine ov 10 (.int .i64 2) ?_
 simp only [p3, p4]
 refine ov 11 (.pointer (some ⟨b2, 8, none⟩)) ?_
 simp only [p3, p4]
 refine ow 12 (.agg #[uac0, uac1, uac2, uac3]) rfl (fun w' hS => (rl 30 8 [uac0, uac1, uac2, uac3] hS.1)) ?_
 simp only [p3, p4]
 refine ov 13 (.int .i64 2) ?_
 simp only [p3, p4]
 refine ov 14 (.pointer (some ⟨b3, 8, none⟩)) ?_
 simp only [p3, p4]
 refine ow 15 (.agg #[vac0, vac1, vac2, vac3]) rfl (fun w' hS => (rl 30 8 [vac0, vac1, vac2, vac3] hS.2)) ?_
 simp only [p3, p4]
 refine oe ?_
 have kq46 := g2.kp.trans (g3.kp.trans (gd15.kp.trans (g17.kp.trans (gd29.kp.trans (g31.kp.trans gd43.kp)))))
 replace hua3 := hua3.kp kq46
 replace hva3 := hva3.kp kq46
 refine ec 16 (compare_r hua3 hva3 (by omega)) ?_
 rintro e45 w45 ⟨rfl, g45⟩
 refine ⟨_, rfl, ?_⟩
 replace hB := hB.trans g45
 replace L2 := L2.gr g45
 replace L3 := L3.gr g45
 refine ⟨⟨L2, L3⟩, ?_⟩
 simp only [p3, p4]
 refine ov 6 (.int .i64 (rcmp a3 c3)) ?_
 simp only [p3, p4]
 refine ord_nil ?_
 refine k38 _ _ ?_
 try clear k38 K38
 refine wp_seq_k (fun K47 k47 => ?_)
 refine rg [0, 1] ?_
 refine sv 17 (.int .i64 (rcmp a3 c3)) ?_
 simp only [p3, p4]
 refine sw 18 (.bool false) rfl (RunV.bool (x := (rcmp a3 c3 != (0 : Int))) (rvk (by kernel_rfl)) e3) ?_
 simp only [p3, p4]
 refine sq_nil ?_
 refine k47 _ _ ?_
 try clear k47 K47
 refine wp_cond_false rfl ?_
 refine wp_skip ?_
 refine k36 _ _ ?_
 try clear k36 K36
 refine rg [0, 1] ?_
 refine sv 20 (.int .i64 3) ?_
 simp only [p3, p4]
 refine sv 7 (.int .i64 3) ?_
 simp only [p3, p4]
 refine sq_nil ?_
 show Code.rounds _ _ _ _ _ _
 show Code.wp _ _ _ _ _
 refine wp_seq_k (fun K48 k48 => ?_)
 refine rg [0] ?_
 refine sv 8 (.bool false) ?_
 simp only [p3, p4]
 refine sq_nil ?_
 refine k48 _ _ ?_
 try clear k48 K48
 refine wp_seq_k (fun K49 k49 => ?_)
 refine wp_cond_false rfl ?_
 refine wp_exit ?_
 simp only [Exit.then, Exit.inBlock, ↓reduceIte]
 refine k4 _ _ ?_
 try clear k4 K4
 refine wp_seq_k (fun K50 k50 => ?_)
 refine rg [0] ?_
 refine sv 4 (.int .i64 0) ?_
 simp only [p3, p4]
 refine sq_nil ?_
 refine k50 _ _ ?_
 try clear k50 K50
 refine wp_ret ?_
 refine bodyPost_ret (v := (.int .i64 0)) (ret_tmp rfl rfl) rfl ⟨?_, hB⟩
 exact rfl

theorem vcomp_v {k m : Nat} {uaa0 uaa1 uaa2 uaa3 uab0 uab1 uab2 uab3 uac0 uac1 uac2 uac3 : Value} {a1 a2 a3 : Rat} {vaa0 vaa1 vaa2 vaa3 vab0 vab1 vab2 vab3 vac0 vac1 vac2 vac3 : Value} {c1 c2 c3 : Rat} {w : World} (hua1 : IsRat w k uaa0 uaa1 uaa2 uaa3 a1) (hua2 : IsRat w k uab0 uab1 uab2 uab3 a2) (hua3 : IsRat w k uac0 uac1 uac2 uac3 a3) (hva1 : IsRat w m vaa0 vaa1 vaa2 vaa3 c1) (hva2 : IsRat w m vab0 vab1 vab2 vab3 c2) (hva3 : IsRat w m vac0 vac1 vac2 vac3 c3) (hk : k + m ≤ 100000) :
    Calls Tryz.prog 32 #[(.agg #[uaa0, uaa1, uaa2, uaa3, uab0, uab1, uab2, uab3, uac0, uac1, uac2, uac3]), (.agg #[vaa0, vaa1, vaa2, vaa3, vab0, vab1, vab2, vab3, vac0, vac1, vac2, vac3])] w fun e w' => e = .returned (.int .i64 (vcmp a1 a2 a3 c1 c2 c3)) ∧ Gr w w' := by
  unfold vcmp
  by_cases e1 : rcmp a1 c1 = 0
  · rw [if_pos e1]
    have d1 : (rcmp a1 c1 != (0 : Int)) = false := by simp [e1]
    by_cases e2 : rcmp a2 c2 = 0
    · rw [if_pos e2]
      have d2 : (rcmp a2 c2 != (0 : Int)) = false := by simp [e2]
      by_cases e3 : rcmp a3 c3 = 0
      · rw [e3]; exact vcomp_4 hua1 hua2 hua3 hva1 hva2 hva3 hk d1 d2 (by simp [e3])
      · exact vcomp_3 hua1 hua2 hua3 hva1 hva2 hva3 hk d1 d2 (by simp [e3])
    · rw [if_neg e2]; exact vcomp_2 hua1 hua2 hua3 hva1 hva2 hva3 hk d1 (by simp [e2])
  · rw [if_neg e1]; exact vcomp_1 hua1 hua2 hua3 hva1 hva2 hva3 hk (by simp [e1])

set_option maxRecDepth 100000 in
set_option maxHeartbeats 1000000 in
theorem vequal_v {k m : Nat} {uaa0 uaa1 uaa2 uaa3 uab0 uab1 uab2 uab3 uac0 uac1 uac2 uac3 : Value} {a1 a2 a3 : Rat} {vaa0 vaa1 vaa2 vaa3 vab0 vab1 vab2 vab3 vac0 vac1 vac2 vac3 : Value} {c1 c2 c3 : Rat} {w : World} (hua1 : IsRat w k uaa0 uaa1 uaa2 uaa3 a1) (hua2 : IsRat w k uab0 uab1 uab2 uab3 a2) (hua3 : IsRat w k uac0 uac1 uac2 uac3 a3) (hva1 : IsRat w m vaa0 vaa1 vaa2 vaa3 c1) (hva2 : IsRat w m vab0 vab1 vab2 vab3 c2) (hva3 : IsRat w m vac0 vac1 vac2 vac3 c3) (_hk : k + m ≤ 100000) :
    Calls Tryz.prog 31 #[(.agg #[uaa0, uaa1, uaa2, uaa3, uab0, uab1, uab2, uab3, uac0, uac1, uac2, uac3]), (.agg #[vaa0, vaa1, vaa2, vaa3, vab0, vab1, vab2, vab3, vac0, vac1, vac2, vac3])] w fun e w' => e = .returned (.bool (vcmp a1 a2 a3 c1 c2 c3 == (0 : Int))) ∧ Gr w w' := by
 go_enter Tryz.func31, Tryz.ntmps31
 have hB := Gr.refl w
 refine wp_seq_k (fun K1 k1 => ?_)
 refine rg [0, 1, 2] ?_
 refine se ?_
 refine eb 32 #[uaa0, uaa1, uaa2, uaa3, uab0, uab1, uab2, uab3, uac0, uac1, uac2, uac3] 2 hB fun b2 w2 g2 L2 o2 q2 hB => ?_
 simp only [p3, p4]
 refine se ?_
 refine eb 32 #[vaa0, vaa1, vaa2, vaa3, vab0, vab1, vab2, vab3, vac0, vac1, vac2, vac3] 3 hB fun b3 w3 g3 L3 o3 q3 hB => ?_
 simp only [p3, p4]
 refine sv 4 (.bool false) ?_
 simp only [p3, p4]
 refine sq_nil ?_
 refine k1 _ _ ?_
 try clear k1 K1
 refine wp_seq_k (fun K4 k4 => ?_)
 refine rg [0, 1, 2, 3, 4] ?_
 replace L2 := L2.gr g3
 refine sw 5 (.agg #[uaa0, uaa1, uaa2, uaa3, uab0, uab1, uab2, uab3, uac0, uac1, uac2, uac3]) rfl (rl 32 0 [uaa0, uaa1, uaa2, uaa3, uab0, uab1, uab2, uab3, uac0, uac1, uac2, uac3] L2) ?_
 simp only [p3, p4]
 refine sw 6 (.agg #[vaa0, vaa1, vaa2, vaa3, vab0, vab1, vab2, vab3, vac0, vac1, vac2, vac3]) rfl (rl 32 0 [vaa0, vaa1, vaa2, vaa3, vab0, vab1, vab2, vab3, vac0, vac1, vac2, vac3] L3) ?_
 simp only [p3, p4]
 refine se ?_
 have kq6 := g2.kp.trans g3.kp
 replace hua1 := hua1.kp kq6
 replace hua2 := hua2.kp kq6
 replace hua3 := hua3.kp kq6
 replace hva1 := hva1.kp kq6
 replace hva2 := hva2.kp kq6
 replace hva3 := hva3.kp kq6
 refine ec 7 (vcomp_v hua1 hua2 hua3 hva1 hva2 hva3 (by omega)) ?_
 rintro e5 w5 ⟨rfl, g5⟩
 refine ⟨_, rfl, ?_⟩
 replace hB := hB.trans g5
 simp only [p3, p4]
 refine sv 8 (.bool ((vcmp a1 a2 a3 c1 c2 c3 == (0 : Int)))) ?_
 simp only [p3, p4]
 refine sv 4 (.bool ((vcmp a1 a2 a3 c1 c2 c3 == (0 : Int)))) ?_
 simp only [p3, p4]
 refine sq_nil ?_
 refine k4 _ _ ?_
 try clear k4 K4
 refine wp_ret ?_
 refine bodyPost_ret (v := (.bool ((vcmp a1 a2 a3 c1 c2 c3 == (0 : Int))))) (ret_tmp rfl rfl) rfl ⟨?_, hB⟩
 exact rfl

set_option maxRecDepth 100000 in
set_option maxHeartbeats 1000000 in
theorem vzero_v {k : Nat} {uaa0 uaa1 uaa2 uaa3 uab0 uab1 uab2 uab3 uac0 uac1 uac2 uac3 : Value} {a1 a2 a3 : Rat} {w : World} (hua1 : IsRat w k uaa0 uaa1 uaa2 uaa3 a1) (hua2 : IsRat w k uab0 uab1 uab2 uab3 a2) (hua3 : IsRat w k uac0 uac1 uac2 uac3 a3) (_hk : k ≤ 25000) :
    Calls Tryz.prog 29 #[(.agg #[uaa0, uaa1, uaa2, uaa3, uab0, uab1, uab2, uab3, uac0, uac1, uac2, uac3])] w fun e w' => e = .returned (.bool (vcmp a1 a2 a3 0 0 0 == (0 : Int))) ∧ Gr w w' := by
 go_enter Tryz.func29, Tryz.ntmps29
 have hB := Gr.refl w
 refine wp_seq_k (fun K1 k1 => ?_)
 refine rg [0, 1] ?_
 refine se ?_
 refine eb 32 #[uaa0, uaa1, uaa2, uaa3, uab0, uab1, uab2, uab3, uac0, uac1, uac2, uac3] 1 hB fun b2 w2 g2 L2 o2 q2 hB => ?_
 simp only [p3, p4]
 refine sv 2 (.bool false) ?_
 simp only [p3, p4]
 refine sq_nil ?_
 refine k1 _ _ ?_
 try clear k1 K1
 refine wp_seq_k (fun K3 k3 => ?_)
 refine rg [0, 1, 2, 3, 4] ?_
 refine sw 3 (.agg #[uaa0, uaa1, uaa2, uaa3, uab0, uab1, uab2, uab3, uac0, uac1, uac2, uac3]) rfl (rl 32 0 [uaa0, uaa1, uaa2, uaa3, uab0, uab1, uab2, uab3, uac0, uac1, uac2, uac3] L2) ?_
 simp only [p3, p4]
 refine sv 4 (.agg #[(.bool false), (.slice none 0 0), (.bool false), (.slice none 0 0), (.bool false), (.slice none 0 0), (.bool false), (.slice none 0 0), (.bool false), (.slice none 0 0), (.bool false), (.slice none 0 0)]) ?_
 simp only [p3, p4]
 refine se ?_
 replace hua1 := hua1.kp g2.kp
 replace hua2 := hua2.kp g2.kp
 replace hua3 := hua3.kp g2.kp
 refine ec 5 (vcomp_v hua1 hua2 hua3 (IsRat.zero _ (k := 64) (Nat.le_refl _)) (IsRat.zero _ (k := 64) (Nat.le_refl _)) (IsRat.zero _ (k := 64) (Nat.le_refl _)) (by omega)) ?_
 rintro e4 w4 ⟨rfl, g4⟩
 refine ⟨_, rfl, ?_⟩
 replace hB := hB.trans g4
 simp only [p3, p4]
 refine sv 6 (.bool ((vcmp a1 a2 a3 0 0 0 == (0 : Int)))) ?_
 simp only [p3, p4]
 refine sv 2 (.bool ((vcmp a1 a2 a3 0 0 0 == (0 : Int)))) ?_
 simp only [p3, p4]
 refine sq_nil ?_
 refine k3 _ _ ?_
 try clear k3 K3
 refine wp_ret ?_
 refine bodyPost_ret (v := (.bool ((vcmp a1 a2 a3 0 0 0 == (0 : Int))))) (ret_tmp rfl rfl) rfl ⟨?_, hB⟩
 exact rfl

end Go.Proofs.YtlcmllfacolkaaaGreatDoor
/- Printed by a program of the prover's: the operations on twists. -/
namespace Go.Proofs.YtlcmllfacolkaaaGreatDoor
open Go.RowKit

set_option maxRecDepth 100000 in
set_option maxHeartbeats 1000000 in
theorem vof_v (n1 n2 n3 : Int) (_j1 : -9223372036854775808 ≤ n1 ∧ n1 ≤ 9223372036854775807) (_j2 : -9223372036854775808 ≤ n2 ∧ n2 ≤ 9223372036854775807) (_j3 : -9223372036854775808 ≤ n3 ∧ n3 ≤ 9223372036854775807) (w : World) :
    Calls Tryz.prog 19 #[(.agg #[(.int .i64 (n1)), (.int .i64 (n2)), (.int .i64 (n3))])] w fun e w' => (∃ t0 t1 t2 t3 t4 t5 t6 t7 t8 t9 t10 t11, e = .returned (.agg #[t0, t1, t2, t3, t4, t5, t6, t7, t8, t9, t10, t11]) ∧ IsRat w' 64 t0 t1 t2 t3 ((n1 : Int) : Rat) ∧ IsRat w' 64 t4 t5 t6 t7 ((n2 : Int) : Rat) ∧ IsRat w' 64 t8 t9 t10 t11 ((n3 : Int) : Rat)) ∧ Gr w w' := by
 go_enter Tryz.func19, Tryz.ntmps19
 have hB := Gr.refl w
 refine wp_seq_k (fun K1 k1 => ?_)
 refine rg [0, 1] ?_
 refine se ?_
 refine eb 45 #[(.int .i64 (n1)), (.int .i64 (n2)), (.int .i64 (n3))] 1 hB fun b2 w2 g2 L2 o2 q2 hB => ?_
 simp only [p3, p4]
 refine se ?_
 refine ea 32 #[(.bool false), (.slice none 0 0), (.bool false), (.slice none 0 0), (.bool false), (.slice none 0 0), (.bool false), (.slice none 0 0), (.bool false), (.slice none 0 0), (.bool false), (.slice none 0 0)] 2 hB fun b3 w3 g3 L3 o3 q3 hB => ?_
 simp only [p3, p4]
 refine sq_nil ?_
 refine k1 _ _ ?_
 try clear k1 K1
 refine wp_seq_k (fun K4 k4 => ?_)
 refine rg [0] ?_
 refine se ?_
 refine ea 32 #[(.bool false), (.slice none 0 0), (.bool false), (.slice none 0 0), (.bool false), (.slice none 0 0), (.bool false), (.slice none 0 0), (.bool false), (.slice none 0 0), (.bool false), (.slice none 0 0)] 3 hB fun b5 w5 g5 L5 o5 q5 hB => ?_
 replace L2 := L2.gr g3
 have ne3_5 := L3.ne o5
 simp only [p3, p4]
 refine sq_nil ?_
 refine k4 _ _ ?_
 try clear k4 K4
 refine wp_seq_k (fun K6 k6 => ?_)
 refine wp_seq_k (fun K7 k7 => ?_)
 refine rg [0, 1] ?_
 replace L2 := L2.gr g5
 refine sw 6 (.agg #[(.int .i64 (n1)), (.int .i64 (n2)), (.int .i64 (n3))]) rfl (rl 45 0 [(.int .i64 (n1)), (.int .i64 (n2)), (.int .i64 (n3))] L2) ?_
 simp only [p3, p4]
 refine sv 7 (.int .i64 0) ?_
 simp only [p3, p4]
 refine sq_nil ?_
 refine k7 _ _ ?_
 try clear k7 K7
 refine wp_block ?_
 refine wp_loop_rounds 4 ?_
 show Code.wp _ _ _ _ _
 refine wp_seq_k (fun K8 k8 => ?_)
 refine rg [0] ?_
 refine sv 8 (.bool true) ?_
 simp only [p3, p4]
 refine sq_nil ?_
 refine k8 _ _ ?_
 try clear k8 K8
 refine wp_seq_k (fun K9 k9 => ?_)
 refine wp_cond_true rfl ?_
 refine wp_skip ?_
 refine k9 _ _ ?_
 try clear k9 K9
 refine wp_seq_k (fun K10 k10 => ?_)
 refine wp_block ?_
 refine wp_seq_k (fun K11 k11 => ?_)
 refine rg [0, 1, 2, 3] ?_
 refine sv 9 (.int .i64 0) ?_
 simp only [p3, p4]
 refine sv 10 (.int .i64 (n1)) ?_
 simp only [p3, p4]
 refine sv 4 (.int .i64 0) ?_
 simp only [p3, p4]
 refine sv 5 (.int .i64 (n1)) ?_
 simp only [p3, p4]
 refine sq_nil ?_
 refine k11 _ _ ?_
 try clear k11 K11
 refine rg [0, 1, 2, 3, 4] ?_
 refine sv 11 (.int .i64 0) ?_
 simp only [p3, p4]
 refine sv 12 (.int .i64 (n1)) ?_
 simp only [p3, p4]
 refine se ?_
 refine ec 13 (from_r (n1) (by omega) (by omega) _) ?_
 rintro e12 w12 ⟨⟨p12, q12, r12, s12, rfl, h12⟩, g12⟩
 refine ⟨_, rfl, ?_⟩
 replace hB := hB.trans g12
 simp only [p3, p4]
 refine sv 14 (.pointer (some ⟨b5, 0, none⟩)) ?_
 simp only [p3, p4]
 refine se ?_
 replace L5 := L5.gr g12
 refine es 30 0 (.agg #[p12, q12, r12, s12]) [p12, q12, r12, s12] #[p12, q12, r12, s12, (.bool false), (.slice none 0 0), (.bool false), (.slice none 0 0), (.bool false), (.slice none 0 0), (.bool false), (.slice none 0 0)] L5 hB q5 ⟨h12.one0, h12.one1, h12.one2, h12.one3, trivial⟩ fun w13 st13 kp13 L5 hB => ?_
 refine sq_nil ?_
 refine k10 _ _ ?_
 try clear k10 K10
 refine rg [0, 1] ?_
 refine sv 15 (.int .i64 1) ?_
 simp only [p3, p4]
 refine sv 7 (.int .i64 1) ?_
 simp only [p3, p4]
 refine sq_nil ?_
 show Code.rounds _ _ _ _ _ _
 show Code.wp _ _ _ _ _
 refine wp_seq_k (fun K14 k14 => ?_)
 refine rg [0] ?_
 refine sv 8 (.bool true) ?_
 simp only [p3, p4]
 refine sq_nil ?_
 refine k14 _ _ ?_
 try clear k14 K14
 refine wp_seq_k (fun K15 k15 => ?_)
 refine wp_cond_true rfl ?_
 refine wp_skip ?_
 refine k15 _ _ ?_
 try clear k15 K15
 refine wp_seq_k (fun K16 k16 => ?_)
 refine wp_block ?_
 refine wp_seq_k (fun K17 k17 => ?_)
 refine rg [0, 1, 2, 3] ?_
 refine sv 9 (.int .i64 1) ?_
 simp only [p3, p4]
 refine sv 10 (.int .i64 (n2)) ?_
 simp only [p3, p4]
 refine sv 4 (.int .i64 1) ?_
 simp only [p3, p4]
 refine sv 5 (.int .i64 (n2)) ?_
 simp only [p3, p4]
 refine sq_nil ?_
 refine k17 _ _ ?_
 try clear k17 K17
 refine rg [0, 1, 2, 3, 4] ?_
 refine sv 11 (.int .i64 1) ?_
 simp only [p3, p4]
 refine sv 12 (.int .i64 (n2)) ?_
 simp only [p3, p4]
 refine se ?_
 refine ec 13 (from_r (n2) (by omega) (by omega) _) ?_
 rintro e18 w18 ⟨⟨p18, q18, r18, s18, rfl, h18⟩, g18⟩
 refine ⟨_, rfl, ?_⟩
 replace hB := hB.trans g18
 simp only [p3, p4]
 refine sv 14 (.pointer (some ⟨b5, 4, none⟩)) ?_
 simp only [p3, p4]
 refine se ?_
 replace L5 := L5.gr g18
 refine es 30 4 (.agg #[p18, q18, r18, s18]) [p18, q18, r18, s18] #[p12, q12, r12, s12, p18, q18, r18, s18, (.bool false), (.slice none 0 0), (.bool false), (.slice none 0 0)] L5 hB q5 ⟨h18.one0, h18.one1, h18.one2, h18.one3, trivial⟩ fun w19 st19 kp19 L5 hB => ?_
 refine sq_nil ?_
 refine k16 _ _ ?_
 try clear k16 K16
 refine rg [0, 1] ?_
 refine sv 15 (.int .i64 2) ?_
 simp only [p3, p4]
 refine sv 7 (.int .i64 2) ?_
 simp only [p3, p4]
 refine sq_nil ?_
 show Code.rounds _ _ _ _ _ _
 show Code.wp _ _ _ _ _
 refine wp_seq_k (fun K20 k20 => ?_)
 refine rg [0] ?_
 refine sv 8 (.bool true) ?_
 simp only [p3, p4]
 refine sq_nil ?_
 refine k20 _ _ ?_
 try clear k20 K20
 refine wp_seq_k (fun K21 k21 => ?_)
 refine wp_cond_true rfl ?_
 refine wp_skip ?_
 refine k21 _ _ ?_
 try clear k21 K21
 refine wp_seq_k (fun K22 k22 => ?_)
 refine wp_block ?_
 refine wp_seq_k (fun K23 k23 => ?_)
 refine rg [0, 1, 2, 3] ?_
 refine sv 9 (.int .i64 2) ?_
 simp only [p3, p4]
 refine sv 10 (.int .i64 (n3)) ?_
 simp only [p3, p4]
 refine sv 4 (.int .i64 2) ?_
 simp only [p3, p4]
 refine sv 5 (.int .i64 (n3)) ?_
 simp only [p3, p4]
 refine sq_nil ?_
 refine k23 _ _ ?_
 try clear k23 K23
 refine rg [0, 1, 2, 3, 4] ?_
 refine sv 11 (.int .i64 2) ?_
 simp only [p3, p4]
 refine sv 12 (.int .i64 (n3)) ?_
 simp only [p3, p4]
 refine se ?_
 refine ec 13 (from_r (n3) (by omega) (by omega) _) ?_
 rintro e24 w24 ⟨⟨p24, q24, r24, s24, rfl, h24⟩, g24⟩
 refine ⟨_, rfl, ?_⟩
 replace hB := hB.trans g24
 simp only [p3, p4]
 refine sv 14 (.pointer (some ⟨b5, 8, none⟩)) ?_
 simp only [p3, p4]
 refine se ?_
 replace L5 := L5.gr g24
 refine es 30 8 (.agg #[p24, q24, r24, s24]) [p24, q24, r24, s24] #[p12, q12, r12, s12, p18, q18, r18, s18, p24, q24, r24, s24] L5 hB q5 ⟨h24.one0, h24.one1, h24.one2, h24.one3, trivial⟩ fun w25 st25 kp25 L5 hB => ?_
 refine sq_nil ?_
 refine k22 _ _ ?_
 try clear k22 K22
 refine rg [0, 1] ?_
 refine sv 15 (.int .i64 3) ?_
 simp only [p3, p4]
 refine sv 7 (.int .i64 3) ?_
 simp only [p3, p4]
 refine sq_nil ?_
 show Code.rounds _ _ _ _ _ _
 show Code.wp _ _ _ _ _
 refine wp_seq_k (fun K26 k26 => ?_)
 refine rg [0] ?_
 refine sv 8 (.bool false) ?_
 simp only [p3, p4]
 refine sq_nil ?_
 refine k26 _ _ ?_
 try clear k26 K26
 refine wp_seq_k (fun K27 k27 => ?_)
 refine wp_cond_false rfl ?_
 refine wp_exit ?_
 simp only [Exit.then, Exit.inBlock, ↓reduceIte]
 refine k6 _ _ ?_
 try clear k6 K6
 refine wp_seq_k (fun K28 k28 => ?_)
 refine rg [0, 1] ?_
 refine sw 16 (.agg #[p12, q12, r12, s12, p18, q18, r18, s18, p24, q24, r24, s24]) rfl (rl 32 0 [p12, q12, r12, s12, p18, q18, r18, s18, p24, q24, r24, s24] L5) ?_
 simp only [p3, p4]
 refine se ?_
 replace L3 := st25.lc ((st19.lc ((st13.lc (L3.gr (g5.trans g12)) ne3_5).gr g18) ne3_5).gr g24) ne3_5
 refine es 32 0 (.agg #[p12, q12, r12, s12, p18, q18, r18, s18, p24, q24, r24, s24]) [p12, q12, r12, s12, p18, q18, r18, s18, p24, q24, r24, s24] #[p12, q12, r12, s12, p18, q18, r18, s18, p24, q24, r24, s24] L3 hB q3 ⟨h12.one0, h12.one1, h12.one2, h12.one3, h18.one0, h18.one1, h18.one2, h18.one3, h24.one0, h24.one1, h24.one2, h24.one3, trivial⟩ fun w29 st29 kp29 L3 hB => ?_
 refine sq_nil ?_
 refine k28 _ _ ?_
 try clear k28 K28
 refine wp_ret ?_
 refine bodyPost_ret (v := (.agg #[p12, q12, r12, s12, p18, q18, r18, s18, p24, q24, r24, s24])) (ret_cell _ _ _ rfl rfl L3 (by kernel_rfl)) rfl ⟨?_, hB⟩
 have kq30 := kp13.trans (g18.kp.trans (kp19.trans (g24.kp.trans (kp25.trans kp29))))
 replace h12 := h12.kp kq30
 have kq31 := kp19.trans (g24.kp.trans (kp25.trans kp29))
 replace h18 := h18.kp kq31
 have kq32 := kp25.trans kp29
 replace h24 := h24.kp kq32
 exact ⟨_, _, _, _, _, _, _, _, _, _, _, _, rfl, h12, h18, h24⟩

end Go.Proofs.YtlcmllfacolkaaaGreatDoor
/- Printed by a program of the prover's: small twists. -/
namespace Go.Proofs.YtlcmllfacolkaaaGreatDoor
open Go.RowKit

theorem vzero_b {k : Nat} {uaa0 uaa1 uaa2 uaa3 uab0 uab1 uab2 uab3 uac0 uac1 uac2 uac3 : Value} {a1 a2 a3 : Rat} {w : World} (hua1 : IsRat w k uaa0 uaa1 uaa2 uaa3 a1) (hua2 : IsRat w k uab0 uab1 uab2 uab3 a2) (hua3 : IsRat w k uac0 uac1 uac2 uac3 a3) (hk : k ≤ 25000) (b : Bool) (eb : (vcmp a1 a2 a3 0 0 0 == (0 : Int)) = b) :
    Calls Tryz.prog 29 #[(.agg #[uaa0, uaa1, uaa2, uaa3, uab0, uab1, uab2, uab3, uac0, uac1, uac2, uac3])] w fun e w' => e = .returned (.bool b) ∧ Gr w w' := by
  have := vzero_v hua1 hua2 hua3 hk
  rw [eb] at this
  exact this

end Go.Proofs.YtlcmllfacolkaaaGreatDoor
/- What a primitive vector is made of: plain facts. -/
namespace Go.Proofs.YtlcmllfacolkaaaGreatDoor
open Go.RowKit

/-- the least common multiple of d and x, as the code takes it -/
def lcmS (d x : Int) : Int := d / (Int.gcd d x : Int) * x
theorem gcd_ex (d : Int) (q : Rat) : 0 < (Int.gcd d (q.den : Int) : Int) ∧ (Int.gcd d (q.den : Int) : Int) ∣ d := by
  have := q.den_pos
  refine ⟨?_, Int.gcd_dvd_left ..⟩
  have : Int.gcd d (q.den : Int) ≠ 0 := by rw [Ne, Int.gcd_eq_zero_iff]; omega
  omega
theorem lcmS_pos {d : Int} (q : Rat) (h : 0 < d) : 0 < lcmS d (q.den : Int) := by
  have := q.den_pos
  obtain ⟨h1, h2⟩ := gcd_ex d q
  obtain ⟨c, hc⟩ := h2
  unfold lcmS
  refine Int.mul_pos ?_ (by omega)
  have : d / (Int.gcd d (q.den : Int) : Int) = c := by
    conv => lhs; lhs; rw [hc]
    exact Int.mul_ediv_cancel_left c (by omega)
  rw [this]
  rcases Int.lt_or_le 0 c with h3 | h3
  · exact h3
  · have := Int.mul_nonpos_of_nonneg_of_nonpos (Int.le_of_lt h1) h3; omega
def pden (a1 a2 a3 : Rat) : Int := lcmS (lcmS (lcmS 1 (a1.den : Int)) (a2.den : Int)) (a3.den : Int)
theorem pden_pos (a1 a2 a3 : Rat) : 0 < pden a1 a2 a3 := lcmS_pos _ (lcmS_pos _ (lcmS_pos _ (by omega)))
def pgcd (a1 a2 a3 : Rat) : Int :=
  (Int.gcd (Int.gcd (Int.gcd 0 (Rat.divInt (pden a1 a2 a3) 1 * a1).num : Int) (Rat.divInt (pden a1 a2 a3) 1 * a2).num : Int) (Rat.divInt (pden a1 a2 a3) 1 * a3).num : Int)
theorem rat_pden {d : Int} (h : 0 < d) : Rat.divInt d 1 ≠ 0 := by
  intro e
  rw [← Rat.num_eq_zero] at e
  rw [Rat.num_divInt] at e
  simp at e
  omega
theorem pgcd_pos {a1 a2 a3 : Rat} (h : ¬(a1 = 0 ∧ a2 = 0 ∧ a3 = 0)) : 0 < pgcd a1 a2 a3 := by
  have h0 : 0 ≤ pgcd a1 a2 a3 := Int.natCast_nonneg _
  have hd := rat_pden (pden_pos a1 a2 a3)
  rcases Int.lt_or_le 0 (pgcd a1 a2 a3) with h1 | h1
  · exact h1
  · exfalso
    apply h
    have e : pgcd a1 a2 a3 = 0 := by omega
    unfold pgcd at e
    have e1 := Int.gcd_eq_zero_iff.1 (Int.natCast_eq_zero.1 e)
    have e2 := Int.gcd_eq_zero_iff.1 (Int.natCast_eq_zero.1 e1.1)
    have e3 := Int.gcd_eq_zero_iff.1 (Int.natCast_eq_zero.1 e2.1)
    have z : ∀ a : Rat, (Rat.divInt (pden a1 a2 a3) 1 * a).num = 0 → a = 0 := fun a ha => by
      rw [Rat.num_eq_zero] at ha
      rcases Rat.mul_eq_zero.1 ha with h2 | h2
      · exact absurd h2 hd
      · exact h2
    exact ⟨z _ e3.2, z _ e2.2, z _ e1.2⟩
/-- a coordinate of the primitive vector -/
def prim (a1 a2 a3 x : Rat) : Rat := Rat.divInt 1 (pgcd a1 a2 a3) * (Rat.divInt (pden a1 a2 a3) 1 * x)
theorem vzero_iff {a1 a2 a3 : Rat} : (vcmp a1 a2 a3 0 0 0 == (0 : Int)) = true ↔ (a1 = 0 ∧ a2 = 0 ∧ a3 = 0) := by rw [beq_iff_eq, vcmp_zero]
theorem vzero_false {a1 a2 a3 : Rat} : (vcmp a1 a2 a3 0 0 0 == (0 : Int)) = false ↔ ¬(a1 = 0 ∧ a2 = 0 ∧ a3 = 0) := by rw [← vzero_iff]; simp
end Go.Proofs.YtlcmllfacolkaaaGreatDoor
