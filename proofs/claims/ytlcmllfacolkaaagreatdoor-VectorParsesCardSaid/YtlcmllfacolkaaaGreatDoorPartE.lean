/- Joined of: Gen5, Gen6, Gen7, Gen8, Prim, Gen9, Ve, Ars. -/
import Derived.Test.YtlcmllfacolkaaaGreatDoorPartC
import Derived.Test.YtlcmllfacolkaaaGreatDoorPartA
import Derived.Test.YtlcmllfacolkaaaGreatDoorPartD
import Derived.ChangeKeysEq
import Derived.Laws.StructEq
/- Printed by a program of the prover's: the operations on vectors. -/
namespace Go.Proofs.YtlcmllfacolkaaaGreatDoor
open Go.RowKit

set_option maxRecDepth 100000 in
set_option maxHeartbeats 4000000 in
theorem each_sub {k m : Nat} {uaa0 uaa1 uaa2 uaa3 uab0 uab1 uab2 uab3 uac0 uac1 uac2 uac3 : Value} {a1 a2 a3 : Rat} {vaa0 vaa1 vaa2 vaa3 vab0 vab1 vab2 vab3 vac0 vac1 vac2 vac3 : Value} {c1 c2 c3 : Rat} {w : World} (hua1 : IsRat w k uaa0 uaa1 uaa2 uaa3 a1) (hua2 : IsRat w k uab0 uab1 uab2 uab3 a2) (hua3 : IsRat w k uac0 uac1 uac2 uac3 a3) (hva1 : IsRat w m vaa0 vaa1 vaa2 vaa3 c1) (hva2 : IsRat w m vab0 vab1 vab2 vab3 c2) (hva3 : IsRat w m vac0 vac1 vac2 vac3 c3) (_hk : k + m ≤ 100000) :
    Calls Tryz.prog 65 #[(.agg #[uaa0, uaa1, uaa2, uaa3, uab0, uab1, uab2, uab3, uac0, uac1, uac2, uac3]), (.agg #[vaa0, vaa1, vaa2, vaa3, vab0, vab1, vab2, vab3, vac0, vac1, vac2, vac3]), (.func (.func 71) #[] #[])] w fun e w' => (∃ t0 t1 t2 t3 t4 t5 t6 t7 t8 t9 t10 t11, e = .returned (.agg #[t0, t1, t2, t3, t4, t5, t6, t7, t8, t9, t10, t11]) ∧ IsRat w' (k + m + 1) t0 t1 t2 t3 ((a1 - c1)) ∧ IsRat w' (k + m + 1) t4 t5 t6 t7 ((a2 - c2)) ∧ IsRat w' (k + m + 1) t8 t9 t10 t11 ((a3 - c3))) ∧ Gr w w' := by
 go_enter Tryz.func65, Tryz.ntmps65
 have hB := Gr.refl w
 refine wp_seq_k (fun K1 k1 => ?_)
 refine rg [0, 1, 2] ?_
 refine se ?_
 refine eb 32 #[uaa0, uaa1, uaa2, uaa3, uab0, uab1, uab2, uab3, uac0, uac1, uac2, uac3] 3 hB fun b2 w2 g2 L2 o2 q2 hB => ?_
 simp only [p3, p4]
 refine se ?_
 refine eb 32 #[vaa0, vaa1, vaa2, vaa3, vab0, vab1, vab2, vab3, vac0, vac1, vac2, vac3] 4 hB fun b3 w3 g3 L3 o3 q3 hB => ?_
 simp only [p3, p4]
 refine se ?_
 refine ea 32 #[(.bool false), (.slice none 0 0), (.bool false), (.slice none 0 0), (.bool false), (.slice none 0 0), (.bool false), (.slice none 0 0), (.bool false), (.slice none 0 0), (.bool false), (.slice none 0 0)] 6 hB fun b4 w4 g4 L4 o4 q4 hB => ?_
 replace L2 := L2.gr g3
 simp only [p3, p4]
 refine sq_nil ?_
 refine k1 _ _ ?_
 try clear k1 K1
 refine wp_seq_k (fun K5 k5 => ?_)
 refine rg [0] ?_
 refine se ?_
 refine ea 32 #[(.bool false), (.slice none 0 0), (.bool false), (.slice none 0 0), (.bool false), (.slice none 0 0), (.bool false), (.slice none 0 0), (.bool false), (.slice none 0 0), (.bool false), (.slice none 0 0)] 7 hB fun b6 w6 g6 L6 o6 q6 hB => ?_
 replace L2 := L2.gr g4
 have ne2_6 := L2.ne o6
 replace L3 := L3.gr g4
 have ne3_6 := L3.ne o6
 have ne4_6 := L4.ne o6
 simp only [p3, p4]
 refine sq_nil ?_
 refine k5 _ _ ?_
 try clear k5 K5
 refine wp_seq_k (fun K7 k7 => ?_)
 refine wp_seq_k (fun K8 k8 => ?_)
 refine rg [0] ?_
 refine sv 9 (.int .i64 0) ?_
 simp only [p3, p4]
 refine sq_nil ?_
 refine k8 _ _ ?_
 try clear k8 K8
 refine wp_block ?_
 refine wp_loop_rounds 4 ?_
 show Code.wp _ _ _ _ _
 refine wp_seq_k (fun K9 k9 => ?_)
 refine rg [0] ?_
 refine sv 10 (.bool true) ?_
 simp only [p3, p4]
 refine sq_nil ?_
 refine k9 _ _ ?_
 try clear k9 K9
 refine wp_seq_k (fun K10 k10 => ?_)
 refine wp_cond_true rfl ?_
 refine wp_skip ?_
 refine k10 _ _ ?_
 try clear k10 K10
 refine wp_seq_k (fun K11 k11 => ?_)
 refine wp_block ?_
 refine wp_seq_k (fun K12 k12 => ?_)
 refine rg [0, 1] ?_
 refine sv 11 (.int .i64 0) ?_
 simp only [p3, p4]
 refine sv 8 (.int .i64 0) ?_
 simp only [p3, p4]
 refine sq_nil ?_
 refine k12 _ _ ?_
 try clear k12 K12
 have gd19 := Gr.drew w6
 replace hB := hB.trans gd19
 replace L2 := L2.gr (g6.trans gd19)
 replace L3 := L3.gr (g6.trans gd19)
 refine wp_region_ord (fun w' => Lc w' b2 #[uaa0, uaa1, uaa2, uaa3, uab0, uab1, uab2, uab3, uac0, uac1, uac2, uac3] 32 ∧ Lc w' b3 #[vaa0, vaa1, vaa2, vaa3, vab0, vab1, vab2, vab3, vac0, vac1, vac2, vac3] 32) [(true, 0), (true, 1), (true, 2), (true, 3), (true, 4), (true, 5), (true, 6), (true, 7), (false, 8), (true, 9), (false, 10)] (by kernel_rfl) (by kernel_rfl) (by kernel_rfl) (by decide) (fun _ _ _ _ _ h => h) ⟨L2, L3⟩ ?_
 refine ov 12 (.int .i64 0) ?_
 simp only [p3, p4]
 refine ov 13 (.func (.func 71) #[] #[]) ?_
 simp only [p3, p4]
 refine ov 14 (.int .i64 0) ?_
 simp only [p3, p4]
 refine ov 15 (.pointer (some ⟨b2, 0, none⟩)) ?_
 simp only [p3, p4]
 refine ow 16 (.agg #[uaa0, uaa1, uaa2, uaa3]) rfl (fun w' hS => (rl 30 0 [uaa0, uaa1, uaa2, uaa3] hS.1)) ?_
 simp only [p3, p4]
 refine ov 17 (.int .i64 0) ?_
 simp only [p3, p4]
 refine ov 18 (.pointer (some ⟨b3, 0, none⟩)) ?_
 simp only [p3, p4]
 refine ow 19 (.agg #[vaa0, vaa1, vaa2, vaa3]) rfl (fun w' hS => (rl 30 0 [vaa0, vaa1, vaa2, vaa3] hS.2)) ?_
 simp only [p3, p4]
 refine oe ?_
 have kq22 := g2.kp.trans (g3.kp.trans (g4.kp.trans (g6.kp.trans gd19.kp)))
 replace hua1 := hua1.kp kq22
 replace hva1 := hva1.kp kq22
 refine ec 20 (sub_r hua1 hva1 (by omega)) ?_
 rintro e21 w21 ⟨⟨p21, q21, r21, s21, rfl, h21⟩, g21⟩
 refine ⟨_, rfl, ?_⟩
 replace hB := hB.trans g21
 replace L2 := L2.gr g21
 replace L3 := L3.gr g21
 refine ⟨⟨L2, L3⟩, ?_⟩
 simp only [p3, p4]
 refine ov 21 (.pointer (some ⟨b6, 0, none⟩)) ?_
 simp only [p3, p4]
 refine oe ?_
 replace L6 := L6.gr (gd19.trans g21)
 refine es 30 0 (.agg #[p21, q21, r21, s21]) [p21, q21, r21, s21] #[p21, q21, r21, s21, (.bool false), (.slice none 0 0), (.bool false), (.slice none 0 0), (.bool false), (.slice none 0 0), (.bool false), (.slice none 0 0)] L6 hB q6 ⟨h21.one0, h21.one1, h21.one2, h21.one3, trivial⟩ fun w24 st24 kp24 L6 hB => ?_
 replace L2 := st24.lc L2 ne2_6
 replace L3 := st24.lc L3 ne3_6
 refine ⟨⟨L2, L3⟩, ?_⟩
 refine ord_nil ?_
 refine k11 _ _ ?_
 try clear k11 K11
 refine rg [0, 1] ?_
 refine sv 22 (.int .i64 1) ?_
 simp only [p3, p4]
 refine sv 9 (.int .i64 1) ?_
 simp only [p3, p4]
 refine sq_nil ?_
 show Code.rounds _ _ _ _ _ _
 show Code.wp _ _ _ _ _
 refine wp_seq_k (fun K25 k25 => ?_)
 refine rg [0] ?_
 refine sv 10 (.bool true) ?_
 simp only [p3, p4]
 refine sq_nil ?_
 refine k25 _ _ ?_
 try clear k25 K25
 refine wp_seq_k (fun K26 k26 => ?_)
 refine wp_cond_true rfl ?_
 refine wp_skip ?_
 refine k26 _ _ ?_
 try clear k26 K26
 refine wp_seq_k (fun K27 k27 => ?_)
 refine wp_block ?_
 refine wp_seq_k (fun K28 k28 => ?_)
 refine rg [0, 1] ?_
 refine sv 11 (.int .i64 1) ?_
 simp only [p3, p4]
 refine sv 8 (.int .i64 1) ?_
 simp only [p3, p4]
 refine sq_nil ?_
 refine k28 _ _ ?_
 try clear k28 K28
 have gd35 := Gr.drew w24
 replace hB := hB.trans gd35
 replace L2 := L2.gr gd35
 replace L3 := L3.gr gd35
 refine wp_region_ord (fun w' => Lc w' b2 #[uaa0, uaa1, uaa2, uaa3, uab0, uab1, uab2, uab3, uac0, uac1, uac2, uac3] 32 ∧ Lc w' b3 #[vaa0, vaa1, vaa2, vaa3, vab0, vab1, vab2, vab3, vac0, vac1, vac2, vac3] 32) [(true, 0), (true, 1), (true, 2), (true, 3), (true, 4), (true, 5), (true, 6), (true, 7), (false, 8), (true, 9), (false, 10)] (by kernel_rfl) (by kernel_rfl) (by kernel_rfl) (by decide) (fun _ _ _ _ _ h => h) ⟨L2, L3⟩ ?_
 refine ov 12 (.int .i64 1) ?_
 simp only [p3, p4]
 refine ov 13 (.func (.func 71) #[] #[]) ?_
 simp only [p3, p4]
 refine ov 14 (.int .i64 1) ?_
 simp only [p3, p4]
 refine ov 15 (.pointer (some ⟨b2, 4, none⟩)) ?_
 simp only [p3, p4]
 refine ow 16 (.agg #[uab0, uab1, uab2, uab3]) rfl (fun w' hS => (rl 30 4 [uab0, uab1, uab2, uab3] hS.1)) ?_
 simp only [p3, p4]
 refine ov 17 (.int .i64 1) ?_
 simp only [p3, p4]
 refine ov 18 (.pointer (some ⟨b3, 4, none⟩)) ?_
 simp only [p3, p4]
 refine ow 19 (.agg #[vab0, vab1, vab2, vab3]) rfl (fun w' hS => (rl 30 4 [vab0, vab1, vab2, vab3] hS.2)) ?_
 simp only [p3, p4]
 refine oe ?_
 have kq38 := g2.kp.trans (g3.kp.trans (g4.kp.trans (g6.kp.trans (gd19.kp.trans (g21.kp.trans (kp24.trans gd35.kp))))))
 replace hua2 := hua2.kp kq38
 replace hva2 := hva2.kp kq38
 refine ec 20 (sub_r hua2 hva2 (by omega)) ?_
 rintro e37 w37 ⟨⟨p37, q37, r37, s37, rfl, h37⟩, g37⟩
 refine ⟨_, rfl, ?_⟩
 replace hB := hB.trans g37
 replace L2 := L2.gr g37
 replace L3 := L3.gr g37
 refine ⟨⟨L2, L3⟩, ?_⟩
 simp only [p3, p4]
 refine ov 21 (.pointer (some ⟨b6, 4, none⟩)) ?_
 simp only [p3, p4]
 refine oe ?_
 replace L6 := L6.gr (gd35.trans g37)
 refine es 30 4 (.agg #[p37, q37, r37, s37]) [p37, q37, r37, s37] #[p21, q21, r21, s21, p37, q37, r37, s37, (.bool false), (.slice none 0 0), (.bool false), (.slice none 0 0)] L6 hB q6 ⟨h37.one0, h37.one1, h37.one2, h37.one3, trivial⟩ fun w40 st40 kp40 L6 hB => ?_
 replace L2 := st40.lc L2 ne2_6
 replace L3 := st40.lc L3 ne3_6
 refine ⟨⟨L2, L3⟩, ?_⟩
 refine ord_nil ?_
 refine k27 _ _ ?_
 try clear k27 K27
 refine rg [0, 1] ?_
 refine sv 22 (.int .i64 2) ?_
 simp only [p3, p4]
 refine sv 9 (.int .i64 2) ?_
 simp only [p3, p4]
 refine sq_nil ?_
 show Code.rounds _ _ _ _ _ _
 show Code.wp _ _ _ _ _
 refine wp_seq_k (fun K41 k41 => ?_)
 refine rg [0] ?_
 refine sv 10 (.bool true) ?_
 simp only [p3, p4]
 refine sq_nil ?_
 refine k41 _ _ ?_
 try clear k41 K41
 refine wp_seq_k (fun K42 k42 => ?_)
 refine wp_cond_true rfl ?_
 refine wp_skip ?_
 refine k42 _ _ ?_
 try clear k42 K42
 refine wp_seq_k (fun K43 k43 => ?_)
 refine wp_block ?_
 refine wp_seq_k (fun K44 k44 => ?_)
 refine rg [0, 1] ?_
 refine sv 11 (.int .i64 2) ?_
 simp only [p3, p4]
 refine sv 8 (.int .i64 2) ?_
 simp only [p3, p4]
 refine sq_nil ?_
 refine k44 _ _ ?_
 try clear k44 K44
 have gd51 := Gr.drew w40
 replace hB := hB.trans gd51
 replace L2 := L2.gr gd51
 replace L3 := L3.gr gd51
 refine wp_region_ord (fun w' => Lc w' b2 #[uaa0, uaa1, uaa2, uaa3, uab0, uab1, uab2, uab3, uac0, uac1, uac2, uac3] 32 ∧ Lc w' b3 #[vaa0, vaa1, vaa2, vaa3, vab0, vab1, vab2, vab3, vac0, vac1, vac2, vac3] 32) [(true, 0), (true, 1), (true, 2), (true, 3), (true, 4), (true, 5), (true, 6), (true, 7), (false, 8), (true, 9), (false, 10)] (by kernel_rfl) (by kernel_rfl) (by kernel_rfl) (by decide) (fun _ _ _ _ _ h => h) ⟨L2, L3⟩ ?_
 refine ov 12 (.int .i64 2) ?_
 simp only [p3, p4]
 refine ov 13 (.func (.func 71) #[] #[]) ?_
 simp only [p3, p4]
 refine ov 14 (.int .i64 2) ?_
 simp only [p3, p4]
 refine ov 15 (.pointer (some ⟨b2, 8, none⟩)) ?_
 simp only [p3, p4]
 refine ow 16 (.agg #[uac0, uac1, uac2, uac3]) rfl (fun w' hS => (rl 30 8 [uac0, uac1, uac2, uac3] hS.1)) ?_
 simp only [p3, p4]
 refine ov 17 (.int .i64 2) ?_
 simp only [p3, p4]
 refine ov 18 (.pointer (some ⟨b3, 8, none⟩)) ?_
 simp only [p3, p4]
 refine ow 19 (.agg #[vac0, vac1, vac2, vac3]) rfl (fun w' hS => (rl 30 8 [vac0, vac1, vac2, vac3] hS.2)) ?_
 simp only [p3, p4]
 refine oe ?_
 have kq54 := g2.kp.trans (g3.kp.trans (g4.kp.trans (g6.kp.trans (gd19.kp.trans (g21.kp.trans (kp24.trans (gd35.kp.trans (g37.kp.trans (kp40.trans gd51.kp)))))))))
 replace hua3 := hua3.kp kq54
 replace hva3 := hva3.kp kq54
 refine ec 20 (sub_r hua3 hva3 (by omega)) ?_
 rintro e53 w53 ⟨⟨p53, q53, r53, s53, rfl, h53⟩, g53⟩
 refine ⟨_, rfl, ?_⟩
 replace hB := hB.trans g53
 replace L2 := L2.gr g53
 replace L3 := L3.gr g53
 refine ⟨⟨L2, L3⟩, ?_⟩
 simp only [p3, p4]
 refine ov 21 (.pointer (some ⟨b6, 8, none⟩)) ?_
 simp only [p3, p4]
 refine oe ?_
 replace L6 := L6.gr (gd51.trans g53)
 refine es 30 8 (.agg #[p53, q53, r53, s53]) [p53, q53, r53, s53] #[p21, q21, r21, s21, p37, q37, r37, s37, p53, q53, r53, s53] L6 hB q6 ⟨h53.one0, h53.one1, h53.one2, h53.one3, trivial⟩ fun w56 st56 kp56 L6 hB => ?_
 replace L2 := st56.lc L2 ne2_6
 replace L3 := st56.lc L3 ne3_6
 refine ⟨⟨L2, L3⟩, ?_⟩
 refine ord_nil ?_
 refine k43 _ _ ?_
 try clear k43 K43
 refine rg [0, 1] ?_
 refine sv 22 (.int .i64 3) ?_
 simp only [p3, p4]
 refine sv 9 (.int .i64 3) ?_
 simp only [p3, p4]
 refine sq_nil ?_
 show Code.rounds _ _ _ _ _ _
 show Code.wp _ _ _ _ _
 refine wp_seq_k (fun K57 k57 => ?_)
 refine rg [0] ?_
 refine sv 10 (.bool false) ?_
 simp only [p3, p4]
 refine sq_nil ?_
 refine k57 _ _ ?_
 try clear k57 K57
 refine wp_seq_k (fun K58 k58 => ?_)
 refine wp_cond_false rfl ?_
 refine wp_exit ?_
 simp only [Exit.then, Exit.inBlock, ↓reduceIte]
 refine k7 _ _ ?_
 try clear k7 K7
 refine wp_seq_k (fun K59 k59 => ?_)
 refine rg [0, 1] ?_
 refine sw 23 (.agg #[p21, q21, r21, s21, p37, q37, r37, s37, p53, q53, r53, s53]) rfl (rl 32 0 [p21, q21, r21, s21, p37, q37, r37, s37, p53, q53, r53, s53] L6) ?_
 simp only [p3, p4]
 refine se ?_
 replace L4 := st56.lc ((st40.lc ((st24.lc (L4.gr (g6.trans (gd19.trans g21))) ne4_6).gr (gd35.trans g37)) ne4_6).gr (gd51.trans g53)) ne4_6
 refine es 32 0 (.agg #[p21, q21, r21, s21, p37, q37, r37, s37, p53, q53, r53, s53]) [p21, q21, r21, s21, p37, q37, r37, s37, p53, q53, r53, s53] #[p21, q21, r21, s21, p37, q37, r37, s37, p53, q53, r53, s53] L4 hB q4 ⟨h21.one0, h21.one1, h21.one2, h21.one3, h37.one0, h37.one1, h37.one2, h37.one3, h53.one0, h53.one1, h53.one2, h53.one3, trivial⟩ fun w60 st60 kp60 L4 hB => ?_
 refine sq_nil ?_
 refine k59 _ _ ?_
 try clear k59 K59
 refine wp_ret ?_
 refine bodyPost_ret (v := (.agg #[p21, q21, r21, s21, p37, q37, r37, s37, p53, q53, r53, s53])) (ret_cell _ _ _ rfl rfl L4 (by kernel_rfl)) rfl ⟨?_, hB⟩
 have kq61 := kp24.trans (gd35.kp.trans (g37.kp.trans (kp40.trans (gd51.kp.trans (g53.kp.trans (kp56.trans kp60))))))
 replace h21 := h21.kp kq61
 have kq62 := kp40.trans (gd51.kp.trans (g53.kp.trans (kp56.trans kp60)))
 replace h37 := h37.kp kq62
 have kq63 := kp56.trans kp60
 replace h53 := h53.kp kq63
 exact ⟨_, _, _, _, _, _, _, _, _, _, _, _, rfl, h21, h37, h53⟩

set_option maxRecDepth 100000 in
set_option maxHeartbeats 4000000 in
theorem each_mul {k m : Nat} {uaa0 uaa1 uaa2 uaa3 uab0 uab1 uab2 uab3 uac0 uac1 uac2 uac3 : Value} {a1 a2 a3 : Rat} {vaa0 vaa1 vaa2 vaa3 vab0 vab1 vab2 vab3 vac0 vac1 vac2 vac3 : Value} {c1 c2 c3 : Rat} {w : World} (hua1 : IsRat w k uaa0 uaa1 uaa2 uaa3 a1) (hua2 : IsRat w k uab0 uab1 uab2 uab3 a2) (hua3 : IsRat w k uac0 uac1 uac2 uac3 a3) (hva1 : IsRat w m vaa0 vaa1 vaa2 vaa3 c1) (hva2 : IsRat w m vab0 vab1 vab2 vab3 c2) (hva3 : IsRat w m vac0 vac1 vac2 vac3 c3) (_hk : k + m ≤ 100000) :
    Calls Tryz.prog 65 #[(.agg #[uaa0, uaa1, uaa2, uaa3, uab0, uab1, uab2, uab3, uac0, uac1, uac2, uac3]), (.agg #[vaa0, vaa1, vaa2, vaa3, vab0, vab1, vab2, vab3, vac0, vac1, vac2, vac3]), (.func (.func 42) #[] #[])] w fun e w' => (∃ t0 t1 t2 t3 t4 t5 t6 t7 t8 t9 t10 t11, e = .returned (.agg #[t0, t1, t2, t3, t4, t5, t6, t7, t8, t9, t10, t11]) ∧ IsRat w' (k + m) t0 t1 t2 t3 ((a1 * c1)) ∧ IsRat w' (k + m) t4 t5 t6 t7 ((a2 * c2)) ∧ IsRat w' (k + m) t8 t9 t10 t11 ((a3 * c3))) ∧ Gr w w' := by
 go_enter Tryz.func65, Tryz.ntmps65
 have hB := Gr.refl w
 refine wp_seq_k (fun K1 k1 => ?_)
 refine rg [0, 1, 2] ?_
 refine se ?_
 refine eb 32 #[uaa0, uaa1, uaa2, uaa3, uab0, uab1, uab2, uab3, uac0, uac1, uac2, uac3] 3 hB fun b2 w2 g2 L2 o2 q2 hB => ?_
 simp only [p3, p4]
 refine se ?_
 refine eb 32 #[vaa0, vaa1, vaa2, vaa3, vab0, vab1, vab2, vab3, vac0, vac1, vac2, vac3] 4 hB fun b3 w3 g3 L3 o3 q3 hB => ?_
 simp only [p3, p4]
 refine se ?_
 refine ea 32 #[(.bool false), (.slice none 0 0), (.bool false), (.slice none 0 0), (.bool false), (.slice none 0 0), (.bool false), (.slice none 0 0), (.bool false), (.slice none 0 0), (.bool false), (.slice none 0 0)] 6 hB fun b4 w4 g4 L4 o4 q4 hB => ?_
 replace L2 := L2.gr g3
 simp only [p3, p4]
 refine sq_nil ?_
 refine k1 _ _ ?_
 try clear k1 K1
 refine wp_seq_k (fun K5 k5 => ?_)
 refine rg [0] ?_
 refine se ?_
 refine ea 32 #[(.bool false), (.slice none 0 0), (.bool false), (.slice none 0 0), (.bool false), (.slice none 0 0), (.bool false), (.slice none 0 0), (.bool false), (.slice none 0 0), (.bool false), (.slice none 0 0)] 7 hB fun b6 w6 g6 L6 o6 q6 hB => ?_
 replace L2 := L2.gr g4
 have ne2_6 := L2.ne o6
 replace L3 := L3.gr g4
 have ne3_6 := L3.ne o6
 have ne4_6 := L4.ne o6
 simp only [p3, p4]
 refine sq_nil ?_
 refine k5 _ _ ?_
 try clear k5 K5
 refine wp_seq_k (fun K7 k7 => ?_)
 refine wp_seq_k (fun K8 k8 => ?_)
 refine rg [0] ?_
 refine sv 9 (.int .i64 0) ?_
 simp only [p3, p4]
 refine sq_nil ?_
 refine k8 _ _ ?_
 try clear k8 K8
 refine wp_block ?_
 refine wp_loop_rounds 4 ?_
 show Code.wp _ _ _ _ _
 refine wp_seq_k (fun K9 k9 => ?_)
 refine rg [0] ?_
 refine sv 10 (.bool true) ?_
 simp only [p3, p4]
 refine sq_nil ?_
 refine k9 _ _ ?_
 try clear k9 K9
 refine wp_seq_k (fun K10 k10 => ?_)
 refine wp_cond_true rfl ?_
 refine wp_skip ?_
 refine k10 _ _ ?_
 try clear k10 K10
 refine wp_seq_k (fun K11 k11 => ?_)
 refine wp_block ?_
 refine wp_seq_k (fun K12 k12 => ?_)
 refine rg [0, 1] ?_
 refine sv 11 (.int .i64 0) ?_
 simp only [p3, p4]
 refine sv 8 (.int .i64 0) ?_
 simp only [p3, p4]
 refine sq_nil ?_
 refine k12 _ _ ?_
 try clear k12 K12
 have gd19 := Gr.drew w6
 replace hB := hB.trans gd19
 replace L2 := L2.gr (g6.trans gd19)
 replace L3 := L3.gr (g6.trans gd19)
 refine wp_region_ord (fun w' => Lc w' b2 #[uaa0, uaa1, uaa2, uaa3, uab0, uab1, uab2, uab3, uac0, uac1, uac2, uac3] 32 ∧ Lc w' b3 #[vaa0, vaa1, vaa2, vaa3, vab0, vab1, vab2, vab3, vac0, vac1, vac2, vac3] 32) [(true, 0), (true, 1), (true, 2), (true, 3), (true, 4), (true, 5), (true, 6), (true, 7), (false, 8), (true, 9), (false, 10)] (by kernel_rfl) (by kernel_rfl) (by kernel_rfl) (by decide) (fun _ _ _ _ _ h => h) ⟨L2, L3⟩ ?_
 refine ov 12 (.int .i64 0) ?_
 simp only [p3, p4]
 refine ov 13 (.func (.func 42) #[] #[]) ?_
 simp only [p3, p4]
 refine ov 14 (.int .i64 0) ?_
 simp only [p3, p4]
 refine ov 15 (.pointer (some ⟨b2, 0, none⟩)) ?_
 simp only [p3, p4]
 refine ow 16 (.agg #[uaa0, uaa1, uaa2, uaa3]) rfl (fun w' hS => (rl 30 0 [uaa0, uaa1, uaa2, uaa3] hS.1)) ?_
 simp only [p3, p4]
 refine ov 17 (.int .i64 0) ?_
 simp only [p3, p4]
 refine ov 18 (.pointer (some ⟨b3, 0, none⟩)) ?_
 simp only [p3, p4]
 refine ow 19 (.agg #[vaa0, vaa1, vaa2, vaa3]) rfl (fun w' hS => (rl 30 0 [vaa0, vaa1, vaa2, vaa3] hS.2)) ?_
 simp only [p3, p4]
 refine oe ?_
 have kq22 := g2.kp.trans (g3.kp.trans (g4.kp.trans (g6.kp.trans gd19.kp)))
 replace hua1 := hua1.kp kq22
 replace hva1 := hva1.kp kq22
 refine ec 20 (mul_r hua1 hva1 (by omega)) ?_
 rintro e21 w21 ⟨⟨p21, q21, r21, s21, rfl, h21⟩, g21⟩
 refine ⟨_, rfl, ?_⟩
 replace hB := hB.trans g21
 replace L2 := L2.gr g21
 replace L3 := L3.gr g21
 refine ⟨⟨L2, L3⟩, ?_⟩
 simp only [p3, p4]
 refine ov 21 (.pointer (some ⟨b6, 0, none⟩)) ?_
 simp only [p3, p4]
 refine oe ?_
 replace L6 := L6.gr (gd19.trans g21)
 refine es 30 0 (.agg #[p21, q21, r21, s21]) [p21, q21, r21, s21] #[p21, q21, r21, s21, (.bool false), (.slice none 0 0), (.bool false), (.slice none 0 0), (.bool false), (.slice none 0 0), (.bool false), (.slice none 0 0)] L6 hB q6 ⟨h21.one0, h21.one1, h21.one2, h21.one3, trivial⟩ fun w24 st24 kp24 L6 hB => ?_
 replace L2 := st24.lc L2 ne2_6
 replace L3 := st24.lc L3 ne3_6
 refine ⟨⟨L2, L3⟩, ?_⟩
 refine ord_nil ?_
 refine k11 _ _ ?_
 try clear k11 K11
 refine rg [0, 1] ?_
 refine sv 22 (.int .i64 1) ?_
 simp only [p3, p4]
 refine sv 9 (.int .i64 1) ?_
 simp only [p3, p4]
 refine sq_nil ?_
 show Code.rounds _ _ _ _ _ _
 show Code.wp _ _ _ _ _
 refine wp_seq_k (fun K25 k25 => ?_)
 refine rg [0] ?_
 refine sv 10 (.bool true) ?_
 simp only [p3, p4]
 refine sq_nil ?_
 refine k25 _ _ ?_
 try clear k25 K25
 refine wp_seq_k (fun K26 k26 => ?_)
 refine wp_cond_true rfl ?_
 refine wp_skip ?_
 refine k26 _ _ ?_
 try clear k26 K26
 refine wp_seq_k (fun K27 k27 => ?_)
 refine wp_block ?_
 refine wp_seq_k (fun K28 k28 => ?_)
 refine rg [0, 1] ?_
 refine sv 11 (.int .i64 1) ?_
 simp only [p3, p4]
 refine sv 8 (.int .i64 1) ?_
 simp only [p3, p4]
 refine sq_nil ?_
 refine k28 _ _ ?_
 try clear k28 K28
 have gd35 := Gr.drew w24
 replace hB := hB.trans gd35
 replace L2 := L2.gr gd35
 replace L3 := L3.gr gd35
 refine wp_region_ord (fun w' => Lc w' b2 #[uaa0, uaa1, uaa2, uaa3, uab0, uab1, uab2, uab3, uac0, uac1, uac2, uac3] 32 ∧ Lc w' b3 #[vaa0, vaa1, vaa2, vaa3, vab0, vab1, vab2, vab3, vac0, vac1, vac2, vac3] 32) [(true, 0), (true, 1), (true, 2), (true, 3), (true, 4), (true, 5), (true, 6), (true, 7), (false, 8), (true, 9), (false, 10)] (by kernel_rfl) (by kernel_rfl) (by kernel_rfl) (by decide) (fun _ _ _ _ _ h => h) ⟨L2, L3⟩ ?_
 refine ov 12 (.int .i64 1) ?_
 simp only [p3, p4]
 refine ov 13 (.func (.func 42) #[] #[]) ?_
 simp only [p3, p4]
 refine ov 14 (.int .i64 1) ?_
 simp only [p3, p4]
 refine ov 15 (.pointer (some ⟨b2, 4, none⟩)) ?_
 simp only [p3, p4]
 refine ow 16 (.agg #[uab0, uab1, uab2, uab3]) rfl (fun w' hS => (rl 30 4 [uab0, uab1, uab2, uab3] hS.1)) ?_
 simp only [p3, p4]
 refine ov 17 (.int .i64 1) ?_
 simp only [p3, p4]
 refine ov 18 (.pointer (some ⟨b3, 4, none⟩)) ?_
 simp only [p3, p4]
 refine ow 19 (.agg #[vab0, vab1, vab2, vab3]) rfl (fun w' hS => (rl 30 4 [vab0, vab1, vab2, vab3] hS.2)) ?_
 simp only [p3, p4]
 refine oe ?_
 have kq38 := g2.kp.trans (g3.kp.trans (g4.kp.trans (g6.kp.trans (gd19.kp.trans (g21.kp.trans (kp24.trans gd35.kp))))))
 replace hua2 := hua2.kp kq38
 replace hva2 := hva2.kp kq38
 refine ec 20 (mul_r hua2 hva2 (by omega)) ?_
 rintro e37 w37 ⟨⟨p37, q37, r37, s37, rfl, h37⟩, g37⟩
 refine ⟨_, rfl, ?_⟩
 replace hB := hB.trans g37
 replace L2 := L2.gr g37
 replace L3 := L3.gr g37
 refine ⟨⟨L2, L3⟩, ?_⟩
 simp only [p3, p4]
 refine ov 21 (.pointer (some ⟨b6, 4, none⟩)) ?_
 simp only [p3, p4]
 refine oe ?_
 replace L6 := L6.gr (gd35.trans g37)
 refine es 30 4 (.agg #[p37, q37, r37, s37]) [p37, q37, r37, s37] #[p21, q21, r21, s21, p37, q37, r37, s37, (.bool false), (.slice none 0 0), (.bool false), (.slice none 0 0)] L6 hB q6 ⟨h37.one0, h37.one1, h37.one2, h37.one3, trivial⟩ fun w40 st40 kp40 L6 hB => ?_
 replace L2 := st40.lc L2 ne2_6
 replace L3 := st40.lc L3 ne3_6
 refine ⟨⟨L2, L3⟩, ?_⟩
 refine ord_nil ?_
 refine k27 _ _ ?_
 try clear k27 K27
 refine rg [0, 1] ?_
 refine sv 22 (.int .i64 2) ?_
 simp only [p3, p4]
 refine sv 9 (.int .i64 2) ?_
 simp only [p3, p4]
 refine sq_nil ?_
 show Code.rounds _ _ _ _ _ _
 show Code.wp _ _ _ _ _
 refine wp_seq_k (fun K41 k41 => ?_)
 refine rg [0] ?_
 refine sv 10 (.bool true) ?_
 simp only [p3, p4]
 refine sq_nil ?_
 refine k41 _ _ ?_
 try clear k41 K41
 refine wp_seq_k (fun K42 k42 => ?_)
 refine wp_cond_true rfl ?_
 refine wp_skip ?_
 refine k42 _ _ ?_
 try clear k42 K42
 refine wp_seq_k (fun K43 k43 => ?_)
 refine wp_block ?_
 refine wp_seq_k (fun K44 k44 => ?_)
 refine rg [0, 1] ?_
 refine sv 11 (.int .i64 2) ?_
 simp only [p3, p4]
 refine sv 8 (.int .i64 2) ?_
 simp only [p3, p4]
 refine sq_nil ?_
 refine k44 _ _ ?_
 try clear k44 K44
 have gd51 := Gr.drew w40
 replace hB := hB.trans gd51
 replace L2 := L2.gr gd51
 replace L3 := L3.gr gd51
 refine wp_region_ord (fun w' => Lc w' b2 #[uaa0, uaa1, uaa2, uaa3, uab0, uab1, uab2, uab3, uac0, uac1, uac2, uac3] 32 ∧ Lc w' b3 #[vaa0, vaa1, vaa2, vaa3, vab0, vab1, vab2, vab3, vac0, vac1, vac2, vac3] 32) [(true, 0), (true, 1), (true, 2), (true, 3), (true, 4), (true, 5), (true, 6), (true, 7), (false, 8), (true, 9), (false, 10)] (by kernel_rfl) (by kernel_rfl) (by kernel_rfl) (by decide) (fun _ _ _ _ _ h => h) ⟨L2, L3⟩ ?_
 refine ov 12 (.int .i64 2) ?_
 simp only [p3, p4]
 refine ov 13 (.func (.func 42) #[] #[]) ?_
 simp only [p3, p4]
 refine ov 14 (.int .i64 2) ?_
 simp only [p3, p4]
 refine ov 15 (.pointer (some ⟨b2, 8, none⟩)) ?_
 simp only [p3, p4]
 refine ow 16 (.agg #[uac0, uac1, uac2, uac3]) rfl (fun w' hS => (rl 30 8 [uac0, uac1, uac2, uac3] hS.1)) ?_
 simp only [p3, p4]
 refine ov 17 (.int .i64 2) ?_
 simp only [p3, p4]
 refine ov 18 (.pointer (some ⟨b3, 8, none⟩)) ?_
 simp only [p3, p4]
 refine ow 19 (.agg #[vac0, vac1, vac2, vac3]) rfl (fun w' hS => (rl 30 8 [vac0, vac1, vac2, vac3] hS.2)) ?_
 simp only [p3, p4]
 refine oe ?_
 have kq54 := g2.kp.trans (g3.kp.trans (g4.kp.trans (g6.kp.trans (gd19.kp.trans (g21.kp.trans (kp24.trans (gd35.kp.trans (g37.kp.trans (kp40.trans gd51.kp)))))))))
 replace hua3 := hua3.kp kq54
 replace hva3 := hva3.kp kq54
 refine ec 20 (mul_r hua3 hva3 (by omega)) ?_
 rintro e53 w53 ⟨⟨p53, q53, r53, s53, rfl, h53⟩, g53⟩
 refine ⟨_, rfl, ?_⟩
 replace hB := hB.trans g53
 replace L2 := L2.gr g53
 replace L3 := L3.gr g53
 refine ⟨⟨L2, L3⟩, ?_⟩
 simp only [p3, p4]
 refine ov 21 (.pointer (some ⟨b6, 8, none⟩)) ?_
 simp only [p3, p4]
 refine oe ?_
 replace L6 := L6.gr (gd51.trans g53)
 refine es 30 8 (.agg #[p53, q53, r53, s53]) [p53, q53, r53, s53] #[p21, q21, r21, s21, p37, q37, r37, s37, p53, q53, r53, s53] L6 hB q6 ⟨h53.one0, h53.one1, h53.one2, h53.one3, trivial⟩ fun w56 st56 kp56 L6 hB => ?_
 replace L2 := st56.lc L2 ne2_6
 replace L3 := st56.lc L3 ne3_6
 refine ⟨⟨L2, L3⟩, ?_⟩
 refine ord_nil ?_
 refine k43 _ _ ?_
 try clear k43 K43
 refine rg [0, 1] ?_
 refine sv 22 (.int .i64 3) ?_
 simp only [p3, p4]
 refine sv 9 (.int .i64 3) ?_
 simp only [p3, p4]
 refine sq_nil ?_
 show Code.rounds _ _ _ _ _ _
 show Code.wp _ _ _ _ _
 refine wp_seq_k (fun K57 k57 => ?_)
 refine rg [0] ?_
 refine sv 10 (.bool false) ?_
 simp only [p3, p4]
 refine sq_nil ?_
 refine k57 _ _ ?_
 try clear k57 K57
 refine wp_seq_k (fun K58 k58 => ?_)
 refine wp_cond_false rfl ?_
 refine wp_exit ?_
 simp only [Exit.then, Exit.inBlock, ↓reduceIte]
 refine k7 _ _ ?_
 try clear k7 K7
 refine wp_seq_k (fun K59 k59 => ?_)
 refine rg [0, 1] ?_
 refine sw 23 (.agg #[p21, q21, r21, s21, p37, q37, r37, s37, p53, q53, r53, s53]) rfl (rl 32 0 [p21, q21, r21, s21, p37, q37, r37, s37, p53, q53, r53, s53] L6) ?_
 simp only [p3, p4]
 refine se ?_
 replace L4 := st56.lc ((st40.lc ((st24.lc (L4.gr (g6.trans (gd19.trans g21))) ne4_6).gr (gd35.trans g37)) ne4_6).gr (gd51.trans g53)) ne4_6
 refine es 32 0 (.agg #[p21, q21, r21, s21, p37, q37, r37, s37, p53, q53, r53, s53]) [p21, q21, r21, s21, p37, q37, r37, s37, p53, q53, r53, s53] #[p21, q21, r21, s21, p37, q37, r37, s37, p53, q53, r53, s53] L4 hB q4 ⟨h21.one0, h21.one1, h21.one2, h21.one3, h37.one0, h37.one1, h37.one2, h37.one3, h53.one0, h53.one1, h53.one2, h53.one3, trivial⟩ fun w60 st60 kp60 L4 hB => ?_
 refine sq_nil ?_
 refine k59 _ _ ?_
 try clear k59 K59
 refine wp_ret ?_
 refine bodyPost_ret (v := (.agg #[p21, q21, r21, s21, p37, q37, r37, s37, p53, q53, r53, s53])) (ret_cell _ _ _ rfl rfl L4 (by kernel_rfl)) rfl ⟨?_, hB⟩
 have kq61 := kp24.trans (gd35.kp.trans (g37.kp.trans (kp40.trans (gd51.kp.trans (g53.kp.trans (kp56.trans kp60))))))
 replace h21 := h21.kp kq61
 have kq62 := kp40.trans (gd51.kp.trans (g53.kp.trans (kp56.trans kp60)))
 replace h37 := h37.kp kq62
 have kq63 := kp56.trans kp60
 replace h53 := h53.kp kq63
 exact ⟨_, _, _, _, _, _, _, _, _, _, _, _, rfl, h21, h37, h53⟩

set_option maxRecDepth 100000 in
set_option maxHeartbeats 1000000 in
theorem scale1_r {k m : Nat} {kb : Nat} {s0 s1 s2 s3 : Value} {sq : Rat} {u0 u1 u2 u3 v0 v1 v2 v3 : Value} {a : Rat} {w : World} (ha : IsRat w k u0 u1 u2 u3 a) (hL : Lc w kb #[s0, s1, s2, s3] 30) (hs : IsRat w m s0 s1 s2 s3 sq) (_hk : k + m ≤ 100000) :
    Calls Tryz.prog 84 #[(.agg #[u0, u1, u2, u3]), (.agg #[v0, v1, v2, v3]), (.pointer (some ⟨kb, 0, none⟩))] w fun e w' => (∃ z0 z1 z2 z3, e = .returned (.agg #[z0, z1, z2, z3]) ∧ IsRat w' (m + k) z0 z1 z2 z3 (sq * a)) ∧ Gr w w' := by
 go_enter Tryz.func84, Tryz.ntmps84
 have hB := Gr.refl w
 refine wp_seq_k (fun K1 k1 => ?_)
 refine rg [0, 1, 2] ?_
 refine se ?_
 refine eb 30 #[u0, u1, u2, u3] 3 hB fun b2 w2 g2 L2 o2 q2 hB => ?_
 simp only [p3, p4]
 refine se ?_
 refine eb 30 #[v0, v1, v2, v3] 4 hB fun b3 w3 g3 L3 o3 q3 hB => ?_
 replace hL := hL.gr g2
 simp only [p3, p4]
 refine se ?_
 refine ea 30 #[(.bool false), (.slice none 0 0), (.bool false), (.slice none 0 0)] 5 hB fun b4 w4 g4 L4 o4 q4 hB => ?_
 replace hL := hL.gr g3
 replace L2 := L2.gr g3
 simp only [p3, p4]
 refine sq_nil ?_
 refine k1 _ _ ?_
 try clear k1 K1
 refine wp_seq_k (fun K5 k5 => ?_)
 refine rg [0, 1, 2, 3] ?_
 replace hL := hL.gr g4
 refine sw 6 (.agg #[s0, s1, s2, s3]) rfl (rl 30 0 [s0, s1, s2, s3] hL) ?_
 simp only [p3, p4]
 replace L2 := L2.gr g4
 refine sw 7 (.agg #[u0, u1, u2, u3]) rfl (rl 30 0 [u0, u1, u2, u3] L2) ?_
 simp only [p3, p4]
 refine se ?_
 have kq7 := g2.kp.trans (g3.kp.trans g4.kp)
 replace hs := hs.kp kq7
 replace ha := ha.kp kq7
 refine ec 8 (mul_r hs ha (by omega)) ?_
 rintro e6 w6 ⟨⟨p6, q6, r6, s6, rfl, h6⟩, g6⟩
 refine ⟨_, rfl, ?_⟩
 replace hB := hB.trans g6
 simp only [p3, p4]
 refine se ?_
 replace L4 := L4.gr g6
 refine es 30 0 (.agg #[p6, q6, r6, s6]) [p6, q6, r6, s6] #[p6, q6, r6, s6] L4 hB q4 ⟨h6.one0, h6.one1, h6.one2, h6.one3, trivial⟩ fun w8 st8 kp8 L4 hB => ?_
 refine sq_nil ?_
 refine k5 _ _ ?_
 try clear k5 K5
 refine wp_ret ?_
 refine bodyPost_ret (v := (.agg #[p6, q6, r6, s6])) (ret_cell _ _ _ rfl rfl L4 (by kernel_rfl)) rfl ⟨?_, hB⟩
 replace h6 := h6.kp kp8
 exact ⟨_, _, _, _, rfl, h6⟩

set_option maxRecDepth 100000 in
set_option maxHeartbeats 4000000 in
theorem each_scale {k m : Nat} {kb : Nat} {s0 s1 s2 s3 : Value} {sq : Rat} {uaa0 uaa1 uaa2 uaa3 uab0 uab1 uab2 uab3 uac0 uac1 uac2 uac3 : Value} {a1 a2 a3 : Rat} {w : World} (hua1 : IsRat w k uaa0 uaa1 uaa2 uaa3 a1) (hua2 : IsRat w k uab0 uab1 uab2 uab3 a2) (hua3 : IsRat w k uac0 uac1 uac2 uac3 a3) (hL : Lc w kb #[s0, s1, s2, s3] 30) (hs : IsRat w m s0 s1 s2 s3 sq) (_hk : k + m ≤ 100000) :
    Calls Tryz.prog 65 #[(.agg #[uaa0, uaa1, uaa2, uaa3, uab0, uab1, uab2, uab3, uac0, uac1, uac2, uac3]), (.agg #[uaa0, uaa1, uaa2, uaa3, uab0, uab1, uab2, uab3, uac0, uac1, uac2, uac3]), (.func (.func 84) #[] #[(.pointer (some ⟨kb, 0, none⟩))])] w fun e w' => (∃ t0 t1 t2 t3 t4 t5 t6 t7 t8 t9 t10 t11, e = .returned (.agg #[t0, t1, t2, t3, t4, t5, t6, t7, t8, t9, t10, t11]) ∧ IsRat w' (m + k) t0 t1 t2 t3 (sq * a1) ∧ IsRat w' (m + k) t4 t5 t6 t7 (sq * a2) ∧ IsRat w' (m + k) t8 t9 t10 t11 (sq * a3)) ∧ Gr w w' := by
 go_enter Tryz.func65, Tryz.ntmps65
 have hB := Gr.refl w
 refine wp_seq_k (fun K1 k1 => ?_)
 refine rg [0, 1, 2] ?_
 refine se ?_
 refine eb 32 #[uaa0, uaa1, uaa2, uaa3, uab0, uab1, uab2, uab3, uac0, uac1, uac2, uac3] 3 hB fun b2 w2 g2 L2 o2 q2 hB => ?_
 simp only [p3, p4]
 refine se ?_
 refine eb 32 #[uaa0, uaa1, uaa2, uaa3, uab0, uab1, uab2, uab3, uac0, uac1, uac2, uac3] 4 hB fun b3 w3 g3 L3 o3 q3 hB => ?_
 replace hL := hL.gr g2
 simp only [p3, p4]
 refine se ?_
 refine ea 32 #[(.bool false), (.slice none 0 0), (.bool false), (.slice none 0 0), (.bool false), (.slice none 0 0), (.bool false), (.slice none 0 0), (.bool false), (.slice none 0 0), (.bool false), (.slice none 0 0)] 6 hB fun b4 w4 g4 L4 o4 q4 hB => ?_
 replace hL := hL.gr g3
 replace L2 := L2.gr g3
 simp only [p3, p4]
 refine sq_nil ?_
 refine k1 _ _ ?_
 try clear k1 K1
 refine wp_seq_k (fun K5 k5 => ?_)
 refine rg [0] ?_
 refine se ?_
 refine ea 32 #[(.bool false), (.slice none 0 0), (.bool false), (.slice none 0 0), (.bool false), (.slice none 0 0), (.bool false), (.slice none 0 0), (.bool false), (.slice none 0 0), (.bool false), (.slice none 0 0)] 7 hB fun b6 w6 g6 L6 o6 q6 hB => ?_
 replace hL := hL.gr g4
 have ne0_6 := hL.ne o6
 replace L2 := L2.gr g4
 have ne2_6 := L2.ne o6
 replace L3 := L3.gr g4
 have ne3_6 := L3.ne o6
 have ne4_6 := L4.ne o6
 simp only [p3, p4]
 refine sq_nil ?_
 refine k5 _ _ ?_
 try clear k5 K5
 refine wp_seq_k (fun K7 k7 => ?_)
 refine wp_seq_k (fun K8 k8 => ?_)
 refine rg [0] ?_
 refine sv 9 (.int .i64 0) ?_
 simp only [p3, p4]
 refine sq_nil ?_
 refine k8 _ _ ?_
 try clear k8 K8
 refine wp_block ?_
 refine wp_loop_rounds 4 ?_
 show Code.wp _ _ _ _ _
 refine wp_seq_k (fun K9 k9 => ?_)
 refine rg [0] ?_
 refine sv 10 (.bool true) ?_
 simp only [p3, p4]
 refine sq_nil ?_
 refine k9 _ _ ?_
 try clear k9 K9
 refine wp_seq_k (fun K10 k10 => ?_)
 refine wp_cond_true rfl ?_
 refine wp_skip ?_
 refine k10 _ _ ?_
 try clear k10 K10
 refine wp_seq_k (fun K11 k11 => ?_)
 refine wp_block ?_
 refine wp_seq_k (fun K12 k12 => ?_)
 refine rg [0, 1] ?_
 refine sv 11 (.int .i64 0) ?_
 simp only [p3, p4]
 refine sv 8 (.int .i64 0) ?_
 simp only [p3, p4]
 refine sq_nil ?_
 refine k12 _ _ ?_
 try clear k12 K12
 have gd19 := Gr.drew w6
 replace hB := hB.trans gd19
 replace L2 := L2.gr (g6.trans gd19)
 replace L3 := L3.gr (g6.trans gd19)
 refine wp_region_ord (fun w' => Lc w' b2 #[uaa0, uaa1, uaa2, uaa3, uab0, uab1, uab2, uab3, uac0, uac1, uac2, uac3] 32 ∧ Lc w' b3 #[uaa0, uaa1, uaa2, uaa3, uab0, uab1, uab2, uab3, uac0, uac1, uac2, uac3] 32) [(true, 0), (true, 1), (true, 2), (true, 3), (true, 4), (true, 5), (true, 6), (true, 7), (false, 8), (true, 9), (false, 10)] (by kernel_rfl) (by kernel_rfl) (by kernel_rfl) (by decide) (fun _ _ _ _ _ h => h) ⟨L2, L3⟩ ?_
 refine ov 12 (.int .i64 0) ?_
 simp only [p3, p4]
 refine ov 13 (.func (.func 84) #[] #[(.pointer (some ⟨kb, 0, none⟩))]) ?_
 simp only [p3, p4]
 refine ov 14 (.int .i64 0) ?_
 simp only [p3, p4]
 refine ov 15 (.pointer (some ⟨b2, 0, none⟩)) ?_
 simp only [p3, p4]
 refine ow 16 (.agg #[uaa0, uaa1, uaa2, uaa3]) rfl (fun w' hS => (rl 30 0 [uaa0, uaa1, uaa2, uaa3] hS.1)) ?_
 simp only [p3, p4]
 refine ov 17 (.int .i64 0) ?_
 simp only [p3, p4]
 refine ov 18 (.pointer (some ⟨b3, 0, none⟩)) ?_
 simp only [p3, p4]
 refine ow 19 (.agg #[uaa0, uaa1, uaa2, uaa3]) rfl (fun w' hS => (rl 30 0 [uaa0, uaa1, uaa2, uaa3] hS.2)) ?_
 simp only [p3, p4]
 refine oe ?_
 have kq22 := g2.kp.trans (g3.kp.trans (g4.kp.trans (g6.kp.trans gd19.kp)))
 replace hua1 := hua1.kp kq22
 replace hs := hs.kp kq22
 replace hL := hL.gr (g6.trans gd19)
 refine ec 20 (scale1_r (v0 := uaa0) (v1 := uaa1) (v2 := uaa2) (v3 := uaa3) hua1 hL hs (by omega)) ?_
 rintro e21 w21 ⟨⟨p21, q21, r21, s21, rfl, h21⟩, g21⟩
 refine ⟨_, rfl, ?_⟩
 replace hB := hB.trans g21
 replace L2 := L2.gr g21
 replace L3 := L3.gr g21
 refine ⟨⟨L2, L3⟩, ?_⟩
 simp only [p3, p4]
 refine ov 21 (.pointer (some ⟨b6, 0, none⟩)) ?_
 simp only [p3, p4]
 refine oe ?_
 replace L6 := L6.gr (gd19.trans g21)
 refine es 30 0 (.agg #[p21, q21, r21, s21]) [p21, q21, r21, s21] #[p21, q21, r21, s21, (.bool false), (.slice none 0 0), (.bool false), (.slice none 0 0), (.bool false), (.slice none 0 0), (.bool false), (.slice none 0 0)] L6 hB q6 ⟨h21.one0, h21.one1, h21.one2, h21.one3, trivial⟩ fun w24 st24 kp24 L6 hB => ?_
 replace L2 := st24.lc L2 ne2_6
 replace L3 := st24.lc L3 ne3_6
 refine ⟨⟨L2, L3⟩, ?_⟩
 refine ord_nil ?_
 refine k11 _ _ ?_
 try clear k11 K11
 refine rg [0, 1] ?_
 refine sv 22 (.int .i64 1) ?_
 simp only [p3, p4]
 refine sv 9 (.int .i64 1) ?_
 simp only [p3, p4]
 refine sq_nil ?_
 show Code.rounds _ _ _ _ _ _
 show Code.wp _ _ _ _ _
 refine wp_seq_k (fun K25 k25 => ?_)
 refine rg [0] ?_
 refine sv 10 (.bool true) ?_
 simp only [p3, p4]
 refine sq_nil ?_
 refine k25 _ _ ?_
 try clear k25 K25
 refine wp_seq_k (fun K26 k26 => ?_)
 refine wp_cond_true rfl ?_
 refine wp_skip ?_
 refine k26 _ _ ?_
 try clear k26 K26
 refine wp_seq_k (fun K27 k27 => ?_)
 refine wp_block ?_
 refine wp_seq_k (fun K28 k28 => ?_)
 refine rg [0, 1] ?_
 refine sv 11 (.int .i64 1) ?_
 simp only [p3, p4]
 refine sv 8 (.int .i64 1) ?_
 simp only [p3, p4]
 refine sq_nil ?_
 refine k28 _ _ ?_
 try clear k28 K28
 have gd36 := Gr.drew w24
 replace hB := hB.trans gd36
 replace L2 := L2.gr gd36
 replace L3 := L3.gr gd36
 refine wp_region_ord (fun w' => Lc w' b2 #[uaa0, uaa1, uaa2, uaa3, uab0, uab1, uab2, uab3, uac0, uac1, uac2, uac3] 32 ∧ Lc w' b3 #[uaa0, uaa1, uaa2, uaa3, uab0, uab1, uab2, uab3, uac0, uac1, uac2, uac3] 32) [(true, 0), (true, 1), (true, 2), (true, 3), (true, 4), (true, 5), (true, 6), (true, 7), (false, 8), (true, 9), (false, 10)] (by kernel_rfl) (by kernel_rfl) (by kernel_rfl) (by decide) (fun _ _ _ _ _ h => h) ⟨L2, L3⟩ ?_
 refine ov 12 (.int .i64 1) ?_
 simp only [p3, p4]
 refine ov 13 (.func (.func 84) #[] #[(.pointer (some ⟨kb, 0, none⟩))]) ?_
 simp only [p3, p4]
 refine ov 14 (.int .i64 1) ?_
 simp only [p3, p4]
 refine ov 15 (.pointer (some ⟨b2, 4, none⟩)) ?_
 simp only [p3, p4]
 refine ow 16 (.agg #[uab0, uab1, uab2, uab3]) rfl (fun w' hS => (rl 30 4 [uab0, uab1, uab2, uab3] hS.1)) ?_
 simp only [p3, p4]
 refine ov 17 (.int .i64 1) ?_
 simp only [p3, p4]
 refine ov 18 (.pointer (some ⟨b3, 4, none⟩)) ?_
 simp only [p3, p4]
 refine ow 19 (.agg #[uab0, uab1, uab2, uab3]) rfl (fun w' hS => (rl 30 4 [uab0, uab1, uab2, uab3] hS.2)) ?_
 simp only [p3, p4]
 refine oe ?_
 have kq39 := g2.kp.trans (g3.kp.trans (g4.kp.trans (g6.kp.trans (gd19.kp.trans (g21.kp.trans (kp24.trans gd36.kp))))))
 replace hua2 := hua2.kp kq39
 have kq40 := g21.kp.trans (kp24.trans gd36.kp)
 replace hs := hs.kp kq40
 replace hL := (st24.lc (hL.gr g21) ne0_6).gr gd36
 refine ec 20 (scale1_r (v0 := uab0) (v1 := uab1) (v2 := uab2) (v3 := uab3) hua2 hL hs (by omega)) ?_
 rintro e38 w38 ⟨⟨p38, q38, r38, s38, rfl, h38⟩, g38⟩
 refine ⟨_, rfl, ?_⟩
 replace hB := hB.trans g38
 replace L2 := L2.gr g38
 replace L3 := L3.gr g38
 refine ⟨⟨L2, L3⟩, ?_⟩
 simp only [p3, p4]
 refine ov 21 (.pointer (some ⟨b6, 4, none⟩)) ?_
 simp only [p3, p4]
 refine oe ?_
 replace L6 := L6.gr (gd36.trans g38)
 refine es 30 4 (.agg #[p38, q38, r38, s38]) [p38, q38, r38, s38] #[p21, q21, r21, s21, p38, q38, r38, s38, (.bool false), (.slice none 0 0), (.bool false), (.slice none 0 0)] L6 hB q6 ⟨h38.one0, h38.one1, h38.one2, h38.one3, trivial⟩ fun w42 st42 kp42 L6 hB => ?_
 replace L2 := st42.lc L2 ne2_6
 replace L3 := st42.lc L3 ne3_6
 refine ⟨⟨L2, L3⟩, ?_⟩
 refine ord_nil ?_
 refine k27 _ _ ?_
 try clear k27 K27
 refine rg [0, 1] ?_
 refine sv 22 (.int .i64 2) ?_
 simp only [p3, p4]
 refine sv 9 (.int .i64 2) ?_
 simp only [p3, p4]
 refine sq_nil ?_
 show Code.rounds _ _ _ _ _ _
 show Code.wp _ _ _ _ _
 refine wp_seq_k (fun K43 k43 => ?_)
 refine rg [0] ?_
 refine sv 10 (.bool true) ?_
 simp only [p3, p4]
 refine sq_nil ?_
 refine k43 _ _ ?_
 try clear k43 K43
 refine wp_seq_k (fun K44 k44 => ?_)
 refine wp_cond_true rfl ?_
 refine wp_skip ?_
 refine k44 _ _ ?_
 try clear k44 K44
 refine wp_seq_k (fun K45 k45 => ?_)
 refine wp_block ?_
 refine wp_seq_k (fun K46 k46 => ?_)
 refine rg [0, 1] ?_
 refine sv 11 (.int .i64 2) ?_
 simp only [p3, p4]
 refine sv 8 (.int .i64 2) ?_
 simp only [p3, p4]
 refine sq_nil ?_
 refine k46 _ _ ?_
 try clear k46 K46
 have gd54 := Gr.drew w42
 replace hB := hB.trans gd54
 replace L2 := L2.gr gd54
 replace L3 := L3.gr gd54
 refine wp_region_ord (fun w' => Lc w' b2 #[uaa0, uaa1, uaa2, uaa3, uab0, uab1, uab2, uab3, uac0, uac1, uac2, uac3] 32 ∧ Lc w' b3 #[uaa0, uaa1, uaa2, uaa3, uab0, uab1, uab2, uab3, uac0, uac1, uac2, uac3] 32) [(true, 0), (true, 1), (true, 2), (true, 3), (true, 4), (true, 5), (true, 6), (true, 7), (false, 8), (true, 9), (false, 10)] (by kernel_rfl) (by kernel_rfl) (by kernel_rfl) (by decide) (fun _ _ _ _ _ h => h) ⟨L2, L3⟩ ?_
 refine ov 12 (.int .i64 2) ?_
 simp only [p3, p4]
 refine ov 13 (.func (.func 84) #[] #[(.pointer (some ⟨kb, 0, none⟩))]) ?_
 simp only [p3, p4]
 refine ov 14 (.int .i64 2) ?_
 simp only [p3, p4]
 refine ov 15 (.pointer (some ⟨b2, 8, none⟩)) ?_
 simp only [p3, p4]
 refine ow 16 (.agg #[uac0, uac1, uac2, uac3]) rfl (fun w' hS => (rl 30 8 [uac0, uac1, uac2, uac3] hS.1)) ?_
 simp only [p3, p4]
 refine ov 17 (.int .i64 2) ?_
 simp only [p3, p4]
 refine ov 18 (.pointer (some ⟨b3, 8, none⟩)) ?_
 simp only [p3, p4]
 refine ow 19 (.agg #[uac0, uac1, uac2, uac3]) rfl (fun w' hS => (rl 30 8 [uac0, uac1, uac2, uac3] hS.2)) ?_
 simp only [p3, p4]
 refine oe ?_
 have kq57 := g2.kp.trans (g3.kp.trans (g4.kp.trans (g6.kp.trans (gd19.kp.trans (g21.kp.trans (kp24.trans (gd36.kp.trans (g38.kp.trans (kp42.trans gd54.kp)))))))))
 replace hua3 := hua3.kp kq57
 have kq58 := g38.kp.trans (kp42.trans gd54.kp)
 replace hs := hs.kp kq58
 replace hL := (st42.lc (hL.gr g38) ne0_6).gr gd54
 refine ec 20 (scale1_r (v0 := uac0) (v1 := uac1) (v2 := uac2) (v3 := uac3) hua3 hL hs (by omega)) ?_
 rintro e56 w56 ⟨⟨p56, q56, r56, s56, rfl, h56⟩, g56⟩
 refine ⟨_, rfl, ?_⟩
 replace hB := hB.trans g56
 replace L2 := L2.gr g56
 replace L3 := L3.gr g56
 refine ⟨⟨L2, L3⟩, ?_⟩
 simp only [p3, p4]
 refine ov 21 (.pointer (some ⟨b6, 8, none⟩)) ?_
 simp only [p3, p4]
 refine oe ?_
 replace L6 := L6.gr (gd54.trans g56)
 refine es 30 8 (.agg #[p56, q56, r56, s56]) [p56, q56, r56, s56] #[p21, q21, r21, s21, p38, q38, r38, s38, p56, q56, r56, s56] L6 hB q6 ⟨h56.one0, h56.one1, h56.one2, h56.one3, trivial⟩ fun w60 st60 kp60 L6 hB => ?_
 replace L2 := st60.lc L2 ne2_6
 replace L3 := st60.lc L3 ne3_6
 refine ⟨⟨L2, L3⟩, ?_⟩
 refine ord_nil ?_
 refine k45 _ _ ?_
 try clear k45 K45
 refine rg [0, 1] ?_
 refine sv 22 (.int .i64 3) ?_
 simp only [p3, p4]
 refine sv 9 (.int .i64 3) ?_
 simp only [p3, p4]
 refine sq_nil ?_
 show Code.rounds _ _ _ _ _ _
 show Code.wp _ _ _ _ _
 refine wp_seq_k (fun K61 k61 => ?_)
 refine rg [0] ?_
 refine sv 10 (.bool false) ?_
 simp only [p3, p4]
 refine sq_nil ?_
 refine k61 _ _ ?_
 try clear k61 K61
 refine wp_seq_k (fun K62 k62 => ?_)
 refine wp_cond_false rfl ?_
 refine wp_exit ?_
 simp only [Exit.then, Exit.inBlock, ↓reduceIte]
 refine k7 _ _ ?_
 try clear k7 K7
 refine wp_seq_k (fun K63 k63 => ?_)
 refine rg [0, 1] ?_
 refine sw 23 (.agg #[p21, q21, r21, s21, p38, q38, r38, s38, p56, q56, r56, s56]) rfl (rl 32 0 [p21, q21, r21, s21, p38, q38, r38, s38, p56, q56, r56, s56] L6) ?_
 simp only [p3, p4]
 refine se ?_
 replace L4 := st60.lc ((st42.lc ((st24.lc (L4.gr (g6.trans (gd19.trans g21))) ne4_6).gr (gd36.trans g38)) ne4_6).gr (gd54.trans g56)) ne4_6
 refine es 32 0 (.agg #[p21, q21, r21, s21, p38, q38, r38, s38, p56, q56, r56, s56]) [p21, q21, r21, s21, p38, q38, r38, s38, p56, q56, r56, s56] #[p21, q21, r21, s21, p38, q38, r38, s38, p56, q56, r56, s56] L4 hB q4 ⟨h21.one0, h21.one1, h21.one2, h21.one3, h38.one0, h38.one1, h38.one2, h38.one3, h56.one0, h56.one1, h56.one2, h56.one3, trivial⟩ fun w64 st64 kp64 L4 hB => ?_
 refine sq_nil ?_
 refine k63 _ _ ?_
 try clear k63 K63
 refine wp_ret ?_
 refine bodyPost_ret (v := (.agg #[p21, q21, r21, s21, p38, q38, r38, s38, p56, q56, r56, s56])) (ret_cell _ _ _ rfl rfl L4 (by kernel_rfl)) rfl ⟨?_, hB⟩
 have kq65 := kp24.trans (gd36.kp.trans (g38.kp.trans (kp42.trans (gd54.kp.trans (g56.kp.trans (kp60.trans kp64))))))
 replace h21 := h21.kp kq65
 have kq66 := kp42.trans (gd54.kp.trans (g56.kp.trans (kp60.trans kp64)))
 replace h38 := h38.kp kq66
 have kq67 := kp60.trans kp64
 replace h56 := h56.kp kq67
 exact ⟨_, _, _, _, _, _, _, _, _, _, _, _, rfl, h21, h38, h56⟩

set_option maxRecDepth 100000 in
set_option maxHeartbeats 1000000 in
theorem vscale_v {k m : Nat} {s0 s1 s2 s3 : Value} {sq : Rat} {uaa0 uaa1 uaa2 uaa3 uab0 uab1 uab2 uab3 uac0 uac1 uac2 uac3 : Value} {a1 a2 a3 : Rat} {w : World} (hua1 : IsRat w k uaa0 uaa1 uaa2 uaa3 a1) (hua2 : IsRat w k uab0 uab1 uab2 uab3 a2) (hua3 : IsRat w k uac0 uac1 uac2 uac3 a3) (hs : IsRat w m s0 s1 s2 s3 sq) (_hk : k + m ≤ 100000) :
    Calls Tryz.prog 40 #[(.agg #[uaa0, uaa1, uaa2, uaa3, uab0, uab1, uab2, uab3, uac0, uac1, uac2, uac3]), (.agg #[s0, s1, s2, s3])] w fun e w' => (∃ t0 t1 t2 t3 t4 t5 t6 t7 t8 t9 t10 t11, e = .returned (.agg #[t0, t1, t2, t3, t4, t5, t6, t7, t8, t9, t10, t11]) ∧ IsRat w' (m + k) t0 t1 t2 t3 (sq * a1) ∧ IsRat w' (m + k) t4 t5 t6 t7 (sq * a2) ∧ IsRat w' (m + k) t8 t9 t10 t11 (sq * a3)) ∧ Gr w w' := by
 go_enter Tryz.func40, Tryz.ntmps40
 have hB := Gr.refl w
 refine wp_seq_k (fun K1 k1 => ?_)
 refine rg [0, 1, 2] ?_
 refine se ?_
 refine eb 32 #[uaa0, uaa1, uaa2, uaa3, uab0, uab1, uab2, uab3, uac0, uac1, uac2, uac3] 2 hB fun b2 w2 g2 L2 o2 q2 hB => ?_
 simp only [p3, p4]
 refine se ?_
 refine eb 30 #[s0, s1, s2, s3] 3 hB fun b3 w3 g3 L3 o3 q3 hB => ?_
 simp only [p3, p4]
 refine se ?_
 refine ea 32 #[(.bool false), (.slice none 0 0), (.bool false), (.slice none 0 0), (.bool false), (.slice none 0 0), (.bool false), (.slice none 0 0), (.bool false), (.slice none 0 0), (.bool false), (.slice none 0 0)] 4 hB fun b4 w4 g4 L4 o4 q4 hB => ?_
 replace L2 := L2.gr g3
 simp only [p3, p4]
 refine sq_nil ?_
 refine k1 _ _ ?_
 try clear k1 K1
 refine wp_seq_k (fun K5 k5 => ?_)
 refine rg [0, 1, 2, 3, 4] ?_
 replace L2 := L2.gr g4
 refine sw 5 (.agg #[uaa0, uaa1, uaa2, uaa3, uab0, uab1, uab2, uab3, uac0, uac1, uac2, uac3]) rfl (rl 32 0 [uaa0, uaa1, uaa2, uaa3, uab0, uab1, uab2, uab3, uac0, uac1, uac2, uac3] L2) ?_
 simp only [p3, p4]
 refine sw 6 (.agg #[uaa0, uaa1, uaa2, uaa3, uab0, uab1, uab2, uab3, uac0, uac1, uac2, uac3]) rfl (rl 32 0 [uaa0, uaa1, uaa2, uaa3, uab0, uab1, uab2, uab3, uac0, uac1, uac2, uac3] L2) ?_
 simp only [p3, p4]
 refine sv 7 (.func (.func 84) #[] #[(.pointer (some ⟨b3, 0, none⟩))]) ?_
 simp only [p3, p4]
 refine se ?_
 have kq7 := g2.kp.trans (g3.kp.trans g4.kp)
 replace hs := hs.kp kq7
 replace hua1 := hua1.kp kq7
 replace hua2 := hua2.kp kq7
 replace hua3 := hua3.kp kq7
 replace L3 := L3.gr g4
 refine ec 8 (each_scale hua1 hua2 hua3 L3 hs (by omega)) ?_
 rintro e6 w6 ⟨⟨t6_0, t6_1, t6_2, t6_3, t6_4, t6_5, t6_6, t6_7, t6_8, t6_9, t6_10, t6_11, rfl, h6a, h6b, h6c⟩, g6⟩
 refine ⟨_, rfl, ?_⟩
 replace hB := hB.trans g6
 simp only [p3, p4]
 refine se ?_
 replace L4 := L4.gr g6
 refine es 32 0 (.agg #[t6_0, t6_1, t6_2, t6_3, t6_4, t6_5, t6_6, t6_7, t6_8, t6_9, t6_10, t6_11]) [t6_0, t6_1, t6_2, t6_3, t6_4, t6_5, t6_6, t6_7, t6_8, t6_9, t6_10, t6_11] #[t6_0, t6_1, t6_2, t6_3, t6_4, t6_5, t6_6, t6_7, t6_8, t6_9, t6_10, t6_11] L4 hB q4 ⟨h6a.one0, h6a.one1, h6a.one2, h6a.one3, h6b.one0, h6b.one1, h6b.one2, h6b.one3, h6c.one0, h6c.one1, h6c.one2, h6c.one3, trivial⟩ fun w8 st8 kp8 L4 hB => ?_
 refine sq_nil ?_
 refine k5 _ _ ?_
 try clear k5 K5
 refine wp_ret ?_
 refine bodyPost_ret (v := (.agg #[t6_0, t6_1, t6_2, t6_3, t6_4, t6_5, t6_6, t6_7, t6_8, t6_9, t6_10, t6_11])) (ret_cell _ _ _ rfl rfl L4 (by kernel_rfl)) rfl ⟨?_, hB⟩
 replace h6a := h6a.kp kp8
 replace h6b := h6b.kp kp8
 replace h6c := h6c.kp kp8
 exact ⟨_, _, _, _, _, _, _, _, _, _, _, _, rfl, h6a, h6b, h6c⟩

set_option maxRecDepth 100000 in
set_option maxHeartbeats 4000000 in
theorem sum3_r {k : Nat} {ab : Nat} {uaa0 uaa1 uaa2 uaa3 uab0 uab1 uab2 uab3 uac0 uac1 uac2 uac3 : Value} {a1 a2 a3 : Rat} {w : World} (hua1 : IsRat w k uaa0 uaa1 uaa2 uaa3 a1) (hua2 : IsRat w k uab0 uab1 uab2 uab3 a2) (hua3 : IsRat w k uac0 uac1 uac2 uac3 a3) (hL : Lc w ab #[uaa0, uaa1, uaa2, uaa3, uab0, uab1, uab2, uab3, uac0, uac1, uac2, uac3] 32) (_hk : k ≤ 25000) :
    Calls Tryz.prog 66 #[(.slice (some ⟨ab, 0, none⟩) 3 3)] w fun e w' => (∃ z0 z1 z2 z3, e = .returned (.agg #[z0, z1, z2, z3]) ∧ IsRat w' (64 + k + 1 + k + 1 + k + 1) z0 z1 z2 z3 (0 + a1 + a2 + a3)) ∧ Gr w w' := by
 have hbig := hua1.big
 go_enter Tryz.func66, Tryz.ntmps66
 have hB := Gr.refl w
 refine wp_seq_k (fun K1 k1 => ?_)
 refine rg [0] ?_
 refine se ?_
 refine ea 30 #[(.bool false), (.slice none 0 0), (.bool false), (.slice none 0 0)] 2 hB fun b2 w2 g2 L2 o2 q2 hB => ?_
 simp only [p3, p4]
 refine sq_nil ?_
 refine k1 _ _ ?_
 try clear k1 K1
 refine wp_seq_k (fun K3 k3 => ?_)
 refine rg [0] ?_
 refine se ?_
 refine ea 30 #[(.bool false), (.slice none 0 0), (.bool false), (.slice none 0 0)] 3 hB fun b4 w4 g4 L4 o4 q4 hB => ?_
 replace hL := hL.gr g2
 have ne0_4 := hL.ne o4
 have ne2_4 := L2.ne o4
 simp only [p3, p4]
 refine sq_nil ?_
 refine k3 _ _ ?_
 try clear k3 K3
 refine wp_seq_k (fun K5 k5 => ?_)
 refine wp_seq_k (fun K6 k6 => ?_)
 refine rg [0, 1, 2] ?_
 refine sv 6 (.slice (some ⟨ab, 0, none⟩) 3 3) ?_
 simp only [p3, p4]
 refine sv 7 (.int .i64 3) ?_
 simp only [p3, p4]
 refine sv 8 (.int .i64 0) ?_
 simp only [p3, p4]
 refine sq_nil ?_
 refine k6 _ _ ?_
 try clear k6 K6
 refine wp_block ?_
 refine wp_loop_rounds 4 ?_
 show Code.wp _ _ _ _ _
 refine wp_seq_k (fun K7 k7 => ?_)
 refine rg [0] ?_
 refine sv 9 (.bool true) ?_
 simp only [p3, p4]
 refine sq_nil ?_
 refine k7 _ _ ?_
 try clear k7 K7
 refine wp_seq_k (fun K8 k8 => ?_)
 refine wp_cond_true rfl ?_
 refine wp_skip ?_
 refine k8 _ _ ?_
 try clear k8 K8
 refine wp_seq_k (fun K9 k9 => ?_)
 refine wp_block ?_
 refine wp_seq_k (fun K10 k10 => ?_)
 refine rg [0, 1, 2, 3] ?_
 refine sv 10 (.pointer (some ⟨ab, 0, none⟩)) ?_
 simp only [p3, p4]
 replace hL := hL.gr g4
 refine sw 11 (.agg #[uaa0, uaa1, uaa2, uaa3]) rfl (rl 30 0 [uaa0, uaa1, uaa2, uaa3] hL) ?_
 simp only [p3, p4]
 refine se ?_
 refine ea 30 #[(.bool false), (.slice none 0 0), (.bool false), (.slice none 0 0)] 5 hB fun b11 w11 g11 L11 o11 q11 hB => ?_
 have ne0_11 := hL.ne o11
 replace L2 := L2.gr g4
 have ne2_11 := L2.ne o11
 have ne4_11 := L4.ne o11
 simp only [p3, p4]
 refine se ?_
 refine es 30 0 (.agg #[uaa0, uaa1, uaa2, uaa3]) [uaa0, uaa1, uaa2, uaa3] #[uaa0, uaa1, uaa2, uaa3] L11 hB q11 ⟨hua1.one0, hua1.one1, hua1.one2, hua1.one3, trivial⟩ fun w12 st12 kp12 L11 hB => ?_
 refine sq_nil ?_
 refine k10 _ _ ?_
 try clear k10 K10
 refine rg [0, 1, 2, 3] ?_
 replace L4 := st12.lc (L4.gr g11) ne4_11
 refine sw 12 (.agg #[(.bool false), (.slice none 0 0), (.bool false), (.slice none 0 0)]) rfl (rl 30 0 [(.bool false), (.slice none 0 0), (.bool false), (.slice none 0 0)] L4) ?_
 simp only [p3, p4]
 refine sw 13 (.agg #[uaa0, uaa1, uaa2, uaa3]) rfl (rl 30 0 [uaa0, uaa1, uaa2, uaa3] L11) ?_
 simp only [p3, p4]
 refine se ?_
 have kq14 := g2.kp.trans (g4.kp.trans (g11.kp.trans kp12))
 replace hua1 := hua1.kp kq14
 refine ec 14 (add_r (IsRat.zero _ (k := 64) (Nat.le_refl _)) hua1 (by omega)) ?_
 rintro e13 w13 ⟨⟨p13, q13, r13, s13, rfl, h13⟩, g13⟩
 refine ⟨_, rfl, ?_⟩
 replace hB := hB.trans g13
 simp only [p3, p4]
 refine se ?_
 replace L4 := L4.gr g13
 refine es 30 0 (.agg #[p13, q13, r13, s13]) [p13, q13, r13, s13] #[p13, q13, r13, s13] L4 hB q4 ⟨h13.one0, h13.one1, h13.one2, h13.one3, trivial⟩ fun w15 st15 kp15 L4 hB => ?_
 refine sq_nil ?_
 refine k9 _ _ ?_
 try clear k9 K9
 refine rg [0, 1] ?_
 refine sv 15 (.int .i64 1) ?_
 simp only [p3, p4]
 refine sv 8 (.int .i64 1) ?_
 simp only [p3, p4]
 refine sq_nil ?_
 show Code.rounds _ _ _ _ _ _
 show Code.wp _ _ _ _ _
 refine wp_seq_k (fun K16 k16 => ?_)
 refine rg [0] ?_
 refine sv 9 (.bool true) ?_
 simp only [p3, p4]
 refine sq_nil ?_
 refine k16 _ _ ?_
 try clear k16 K16
 refine wp_seq_k (fun K17 k17 => ?_)
 refine wp_cond_true rfl ?_
 refine wp_skip ?_
 refine k17 _ _ ?_
 try clear k17 K17
 refine wp_seq_k (fun K18 k18 => ?_)
 refine wp_block ?_
 refine wp_seq_k (fun K19 k19 => ?_)
 refine rg [0, 1, 2, 3] ?_
 refine sv 10 (.pointer (some ⟨ab, 4, none⟩)) ?_
 simp only [p3, p4]
 replace hL := st15.lc ((st12.lc (hL.gr g11) ne0_11).gr g13) ne0_4
 refine sw 11 (.agg #[uab0, uab1, uab2, uab3]) rfl (rl 30 4 [uab0, uab1, uab2, uab3] hL) ?_
 simp only [p3, p4]
 refine se ?_
 refine ea 30 #[(.bool false), (.slice none 0 0), (.bool false), (.slice none 0 0)] 5 hB fun b20 w20 g20 L20 o20 q20 hB => ?_
 have ne0_20 := hL.ne o20
 replace L2 := st15.lc ((st12.lc (L2.gr g11) ne2_11).gr g13) ne2_4
 have ne2_20 := L2.ne o20
 have ne4_20 := L4.ne o20
 simp only [p3, p4]
 refine se ?_
 refine es 30 0 (.agg #[uab0, uab1, uab2, uab3]) [uab0, uab1, uab2, uab3] #[uab0, uab1, uab2, uab3] L20 hB q20 ⟨hua2.one0, hua2.one1, hua2.one2, hua2.one3, trivial⟩ fun w21 st21 kp21 L20 hB => ?_
 refine sq_nil ?_
 refine k19 _ _ ?_
 try clear k19 K19
 refine rg [0, 1, 2, 3] ?_
 replace L4 := st21.lc (L4.gr g20) ne4_20
 refine sw 12 (.agg #[p13, q13, r13, s13]) rfl (rl 30 0 [p13, q13, r13, s13] L4) ?_
 simp only [p3, p4]
 refine sw 13 (.agg #[uab0, uab1, uab2, uab3]) rfl (rl 30 0 [uab0, uab1, uab2, uab3] L20) ?_
 simp only [p3, p4]
 refine se ?_
 have kq23 := kp15.trans (g20.kp.trans kp21)
 replace h13 := h13.kp kq23
 have kq24 := g2.kp.trans (g4.kp.trans (g11.kp.trans (kp12.trans (g13.kp.trans (kp15.trans (g20.kp.trans kp21))))))
 replace hua2 := hua2.kp kq24
 refine ec 14 (add_r h13 hua2 (by omega)) ?_
 rintro e22 w22 ⟨⟨p22, q22, r22, s22, rfl, h22⟩, g22⟩
 refine ⟨_, rfl, ?_⟩
 replace hB := hB.trans g22
 simp only [p3, p4]
 refine se ?_
 replace L4 := L4.gr g22
 refine es 30 0 (.agg #[p22, q22, r22, s22]) [p22, q22, r22, s22] #[p22, q22, r22, s22] L4 hB q4 ⟨h22.one0, h22.one1, h22.one2, h22.one3, trivial⟩ fun w25 st25 kp25 L4 hB => ?_
 refine sq_nil ?_
 refine k18 _ _ ?_
 try clear k18 K18
 refine rg [0, 1] ?_
 refine sv 15 (.int .i64 2) ?_
 simp only [p3, p4]
 refine sv 8 (.int .i64 2) ?_
 simp only [p3, p4]
 refine sq_nil ?_
 show Code.rounds _ _ _ _ _ _
 show Code.wp _ _ _ _ _
 refine wp_seq_k (fun K26 k26 => ?_)
 refine rg [0] ?_
 refine sv 9 (.bool true) ?_
 simp only [p3, p4]
 refine sq_nil ?_
 refine k26 _ _ ?_
 try clear k26 K26
 refine wp_seq_k (fun K27 k27 => ?_)
 refine wp_cond_true rfl ?_
 refine wp_skip ?_
 refine k27 _ _ ?_
 try clear k27 K27
 refine wp_seq_k (fun K28 k28 => ?_)
 refine wp_block ?_
 refine wp_seq_k (fun K29 k29 => ?_)
 refine rg [0, 1, 2, 3] ?_
 refine sv 10 (.pointer (some ⟨ab, 8, none⟩)) ?_
 simp only [p3, p4]
 replace hL := st25.lc ((st21.lc (hL.gr g20) ne0_20).gr g22) ne0_4
 refine sw 11 (.agg #[uac0, uac1, uac2, uac3]) rfl (rl 30 8 [uac0, uac1, uac2, uac3] hL) ?_
 simp only [p3, p4]
 refine se ?_
 refine ea 30 #[(.bool false), (.slice none 0 0), (.bool false), (.slice none 0 0)] 5 hB fun b30 w30 g30 L30 o30 q30 hB => ?_
 replace L2 := st25.lc ((st21.lc (L2.gr g20) ne2_20).gr g22) ne2_4
 have ne2_30 := L2.ne o30
 have ne4_30 := L4.ne o30
 simp only [p3, p4]
 refine se ?_
 refine es 30 0 (.agg #[uac0, uac1, uac2, uac3]) [uac0, uac1, uac2, uac3] #[uac0, uac1, uac2, uac3] L30 hB q30 ⟨hua3.one0, hua3.one1, hua3.one2, hua3.one3, trivial⟩ fun w31 st31 kp31 L30 hB => ?_
 refine sq_nil ?_
 refine k29 _ _ ?_
 try clear k29 K29
 refine rg [0, 1, 2, 3] ?_
 replace L4 := st31.lc (L4.gr g30) ne4_30
 refine sw 12 (.agg #[p22, q22, r22, s22]) rfl (rl 30 0 [p22, q22, r22, s22] L4) ?_
 simp only [p3, p4]
 refine sw 13 (.agg #[uac0, uac1, uac2, uac3]) rfl (rl 30 0 [uac0, uac1, uac2, uac3] L30) ?_
 simp only [p3, p4]
 refine se ?_
 have kq33 := kp25.trans (g30.kp.trans kp31)
 replace h22 := h22.kp kq33
 have kq34 := g2.kp.trans (g4.kp.trans (g11.kp.trans (kp12.trans (g13.kp.trans (kp15.trans (g20.kp.trans (kp21.trans (g22.kp.trans (kp25.trans (g30.kp.trans kp31))))))))))
 replace hua3 := hua3.kp kq34
 refine ec 14 (add_r h22 hua3 (by omega)) ?_
 rintro e32 w32 ⟨⟨p32, q32, r32, s32, rfl, h32⟩, g32⟩
 refine ⟨_, rfl, ?_⟩
 replace hB := hB.trans g32
 simp only [p3, p4]
 refine se ?_
 replace L4 := L4.gr g32
 refine es 30 0 (.agg #[p32, q32, r32, s32]) [p32, q32, r32, s32] #[p32, q32, r32, s32] L4 hB q4 ⟨h32.one0, h32.one1, h32.one2, h32.one3, trivial⟩ fun w35 st35 kp35 L4 hB => ?_
 refine sq_nil ?_
 refine k28 _ _ ?_
 try clear k28 K28
 refine rg [0, 1] ?_
 refine sv 15 (.int .i64 3) ?_
 simp only [p3, p4]
 refine sv 8 (.int .i64 3) ?_
 simp only [p3, p4]
 refine sq_nil ?_
 show Code.rounds _ _ _ _ _ _
 show Code.wp _ _ _ _ _
 refine wp_seq_k (fun K36 k36 => ?_)
 refine rg [0] ?_
 refine sv 9 (.bool false) ?_
 simp only [p3, p4]
 refine sq_nil ?_
 refine k36 _ _ ?_
 try clear k36 K36
 refine wp_seq_k (fun K37 k37 => ?_)
 refine wp_cond_false rfl ?_
 refine wp_exit ?_
 simp only [Exit.then, Exit.inBlock, ↓reduceIte]
 refine k5 _ _ ?_
 try clear k5 K5
 refine wp_seq_k (fun K38 k38 => ?_)
 refine rg [0, 1] ?_
 refine sw 16 (.agg #[p32, q32, r32, s32]) rfl (rl 30 0 [p32, q32, r32, s32] L4) ?_
 simp only [p3, p4]
 refine se ?_
 replace L2 := st35.lc ((st31.lc (L2.gr g30) ne2_30).gr g32) ne2_4
 refine es 30 0 (.agg #[p32, q32, r32, s32]) [p32, q32, r32, s32] #[p32, q32, r32, s32] L2 hB q2 ⟨h32.one0, h32.one1, h32.one2, h32.one3, trivial⟩ fun w39 st39 kp39 L2 hB => ?_
 refine sq_nil ?_
 refine k38 _ _ ?_
 try clear k38 K38
 refine wp_ret ?_
 refine bodyPost_ret (v := (.agg #[p32, q32, r32, s32])) (ret_cell _ _ _ rfl rfl L2 (by kernel_rfl)) rfl ⟨?_, hB⟩
 have kq40 := kp35.trans kp39
 replace h32 := h32.kp kq40
 exact ⟨_, _, _, _, rfl, h32⟩

set_option maxRecDepth 100000 in
set_option maxHeartbeats 1000000 in
theorem dot_v {k m : Nat} {uaa0 uaa1 uaa2 uaa3 uab0 uab1 uab2 uab3 uac0 uac1 uac2 uac3 : Value} {a1 a2 a3 : Rat} {vaa0 vaa1 vaa2 vaa3 vab0 vab1 vab2 vab3 vac0 vac1 vac2 vac3 : Value} {c1 c2 c3 : Rat} {w : World} (hua1 : IsRat w k uaa0 uaa1 uaa2 uaa3 a1) (hua2 : IsRat w k uab0 uab1 uab2 uab3 a2) (hua3 : IsRat w k uac0 uac1 uac2 uac3 a3) (hva1 : IsRat w m vaa0 vaa1 vaa2 vaa3 c1) (hva2 : IsRat w m vab0 vab1 vab2 vab3 c2) (hva3 : IsRat w m vac0 vac1 vac2 vac3 c3) (_hk : k + m ≤ 25000) :
    Calls Tryz.prog 21 #[(.agg #[uaa0, uaa1, uaa2, uaa3, uab0, uab1, uab2, uab3, uac0, uac1, uac2, uac3]), (.agg #[vaa0, vaa1, vaa2, vaa3, vab0, vab1, vab2, vab3, vac0, vac1, vac2, vac3])] w fun e w' => (∃ z0 z1 z2 z3, e = .returned (.agg #[z0, z1, z2, z3]) ∧ IsRat w' (64 + (k + m) + 1 + (k + m) + 1 + (k + m) + 1) z0 z1 z2 z3 (0 + a1 * c1 + a2 * c2 + a3 * c3)) ∧ Gr w w' := by
 go_enter Tryz.func21, Tryz.ntmps21
 have hB := Gr.refl w
 refine wp_seq_k (fun K1 k1 => ?_)
 refine rg [0, 1, 2] ?_
 refine se ?_
 refine eb 32 #[uaa0, uaa1, uaa2, uaa3, uab0, uab1, uab2, uab3, uac0, uac1, uac2, uac3] 2 hB fun b2 w2 g2 L2 o2 q2 hB => ?_
 simp only [p3, p4]
 refine se ?_
 refine eb 32 #[vaa0, vaa1, vaa2, vaa3, vab0, vab1, vab2, vab3, vac0, vac1, vac2, vac3] 3 hB fun b3 w3 g3 L3 o3 q3 hB => ?_
 simp only [p3, p4]
 refine se ?_
 refine ea 30 #[(.bool false), (.slice none 0 0), (.bool false), (.slice none 0 0)] 4 hB fun b4 w4 g4 L4 o4 q4 hB => ?_
 replace L2 := L2.gr g3
 simp only [p3, p4]
 refine sq_nil ?_
 refine k1 _ _ ?_
 try clear k1 K1
 refine wp_seq_k (fun K5 k5 => ?_)
 refine rg [0, 1, 2, 3, 4] ?_
 replace L2 := L2.gr g4
 refine sw 6 (.agg #[uaa0, uaa1, uaa2, uaa3, uab0, uab1, uab2, uab3, uac0, uac1, uac2, uac3]) rfl (rl 32 0 [uaa0, uaa1, uaa2, uaa3, uab0, uab1, uab2, uab3, uac0, uac1, uac2, uac3] L2) ?_
 simp only [p3, p4]
 replace L3 := L3.gr g4
 refine sw 7 (.agg #[vaa0, vaa1, vaa2, vaa3, vab0, vab1, vab2, vab3, vac0, vac1, vac2, vac3]) rfl (rl 32 0 [vaa0, vaa1, vaa2, vaa3, vab0, vab1, vab2, vab3, vac0, vac1, vac2, vac3] L3) ?_
 simp only [p3, p4]
 refine se ?_
 have kq7 := g2.kp.trans (g3.kp.trans g4.kp)
 replace hua1 := hua1.kp kq7
 replace hua2 := hua2.kp kq7
 replace hua3 := hua3.kp kq7
 replace hva1 := hva1.kp kq7
 replace hva2 := hva2.kp kq7
 replace hva3 := hva3.kp kq7
 refine ec 8 (each_mul hua1 hua2 hua3 hva1 hva2 hva3 (by omega)) ?_
 rintro e6 w6 ⟨⟨t6_0, t6_1, t6_2, t6_3, t6_4, t6_5, t6_6, t6_7, t6_8, t6_9, t6_10, t6_11, rfl, h6a, h6b, h6c⟩, g6⟩
 refine ⟨_, rfl, ?_⟩
 replace hB := hB.trans g6
 simp only [p3, p4]
 refine se ?_
 refine ea 32 #[(.bool false), (.slice none 0 0), (.bool false), (.slice none 0 0), (.bool false), (.slice none 0 0), (.bool false), (.slice none 0 0), (.bool false), (.slice none 0 0), (.bool false), (.slice none 0 0)] 5 hB fun b8 w8 g8 L8 o8 q8 hB => ?_
 replace L4 := L4.gr g6
 have ne4_8 := L4.ne o8
 simp only [p3, p4]
 refine se ?_
 refine es 32 0 (.agg #[t6_0, t6_1, t6_2, t6_3, t6_4, t6_5, t6_6, t6_7, t6_8, t6_9, t6_10, t6_11]) [t6_0, t6_1, t6_2, t6_3, t6_4, t6_5, t6_6, t6_7, t6_8, t6_9, t6_10, t6_11] #[t6_0, t6_1, t6_2, t6_3, t6_4, t6_5, t6_6, t6_7, t6_8, t6_9, t6_10, t6_11] L8 hB q8 ⟨h6a.one0, h6a.one1, h6a.one2, h6a.one3, h6b.one0, h6b.one1, h6b.one2, h6b.one3, h6c.one0, h6c.one1, h6c.one2, h6c.one3, trivial⟩ fun w9 st9 kp9 L8 hB => ?_
 refine sq_nil ?_
 refine k5 _ _ ?_
 try clear k5 K5
 refine wp_seq_k (fun K10 k10 => ?_)
 refine rg [0, 1, 2] ?_
 refine sv 9 (.slice (some ⟨b8, 0, none⟩) 3 3) ?_
 simp only [p3, p4]
 refine se ?_
 have kq12 := g8.kp.trans kp9
 replace h6a := h6a.kp kq12
 replace h6b := h6b.kp kq12
 replace h6c := h6c.kp kq12
 refine ec 10 (sum3_r h6a h6b h6c L8 (by omega)) ?_
 rintro e11 w11 ⟨⟨p11, q11, r11, s11, rfl, h11⟩, g11⟩
 refine ⟨_, rfl, ?_⟩
 replace hB := hB.trans g11
 simp only [p3, p4]
 refine se ?_
 replace L4 := (st9.lc (L4.gr g8) ne4_8).gr g11
 refine es 30 0 (.agg #[p11, q11, r11, s11]) [p11, q11, r11, s11] #[p11, q11, r11, s11] L4 hB q4 ⟨h11.one0, h11.one1, h11.one2, h11.one3, trivial⟩ fun w13 st13 kp13 L4 hB => ?_
 refine sq_nil ?_
 refine k10 _ _ ?_
 try clear k10 K10
 refine wp_ret ?_
 refine bodyPost_ret (v := (.agg #[p11, q11, r11, s11])) (ret_cell _ _ _ rfl rfl L4 (by kernel_rfl)) rfl ⟨?_, hB⟩
 replace h11 := h11.kp kp13
 exact ⟨_, _, _, _, rfl, h11⟩

set_option maxRecDepth 100000 in
set_option maxHeartbeats 8000000 in
theorem cross_v {k m : Nat} {uaa0 uaa1 uaa2 uaa3 uab0 uab1 uab2 uab3 uac0 uac1 uac2 uac3 : Value} {a1 a2 a3 : Rat} {vaa0 vaa1 vaa2 vaa3 vab0 vab1 vab2 vab3 vac0 vac1 vac2 vac3 : Value} {c1 c2 c3 : Rat} {w : World} (hua1 : IsRat w k uaa0 uaa1 uaa2 uaa3 a1) (hua2 : IsRat w k uab0 uab1 uab2 uab3 a2) (hua3 : IsRat w k uac0 uac1 uac2 uac3 a3) (hva1 : IsRat w m vaa0 vaa1 vaa2 vaa3 c1) (hva2 : IsRat w m vab0 vab1 vab2 vab3 c2) (hva3 : IsRat w m vac0 vac1 vac2 vac3 c3) (_hk : k + m ≤ 25000) :
    Calls Tryz.prog 25 #[(.agg #[uaa0, uaa1, uaa2, uaa3, uab0, uab1, uab2, uab3, uac0, uac1, uac2, uac3]), (.agg #[vaa0, vaa1, vaa2, vaa3, vab0, vab1, vab2, vab3, vac0, vac1, vac2, vac3])] w fun e w' => (∃ t0 t1 t2 t3 t4 t5 t6 t7 t8 t9 t10 t11, e = .returned (.agg #[t0, t1, t2, t3, t4, t5, t6, t7, t8, t9, t10, t11]) ∧ IsRat w' (k + m + (k + m) + 1) t0 t1 t2 t3 (a2 * c3 - a3 * c2) ∧ IsRat w' (k + m + (k + m) + 1) t4 t5 t6 t7 (a3 * c1 - a1 * c3) ∧ IsRat w' (k + m + (k + m) + 1) t8 t9 t10 t11 (a1 * c2 - a2 * c1)) ∧ Gr w w' := by
 go_enter Tryz.func25, Tryz.ntmps25
 have hB := Gr.refl w
 refine wp_seq_k (fun K1 k1 => ?_)
 refine rg [0, 1, 2] ?_
 refine se ?_
 refine eb 32 #[uaa0, uaa1, uaa2, uaa3, uab0, uab1, uab2, uab3, uac0, uac1, uac2, uac3] 2 hB fun b2 w2 g2 L2 o2 q2 hB => ?_
 simp only [p3, p4]
 refine se ?_
 refine eb 32 #[vaa0, vaa1, vaa2, vaa3, vab0, vab1, vab2, vab3, vac0, vac1, vac2, vac3] 3 hB fun b3 w3 g3 L3 o3 q3 hB => ?_
 simp only [p3, p4]
 refine se ?_
 refine ea 32 #[(.bool false), (.slice none 0 0), (.bool false), (.slice none 0 0), (.bool false), (.slice none 0 0), (.bool false), (.slice none 0 0), (.bool false), (.slice none 0 0), (.bool false), (.slice none 0 0)] 4 hB fun b4 w4 g4 L4 o4 q4 hB => ?_
 replace L2 := L2.gr g3
 simp only [p3, p4]
 refine sq_nil ?_
 refine k1 _ _ ?_
 try clear k1 K1
 refine wp_seq_k (fun K5 k5 => ?_)
 refine rg [0] ?_
 refine se ?_
 refine ea 32 #[(.bool false), (.slice none 0 0), (.bool false), (.slice none 0 0), (.bool false), (.slice none 0 0), (.bool false), (.slice none 0 0), (.bool false), (.slice none 0 0), (.bool false), (.slice none 0 0)] 5 hB fun b6 w6 g6 L6 o6 q6 hB => ?_
 replace L2 := L2.gr g4
 have ne2_6 := L2.ne o6
 replace L3 := L3.gr g4
 have ne3_6 := L3.ne o6
 have ne4_6 := L4.ne o6
 simp only [p3, p4]
 refine sq_nil ?_
 refine k5 _ _ ?_
 try clear k5 K5
 refine wp_seq_k (fun K7 k7 => ?_)
 refine wp_seq_k (fun K8 k8 => ?_)
 refine rg [0] ?_
 refine sv 9 (.int .i64 0) ?_
 simp only [p3, p4]
 refine sq_nil ?_
 refine k8 _ _ ?_
 try clear k8 K8
 refine wp_block ?_
 refine wp_loop_rounds 4 ?_
 show Code.wp _ _ _ _ _
 refine wp_seq_k (fun K9 k9 => ?_)
 refine rg [0] ?_
 refine sv 10 (.bool true) ?_
 simp only [p3, p4]
 refine sq_nil ?_
 refine k9 _ _ ?_
 try clear k9 K9
 refine wp_seq_k (fun K10 k10 => ?_)
 refine wp_cond_true rfl ?_
 refine wp_skip ?_
 refine k10 _ _ ?_
 try clear k10 K10
 refine wp_seq_k (fun K11 k11 => ?_)
 refine wp_block ?_
 refine wp_seq_k (fun K12 k12 => ?_)
 refine rg [0, 1] ?_
 refine sv 11 (.int .i64 0) ?_
 simp only [p3, p4]
 refine sv 6 (.int .i64 0) ?_
 simp only [p3, p4]
 refine sq_nil ?_
 refine k12 _ _ ?_
 try clear k12 K12
 refine wp_seq_k (fun K13 k13 => ?_)
 refine rg [0, 1, 2, 3, 4, 5, 6, 7] ?_
 refine sv 12 (.int .i64 0) ?_
 simp only [p3, p4]
 refine sv 13 (.int .i64 1) ?_
 simp only [p3, p4]
 refine sv 14 (.int .i64 1) ?_
 simp only [p3, p4]
 refine sv 15 (.int .i64 0) ?_
 simp only [p3, p4]
 refine sv 16 (.int .i64 2) ?_
 simp only [p3, p4]
 refine sv 17 (.int .i64 2) ?_
 simp only [p3, p4]
 refine sv 7 (.int .i64 1) ?_
 simp only [p3, p4]
 refine sv 8 (.int .i64 2) ?_
 simp only [p3, p4]
 refine sq_nil ?_
 refine k13 _ _ ?_
 try clear k13 K13
 have gd25 := Gr.drew w6
 replace hB := hB.trans gd25
 replace L2 := L2.gr (g6.trans gd25)
 replace L3 := L3.gr (g6.trans gd25)
 refine wp_region_ord (fun w' => Lc w' b2 #[uaa0, uaa1, uaa2, uaa3, uab0, uab1, uab2, uab3, uac0, uac1, uac2, uac3] 32 ∧ Lc w' b3 #[vaa0, vaa1, vaa2, vaa3, vab0, vab1, vab2, vab3, vac0, vac1, vac2, vac3] 32) [(true, 0), (true, 1), (true, 2), (true, 3), (true, 4), (true, 5), (true, 6), (true, 8), (true, 9), (true, 10), (true, 11), (true, 12), (true, 13), (false, 7), (false, 14), (false, 15), (true, 16), (false, 17)] (by kernel_rfl) (by kernel_rfl) (by kernel_rfl) (by decide) (fun _ _ _ _ _ h => h) ⟨L2, L3⟩ ?_
 refine ov 18 (.int .i64 0) ?_
 simp only [p3, p4]
 refine ov 19 (.int .i64 1) ?_
 simp only [p3, p4]
 refine ov 20 (.pointer (some ⟨b2, 4, none⟩)) ?_
 simp only [p3, p4]
 refine ow 21 (.agg #[uab0, uab1, uab2, uab3]) rfl (fun w' hS => (rl 30 4 [uab0, uab1, uab2, uab3] hS.1)) ?_
 simp only [p3, p4]
 refine ov 22 (.int .i64 2) ?_
 simp only [p3, p4]
 refine ov 23 (.pointer (some ⟨b3, 8, none⟩)) ?_
 simp only [p3, p4]
 refine ow 24 (.agg #[vac0, vac1, vac2, vac3]) rfl (fun w' hS => (rl 30 8 [vac0, vac1, vac2, vac3] hS.2)) ?_
 simp only [p3, p4]
 refine ov 26 (.int .i64 2) ?_
 simp only [p3, p4]
 refine ov 27 (.pointer (some ⟨b2, 8, none⟩)) ?_
 simp only [p3, p4]
 refine ow 28 (.agg #[uac0, uac1, uac2, uac3]) rfl (fun w' hS => (rl 30 8 [uac0, uac1, uac2, uac3] hS.1)) ?_
 simp only [p3, p4]
 refine ov 29 (.int .i64 1) ?_
 simp only [p3, p4]
 refine ov 30 (.pointer (some ⟨b3, 4, none⟩)) ?_
 simp only [p3, p4]
 refine ow 31 (.agg #[vab0, vab1, vab2, vab3]) rfl (fun w' hS => (rl 30 4 [vab0, vab1, vab2, vab3] hS.2)) ?_
 simp only [p3, p4]
 refine oe ?_
 have kq28 := g2.kp.trans (g3.kp.trans (g4.kp.trans (g6.kp.trans gd25.kp)))
 replace hua2 := hua2.kp kq28
 replace hva3 := hva3.kp kq28
 refine ec 25 (mul_r hua2 hva3 (by omega)) ?_
 rintro e27 w27 ⟨⟨p27, q27, r27, s27, rfl, h27⟩, g27⟩
 refine ⟨_, rfl, ?_⟩
 replace hB := hB.trans g27
 replace L2 := L2.gr g27
 replace L3 := L3.gr g27
 refine ⟨⟨L2, L3⟩, ?_⟩
 simp only [p3, p4]
 refine oe ?_
 have kq31 := g2.kp.trans (g3.kp.trans (g4.kp.trans (g6.kp.trans (gd25.kp.trans g27.kp))))
 replace hua3 := hua3.kp kq31
 replace hva2 := hva2.kp kq31
 refine ec 32 (mul_r hua3 hva2 (by omega)) ?_
 rintro e30 w30 ⟨⟨p30, q30, r30, s30, rfl, h30⟩, g30⟩
 refine ⟨_, rfl, ?_⟩
 replace hB := hB.trans g30
 replace L2 := L2.gr g30
 replace L3 := L3.gr g30
 refine ⟨⟨L2, L3⟩, ?_⟩
 simp only [p3, p4]
 refine oe ?_
 replace h27 := h27.kp g30.kp
 refine ec 33 (sub_r h27 h30 (by omega)) ?_
 rintro e33 w33 ⟨⟨p33, q33, r33, s33, rfl, h33⟩, g33⟩
 refine ⟨_, rfl, ?_⟩
 replace hB := hB.trans g33
 replace L2 := L2.gr g33
 replace L3 := L3.gr g33
 refine ⟨⟨L2, L3⟩, ?_⟩
 simp only [p3, p4]
 refine ov 34 (.pointer (some ⟨b6, 0, none⟩)) ?_
 simp only [p3, p4]
 refine oe ?_
 replace L6 := L6.gr (gd25.trans (g27.trans (g30.trans g33)))
 refine es 30 0 (.agg #[p33, q33, r33, s33]) [p33, q33, r33, s33] #[p33, q33, r33, s33, (.bool false), (.slice none 0 0), (.bool false), (.slice none 0 0), (.bool false), (.slice none 0 0), (.bool false), (.slice none 0 0)] L6 hB q6 ⟨h33.one0, h33.one1, h33.one2, h33.one3, trivial⟩ fun w35 st35 kp35 L6 hB => ?_
 replace L2 := st35.lc L2 ne2_6
 replace L3 := st35.lc L3 ne3_6
 refine ⟨⟨L2, L3⟩, ?_⟩
 refine ord_nil ?_
 refine k11 _ _ ?_
 try clear k11 K11
 refine rg [0, 1] ?_
 refine sv 35 (.int .i64 1) ?_
 simp only [p3, p4]
 refine sv 9 (.int .i64 1) ?_
 simp only [p3, p4]
 refine sq_nil ?_
 show Code.rounds _ _ _ _ _ _
 show Code.wp _ _ _ _ _
 refine wp_seq_k (fun K36 k36 => ?_)
 refine rg [0] ?_
 refine sv 10 (.bool true) ?_
 simp only [p3, p4]
 refine sq_nil ?_
 refine k36 _ _ ?_
 try clear k36 K36
 refine wp_seq_k (fun K37 k37 => ?_)
 refine wp_cond_true rfl ?_
 refine wp_skip ?_
 refine k37 _ _ ?_
 try clear k37 K37
 refine wp_seq_k (fun K38 k38 => ?_)
 refine wp_block ?_
 refine wp_seq_k (fun K39 k39 => ?_)
 refine rg [0, 1] ?_
 refine sv 11 (.int .i64 1) ?_
 simp only [p3, p4]
 refine sv 6 (.int .i64 1) ?_
 simp only [p3, p4]
 refine sq_nil ?_
 refine k39 _ _ ?_
 try clear k39 K39
 refine wp_seq_k (fun K40 k40 => ?_)
 refine rg [0, 1, 2, 3, 4, 5, 6, 7] ?_
 refine sv 12 (.int .i64 1) ?_
 simp only [p3, p4]
 refine sv 13 (.int .i64 2) ?_
 simp only [p3, p4]
 refine sv 14 (.int .i64 2) ?_
 simp only [p3, p4]
 refine sv 15 (.int .i64 1) ?_
 simp only [p3, p4]
 refine sv 16 (.int .i64 3) ?_
 simp only [p3, p4]
 refine sv 17 (.int .i64 0) ?_
 simp only [p3, p4]
 refine sv 7 (.int .i64 2) ?_
 simp only [p3, p4]
 refine sv 8 (.int .i64 0) ?_
 simp only [p3, p4]
 refine sq_nil ?_
 refine k40 _ _ ?_
 try clear k40 K40
 have gd54 := Gr.drew w35
 replace hB := hB.trans gd54
 replace L2 := L2.gr gd54
 replace L3 := L3.gr gd54
 refine wp_region_ord (fun w' => Lc w' b2 #[uaa0, uaa1, uaa2, uaa3, uab0, uab1, uab2, uab3, uac0, uac1, uac2, uac3] 32 ∧ Lc w' b3 #[vaa0, vaa1, vaa2, vaa3, vab0, vab1, vab2, vab3, vac0, vac1, vac2, vac3] 32) [(true, 0), (true, 1), (true, 2), (true, 3), (true, 4), (true, 5), (true, 6), (true, 8), (true, 9), (true, 10), (true, 11), (true, 12), (true, 13), (false, 7), (false, 14), (false, 15), (true, 16), (false, 17)] (by kernel_rfl) (by kernel_rfl) (by kernel_rfl) (by decide) (fun _ _ _ _ _ h => h) ⟨L2, L3⟩ ?_
 refine ov 18 (.int .i64 1) ?_
 simp only [p3, p4]
 refine ov 19 (.int .i64 2) ?_
 simp only [p3, p4]
 refine ov 20 (.pointer (some ⟨b2, 8, none⟩)) ?_
 simp only [p3, p4]
 refine ow 21 (.agg #[uac0, uac1, uac2, uac3]) rfl (fun w' hS => (rl 30 8 [uac0, uac1, uac2, uac3] hS.1)) ?_
 simp only [p3, p4]
 refine ov 22 (.int .i64 0) ?_
 simp only [p3, p4]
 refine ov 23 (.pointer (some ⟨b3, 0, none⟩)) ?_
 simp only [p3, p4]
 refine ow 24 (.agg #[vaa0, vaa1, vaa2, vaa3]) rfl (fun w' hS => (rl 30 0 [vaa0, vaa1, vaa2, vaa3] hS.2)) ?_
 simp only [p3, p4]
 refine ov 26 (.int .i64 0) ?_
 simp only [p3, p4]
 refine ov 27 (.pointer (some ⟨b2, 0, none⟩)) ?_
 simp only [p3, p4]
 refine ow 28 (.agg #[uaa0, uaa1, uaa2, uaa3]) rfl (fun w' hS => (rl 30 0 [uaa0, uaa1, uaa2, uaa3] hS.1)) ?_
 simp only [p3, p4]
 refine ov 29 (.int .i64 2) ?_
 simp only [p3, p4]
 refine ov 30 (.pointer (some ⟨b3, 8, none⟩)) ?_
 simp only [p3, p4]
 refine ow 31 (.agg #[vac0, vac1, vac2, vac3]) rfl (fun w' hS => (rl 30 8 [vac0, vac1, vac2, vac3] hS.2)) ?_
 simp only [p3, p4]
 refine oe ?_
 have kq57 := g30.kp.trans (g33.kp.trans (kp35.trans gd54.kp))
 replace hua3 := hua3.kp kq57
 have kq58 := g2.kp.trans (g3.kp.trans (g4.kp.trans (g6.kp.trans (gd25.kp.trans (g27.kp.trans (g30.kp.trans (g33.kp.trans (kp35.trans gd54.kp))))))))
 replace hva1 := hva1.kp kq58
 refine ec 25 (mul_r hua3 hva1 (by omega)) ?_
 rintro e56 w56 ⟨⟨p56, q56, r56, s56, rfl, h56⟩, g56⟩
 refine ⟨_, rfl, ?_⟩
 replace hB := hB.trans g56
 replace L2 := L2.gr g56
 replace L3 := L3.gr g56
 refine ⟨⟨L2, L3⟩, ?_⟩
 simp only [p3, p4]
 refine oe ?_
 have kq61 := g2.kp.trans (g3.kp.trans (g4.kp.trans (g6.kp.trans (gd25.kp.trans (g27.kp.trans (g30.kp.trans (g33.kp.trans (kp35.trans (gd54.kp.trans g56.kp)))))))))
 replace hua1 := hua1.kp kq61
 have kq62 := g27.kp.trans (g30.kp.trans (g33.kp.trans (kp35.trans (gd54.kp.trans g56.kp))))
 replace hva3 := hva3.kp kq62
 refine ec 32 (mul_r hua1 hva3 (by omega)) ?_
 rintro e60 w60 ⟨⟨p60, q60, r60, s60, rfl, h60⟩, g60⟩
 refine ⟨_, rfl, ?_⟩
 replace hB := hB.trans g60
 replace L2 := L2.gr g60
 replace L3 := L3.gr g60
 refine ⟨⟨L2, L3⟩, ?_⟩
 simp only [p3, p4]
 refine oe ?_
 replace h56 := h56.kp g60.kp
 refine ec 33 (sub_r h56 h60 (by omega)) ?_
 rintro e64 w64 ⟨⟨p64, q64, r64, s64, rfl, h64⟩, g64⟩
 refine ⟨_, rfl, ?_⟩
 replace hB := hB.trans g64
 replace L2 := L2.gr g64
 replace L3 := L3.gr g64
 refine ⟨⟨L2, L3⟩, ?_⟩
 simp only [p3, p4]
 refine ov 34 (.pointer (some ⟨b6, 4, none⟩)) ?_
 simp only [p3, p4]
 refine oe ?_
 replace L6 := L6.gr (gd54.trans (g56.trans (g60.trans g64)))
 refine es 30 4 (.agg #[p64, q64, r64, s64]) [p64, q64, r64, s64] #[p33, q33, r33, s33, p64, q64, r64, s64, (.bool false), (.slice none 0 0), (.bool false), (.slice none 0 0)] L6 hB q6 ⟨h64.one0, h64.one1, h64.one2, h64.one3, trivial⟩ fun w66 st66 kp66 L6 hB => ?_
 replace L2 := st66.lc L2 ne2_6
 replace L3 := st66.lc L3 ne3_6
 refine ⟨⟨L2, L3⟩, ?_⟩
 refine ord_nil ?_
 refine k38 _ _ ?_
 try clear k38 K38
 refine rg [0, 1] ?_
 refine sv 35 (.int .i64 2) ?_
 simp only [p3, p4]
 refine sv 9 (.int .i64 2) ?_
 simp only [p3, p4]
 refine sq_nil ?_
 show Code.rounds _ _ _ _ _ _
 show Code.wp _ _ _ _ _
 refine wp_seq_k (fun K67 k67 => ?_)
 refine rg [0] ?_
 refine sv 10 (.bool true) ?_
 simp only [p3, p4]
 refine sq_nil ?_
 refine k67 _ _ ?_
 try clear k67 K67
 refine wp_seq_k (fun K68 k68 => ?_)
 refine wp_cond_true rfl ?_
 refine wp_skip ?_
 refine k68 _ _ ?_
 try clear k68 K68
 refine wp_seq_k (fun K69 k69 => ?_)
 refine wp_block ?_
 refine wp_seq_k (fun K70 k70 => ?_)
 refine rg [0, 1] ?_
 refine sv 11 (.int .i64 2) ?_
 simp only [p3, p4]
 refine sv 6 (.int .i64 2) ?_
 simp only [p3, p4]
 refine sq_nil ?_
 refine k70 _ _ ?_
 try clear k70 K70
 refine wp_seq_k (fun K71 k71 => ?_)
 refine rg [0, 1, 2, 3, 4, 5, 6, 7] ?_
 refine sv 12 (.int .i64 2) ?_
 simp only [p3, p4]
 refine sv 13 (.int .i64 3) ?_
 simp only [p3, p4]
 refine sv 14 (.int .i64 0) ?_
 simp only [p3, p4]
 refine sv 15 (.int .i64 2) ?_
 simp only [p3, p4]
 refine sv 16 (.int .i64 4) ?_
 simp only [p3, p4]
 refine sv 17 (.int .i64 1) ?_
 simp only [p3, p4]
 refine sv 7 (.int .i64 0) ?_
 simp only [p3, p4]
 refine sv 8 (.int .i64 1) ?_
 simp only [p3, p4]
 refine sq_nil ?_
 refine k71 _ _ ?_
 try clear k71 K71
 have gd85 := Gr.drew w66
 replace hB := hB.trans gd85
 replace L2 := L2.gr gd85
 replace L3 := L3.gr gd85
 refine wp_region_ord (fun w' => Lc w' b2 #[uaa0, uaa1, uaa2, uaa3, uab0, uab1, uab2, uab3, uac0, uac1, uac2, uac3] 32 ∧ Lc w' b3 #[vaa0, vaa1, vaa2, vaa3, vab0, vab1, vab2, vab3, vac0, vac1, vac2, vac3] 32) [(true, 0), (true, 1), (true, 2), (true, 3), (true, 4), (true, 5), (true, 6), (true, 8), (true, 9), (true, 10), (true, 11), (true, 12), (true, 13), (false, 7), (false, 14), (false, 15), (true, 16), (false, 17)] (by kernel_rfl) (by kernel_rfl) (by kernel_rfl) (by decide) (fun _ _ _ _ _ h => h) ⟨L2, L3⟩ ?_
 refine ov 18 (.int .i64 2) ?_
 simp only [p3, p4]
 refine ov 19 (.int .i64 0) ?_
 simp only [p3, p4]
 refine ov 20 (.pointer (some ⟨b2, 0, none⟩)) ?_
 simp only [p3, p4]
 refine ow 21 (.agg #[uaa0, uaa1, uaa2, uaa3]) rfl (fun w' hS => (rl 30 0 [uaa0, uaa1, uaa2, uaa3] hS.1)) ?_
 simp only [p3, p4]
 refine ov 22 (.int .i64 1) ?_
 simp only [p3, p4]
 refine ov 23 (.pointer (some ⟨b3, 4, none⟩)) ?_
 simp only [p3, p4]
 refine ow 24 (.agg #[vab0, vab1, vab2, vab3]) rfl (fun w' hS => (rl 30 4 [vab0, vab1, vab2, vab3] hS.2)) ?_
 simp only [p3, p4]
 refine ov 26 (.int .i64 1) ?_
 simp only [p3, p4]
 refine ov 27 (.pointer (some ⟨b2, 4, none⟩)) ?_
 simp only [p3, p4]
 refine ow 28 (.agg #[uab0, uab1, uab2, uab3]) rfl (fun w' hS => (rl 30 4 [uab0, uab1, uab2, uab3] hS.1)) ?_
 simp only [p3, p4]
 refine ov 29 (.int .i64 0) ?_
 simp only [p3, p4]
 refine ov 30 (.pointer (some ⟨b3, 0, none⟩)) ?_
 simp only [p3, p4]
 refine ow 31 (.agg #[vaa0, vaa1, vaa2, vaa3]) rfl (fun w' hS => (rl 30 0 [vaa0, vaa1, vaa2, vaa3] hS.2)) ?_
 simp only [p3, p4]
 refine oe ?_
 have kq88 := g60.kp.trans (g64.kp.trans (kp66.trans gd85.kp))
 replace hua1 := hua1.kp kq88
 have kq89 := g30.kp.trans (g33.kp.trans (kp35.trans (gd54.kp.trans (g56.kp.trans (g60.kp.trans (g64.kp.trans (kp66.trans gd85.kp)))))))
 replace hva2 := hva2.kp kq89
 refine ec 25 (mul_r hua1 hva2 (by omega)) ?_
 rintro e87 w87 ⟨⟨p87, q87, r87, s87, rfl, h87⟩, g87⟩
 refine ⟨_, rfl, ?_⟩
 replace hB := hB.trans g87
 replace L2 := L2.gr g87
 replace L3 := L3.gr g87
 refine ⟨⟨L2, L3⟩, ?_⟩
 simp only [p3, p4]
 refine oe ?_
 have kq92 := g27.kp.trans (g30.kp.trans (g33.kp.trans (kp35.trans (gd54.kp.trans (g56.kp.trans (g60.kp.trans (g64.kp.trans (kp66.trans (gd85.kp.trans g87.kp)))))))))
 replace hua2 := hua2.kp kq92
 have kq93 := g56.kp.trans (g60.kp.trans (g64.kp.trans (kp66.trans (gd85.kp.trans g87.kp))))
 replace hva1 := hva1.kp kq93
 refine ec 32 (mul_r hua2 hva1 (by omega)) ?_
 rintro e91 w91 ⟨⟨p91, q91, r91, s91, rfl, h91⟩, g91⟩
 refine ⟨_, rfl, ?_⟩
 replace hB := hB.trans g91
 replace L2 := L2.gr g91
 replace L3 := L3.gr g91
 refine ⟨⟨L2, L3⟩, ?_⟩
 simp only [p3, p4]
 refine oe ?_
 replace h87 := h87.kp g91.kp
 refine ec 33 (sub_r h87 h91 (by omega)) ?_
 rintro e95 w95 ⟨⟨p95, q95, r95, s95, rfl, h95⟩, g95⟩
 refine ⟨_, rfl, ?_⟩
 replace hB := hB.trans g95
 replace L2 := L2.gr g95
 replace L3 := L3.gr g95
 refine ⟨⟨L2, L3⟩, ?_⟩
 simp only [p3, p4]
 refine ov 34 (.pointer (some ⟨b6, 8, none⟩)) ?_
 simp only [p3, p4]
 refine oe ?_
 replace L6 := L6.gr (gd85.trans (g87.trans (g91.trans g95)))
 refine es 30 8 (.agg #[p95, q95, r95, s95]) [p95, q95, r95, s95] #[p33, q33, r33, s33, p64, q64, r64, s64, p95, q95, r95, s95] L6 hB q6 ⟨h95.one0, h95.one1, h95.one2, h95.one3, trivial⟩ fun w97 st97 kp97 L6 hB => ?_
 replace L2 := st97.lc L2 ne2_6
 replace L3 := st97.lc L3 ne3_6
 refine ⟨⟨L2, L3⟩, ?_⟩
 refine ord_nil ?_
 refine k69 _ _ ?_
 try clear k69 K69
 refine rg [0, 1] ?_
 refine sv 35 (.int .i64 3) ?_
 simp only [p3, p4]
 refine sv 9 (.int .i64 3) ?_
 simp only [p3, p4]
 refine sq_nil ?_
 show Code.rounds _ _ _ _ _ _
 show Code.wp _ _ _ _ _
 refine wp_seq_k (fun K98 k98 => ?_)
 refine rg [0] ?_
 refine sv 10 (.bool false) ?_
 simp only [p3, p4]
 refine sq_nil ?_
 refine k98 _ _ ?_
 try clear k98 K98
 refine wp_seq_k (fun K99 k99 => ?_)
 refine wp_cond_false rfl ?_
 refine wp_exit ?_
 simp only [Exit.then, Exit.inBlock, ↓reduceIte]
 refine k7 _ _ ?_
 try clear k7 K7
 refine wp_seq_k (fun K100 k100 => ?_)
 refine rg [0, 1] ?_
 refine sw 36 (.agg #[p33, q33, r33, s33, p64, q64, r64, s64, p95, q95, r95, s95]) rfl (rl 32 0 [p33, q33, r33, s33, p64, q64, r64, s64, p95, q95, r95, s95] L6) ?_
 simp only [p3, p4]
 refine se ?_
 replace L4 := st97.lc ((st66.lc ((st35.lc (L4.gr (g6.trans (gd25.trans (g27.trans (g30.trans g33))))) ne4_6).gr (gd54.trans (g56.trans (g60.trans g64)))) ne4_6).gr (gd85.trans (g87.trans (g91.trans g95)))) ne4_6
 refine es 32 0 (.agg #[p33, q33, r33, s33, p64, q64, r64, s64, p95, q95, r95, s95]) [p33, q33, r33, s33, p64, q64, r64, s64, p95, q95, r95, s95] #[p33, q33, r33, s33, p64, q64, r64, s64, p95, q95, r95, s95] L4 hB q4 ⟨h33.one0, h33.one1, h33.one2, h33.one3, h64.one0, h64.one1, h64.one2, h64.one3, h95.one0, h95.one1, h95.one2, h95.one3, trivial⟩ fun w101 st101 kp101 L4 hB => ?_
 refine sq_nil ?_
 refine k100 _ _ ?_
 try clear k100 K100
 refine wp_ret ?_
 refine bodyPost_ret (v := (.agg #[p33, q33, r33, s33, p64, q64, r64, s64, p95, q95, r95, s95])) (ret_cell _ _ _ rfl rfl L4 (by kernel_rfl)) rfl ⟨?_, hB⟩
 have kq102 := kp35.trans (gd54.kp.trans (g56.kp.trans (g60.kp.trans (g64.kp.trans (kp66.trans (gd85.kp.trans (g87.kp.trans (g91.kp.trans (g95.kp.trans (kp97.trans kp101))))))))))
 replace h33 := h33.kp kq102
 have kq103 := kp66.trans (gd85.kp.trans (g87.kp.trans (g91.kp.trans (g95.kp.trans (kp97.trans kp101)))))
 replace h64 := h64.kp kq103
 have kq104 := kp97.trans kp101
 replace h95 := h95.kp kq104
 exact ⟨_, _, _, _, _, _, _, _, _, _, _, _, rfl, h33, h64, h95⟩

end Go.Proofs.YtlcmllfacolkaaaGreatDoor
/- Printed by a program of the prover's: the comparisons of vectors. -/
namespace Go.Proofs.YtlcmllfacolkaaaGreatDoor
open Go.RowKit

/-- the order of two vectors -/
def vcmp (a1 a2 a3 c1 c2 c3 : Rat) : Int := if rcmp a1 c1 = 0 then if rcmp a2 c2 = 0 then rcmp a3 c3 else rcmp a2 c2 else rcmp a1 c1
theorem vcmp_zero {a1 a2 a3 c1 c2 c3 : Rat} : vcmp a1 a2 a3 c1 c2 c3 = 0 ↔ a1 = c1 ∧ a2 = c2 ∧ a3 = c3 := by
  unfold vcmp
  rw [← rcmp_zero (a := a1), ← rcmp_zero (a := a2), ← rcmp_zero (a := a3)]
  split
  · split <;> simp_all
  · simp_all

set_option maxRecDepth 100000 in
set_option maxHeartbeats 1000000 in
theorem vcomp_1 {k m : Nat} {uaa0 uaa1 uaa2 uaa3 uab0 uab1 uab2 uab3 uac0 uac1 uac2 uac3 : Value} {a1 a2 a3 : Rat} {vaa0 vaa1 vaa2 vaa3 vab0 vab1 vab2 vab3 vac0 vac1 vac2 vac3 : Value} {c1 c2 c3 : Rat} {w : World} (hua1 : IsRat w k uaa0 uaa1 uaa2 uaa3 a1) (_hua2 : IsRat w k uab0 uab1 uab2 uab3 a2) (_hua3 : IsRat w k uac0 uac1 uac2 uac3 a3) (hva1 : IsRat w m vaa0 vaa1 vaa2 vaa3 c1) (_hva2 : IsRat w m vab0 vab1 vab2 vab3 c2) (_hva3 : IsRat w m vac0 vac1 vac2 vac3 c3) (_hk : k + m ≤ 100000) (e1 : (rcmp a1 c1 != (0 : Int)) = true) :
    Calls Tryz.prog 32 #[(.agg #[uaa0, uaa1, uaa2, uaa3, uab0, uab1, uab2, uab3, uac0, uac1, uac2, uac3]), (.agg #[vaa0, vaa1, vaa2, vaa3, vab0, vab1, vab2, vab3, vac0, vac1, vac2, vac3])] w fun e w' => e = .returned (.int .i64 (rcmp a1 c1)) ∧ Gr w w' := by
 go_enter Tryz.func32, Tryz.ntmps32
 have hB := Gr.refl w
 refine wp_seq_k (fun K1 k1 => ?_)
 refine rg [0, 1, 2] ?_
 refine se ?_
 refine eb 32 #[uaa0, uaa1, uaa2, uaa3, uab0, uab1, uab2, uab3, uac0, uac1, uac2, uac3] 2 hB fun b2 w2 g2 L2 o2 q2 hB => ?_
 simp only [p3, p4]
 refine se ?_
 refine eb 32 #[vaa0, vaa1, vaa2, vaa3, vab0, vab1, vab2, vab3, vac0, vac1, vac2, vac3] 3 hB fun b3 w3 g3 L3 o3 q3 hB => ?_
 simp only [p3, p4]
 refine sv 4 (.int .i64 0) ?_
 simp only [p3, p4]
 refine sq_nil ?_
 refine k1 _ _ ?_
 try clear k1 K1
 refine wp_seq_k (fun K4 k4 => ?_)
 refine wp_seq_k (fun K5 k5 => ?_)
 refine rg [0] ?_
 refine sv 7 (.int .i64 0) ?_
 simp only [p3, p4]
 refine sq_nil ?_
 refine k5 _ _ ?_
 try clear k5 K5
 refine wp_block ?_
 refine wp_loop_rounds 4 ?_
 show Code.wp _ _ _ _ _
 refine wp_seq_k (fun K6 k6 => ?_)
 refine rg [0] ?_
 refine sv 8 (.bool true) ?_
 simp only [p3, p4]
 refine sq_nil ?_
 refine k6 _ _ ?_
 try clear k6 K6
 refine wp_seq_k (fun K7 k7 => ?_)
 refine wp_cond_true rfl ?_
 refine wp_skip ?_
 refine k7 _ _ ?_
 try clear k7 K7
 refine wp_seq_k (fun K8 k8 => ?_)
 refine wp_block ?_
 refine wp_seq_k (fun K9 k9 => ?_)
 refine rg [0, 1] ?_
 refine sv 9 (.int .i64 0) ?_
 simp only [p3, p4]
 refine sv 5 (.int .i64 0) ?_
 simp only [p3, p4]
 refine sq_nil ?_
 refine k9 _ _ ?_
 try clear k9 K9
 refine wp_seq_k (fun K10 k10 => ?_)
 have gd15 := Gr.drew w3
 replace hB := hB.trans gd15
 replace L2 := L2.gr (g3.trans gd15)
 replace L3 := L3.gr gd15
 refine wp_region_ord (fun w' => Lc w' b2 #[uaa0, uaa1, uaa2, uaa3, uab0, uab1, uab2, uab3, uac0, uac1, uac2, uac3] 32 ∧ Lc w' b3 #[vaa0, vaa1, vaa2, vaa3, vab0, vab1, vab2, vab3, vac0, vac1, vac2, vac3] 32) [(true, 0), (true, 1), (true, 2), (true, 3), (true, 4), (true, 5), (false, 6), (true, 7)] (by kernel_rfl) (by kernel_rfl) (by kernel_rfl) (by decide) (fun _ _ _ _ _ h => h) ⟨L2, L3⟩ ?_
 refine ov 10 (.int .i64 0) ?_
 simp only [p3, p4]
 refine ov 11 (.pointer (some ⟨b2, 0, none⟩)) ?_
 simp only [p3, p4]
 refine ow 12 (.agg #[uaa0, uaa1, uaa2, uaa3]) rfl (fun w' hS => (rl 30 0 [uaa0, uaa1, uaa2, uaa3] hS.1)) ?_
 simp only [p3, p4]
 refine ov 13 (.int .i64 0) ?_
 simp only [p3, p4]
 refine ov 14 (.pointer (some ⟨b3, 0, none⟩)) ?_
 simp only [p3, p4]
 refine ow 15 (.agg #[vaa0, vaa1, vaa2, vaa3]) rfl (fun w' hS => (rl 30 0 [vaa0, vaa1, vaa2, vaa3] hS.2)) ?_
 simp only [p3, p4]
 refine oe ?_
 have kq18 := g2.kp.trans (g3.kp.trans gd15.kp)
 replace hua1 := hua1.kp kq18
 replace hva1 := hva1.kp kq18
 refine ec 16 (compare_r hua1 hva1 (by omega)) ?_
 rintro e17 w17 ⟨rfl, g17⟩
 refine ⟨_, rfl, ?_⟩
 replace hB := hB.trans g17
 replace L2 := L2.gr g17
 replace L3 := L3.gr g17
 refine ⟨⟨L2, L3⟩, ?_⟩
 simp only [p3, p4]
 refine ov 6 (.int .i64 (rcmp a1 c1)) ?_
 simp only [p3, p4]
 refine ord_nil ?_
 refine k10 _ _ ?_
 try clear k10 K10
 refine wp_seq_k (fun K19 k19 => ?_)
 refine rg [0, 1] ?_
 refine sv 17 (.int .i64 (rcmp a1 c1)) ?_
 simp only [p3, p4]
 refine sw 18 (.bool true) rfl (RunV.bool (x := (rcmp a1 c1 != (0 : Int))) (rvk (by kernel_rfl)) e1) ?_
 simp only [p3, p4]
 refine sq_nil ?_
 refine k19 _ _ ?_
 try clear k19 K19
 refine wp_cond_true rfl ?_
 refine wp_seq_k (fun K20 k20 => ?_)
 refine rg [0, 1] ?_
 refine sv 19 (.int .i64 (rcmp a1 c1)) ?_
 simp only [p3, p4]
 refine sv 4 (.int .i64 (rcmp a1 c1)) ?_
 simp only [p3, p4]
 refine sq_nil ?_
 refine k20 _ _ ?_
 try clear k20 K20
 refine wp_ret ?_
 simp only [Exit.then, Exit.inBlock]
 refine bodyPost_ret (v := (.int .i64 (rcmp a1 c1))) (ret_tmp rfl rfl) rfl ⟨?_, hB⟩
 exact rfl

set_option maxRecDepth 100000 in
set_option maxHeartbeats 1000000 in
theorem vcomp_2 {k m : Nat} {uaa0 uaa1 uaa2 uaa3 uab0 uab1 uab2 uab3 uac0 uac1 uac2 uac3 : Value} {a1 a2 a3 : Rat} {vaa0 vaa1 vaa2 vaa3 vab0 vab1 vab2 vab3 vac0 vac1 vac2 vac3 : Value} {c1 c2 c3 : Rat} {w : World} (hua1 : IsRat w k uaa0 uaa1 uaa2 uaa3 a1) (hua2 : IsRat w k uab0 uab1 uab2 uab3 a2) (_hua3 : IsRat w k uac0 uac1 uac2 uac3 a3) (hva1 : IsRat w m vaa0 vaa1 vaa2 vaa3 c1) (hva2 : IsRat w m vab0 vab1 vab2 vab3 c2) (_hva3 : IsRat w m vac0 vac1 vac2 vac3 c3) (_hk : k + m ≤ 100000) (e1 : (rcmp a1 c1 != (0 : Int)) = false) (e2 : (rcmp a2 c2 != (0 : Int)) = true) :
    Calls Tryz.prog 32 #[(.agg #[uaa0, uaa1, uaa2, uaa3, uab0, uab1, uab2, uab3, uac0, uac1, uac2, uac3]), (.agg #[vaa0, vaa1, vaa2, vaa3, vab0, vab1, vab2, vab3, vac0, vac1, vac2, vac3])] w fun e w' => e = .returned (.int .i64 (rcmp a2 c2)) ∧ Gr w w' := by
 go_enter Tryz.func32, Tryz.ntmps32
 have hB := Gr.refl w
 refine wp_seq_k (fun K1 k1 => ?_)
 refine rg [0, 1, 2] ?_
 refine se ?_
 refine eb 32 #[uaa0, uaa1, uaa2, uaa3, uab0, uab1, uab2, uab3, uac0, uac1, uac2, uac3] 2 hB fun b2 w2 g2 L2 o2 q2 hB => ?_
 simp only [p3, p4]
 refine se ?_
 refine eb 32 #[vaa0, vaa1, vaa2, vaa3, vab0, vab1, vab2, vab3, vac0, vac1, vac2, vac3] 3 hB fun b3 w3 g3 L3 o3 q3 hB => ?_
 simp only [p3, p4]
 refine sv 4 (.int .i64 0) ?_
 simp only [p3, p4]
 refine sq_nil ?_
 refine k1 _ _ ?_
 try clear k1 K1
 refine wp_seq_k (fun K4 k4 => ?_)
 refine wp_seq_k (fun K5 k5 => ?_)
 refine rg [0] ?_
 refine sv 7 (.int .i64 0) ?_
 simp only [p3, p4]
 refine sq_nil ?_
 refine k5 _ _ ?_
 try clear k5 K5
 refine wp_block ?_
 refine wp_loop_rounds 4 ?_
 show Code.wp _ _ _ _ _
 refine wp_seq_k (fun K6 k6 => ?_)
 refine rg [0] ?_
 refine sv 8 (.bool true) ?_
 simp only [p3, p4]
 refine sq_nil ?_
 refine k6 _ _ ?_
 try clear k6 K6
 refine wp_seq_k (fun K7 k7 => ?_)
 refine wp_cond_true rfl ?_
 refine wp_skip ?_
 refine k7 _ _ ?_
 try clear k7 K7
 refine wp_seq_k (fun K8 k8 => ?_)
 refine wp_block ?_
 refine wp_seq_k (fun K9 k9 => ?_)
 refine rg [0, 1] ?_
 refine sv 9 (.int .i64 0) ?_
 simp only [p3, p4]
 refine sv 5 (.int .i64 0) ?_
 simp only [p3, p4]
 refine sq_nil ?_
 refine k9 _ _ ?_
 try clear k9 K9
 refine wp_seq_k (fun K10 k10 => ?_)
 have gd15 := Gr.drew w3
 replace hB := hB.trans gd15
 replace L2 := L2.gr (g3.trans gd15)
 replace L3 := L3.gr gd15
 refine wp_region_ord (fun w' => Lc w' b2 #[uaa0, uaa1, uaa2, uaa3, uab0, uab1, uab2, uab3, uac0, uac1, uac2, uac3] 32 ∧ Lc w' b3 #[vaa0, vaa1, vaa2, vaa3, vab0, vab1, vab2, vab3, vac0, vac1, vac2, vac3] 32) [(true, 0), (true, 1), (true, 2), (true, 3), (true, 4), (true, 5), (false, 6), (true, 7)] (by kernel_rfl) (by kernel_rfl) (by kernel_rfl) (by decide) (fun _ _ _ _ _ h => h) ⟨L2, L3⟩ ?_
 refine ov 10 (.int .i64 0) ?_
 simp only [p3, p4]
 refine ov 11 (.pointer (some ⟨b2, 0, none⟩)) ?_
 simp only [p3, p4]
 refine ow 12 (.agg #[uaa0, uaa1, uaa2, uaa3]) rfl (fun w' hS => (rl 30 0 [uaa0, uaa1, uaa2, uaa3] hS.1)) ?_
 simp only [p3, p4]
 refine ov 13 (.int .i64 0) ?_
 simp only [p3, p4]
 refine ov 14 (.pointer (some ⟨b3, 0, none⟩)) ?_
 simp only [p3, p4]
 refine ow 15 (.agg #[vaa0, vaa1, vaa2, vaa3]) rfl (fun w' hS => (rl 30 0 [vaa0, vaa1, vaa2, vaa3] hS.2)) ?_
 simp only [p3, p4]
 refine oe ?_
 have kq18 := g2.kp.trans (g3.kp.trans gd15.kp)
 replace hua1 := hua1.kp kq18
 replace hva1 := hva1.kp kq18
 refine ec 16 (compare_r hua1 hva1 (by omega)) ?_
 rintro e17 w17 ⟨rfl, g17⟩
 refine ⟨_, rfl, ?_⟩
 replace hB := hB.trans g17
 replace L2 := L2.gr g17
 replace L3 := L3.gr g17
 refine ⟨⟨L2, L3⟩, ?_⟩
 simp only [p3, p4]
 refine ov 6 (.int .i64 (rcmp a1 c1)) ?_
 simp only [p3, p4]
 refine ord_nil ?_
 refine k10 _ _ ?_
 try clear k10 K10
 refine wp_seq_k (fun K19 k19 => ?_)
 refine rg [0, 1] ?_
 refine sv 17 (.int .i64 (rcmp a1 c1)) ?_
 simp only [p3, p4]
 refine sw 18 (.bool false) rfl (RunV.bool (x := (rcmp a1 c1 != (0 : Int))) (rvk (by kernel_rfl)) e1) ?_
 simp only [p3, p4]
 refine sq_nil ?_
 refine k19 _ _ ?_
 try clear k19 K19
 refine wp_cond_false rfl ?_
 refine wp_skip ?_
 refine k8 _ _ ?_
 try clear k8 K8
 refine rg [0, 1] ?_
 refine sv 20 (.int .i64 1) ?_
 simp only [p3, p4]
 refine sv 7 (.int .i64 1) ?_
 simp only [p3, p4]
 refine sq_nil ?_
 show Code.rounds _ _ _ _ _ _
 show Code.wp _ _ _ _ _
 refine wp_seq_k (fun K20 k20 => ?_)
 refine rg [0] ?_
 refine sv 8 (.bool true) ?_
 simp only [p3, p4]
 refine sq_nil ?_
 refine k20 _ _ ?_
 try clear k20 K20
 refine wp_seq_k (fun K21 k21 => ?_)
 refine wp_cond_true rfl ?_
 refine wp_skip ?_
 refine k21 _ _ ?_
 try clear k21 K21
 refine wp_seq_k (fun K22 k22 => ?_)
 refine wp_block ?_
 refine wp_seq_k (fun K23 k23 => ?_)
 refine rg [0, 1] ?_
 refine sv 9 (.int .i64 1) ?_
 simp only [p3, p4]
 refine sv 5 (.int .i64 1) ?_
 simp only [p3, p4]
 refine sq_nil ?_
 refine k23 _ _ ?_
 try clear k23 K23
 refine wp_seq_k (fun K24 k24 => ?_)
 have gd29 := Gr.drew w17
 replace hB := hB.trans gd29
 replace L2 := L2.gr gd29
 replace L3 := L3.gr gd29
 refine wp_region_ord (fun w' => Lc w' b2 #[uaa0, uaa1, uaa2, uaa3, uab0, uab1, uab2, uab3, uac0, uac1, uac2, uac3] 32 ∧ Lc w' b3 #[vaa0, vaa1, vaa2, vaa3, vab0, vab1, vab2, vab3, vac0, vac1, vac2, vac3] 32) [(true, 0), (true, 1), (true, 2), (true, 3), (true, 4), (true, 5), (false, 6), (true, 7)] (by kernel_rfl) (by kernel_rfl) (by kernel_rfl) (by decide) (fun _ _ _ _ _ h => h) ⟨L2, L3⟩ ?_
 refine ov 10 (.int .i64 1) ?_
 simp only [p3, p4]
 refine ov 11 (.pointer (some ⟨b2, 4, none⟩)) ?_
 simp only [p3, p4]
 refine ow 12 (.agg #[uab0, uab1, uab2, uab3]) rfl (fun w' hS => (rl 30 4 [uab0, uab1, uab2, uab3] hS.1)) ?_
 simp only [p3, p4]
 refine ov 13 (.int .i64 1) ?_
 simp only [p3, p4]
 refine ov 14 (.pointer (some ⟨b3, 4, none⟩)) ?_
 simp only [p3, p4]
 refine ow 15 (.agg #[vab0, vab1, vab2, vab3]) rfl (fun w' hS => (rl 30 4 [vab0, vab1, vab2, vab3] hS.2)) ?_
 simp only [p3, p4]
 refine oe ?_
 have kq32 := g2.kp.trans (g3.kp.trans (gd15.kp.trans (g17.kp.trans gd29.kp)))
 replace hua2 := hua2.kp kq32
 replace hva2 := hva2.kp kq32
 refine ec 16 (compare_r hua2 hva2 (by omega)) ?_
 rintro e31 w31 ⟨rfl, g31⟩
 refine ⟨_, rfl, ?_⟩
 replace hB := hB.trans g31
 replace L2 := L2.gr g31
 replace L3 := L3.gr g31
 refine ⟨⟨L2, L3⟩, ?_⟩
 simp only [p3, p4]
 refine ov 6 (.int .i64 (rcmp a2 c2)) ?_
 simp only [p3, p4]
 refine ord_nil ?_
 refine k24 _ _ ?_
 try clear k24 K24
 refine wp_seq_k (fun K33 k33 => ?_)
 refine rg [0, 1] ?_
 refine sv 17 (.int .i64 (rcmp a2 c2)) ?_
 simp only [p3, p4]
 refine sw 18 (.bool true) rfl (RunV.bool (x := (rcmp a2 c2 != (0 : Int))) (rvk (by kernel_rfl)) e2) ?_
 simp only [p3, p4]
 refine sq_nil ?_
 refine k33 _ _ ?_
 try clear k33 K33
 refine wp_cond_true rfl ?_
 refine wp_seq_k (fun K34 k34 => ?_)
 refine rg [0, 1] ?_
 refine sv 19 (.int .i64 (rcmp a2 c2)) ?_
 simp only [p3, p4]
 refine sv 4 (.int .i64 (rcmp a2 c2)) ?_
 simp only [p3, p4]
 refine sq_nil ?_
 refine k34 _ _ ?_
 try clear k34 K34
 refine wp_ret ?_
 simp only [Exit.then, Exit.inBlock]
 refine bodyPost_ret (v := (.int .i64 (rcmp a2 c2))) (ret_tmp rfl rfl) rfl ⟨?_, hB⟩
 exact rfl

set_option maxRecDepth 100000 in
set_option maxHeartbeats 1000000 in
theorem vcomp_3 {k m : Nat} {uaa0 uaa1 uaa2 uaa3 uab0 uab1 uab2 uab3 uac0 uac1 uac2 uac3 : Value} {a1 a2 a3 : Rat} {vaa0 vaa1 vaa2 vaa3 vab0 vab1 vab2 vab3 vac0 vac1 vac2 vac3 : Value} {c1 c2 c3 : Rat} {w : World} (hua1 : IsRat w k uaa0 uaa1 uaa2 uaa3 a1) (hua2 : IsRat w k uab0 uab1 uab2 uab3 a2) (hua3 : IsRat w k uac0 uac1 uac2 uac3 a3) (hva1 : IsRat w m vaa0 vaa1 vaa2 vaa3 c1) (hva2 : IsRat w m vab0 vab1 vab2 vab3 c2) (hva3 : IsRat w m vac0 vac1 vac2 vac3 c3) (_hk : k + m ≤ 100000) (e1 : (rcmp a1 c1 != (0 : Int)) = false) (e2 : (rcmp a2 c2 != (0 : Int)) = false) (e3 : (rcmp a3 c3 != (0 : Int)) = true) :
    Calls Tryz.prog 32 #[(.agg #[uaa0, uaa1, uaa2, uaa3, uab0, uab1, uab2, uab3, uac0, uac1, uac2, uac3]), (.agg #[vaa0, vaa1, vaa2, vaa3, vab0, vab1, vab2, vab3, vac0, vac1, vac2, vac3])] w fun e w' => e = .returned (.int .i64 (rcmp a3 c3)) ∧ Gr w w' := by
 go_enter Tryz.func32, Tryz.ntmps32
 have hB := Gr.refl w
 refine wp_seq_k (fun K1 k1 => ?_)
 refine rg [0, 1, 2] ?_
 refine se ?_
 refine eb 32 #[uaa0, uaa1, uaa2, uaa3, uab0, uab1, uab2, uab3, uac0, uac1, uac2, uac3] 2 hB fun b2 w2 g2 L2 o2 q2 hB => ?_
 simp only [p3, p4]
 refine se ?_
 refine eb 32 #[vaa0, vaa1, vaa2, vaa3, vab0, vab1, vab2, vab3, vac0, vac1, vac2, vac3] 3 hB fun b3 w3 g3 L3 o3 q3 hB => ?_
 simp only [p3, p4]
 refine sv 4 (.int .i64 0) ?_
 simp only [p3, p4]
 refine sq_nil ?_
 refine k1 _ _ ?_
 try clear k1 K1
 refine wp_seq_k (fun K4 k4 => ?_)
 refine wp_seq_k (fun K5 k5 => ?_)
 refine rg [0] ?_
 refine sv 7 (.int .i64 0) ?_
 simp only [p3, p4]
 refine sq_nil ?_
 refine k5 _ _ ?_
 try clear k5 K5
 refine wp_block ?_
 refine wp_loop_rounds 4 ?_
 show Code.wp _ _ _ _ _
 refine wp_seq_k (fun K6 k6 => ?_)
 refine rg [0] ?_
 refine sv 8 (.bool true) ?_
 simp only [p3, p4]
 refine sq_nil ?_
 refine k6 _ _ ?_
 try clear k6 K6
 refine wp_seq_k (fun K7 k7 => ?_)
 refine wp_cond_true rfl ?_
 refine wp_skip ?_
 refine k7 _ _ ?_
 try clear k7 K7
 refine wp_seq_k (fun K8 k8 => ?_)
 refine wp_block ?_
 refine wp_seq_k (fun K9 k9 => ?_)
 refine rg [0, 1] ?_
 refine sv 9 (.int .i64 0) ?_
 simp only [p3, p4]
 refine sv 5 (.int .i64 0) ?_
 simp only [p3, p4]
 refine sq_nil ?_
 refine k9 _ _ ?_
 try clear k9 K9
 refine wp_seq_k (fun K10 k10 => ?_)
 have gd15 := Gr.drew w3
 replace hB := hB.trans gd15
 replace L2 := L2.gr (g3.trans gd15)
 replace L3 := L3.gr gd15
 refine wp_region_ord (fun w' => Lc w' b2 #[uaa0, uaa1, uaa2, uaa3, uab0, uab1, uab2, uab3, uac0, uac1, uac2, uac3] 32 ∧ Lc w' b3 #[vaa0, vaa1, vaa2, vaa3, vab0, vab1, vab2, vab3, vac0, vac1, vac2, vac3] 32) [(true, 0), (true, 1), (true, 2), (true, 3), (true, 4), (true, 5), (false, 6), (true, 7)] (by kernel_rfl) (by kernel_rfl) (by kernel_rfl) (by decide) (fun _ _ _ _ _ h => h) ⟨L2, L3⟩ ?_
 refine ov 10 (.int .i64 0) ?_
 simp only [p3, p4]
 refine ov 11 (.pointer (some ⟨b2, 0, none⟩)) ?_
 simp only [p3, p4]
 refine ow 12 (.agg #[uaa0, uaa1, uaa2, uaa3]) rfl (fun w' hS => (rl 30 0 [uaa0, uaa1, uaa2, uaa3] hS.1)) ?_
 simp only [p3, p4]
 refine ov 13 (.int .i64 0) ?_
 simp only [p3, p4]
 refine ov 14 (.pointer (some ⟨b3, 0, none⟩)) ?_
 simp only [p3, p4]
 refine ow 15 (.agg #[vaa0, vaa1, vaa2, vaa3]) rfl (fun w' hS => (rl 30 0 [vaa0, vaa1, vaa2, vaa3] hS.2)) ?_
 simp only [p3, p4]
 refine oe ?_
 have kq18 := g2.kp.trans (g3.kp.trans gd15.kp)
 replace hua1 := hua1.kp kq18
 replace hva1 := hva1.kp kq18
 refine ec 16 (compare_r hua1 hva1 (by omega)) ?_
 rintro e17 w17 ⟨rfl, g17⟩
 refine ⟨_, rfl, ?_⟩
 replace hB := hB.trans g17
 replace L2 := L2.gr g17
 replace L3 := L3.gr g17
 refine ⟨⟨L2, L3⟩, ?_⟩
 simp only [p3, p4]
 refine ov 6 (.int .i64 (rcmp a1 c1)) ?_
 simp only [p3, p4]
 refine ord_nil ?_
 refine k10 _ _ ?_
 try clear k10 K10
 refine wp_seq_k (fun K19 k19 => ?_)
 refine rg [0, 1] ?_
 refine sv 17 (.int .i64 (rcmp a1 c1)) ?_
 simp only [p3, p4]
 refine sw 18 (.bool false) rfl (RunV.bool (x := (rcmp a1 c1 != (0 : Int))) (rvk (by kernel_rfl)) e1) ?_
 simp only [p3, p4]
 refine sq_nil ?_
 refine k19 _ _ ?_
 try clear k19 K19
 refine wp_cond_false rfl ?_
 refine wp_skip ?_
 refine k8 _ _ ?_
 try clear k8 K8
 refine rg [0, 1] ?_
 refine sv 20 (.int .i64 1) ?_
 simp only [p3, p4]
 refine sv 7 (.int .i64 1) ?_
 simp only [p3, p4]
 refine sq_nil ?_
 show Code.rounds _ _ _ _ _ _
 show Code.wp _ _ _ _ _
 refine wp_seq_k (fun K20 k20 => ?_)
 refine rg [0] ?_
 refine sv 8 (.bool true) ?_
 simp only [p3, p4]
 refine sq_nil ?_
 refine k20 _ _ ?_
 try clear k20 K20
 refine wp_seq_k (fun K21 k21 => ?_)
 refine wp_cond_true rfl ?_
 refine wp_skip ?_
 refine k21 _ _ ?_
 try clear k21 K21
 refine wp_seq_k (fun K22 k22 => ?_)
 refine wp_block ?_
 refine wp_seq_k (fun K23 k23 => ?_)
 refine rg [0, 1] ?_
 refine sv 9 (.int .i64 1) ?_
 simp only [p3, p4]
 refine sv 5 (.int .i64 1) ?_
 simp only [p3, p4]
 refine sq_nil ?_
 refine k23 _ _ ?_
 try clear k23 K23
 refine wp_seq_k (fun K24 k24 => ?_)
 have gd29 := Gr.drew w17
 replace hB := hB.trans gd29
 replace L2 := L2.gr gd29
 replace L3 := L3.gr gd29
 refine wp_region_ord (fun w' => Lc w' b2 #[uaa0, uaa1, uaa2, uaa3, uab0, uab1, uab2, uab3, uac0, uac1, uac2, uac3] 32 ∧ Lc w' b3 #[vaa0, vaa1, vaa2, vaa3, vab0, vab1, vab2, vab3, vac0, vac1, vac2, vac3] 32) [(true, 0), (true, 1), (true, 2), (true, 3), (true, 4), (true, 5), (false, 6), (true, 7)] (by kernel_rfl) (by kernel_rfl) (by kernel_rfl) (by decide) (fun _ _ _ _ _ h => h) ⟨L2, L3⟩ ?_
 refine ov 10 (.int .i64 1) ?_
 simp only [p3, p4]
 refine ov 11 (.pointer (some ⟨b2, 4, none⟩)) ?_
 simp only [p3, p4]
 refine ow 12 (.agg #[uab0, uab1, uab2, uab3]) rfl (fun w' hS => (rl 30 4 [uab0, uab1, uab2, uab3] hS.1)) ?_
 simp only [p3, p4]
 refine ov 13 (.int .i64 1) ?_
 simp only [p3, p4]
 refine ov 14 (.pointer (some ⟨b3, 4, none⟩)) ?_
 simp only [p3, p4]
 refine ow 15 (.agg #[vab0, vab1, vab2, vab3]) rfl (fun w' hS => (rl 30 4 [vab0, vab1, vab2, vab3] hS.2)) ?_
 simp only [p3, p4]
 refine oe ?_
 have kq32 := g2.kp.trans (g3.kp.trans (gd15.kp.trans (g17.kp.trans gd29.kp)))
 replace hua2 := hua2.kp kq32
 replace hva2 := hva2.kp kq32
 refine ec 16 (compare_r hua2 hva2 (by omega)) ?_
 rintro e31 w31 ⟨rfl, g31⟩
 refine ⟨_, rfl, ?_⟩
 replace hB := hB.trans g31
 replace L2 := L2.gr g31
 replace L3 := L3.gr g31
 refine ⟨⟨L2, L3⟩, ?_⟩
 simp only [p3, p4]
 refine ov 6 (.int .i64 (rcmp a2 c2)) ?_
 simp only [p3, p4]
 refine ord_nil ?_
 refine k24 _ _ ?_
 try clear k24 K24
 refine wp_seq_k (fun K33 k33 => ?_)
 refine rg [0, 1] ?_
 refine sv 17 (.int .i64 (rcmp a2 c2)) ?_
 simp only [p3, p4]
 refine sw 18 (.bool false) rfl (RunV.bool (x := (rcmp a2 c2 != (0 : Int))) (rvk (by kernel_rfl)) e2) ?_
 simp only [p3, p4]
 refine sq_nil ?_
 refine k33 _ _ ?_
 try clear k33 K33
 refine wp_cond_false rfl ?_
 refine wp_skip ?_
 refine k22 _ _ ?_
 try clear k22 K22
 refine rg [0, 1] ?_
 refine sv 20 (.int .i64 2) ?_
 simp only [p3, p4]
 refine sv 7 (.int .i64 2) ?_
 simp only [p3, p4]
 refine sq_nil ?_
 show Code.rounds _ _ _ _ _ _
 show Code.wp _ _ _ _ _
 refine wp_seq_k (fun K34 k34 => ?_)
 refine rg [0] ?_
 refine sv 8 (.bool true) ?_
 simp only [p3, p4]
 refine sq_nil ?_
 refine k34 _ _ ?_
 try clear k34 K34
 refine wp_seq_k (fun K35 k35 => ?_)
 refine wp_cond_true rfl ?_
 refine wp_skip ?_
 refine k35 _ _ ?_
 try clear k35 K35
 refine wp_seq_k (fun K36 k36 => ?_)
 refine wp_block ?_
 refine wp_seq_k (fun K37 k37 => ?_)
 refine rg [0, 1] ?_
 refine sv 9 (.int .i64 2) ?_
 simp only [p3, p4]
 refine sv 5 (.int .i64 2) ?_
 simp only [p3, p4]
 refine sq_nil ?_
 refine k37 _ _ ?_
 try clear k37 K37
 refine wp_seq_k (fun K38 k38 => ?_)
 have gd43 := Gr.drew w31
 replace hB := hB.trans gd43
 replace L2 := L2.gr gd43
 replace L3 := L3.gr gd43
 refine wp_region_ord (fun w' => Lc w' b2 #[uaa0, uaa1, uaa2, uaa3, uab0, uab1, uab2, uab3, uac0, uac1, uac2, uac3] 32 ∧ Lc w' b3 #[vaa0, vaa1, vaa2, vaa3, vab0, vab1, vab2, vab3, vac0, vac1, vac2, vac3] 32) [(true, 0), (true, 1), (true, 2), (true, 3), (true, 4), (true, 5), (false, 6), (true, 7)] (by kernel_rfl) (by kernel_rfl) (by kernel_rfl) (by decide) (fun _ _ _ _ _ h => h) ⟨L2, L3⟩ ?_
 refine ov 10 (.int .i64 2) ?_
 simp only [p3, p4]
 refine ov 11 (.pointer (some ⟨b2, 8, none⟩)) ?_
 simp only [p3, p4]
 refine ow 12 (.agg #[uac0, uac1, uac2, uac3]) rfl (fun w' hS => (rl 30 8 [uac0, uac1, uac2, uac3] hS.1)) ?_
 simp only [p3, p4]
 refine ov 13 (.int .i64 2) ?_
 simp only [p3, p4]
 refine ov 14 (.pointer (some ⟨b3, 8, none⟩)) ?_
 simp only [p3, p4]
 refine ow 15 (.agg #[vac0, vac1, vac2, vac3]) rfl (fun w' hS => (rl 30 8 [vac0, vac1, vac2, vac3] hS.2)) ?_
 simp only [p3, p4]
 refine oe ?_
 have kq46 := g2.kp.trans (g3.kp.trans (gd15.kp.trans (g17.kp.trans (gd29.kp.trans (g31.kp.trans gd43.kp)))))
 replace hua3 := hua3.kp kq46
 replace hva3 := hva3.kp kq46
 refine ec 16 (compare_r hua3 hva3 (by omega)) ?_
 rintro e45 w45 ⟨rfl, g45⟩
 refine ⟨_, rfl, ?_⟩
 replace hB := hB.trans g45
 replace L2 := L2.gr g45
 replace L3 := L3.gr g45
 refine ⟨⟨L2, L3⟩, ?_⟩
 simp only [p3, p4]
 refine ov 6 (.int .i64 (rcmp a3 c3)) ?_
 simp only [p3, p4]
 refine ord_nil ?_
 refine k38 _ _ ?_
 try clear k38 K38
 refine wp_seq_k (fun K47 k47 => ?_)
 refine rg [0, 1] ?_
 refine sv 17 (.int .i64 (rcmp a3 c3)) ?_
 simp only [p3, p4]
 refine sw 18 (.bool true) rfl (RunV.bool (x := (rcmp a3 c3 != (0 : Int))) (rvk (by kernel_rfl)) e3) ?_
 simp only [p3, p4]
 refine sq_nil ?_
 refine k47 _ _ ?_
 try clear k47 K47
 refine wp_cond_true rfl ?_
 refine wp_seq_k (fun K48 k48 => ?_)
 refine rg [0, 1] ?_
 refine sv 19 (.int .i64 (rcmp a3 c3)) ?_
 simp only [p3, p4]
 refine sv 4 (.int .i64 (rcmp a3 c3)) ?_
 simp only [p3, p4]
 refine sq_nil ?_
 refine k48 _ _ ?_
 try clear k48 K48
 refine wp_ret ?_
 simp only [Exit.then, Exit.inBlock]
 refine bodyPost_ret (v := (.int .i64 (rcmp a3 c3))) (ret_tmp rfl rfl) rfl ⟨?_, hB⟩
 exact rfl

set_option maxRecDepth 100000 in
set_option maxHeartbeats 1000000 in
theorem vcomp_4 {k m : Nat} {uaa0 uaa1 uaa2 uaa3 uab0 uab1 uab2 uab3 uac0 uac1 uac2 uac3 : Value} {a1 a2 a3 : Rat} {vaa0 vaa1 vaa2 vaa3 vab0 vab1 vab2 vab3 vac0 vac1 vac2 vac3 : Value} {c1 c2 c3 : Rat} {w : World} (hua1 : IsRat w k uaa0 uaa1 uaa2 uaa3 a1) (hua2 : IsRat w k uab0 uab1 uab2 uab3 a2) (hua3 : IsRat w k uac0 uac1 uac2 uac3 a3) (hva1 : IsRat w m vaa0 vaa1 vaa2 vaa3 c1) (hva2 : IsRat w m vab0 vab1 vab2 vab3 c2) (hva3 : IsRat w m vac0 vac1 vac2 vac3 c3) (_hk : k + m ≤ 100000) (e1 : (rcmp a1 c1 != (0 : Int)) = false) (e2 : (rcmp a2 c2 != (0 : Int)) = false) (e3 : (rcmp a3 c3 != (0 : Int)) = false) :
    Calls Tryz.prog 32 #[(.agg #[uaa0, uaa1, uaa2, uaa3, uab0, uab1, uab2, uab3, uac0, uac1, uac2, uac3]), (.agg #[vaa0, vaa1, vaa2, vaa3, vab0, vab1, vab2, vab3, vac0, vac1, vac2, vac3])] w fun e w' => e = .returned (.int .i64 0) ∧ Gr w w' := by
 go_enter Tryz.func32, Tryz.ntmps32
 have hB := Gr.refl w
 refine wp_seq_k (fun K1 k1 => ?_)
 refine rg [0, 1, 2] ?_
 refine se ?_
 refine eb 32 #[uaa0, uaa1, uaa2, uaa3, uab0, uab1, uab2, uab3, uac0, uac1, uac2, uac3] 2 hB fun b2 w2 g2 L2 o2 q2 hB => ?_
 simp only [p3, p4]
 refine se ?_
 refine eb 32 #[vaa0, vaa1, vaa2, vaa3, vab0, vab1, vab2, vab3, vac0, vac1, vac2, vac3] 3 hB fun b3 w3 g3 L3 o3 q3 hB => ?_
 simp only [p3, p4]
 refine sv 4 (.int .i64 0) ?_
 simp only [p3, p4]
 refine sq_nil ?_
 refine k1 _ _ ?_
 try clear k1 K1
 refine wp_seq_k (fun K4 k4 => ?_)
 refine wp_seq_k (fun K5 k5 => ?_)
 refine rg [0] ?_
 refine sv 7 (.int .i64 0) ?_
 simp only [p3, p4]
 refine sq_nil ?_
 refine k5 _ _ ?_
 try clear k5 K5
 refine wp_block ?_
 refine wp_loop_rounds 4 ?_
 show Code.wp _ _ _ _ _
 refine wp_seq_k (fun K6 k6 => ?_)
 refine rg [0] ?_
 refine sv 8 (.bool true) ?_
 simp only [p3, p4]
 refine sq_nil ?_
 refine k6 _ _ ?_
 try clear k6 K6
 refine wp_seq_k (fun K7 k7 => ?_)
 refine wp_cond_true rfl ?_
 refine wp_skip ?_
 refine k7 _ _ ?_
 try clear k7 K7
 refine wp_seq_k (fun K8 k8 => ?_)
 refine wp_block ?_
 refine wp_seq_k (fun K9 k9 => ?_)
 refine rg [0, 1] ?_
 refine sv 9 (.int .i64 0) ?_
 simp only [p3, p4]
 refine sv 5 (.int .i64 0) ?_
 simp only [p3, p4]
 refine sq_nil ?_
 refine k9 _ _ ?_
 try clear k9 K9
 refine wp_seq_k (fun K10 k10 => ?_)
 have gd15 := Gr.drew w3
 replace hB := hB.trans gd15
 replace L2 := L2.gr (g3.trans gd15)
 replace L3 := L3.gr gd15
 refine wp_region_ord (fun w' => Lc w' b2 #[uaa0, uaa1, uaa2, uaa3, uab0, uab1, uab2, uab3, uac0, uac1, uac2, uac3] 32 ∧ Lc w' b3 #[vaa0, vaa1, vaa2, vaa3, vab0, vab1, vab2, vab3, vac0, vac1, vac2, vac3] 32) [(true, 0), (true, 1), (true, 2), (true, 3), (true, 4), (true, 5), (false, 6), (true, 7)] (by kernel_rfl) (by kernel_rfl) (by kernel_rfl) (by decide) (fun _ _ _ _ _ h => h) ⟨L2, L3⟩ ?_
 refine ov 10 (.int .i64 0) ?_
 simp only [p3, p4]
 refine ov 11 (.pointer (some ⟨b2, 0, none⟩)) ?_
 simp only [p3, p4]
 refine ow 12 (.agg #[uaa0, uaa1, uaa2, uaa3]) rfl (fun w' hS => (rl 30 0 [uaa0, uaa1, uaa2, uaa3] hS.1)) ?_
 simp only [p3, p4]
 refine ov 13 (.int .i64 0) ?_
 simp only [p3, p4]
 refine ov 14 (.pointer (some ⟨b3, 0, none⟩)) ?_
 simp only [p3, p4]
 refine ow 15 (.agg #[vaa0, vaa1, vaa2, vaa3]) rfl (fun w' hS => (rl 30 0 [vaa0, vaa1, vaa2, vaa3] hS.2)) ?_
 simp only [p3, p4]
 refine oe ?_
 have kq18 := g2.kp.trans (g3.kp.trans gd15.kp)
 replace hua1 := hua1.kp kq18
 replace hva1 := hva1.kp kq18
 refine ec 16 (compare_r hua1 hva1 (by omega)) ?_
 rintro e17 w17 ⟨rfl, g17⟩
 refine ⟨_, rfl, ?_⟩
 replace hB := hB.trans g17
 replace L2 := L2.gr g17
 replace L3 := L3.gr g17
 refine ⟨⟨L2, L3⟩, ?_⟩
 simp only [p3, p4]
 refine ov 6 (.int .i64 (rcmp a1 c1)) ?_
 simp only [p3, p4]
 refine ord_nil ?_
 refine k10 _ _ ?_
 try clear k10 K10
 refine wp_seq_k (fun K19 k19 => ?_)
 refine rg [0, 1] ?_
 refine sv 17 (.int .i64 (rcmp a1 c1)) ?_
 simp only [p3, p4]
 refine sw 18 (.bool false) rfl (RunV.bool (x := (rcmp a1 c1 != (0 : Int))) (rvk (by kernel_rfl)) e1) ?_
 simp only [p3, p4]
 refine sq_nil ?_
 refine k19 _ _ ?_
 try clear k19 K19
 refine wp_cond_false rfl ?_
 refine wp_skip ?_
 refine k8 _ _ ?_
 try clear k8 K8
 refine rg [0, 1] ?_
 refine sv 20 (.int .i64 1) ?_
 simp only [p3, p4]
 refine sv 7 (.int .i64 1) ?_
 simp only [p3, p4]
 refine sq_nil ?_
 show Code.rounds _ _ _ _ _ _
 show Code.wp _ _ _ _ _
 refine wp_seq_k (fun K20 k20 => ?_)
 refine rg [0] ?_
 refine sv 8 (.bool true) ?_
 simp only [p3, p4]
 refine sq_nil ?_
 refine k20 _ _ ?_
 try clear k20 K20
 refine wp_seq_k (fun K21 k21 => ?_)
 refine wp_cond_true rfl ?_
 refine wp_skip ?_
 refine k21 _ _ ?_
 try clear k21 K21
 refine wp_seq_k (fun K22 k22 => ?_)
 refine wp_block ?_
 refine wp_seq_k (fun K23 k23 => ?_)
 refine rg [0, 1] ?_
 refine sv 9 (.int .i64 1) ?_
 simp only [p3, p4]
 refine sv 5 (.int .i64 1) ?_
 simp only [p3, p4]
 refine sq_nil ?_
 refine k23 _ _ ?_
 try clear k23 K23
 refine wp_seq_k (fun K24 k24 => ?_)
 have gd29 := Gr.drew w17
 replace hB := hB.trans gd29
 replace L2 := L2.gr gd29
 replace L3 := L3.gr gd29
 refine wp_region_ord (fun w' => Lc w' b2 #[uaa0, uaa1, uaa2, uaa3, uab0, uab1, uab2, uab3, uac0, uac1, uac2, uac3] 32 ∧ Lc w' b3 #[vaa0, vaa1, vaa2, vaa3, vab0, vab1, vab2, vab3, vac0, vac1, vac2, vac3] 32) [(true, 0), (true, 1), (true, 2), (true, 3), (true, 4), (true, 5), (false, 6), (true, 7)] (by kernel_rfl) (by kernel_rfl) (by kernel_rfl) (by decide) (fun _ _ _ _ _ h => h) ⟨L2, L3⟩ ?_
 refine ov 10 (.int .i64 1) ?_
 simp only [p3, p4]
 refine ov 11 (.pointer (some ⟨b2, 4, none⟩)) ?_
 simp only [p3, p4]
 refine ow 12 (.agg #[uab0, uab1, uab2, uab3]) rfl (fun w' hS => (rl 30 4 [uab0, uab1, uab2, uab3] hS.1)) ?_
 simp only [p3, p4]
 refine ov 13 (.int .i64 1) ?_
 simp only [p3, p4]
 refine ov 14 (.pointer (some ⟨b3, 4, none⟩)) ?_
 simp only [p3, p4]
 refine ow 15 (.agg #[vab0, vab1, vab2, vab3]) rfl (fun w' hS => (rl 30 4 [vab0, vab1, vab2, vab3] hS.2)) ?_
 simp only [p3, p4]
 refine oe ?_
 have kq32 := g2.kp.trans (g3.kp.trans (gd15.kp.trans (g17.kp.trans gd29.kp)))
 replace hua2 := hua2.kp kq32
 replace hva2 := hva2.kp kq32
 refine ec 16 (compare_r hua2 hva2 (by omega)) ?_
 rintro e31 w31 ⟨rfl, g31⟩
 refine ⟨_, rfl, ?_⟩
 replace hB := hB.trans g31
 replace L2 := L2.gr g31
 replace L3 := L3.gr g31
 refine ⟨⟨L2, L3⟩, ?_⟩
 simp only [p3, p4]
 refine ov 6 (.int .i64 (rcmp a2 c2)) ?_
 simp only [p3, p4]
 refine ord_nil ?_
 refine k24 _ _ ?_
 try clear k24 K24
 refine wp_seq_k (fun K33 k33 => ?_)
 refine rg [0, 1] ?_
 refine sv 17 (.int .i64 (rcmp a2 c2)) ?_
 simp only [p3, p4]
 refine sw 18 (.bool false) rfl (RunV.bool (x := (rcmp a2 c2 != (0 : Int))) (rvk (by kernel_rfl)) e2) ?_
 simp only [p3, p4]
 refine sq_nil ?_
 refine k33 _ _ ?_
 try clear k33 K33
 refine wp_cond_false rfl ?_
 refine wp_skip ?_
 refine k22 _ _ ?_
 try clear k22 K22
 refine rg [0, 1] ?_
 refine sv 20 (.int .i64 2) ?_
 simp only [p3, p4]
 refine sv 7 (.int .i64 2) ?_
 simp only [p3, p4]
 refine sq_nil ?_
 show Code.rounds _ _ _ _ _ _
 show Code.wp _ _ _ _ _
 refine wp_seq_k (fun K34 k34 => ?_)
 refine rg [0] ?_
 refine sv 8 (.bool true) ?_
 simp only [p3, p4]
 refine sq_nil ?_
 refine k34 _ _ ?_
 try clear k34 K34
 refine wp_seq_k (fun K35 k35 => ?_)
 refine wp_cond_true rfl ?_
 refine wp_skip ?_
 refine k35 _ _ ?_
 try clear k35 K35
 refine wp_seq_k (fun K36 k36 => ?_)
 refine wp_block ?_
 refine wp_seq_k (fun K37 k37 => ?_)
 refine rg [0, 1] ?_
 refine sv 9 (.int .i64 2) ?_
 simp only [p3, p4]
 refine sv 5 (.int .i64 2) ?_
 simp only [p3, p4]
 refine sq_nil ?_
 refine k37 _ _ ?_
 try clear k37 K37
 refine wp_seq_k (fun K38 k38 => ?_)
 have gd43 := Gr.drew w31
 replace hB := hB.trans gd43
 replace L2 := L2.gr gd43
 replace L3 := L3.gr gd43
 refine wp_region_ord (fun w' => Lc w' b2 #[uaa0, uaa1, uaa2, uaa3, uab0, uab1, uab2, uab3, uac0, uac1, uac2, uac3] 32 ∧ Lc w' b3 #[vaa0, vaa1, vaa2, vaa3, vab0, vab1, vab2, vab3, vac0, vac1, vac2, vac3] 32) [(true, 0), (true, 1), (true, 2), (true, 3), (true, 4), (true, 5), (false, 6), (true, 7)] (by kernel_rfl) (by kernel_rfl) (by kernel_rfl) (by decide) (fun _ _ _ _ _ h => h) ⟨L2, L3⟩ ?_
 refine ov 10 (.int .i64 2) ?_
 simp only [p3, p4]
 refine ov 11 (.pointer (some ⟨b2, 8, none⟩)) ?_
 simp only [p3, p4]
 refine ow 12 (.agg #[uac0, uac1, uac2, uac3]) rfl (fun w' hS => (rl 30 8 [uac0, uac1, uac2, uac3] hS.1)) ?_
 simp only [p3, p4]
 refine ov 13 (.int .i64 2) ?_
 simp only [p3, p4]
 refine ov 14 (.pointer (some ⟨b3, 8, none⟩)) ?_
 simp only [p3, p4]
 refine ow 15 (.agg #[vac0, vac1, vac2, vac3]) rfl (fun w' hS => (rl 30 8 [vac0, vac1, vac2, vac3] hS.2)) ?_
 simp only [p3, p4]
 refine oe ?_
 have kq46 := g2.kp.trans (g3.kp.trans (gd15.kp.trans (g17.kp.trans (gd29.kp.trans (g31.kp.trans gd43.kp)))))
 replace hua3 := hua3.kp kq46
 replace hva3 := hva3.kp kq46
 refine ec 16 (compare_r hua3 hva3 (by omega)) ?_
 rintro e45 w45 ⟨rfl, g45⟩
 refine ⟨_, rfl, ?_⟩
 replace hB := hB.trans g45
 replace L2 := L2.gr g45
 replace L3 := L3.gr g45
 refine ⟨⟨L2, L3⟩, ?_⟩
 simp only [p3, p4]
 refine ov 6 (.int .i64 (rcmp a3 c3)) ?_
 simp only [p3, p4]
 refine ord_nil ?_
 refine k38 _ _ ?_
 try clear k38 K38
 refine wp_seq_k (fun K47 k47 => ?_)
 refine rg [0, 1] ?_
 refine sv 17 (.int .i64 (rcmp a3 c3)) ?_
 simp only [p3, p4]
 refine sw 18 (.bool false) rfl (RunV.bool (x := (rcmp a3 c3 != (0 : Int))) (rvk (by kernel_rfl)) e3) ?_
 simp only [p3, p4]
 refine sq_nil ?_
 refine k47 _ _ ?_
 try clear k47 K47
 refine wp_cond_false rfl ?_
 refine wp_skip ?_
 refine k36 _ _ ?_
 try clear k36 K36
 refine rg [0, 1] ?_
 refine sv 20 (.int .i64 3) ?_
 simp only [p3, p4]
 refine sv 7 (.int .i64 3) ?_
 simp only [p3, p4]
 refine sq_nil ?_
 show Code.rounds _ _ _ _ _ _
 show Code.wp _ _ _ _ _
 refine wp_seq_k (fun K48 k48 => ?_)
 refine rg [0] ?_
 refine sv 8 (.bool false) ?_
 simp only [p3, p4]
 refine sq_nil ?_
 refine k48 _ _ ?_
 try clear k48 K48
 refine wp_seq_k (fun K49 k49 => ?_)
 refine wp_cond_false rfl ?_
 refine wp_exit ?_
 simp only [Exit.then, Exit.inBlock, ↓reduceIte]
 refine k4 _ _ ?_
 try clear k4 K4
 refine wp_seq_k (fun K50 k50 => ?_)
 refine rg [0] ?_
 refine sv 4 (.int .i64 0) ?_
 simp only [p3, p4]
 refine sq_nil ?_
 refine k50 _ _ ?_
 try clear k50 K50
 refine wp_ret ?_
 refine bodyPost_ret (v := (.int .i64 0)) (ret_tmp rfl rfl) rfl ⟨?_, hB⟩
 exact rfl

theorem vcomp_v {k m : Nat} {uaa0 uaa1 uaa2 uaa3 uab0 uab1 uab2 uab3 uac0 uac1 uac2 uac3 : Value} {a1 a2 a3 : Rat} {vaa0 vaa1 vaa2 vaa3 vab0 vab1 vab2 vab3 vac0 vac1 vac2 vac3 : Value} {c1 c2 c3 : Rat} {w : World} (hua1 : IsRat w k uaa0 uaa1 uaa2 uaa3 a1) (hua2 : IsRat w k uab0 uab1 uab2 uab3 a2) (hua3 : IsRat w k uac0 uac1 uac2 uac3 a3) (hva1 : IsRat w m vaa0 vaa1 vaa2 vaa3 c1) (hva2 : IsRat w m vab0 vab1 vab2 vab3 c2) (hva3 : IsRat w m vac0 vac1 vac2 vac3 c3) (hk : k + m ≤ 100000) :
    Calls Tryz.prog 32 #[(.agg #[uaa0, uaa1, uaa2, uaa3, uab0, uab1, uab2, uab3, uac0, uac1, uac2, uac3]), (.agg #[vaa0, vaa1, vaa2, vaa3, vab0, vab1, vab2, vab3, vac0, vac1, vac2, vac3])] w fun e w' => e = .returned (.int .i64 (vcmp a1 a2 a3 c1 c2 c3)) ∧ Gr w w' := by
  unfold vcmp
  by_cases e1 : rcmp a1 c1 = 0
  · rw [if_pos e1]
    have d1 : (rcmp a1 c1 != (0 : Int)) = false := by simp [e1]
    by_cases e2 : rcmp a2 c2 = 0
    · rw [if_pos e2]
      have d2 : (rcmp a2 c2 != (0 : Int)) = false := by simp [e2]
      by_cases e3 : rcmp a3 c3 = 0
      · rw [e3]; exact vcomp_4 hua1 hua2 hua3 hva1 hva2 hva3 hk d1 d2 (by simp [e3])
      · exact vcomp_3 hua1 hua2 hua3 hva1 hva2 hva3 hk d1 d2 (by simp [e3])
    · rw [if_neg e2]; exact vcomp_2 hua1 hua2 hua3 hva1 hva2 hva3 hk d1 (by simp [e2])
  · rw [if_neg e1]; exact vcomp_1 hua1 hua2 hua3 hva1 hva2 hva3 hk (by simp [e1])

set_option maxRecDepth 100000 in
set_option maxHeartbeats 1000000 in
theorem vequal_v {k m : Nat} {uaa0 uaa1 uaa2 uaa3 uab0 uab1 uab2 uab3 uac0 uac1 uac2 uac3 : Value} {a1 a2 a3 : Rat} {vaa0 vaa1 vaa2 vaa3 vab0 vab1 vab2 vab3 vac0 vac1 vac2 vac3 : Value} {c1 c2 c3 : Rat} {w : World} (hua1 : IsRat w k uaa0 uaa1 uaa2 uaa3 a1) (hua2 : IsRat w k uab0 uab1 uab2 uab3 a2) (hua3 : IsRat w k uac0 uac1 uac2 uac3 a3) (hva1 : IsRat w m vaa0 vaa1 vaa2 vaa3 c1) (hva2 : IsRat w m vab0 vab1 vab2 vab3 c2) (hva3 : IsRat w m vac0 vac1 vac2 vac3 c3) (_hk : k + m ≤ 100000) :
    Calls Tryz.prog 31 #[(.agg #[uaa0, uaa1, uaa2, uaa3, uab0, uab1, uab2, uab3, uac0, uac1, uac2, uac3]), (.agg #[vaa0, vaa1, vaa2, vaa3, vab0, vab1, vab2, vab3, vac0, vac1, vac2, vac3])] w fun e w' => e = .returned (.bool (vcmp a1 a2 a3 c1 c2 c3 == (0 : Int))) ∧ Gr w w' := by
 go_enter Tryz.func31, Tryz.ntmps31
 have hB := Gr.refl w
 refine wp_seq_k (fun K1 k1 => ?_)
 refine rg [0, 1, 2] ?_
 refine se ?_
 refine eb 32 #[uaa0, uaa1, uaa2, uaa3, uab0, uab1, uab2, uab3, uac0, uac1, uac2, uac3] 2 hB fun b2 w2 g2 L2 o2 q2 hB => ?_
 simp only [p3, p4]
 refine se ?_
 refine eb 32 #[vaa0, vaa1, vaa2, vaa3, vab0, vab1, vab2, vab3, vac0, vac1, vac2, vac3] 3 hB fun b3 w3 g3 L3 o3 q3 hB => ?_
 simp only [p3, p4]
 refine sv 4 (.bool false) ?_
 simp only [p3, p4]
 refine sq_nil ?_
 refine k1 _ _ ?_
 try clear k1 K1
 refine wp_seq_k (fun K4 k4 => ?_)
 refine rg [0, 1, 2, 3, 4] ?_
 replace L2 := L2.gr g3
 refine sw 5 (.agg #[uaa0, uaa1, uaa2, uaa3, uab0, uab1, uab2, uab3, uac0, uac1, uac2, uac3]) rfl (rl 32 0 [uaa0, uaa1, uaa2, uaa3, uab0, uab1, uab2, uab3, uac0, uac1, uac2, uac3] L2) ?_
 simp only [p3, p4]
 refine sw 6 (.agg #[vaa0, vaa1, vaa2, vaa3, vab0, vab1, vab2, vab3, vac0, vac1, vac2, vac3]) rfl (rl 32 0 [vaa0, vaa1, vaa2, vaa3, vab0, vab1, vab2, vab3, vac0, vac1, vac2, vac3] L3) ?_
 simp only [p3, p4]
 refine se ?_
 have kq6 := g2.kp.trans g3.kp
 replace hua1 := hua1.kp kq6
 replace hua2 := hua2.kp kq6
 replace hua3 := hua3.kp kq6
 replace hva1 := hva1.kp kq6
 replace hva2 := hva2.kp kq6
 replace hva3 := hva3.kp kq6
 refine ec 7 (vcomp_v hua1 hua2 hua3 hva1 hva2 hva3 (by omega)) ?_
 rintro e5 w5 ⟨rfl, g5⟩
 refine ⟨_, rfl, ?_⟩
 replace hB := hB.trans g5
 simp only [p3, p4]
 refine sv 8 (.bool ((vcmp a1 a2 a3 c1 c2 c3 == (0 : Int)))) ?_
 simp only [p3, p4]
 refine sv 4 (.bool ((vcmp a1 a2 a3 c1 c2 c3 == (0 : Int)))) ?_
 simp only [p3, p4]
 refine sq_nil ?_
 refine k4 _ _ ?_
 try clear k4 K4
 refine wp_ret ?_
 refine bodyPost_ret (v := (.bool ((vcmp a1 a2 a3 c1 c2 c3 == (0 : Int))))) (ret_tmp rfl rfl) rfl ⟨?_, hB⟩
 exact rfl

set_option maxRecDepth 100000 in
set_option maxHeartbeats 1000000 in
theorem vzero_v {k : Nat} {uaa0 uaa1 uaa2 uaa3 uab0 uab1 uab2 uab3 uac0 uac1 uac2 uac3 : Value} {a1 a2 a3 : Rat} {w : World} (hua1 : IsRat w k uaa0 uaa1 uaa2 uaa3 a1) (hua2 : IsRat w k uab0 uab1 uab2 uab3 a2) (hua3 : IsRat w k uac0 uac1 uac2 uac3 a3) (_hk : k ≤ 25000) :
    Calls Tryz.prog 29 #[(.agg #[uaa0, uaa1, uaa2, uaa3, uab0, uab1, uab2, uab3, uac0, uac1, uac2, uac3])] w fun e w' => e = .returned (.bool (vcmp a1 a2 a3 0 0 0 == (0 : Int))) ∧ Gr w w' := by
 go_enter Tryz.func29, Tryz.ntmps29
 have hB := Gr.refl w
 refine wp_seq_k (fun K1 k1 => ?_)
 refine rg [0, 1] ?_
 refine se ?_
 refine eb 32 #[uaa0, uaa1, uaa2, uaa3, uab0, uab1, uab2, uab3, uac0, uac1, uac2, uac3] 1 hB fun b2 w2 g2 L2 o2 q2 hB => ?_
 simp only [p3, p4]
 refine sv 2 (.bool false) ?_
 simp only [p3, p4]
 refine sq_nil ?_
 refine k1 _ _ ?_
 try clear k1 K1
 refine wp_seq_k (fun K3 k3 => ?_)
 refine rg [0, 1, 2, 3, 4] ?_
 refine sw 3 (.agg #[uaa0, uaa1, uaa2, uaa3, uab0, uab1, uab2, uab3, uac0, uac1, uac2, uac3]) rfl (rl 32 0 [uaa0, uaa1, uaa2, uaa3, uab0, uab1, uab2, uab3, uac0, uac1, uac2, uac3] L2) ?_
 simp only [p3, p4]
 refine sv 4 (.agg #[(.bool false), (.slice none 0 0), (.bool false), (.slice none 0 0), (.bool false), (.slice none 0 0), (.bool false), (.slice none 0 0), (.bool false), (.slice none 0 0), (.bool false), (.slice none 0 0)]) ?_
 simp only [p3, p4]
 refine se ?_
 replace hua1 := hua1.kp g2.kp
 replace hua2 := hua2.kp g2.kp
 replace hua3 := hua3.kp g2.kp
 refine ec 5 (vcomp_v hua1 hua2 hua3 (IsRat.zero _ (k := 64) (Nat.le_refl _)) (IsRat.zero _ (k := 64) (Nat.le_refl _)) (IsRat.zero _ (k := 64) (Nat.le_refl _)) (by omega)) ?_
 rintro e4 w4 ⟨rfl, g4⟩
 refine ⟨_, rfl, ?_⟩
 replace hB := hB.trans g4
 simp only [p3, p4]
 refine sv 6 (.bool ((vcmp a1 a2 a3 0 0 0 == (0 : Int)))) ?_
 simp only [p3, p4]
 refine sv 2 (.bool ((vcmp a1 a2 a3 0 0 0 == (0 : Int)))) ?_
 simp only [p3, p4]
 refine sq_nil ?_
 refine k3 _ _ ?_
 try clear k3 K3
 refine wp_ret ?_
 refine bodyPost_ret (v := (.bool ((vcmp a1 a2 a3 0 0 0 == (0 : Int))))) (ret_tmp rfl rfl) rfl ⟨?_, hB⟩
 exact rfl

end Go.Proofs.YtlcmllfacolkaaaGreatDoor
/- Printed by a program of the prover's: the operations on twists. -/
namespace Go.Proofs.YtlcmllfacolkaaaGreatDoor
open Go.RowKit

set_option maxRecDepth 100000 in
set_option maxHeartbeats 1000000 in
theorem vof_v (n1 n2 n3 : Int) (_j1 : -9223372036854775808 ≤ n1 ∧ n1 ≤ 9223372036854775807) (_j2 : -9223372036854775808 ≤ n2 ∧ n2 ≤ 9223372036854775807) (_j3 : -9223372036854775808 ≤ n3 ∧ n3 ≤ 9223372036854775807) (w : World) :
    Calls Tryz.prog 19 #[(.agg #[(.int .i64 (n1)), (.int .i64 (n2)), (.int .i64 (n3))])] w fun e w' => (∃ t0 t1 t2 t3 t4 t5 t6 t7 t8 t9 t10 t11, e = .returned (.agg #[t0, t1, t2, t3, t4, t5, t6, t7, t8, t9, t10, t11]) ∧ IsRat w' 64 t0 t1 t2 t3 ((n1 : Int) : Rat) ∧ IsRat w' 64 t4 t5 t6 t7 ((n2 : Int) : Rat) ∧ IsRat w' 64 t8 t9 t10 t11 ((n3 : Int) : Rat)) ∧ Gr w w' := by
 go_enter Tryz.func19, Tryz.ntmps19
 have hB := Gr.refl w
 refine wp_seq_k (fun K1 k1 => ?_)
 refine rg [0, 1] ?_
 refine se ?_
 refine eb 45 #[(.int .i64 (n1)), (.int .i64 (n2)), (.int .i64 (n3))] 1 hB fun b2 w2 g2 L2 o2 q2 hB => ?_
 simp only [p3, p4]
 refine se ?_
 refine ea 32 #[(.bool false), (.slice none 0 0), (.bool false), (.slice none 0 0), (.bool false), (.slice none 0 0), (.bool false), (.slice none 0 0), (.bool false), (.slice none 0 0), (.bool false), (.slice none 0 0)] 2 hB fun b3 w3 g3 L3 o3 q3 hB => ?_
 simp only [p3, p4]
 refine sq_nil ?_
 refine k1 _ _ ?_
 try clear k1 K1
 refine wp_seq_k (fun K4 k4 => ?_)
 refine rg [0] ?_
 refine se ?_
 refine ea 32 #[(.bool false), (.slice none 0 0), (.bool false), (.slice none 0 0), (.bool false), (.slice none 0 0), (.bool false), (.slice none 0 0), (.bool false), (.slice none 0 0), (.bool false), (.slice none 0 0)] 3 hB fun b5 w5 g5 L5 o5 q5 hB => ?_
 replace L2 := L2.gr g3
 have ne3_5 := L3.ne o5
 simp only [p3, p4]
 refine sq_nil ?_
 refine k4 _ _ ?_
 try clear k4 K4
 refine wp_seq_k (fun K6 k6 => ?_)
 refine wp_seq_k (fun K7 k7 => ?_)
 refine rg [0, 1] ?_
 replace L2 := L2.gr g5
 refine sw 6 (.agg #[(.int .i64 (n1)), (.int .i64 (n2)), (.int .i64 (n3))]) rfl (rl 45 0 [(.int .i64 (n1)), (.int .i64 (n2)), (.int .i64 (n3))] L2) ?_
 simp only [p3, p4]
 refine sv 7 (.int .i64 0) ?_
 simp only [p3, p4]
 refine sq_nil ?_
 refine k7 _ _ ?_
 try clear k7 K7
 refine wp_block ?_
 refine wp_loop_rounds 4 ?_
 show Code.wp _ _ _ _ _
 refine wp_seq_k (fun K8 k8 => ?_)
 refine rg [0] ?_
 refine sv 8 (.bool true) ?_
 simp only [p3, p4]
 refine sq_nil ?_
 refine k8 _ _ ?_
 try clear k8 K8
 refine wp_seq_k (fun K9 k9 => ?_)
 refine wp_cond_true rfl ?_
 refine wp_skip ?_
 refine k9 _ _ ?_
 try clear k9 K9
 refine wp_seq_k (fun K10 k10 => ?_)
 refine wp_block ?_
 refine wp_seq_k (fun K11 k11 => ?_)
 refine rg [0, 1, 2, 3] ?_
 refine sv 9 (.int .i64 0) ?_
 simp only [p3, p4]
 refine sv 10 (.int .i64 (n1)) ?_
 simp only [p3, p4]
 refine sv 4 (.int .i64 0) ?_
 simp only [p3, p4]
 refine sv 5 (.int .i64 (n1)) ?_
 simp only [p3, p4]
 refine sq_nil ?_
 refine k11 _ _ ?_
 try clear k11 K11
 refine rg [0, 1, 2, 3, 4] ?_
 refine sv 11 (.int .i64 0) ?_
 simp only [p3, p4]
 refine sv 12 (.int .i64 (n1)) ?_
 simp only [p3, p4]
 refine se ?_
 refine ec 13 (from_r (n1) (by omega) (by omega) _) ?_
 rintro e12 w12 ⟨⟨p12, q12, r12, s12, rfl, h12⟩, g12⟩
 refine ⟨_, rfl, ?_⟩
 replace hB := hB.trans g12
 simp only [p3, p4]
 refine sv 14 (.pointer (some ⟨b5, 0, none⟩)) ?_
 simp only [p3, p4]
 refine se ?_
 replace L5 := L5.gr g12
 refine es 30 0 (.agg #[p12, q12, r12, s12]) [p12, q12, r12, s12] #[p12, q12, r12, s12, (.bool false), (.slice none 0 0), (.bool false), (.slice none 0 0), (.bool false), (.slice none 0 0), (.bool false), (.slice none 0 0)] L5 hB q5 ⟨h12.one0, h12.one1, h12.one2, h12.one3, trivial⟩ fun w13 st13 kp13 L5 hB => ?_
 refine sq_nil ?_
 refine k10 _ _ ?_
 try clear k10 K10
 refine rg [0, 1] ?_
 refine sv 15 (.int .i64 1) ?_
 simp only [p3, p4]
 refine sv 7 (.int .i64 1) ?_
 simp only [p3, p4]
 refine sq_nil ?_
 show Code.rounds _ _ _ _ _ _
 show Code.wp _ _ _ _ _
 refine wp_seq_k (fun K14 k14 => ?_)
 refine rg [0] ?_
 refine sv 8 (.bool true) ?_
 simp only [p3, p4]
 refine sq_nil ?_
 refine k14 _ _ ?_
 try clear k14 K14
 refine wp_seq_k (fun K15 k15 => ?_)
 refine wp_cond_true rfl ?_
 refine wp_skip ?_
 refine k15 _ _ ?_
 try clear k15 K15
 refine wp_seq_k (fun K16 k16 => ?_)
 refine wp_block ?_
 refine wp_seq_k (fun K17 k17 => ?_)
 refine rg [0, 1, 2, 3] ?_
 refine sv 9 (.int .i64 1) ?_
 simp only [p3, p4]
 refine sv 10 (.int .i64 (n2)) ?_
 simp only [p3, p4]
 refine sv 4 (.int .i64 1) ?_
 simp only [p3, p4]
 refine sv 5 (.int .i64 (n2)) ?_
 simp only [p3, p4]
 refine sq_nil ?_
 refine k17 _ _ ?_
 try clear k17 K17
 refine rg [0, 1, 2, 3, 4] ?_
 refine sv 11 (.int .i64 1) ?_
 simp only [p3, p4]
 refine sv 12 (.int .i64 (n2)) ?_
 simp only [p3, p4]
 refine se ?_
 refine ec 13 (from_r (n2) (by omega) (by omega) _) ?_
 rintro e18 w18 ⟨⟨p18, q18, r18, s18, rfl, h18⟩, g18⟩
 refine ⟨_, rfl, ?_⟩
 replace hB := hB.trans g18
 simp only [p3, p4]
 refine sv 14 (.pointer (some ⟨b5, 4, none⟩)) ?_
 simp only [p3, p4]
 refine se ?_
 replace L5 := L5.gr g18
 refine es 30 4 (.agg #[p18, q18, r18, s18]) [p18, q18, r18, s18] #[p12, q12, r12, s12, p18, q18, r18, s18, (.bool false), (.slice none 0 0), (.bool false), (.slice none 0 0)] L5 hB q5 ⟨h18.one0, h18.one1, h18.one2, h18.one3, trivial⟩ fun w19 st19 kp19 L5 hB => ?_
 refine sq_nil ?_
 refine k16 _ _ ?_
 try clear k16 K16
 refine rg [0, 1] ?_
 refine sv 15 (.int .i64 2) ?_
 simp only [p3, p4]
 refine sv 7 (.int .i64 2) ?_
 simp only [p3, p4]
 refine sq_nil ?_
 show Code.rounds _ _ _ _ _ _
 show Code.wp _ _ _ _ _
 refine wp_seq_k (fun K20 k20 => ?_)
 refine rg [0] ?_
 refine sv 8 (.bool true) ?_
 simp only [p3, p4]
 refine sq_nil ?_
 refine k20 _ _ ?_
 try clear k20 K20
 refine wp_seq_k (fun K21 k21 => ?_)
 refine wp_cond_true rfl ?_
 refine wp_skip ?_
 refine k21 _ _ ?_
 try clear k21 K21
 refine wp_seq_k (fun K22 k22 => ?_)
 refine wp_block ?_
 refine wp_seq_k (fun K23 k23 => ?_)
 refine rg [0, 1, 2, 3] ?_
 refine sv 9 (.int .i64 2) ?_
 simp only [p3, p4]
 refine sv 10 (.int .i64 (n3)) ?_
 simp only [p3, p4]
 refine sv 4 (.int .i64 2) ?_
 simp only [p3, p4]
 refine sv 5 (.int .i64 (n3)) ?_
 simp only [p3, p4]
 refine sq_nil ?_
 refine k23 _ _ ?_
 try clear k23 K23
 refine rg [0, 1, 2, 3, 4] ?_
 refine sv 11 (.int .i64 2) ?_
 simp only [p3, p4]
 refine sv 12 (.int .i64 (n3)) ?_
 simp only [p3, p4]
 refine se ?_
 refine ec 13 (from_r (n3) (by omega) (by omega) _) ?_
 rintro e24 w24 ⟨⟨p24, q24, r24, s24, rfl, h24⟩, g24⟩
 refine ⟨_, rfl, ?_⟩
 replace hB := hB.trans g24
 simp only [p3, p4]
 refine sv 14 (.pointer (some ⟨b5, 8, none⟩)) ?_
 simp only [p3, p4]
 refine se ?_
 replace L5 := L5.gr g24
 refine es 30 8 (.agg #[p24, q24, r24, s24]) [p24, q24, r24, s24] #[p12, q12, r12, s12, p18, q18, r18, s18, p24, q24, r24, s24] L5 hB q5 ⟨h24.one0, h24.one1, h24.one2, h24.one3, trivial⟩ fun w25 st25 kp25 L5 hB => ?_
 refine sq_nil ?_
 refine k22 _ _ ?_
 try clear k22 K22
 refine rg [0, 1] ?_
 refine sv 15 (.int .i64 3) ?_
 simp only [p3, p4]
 refine sv 7 (.int .i64 3) ?_
 simp only [p3, p4]
 refine sq_nil ?_
 show Code.rounds _ _ _ _ _ _
 show Code.wp _ _ _ _ _
 refine wp_seq_k (fun K26 k26 => ?_)
 refine rg [0] ?_
 refine sv 8 (.bool false) ?_
 simp only [p3, p4]
 refine sq_nil ?_
 refine k26 _ _ ?_
 try clear k26 K26
 refine wp_seq_k (fun K27 k27 => ?_)
 refine wp_cond_false rfl ?_
 refine wp_exit ?_
 simp only [Exit.then, Exit.inBlock, ↓reduceIte]
 refine k6 _ _ ?_
 try clear k6 K6
 refine wp_seq_k (fun K28 k28 => ?_)
 refine rg [0, 1] ?_
 refine sw 16 (.agg #[p12, q12, r12, s12, p18, q18, r18, s18, p24, q24, r24, s24]) rfl (rl 32 0 [p12, q12, r12, s12, p18, q18, r18, s18, p24, q24, r24, s24] L5) ?_
 simp only [p3, p4]
 refine se ?_
 replace L3 := st25.lc ((st19.lc ((st13.lc (L3.gr (g5.trans g12)) ne3_5).gr g18) ne3_5).gr g24) ne3_5
 refine es 32 0 (.agg #[p12, q12, r12, s12, p18, q18, r18, s18, p24, q24, r24, s24]) [p12, q12, r12, s12, p18, q18, r18, s18, p24, q24, r24, s24] #[p12, q12, r12, s12, p18, q18, r18, s18, p24, q24, r24, s24] L3 hB q3 ⟨h12.one0, h12.one1, h12.one2, h12.one3, h18.one0, h18.one1, h18.one2, h18.one3, h24.one0, h24.one1, h24.one2, h24.one3, trivial⟩ fun w29 st29 kp29 L3 hB => ?_
 refine sq_nil ?_
 refine k28 _ _ ?_
 try clear k28 K28
 refine wp_ret ?_
 refine bodyPost_ret (v := (.agg #[p12, q12, r12, s12, p18, q18, r18, s18, p24, q24, r24, s24])) (ret_cell _ _ _ rfl rfl L3 (by kernel_rfl)) rfl ⟨?_, hB⟩
 have kq30 := kp13.trans (g18.kp.trans (kp19.trans (g24.kp.trans (kp25.trans kp29))))
 replace h12 := h12.kp kq30
 have kq31 := kp19.trans (g24.kp.trans (kp25.trans kp29))
 replace h18 := h18.kp kq31
 have kq32 := kp25.trans kp29
 replace h24 := h24.kp kq32
 exact ⟨_, _, _, _, _, _, _, _, _, _, _, _, rfl, h12, h18, h24⟩

end Go.Proofs.YtlcmllfacolkaaaGreatDoor
/- Printed by a program of the prover's: small twists. -/
namespace Go.Proofs.YtlcmllfacolkaaaGreatDoor
open Go.RowKit

theorem vzero_b {k : Nat} {uaa0 uaa1 uaa2 uaa3 uab0 uab1 uab2 uab3 uac0 uac1 uac2 uac3 : Value} {a1 a2 a3 : Rat} {w : World} (hua1 : IsRat w k uaa0 uaa1 uaa2 uaa3 a1) (hua2 : IsRat w k uab0 uab1 uab2 uab3 a2) (hua3 : IsRat w k uac0 uac1 uac2 uac3 a3) (hk : k ≤ 25000) (b : Bool) (eb : (vcmp a1 a2 a3 0 0 0 == (0 : Int)) = b) :
    Calls Tryz.prog 29 #[(.agg #[uaa0, uaa1, uaa2, uaa3, uab0, uab1, uab2, uab3, uac0, uac1, uac2, uac3])] w fun e w' => e = .returned (.bool b) ∧ Gr w w' := by
  have := vzero_v hua1 hua2 hua3 hk
  rw [eb] at this
  exact this

end Go.Proofs.YtlcmllfacolkaaaGreatDoor
/- What a primitive vector is made of: plain facts. -/
namespace Go.Proofs.YtlcmllfacolkaaaGreatDoor
open Go.RowKit

/-- the least common multiple of d and x, as the code takes it -/
def lcmS (d x : Int) : Int := d / (Int.gcd d x : Int) * x
theorem gcd_ex (d : Int) (q : Rat) : 0 < (Int.gcd d (q.den : Int) : Int) ∧ (Int.gcd d (q.den : Int) : Int) ∣ d := by
  have := q.den_pos
  refine ⟨?_, Int.gcd_dvd_left ..⟩
  have : Int.gcd d (q.den : Int) ≠ 0 := by rw [Ne, Int.gcd_eq_zero_iff]; omega
  omega
theorem lcmS_pos {d : Int} (q : Rat) (h : 0 < d) : 0 < lcmS d (q.den : Int) := by
  have := q.den_pos
  obtain ⟨h1, h2⟩ := gcd_ex d q
  obtain ⟨c, hc⟩ := h2
  unfold lcmS
  refine Int.mul_pos ?_ (by omega)
  have : d / (Int.gcd d (q.den : Int) : Int) = c := by
    conv => lhs; lhs; rw [hc]
    exact Int.mul_ediv_cancel_left c (by omega)
  rw [this]
  rcases Int.lt_or_le 0 c with h3 | h3
  · exact h3
  · have := Int.mul_nonpos_of_nonneg_of_nonpos (Int.le_of_lt h1) h3; omega
def pden (a1 a2 a3 : Rat) : Int := lcmS (lcmS (lcmS 1 (a1.den : Int)) (a2.den : Int)) (a3.den : Int)
theorem pden_pos (a1 a2 a3 : Rat) : 0 < pden a1 a2 a3 := lcmS_pos _ (lcmS_pos _ (lcmS_pos _ (by omega)))
def pgcd (a1 a2 a3 : Rat) : Int :=
  (Int.gcd (Int.gcd (Int.gcd 0 (Rat.divInt (pden a1 a2 a3) 1 * a1).num : Int) (Rat.divInt (pden a1 a2 a3) 1 * a2).num : Int) (Rat.divInt (pden a1 a2 a3) 1 * a3).num : Int)
theorem rat_pden {d : Int} (h : 0 < d) : Rat.divInt d 1 ≠ 0 := by
  intro e
  rw [← Rat.num_eq_zero] at e
  rw [Rat.num_divInt] at e
  simp at e
  omega
theorem pgcd_pos {a1 a2 a3 : Rat} (h : ¬(a1 = 0 ∧ a2 = 0 ∧ a3 = 0)) : 0 < pgcd a1 a2 a3 := by
  have h0 : 0 ≤ pgcd a1 a2 a3 := Int.natCast_nonneg _
  have hd := rat_pden (pden_pos a1 a2 a3)
  rcases Int.lt_or_le 0 (pgcd a1 a2 a3) with h1 | h1
  · exact h1
  · exfalso
    apply h
    have e : pgcd a1 a2 a3 = 0 := by omega
    unfold pgcd at e
    have e1 := Int.gcd_eq_zero_iff.1 (Int.natCast_eq_zero.1 e)
    have e2 := Int.gcd_eq_zero_iff.1 (Int.natCast_eq_zero.1 e1.1)
    have e3 := Int.gcd_eq_zero_iff.1 (Int.natCast_eq_zero.1 e2.1)
    have z : ∀ a : Rat, (Rat.divInt (pden a1 a2 a3) 1 * a).num = 0 → a = 0 := fun a ha => by
      rw [Rat.num_eq_zero] at ha
      rcases Rat.mul_eq_zero.1 ha with h2 | h2
      · exact absurd h2 hd
      · exact h2
    exact ⟨z _ e3.2, z _ e2.2, z _ e1.2⟩
/-- a coordinate of the primitive vector -/
def prim (a1 a2 a3 x : Rat) : Rat := Rat.divInt 1 (pgcd a1 a2 a3) * (Rat.divInt (pden a1 a2 a3) 1 * x)
/-- the factor -/
def pfac (a1 a2 a3 : Rat) : Rat := Rat.divInt 1 (pgcd a1 a2 a3) * Rat.divInt (pden a1 a2 a3) 1
theorem prim_fac (a1 a2 a3 x : Rat) : prim a1 a2 a3 x = pfac a1 a2 a3 * x := by unfold prim pfac; rw [Rat.mul_assoc]
theorem vzero_iff {a1 a2 a3 : Rat} : (vcmp a1 a2 a3 0 0 0 == (0 : Int)) = true ↔ (a1 = 0 ∧ a2 = 0 ∧ a3 = 0) := by rw [beq_iff_eq, vcmp_zero]
theorem vzero_false {a1 a2 a3 : Rat} : (vcmp a1 a2 a3 0 0 0 == (0 : Int)) = false ↔ ¬(a1 = 0 ∧ a2 = 0 ∧ a3 = 0) := by rw [← vzero_iff]; simp
end Go.Proofs.YtlcmllfacolkaaaGreatDoor
/- Printed by a program of the prover's: Primitive, AxisOf. -/
namespace Go.Proofs.YtlcmllfacolkaaaGreatDoor
open Go.RowKit

set_option maxRecDepth 100000 in
set_option maxHeartbeats 8000000 in
theorem vprim_ok {k : Nat} {uaa0 uaa1 uaa2 uaa3 uab0 uab1 uab2 uab3 uac0 uac1 uac2 uac3 : Value} {a1 a2 a3 : Rat} {w : World} (hua1 : IsRat w k uaa0 uaa1 uaa2 uaa3 a1) (hua2 : IsRat w k uab0 uab1 uab2 uab3 a2) (hua3 : IsRat w k uac0 uac1 uac2 uac3 a3) (_hk : k ≤ 2500) (hz0 : ¬(a1 = 0 ∧ a2 = 0 ∧ a3 = 0)) :
    Calls Tryz.prog 34 #[(.agg #[uaa0, uaa1, uaa2, uaa3, uab0, uab1, uab2, uab3, uac0, uac1, uac2, uac3])] w fun e w' => (∃ t0 t1 t2 t3 t4 t5 t6 t7 t8 t9 t10 t11, e = .returned (.tuple #[.agg #[t0, t1, t2, t3, t4, t5, t6, t7, t8, t9, t10, t11], .int .i64 0]) ∧ IsRat w' ((64 + (64 + (64 + k + k + k + k)) + (64 + (64 + k + k + k + k)) + (64 + (64 + k + k + k + k))) + (64 + k + k + k + k)) t0 t1 t2 t3 (prim a1 a2 a3 a1) ∧ IsRat w' ((64 + (64 + (64 + k + k + k + k)) + (64 + (64 + k + k + k + k)) + (64 + (64 + k + k + k + k))) + (64 + k + k + k + k)) t4 t5 t6 t7 (prim a1 a2 a3 a2) ∧ IsRat w' ((64 + (64 + (64 + k + k + k + k)) + (64 + (64 + k + k + k + k)) + (64 + (64 + k + k + k + k))) + (64 + k + k + k + k)) t8 t9 t10 t11 (prim a1 a2 a3 a3)) ∧ Gr w w' := by
 have e1 := vzero_false.2 hz0
 have hbig := hua1.big
 have hdp := pden_pos a1 a2 a3
 go_enter Tryz.func34, Tryz.ntmps34
 have hB := Gr.refl w
 refine wp_seq_k (fun K1 k1 => ?_)
 refine rg [0, 1, 2] ?_
 refine se ?_
 refine eb 32 #[uaa0, uaa1, uaa2, uaa3, uab0, uab1, uab2, uab3, uac0, uac1, uac2, uac3] 1 hB fun b2 w2 g2 L2 o2 q2 hB => ?_
 simp only [p3, p4]
 refine se ?_
 refine ea 32 #[(.bool false), (.slice none 0 0), (.bool false), (.slice none 0 0), (.bool false), (.slice none 0 0), (.bool false), (.slice none 0 0), (.bool false), (.slice none 0 0), (.bool false), (.slice none 0 0)] 2 hB fun b3 w3 g3 L3 o3 q3 hB => ?_
 have ne2_3 := L2.ne o3
 simp only [p3, p4]
 refine sv 3 (.int .i64 0) ?_
 simp only [p3, p4]
 refine sq_nil ?_
 refine k1 _ _ ?_
 try clear k1 K1
 refine wp_seq_k (fun K4 k4 => ?_)
 refine wp_seq_k (fun K5 k5 => ?_)
 refine rg [0, 1] ?_
 replace L2 := L2.gr g3
 refine sw 17 (.agg #[uaa0, uaa1, uaa2, uaa3, uab0, uab1, uab2, uab3, uac0, uac1, uac2, uac3]) rfl (rl 32 0 [uaa0, uaa1, uaa2, uaa3, uab0, uab1, uab2, uab3, uac0, uac1, uac2, uac3] L2) ?_
 simp only [p3, p4]
 refine se ?_
 have kq7 := g2.kp.trans g3.kp
 replace hua1 := hua1.kp kq7
 replace hua2 := hua2.kp kq7
 replace hua3 := hua3.kp kq7
 refine ec 18 (vzero_b hua1 hua2 hua3 (by omega) false e1) ?_
 rintro e6 w6 ⟨rfl, g6⟩
 refine ⟨_, rfl, ?_⟩
 replace hB := hB.trans g6
 simp only [p3, p4]
 refine sq_nil ?_
 refine k5 _ _ ?_
 try clear k5 K5
 refine wp_cond_false rfl ?_
 refine wp_skip ?_
 refine k4 _ _ ?_
 try clear k4 K4
 refine wp_seq_k (fun K8 k8 => ?_)
 refine rg [0, 1, 2] ?_
 refine se ?_
 refine ec 20 (from_i (1) (by omega) (by omega) _) ?_
 rintro e9 w9 ⟨⟨x9, y9, rfl, h9⟩, g9⟩
 refine ⟨_, rfl, ?_⟩
 replace hB := hB.trans g9
 simp only [p3, p4]
 refine se ?_
 refine ea 28 #[(.bool false), (.slice none 0 0)] 4 hB fun b10 w10 g10 L10 o10 q10 hB => ?_
 replace L2 := L2.gr (g6.trans g9)
 have ne2_10 := L2.ne o10
 replace L3 := L3.gr (g6.trans g9)
 have ne3_10 := L3.ne o10
 simp only [p3, p4]
 refine se ?_
 refine es 28 0 (.agg #[x9, y9]) [x9, y9] #[x9, y9] L10 hB q10 ⟨h9.one0, h9.one1, trivial⟩ fun w11 st11 kp11 L10 hB => ?_
 refine sq_nil ?_
 refine k8 _ _ ?_
 try clear k8 K8
 refine wp_seq_k (fun K12 k12 => ?_)
 refine wp_seq_k (fun K13 k13 => ?_)
 refine rg [0, 1] ?_
 replace L2 := st11.lc (L2.gr g10) ne2_10
 refine sw 21 (.agg #[uaa0, uaa1, uaa2, uaa3, uab0, uab1, uab2, uab3, uac0, uac1, uac2, uac3]) rfl (rl 32 0 [uaa0, uaa1, uaa2, uaa3, uab0, uab1, uab2, uab3, uac0, uac1, uac2, uac3] L2) ?_
 simp only [p3, p4]
 refine sv 22 (.int .i64 0) ?_
 simp only [p3, p4]
 refine sq_nil ?_
 refine k13 _ _ ?_
 try clear k13 K13
 refine wp_block ?_
 refine wp_loop_rounds 4 ?_
 show Code.wp _ _ _ _ _
 refine wp_seq_k (fun K14 k14 => ?_)
 refine rg [0] ?_
 refine sv 23 (.bool true) ?_
 simp only [p3, p4]
 refine sq_nil ?_
 refine k14 _ _ ?_
 try clear k14 K14
 refine wp_seq_k (fun K15 k15 => ?_)
 refine wp_cond_true rfl ?_
 refine wp_skip ?_
 refine k15 _ _ ?_
 try clear k15 K15
 refine wp_seq_k (fun K16 k16 => ?_)
 refine wp_block ?_
 refine wp_seq_k (fun K17 k17 => ?_)
 refine rg [0, 1, 2] ?_
 refine sv 24 (.agg #[uaa0, uaa1, uaa2, uaa3]) ?_
 simp only [p3, p4]
 refine se ?_
 refine ea 30 #[(.bool false), (.slice none 0 0), (.bool false), (.slice none 0 0)] 6 hB fun b18 w18 g18 L18 o18 q18 hB => ?_
 have ne2_18 := L2.ne o18
 replace L3 := st11.lc (L3.gr g10) ne3_10
 have ne3_18 := L3.ne o18
 have ne10_18 := L10.ne o18
 simp only [p3, p4]
 refine se ?_
 refine es 30 0 (.agg #[uaa0, uaa1, uaa2, uaa3]) [uaa0, uaa1, uaa2, uaa3] #[uaa0, uaa1, uaa2, uaa3] L18 hB q18 ⟨hua1.one0, hua1.one1, hua1.one2, hua1.one3, trivial⟩ fun w19 st19 kp19 L18 hB => ?_
 refine sq_nil ?_
 refine k17 _ _ ?_
 try clear k17 K17
 refine wp_seq_k (fun K20 k20 => ?_)
 have hz21 := Below.size hB
 replace L2 := st19.lc (L2.gr g18) ne2_18
 have lt2_21 := L2.lt
 replace L3 := st19.lc (L3.gr g18) ne3_18
 have lt3_21 := L3.lt
 replace L10 := st19.lc (L10.gr g18) ne10_18
 have lt10_21 := L10.lt
 have lt18_21 := L18.lt
 have gd21 := Gr.drew w19
 replace hB := hB.trans gd21
 replace L10 := L10.gr gd21
 replace L18 := L18.gr gd21
 refine wp_region_flo (fun w' => Lc w' b10 #[x9, y9] 28 ∧ Lc w' b18 #[uaa0, uaa1, uaa2, uaa3] 30) [(true, 0), (true, 1), (true, 2), (false, 3), (false, 4), (false, 5), (true, 6), (true, 7), (true, 8), (true, 9)] [⟨10, 7, 28, #[(.bool false), (.slice none 0 0)]⟩, ⟨11, 8, 28, #[(.bool false), (.slice none 0 0)]⟩] [(false, 12), (false, 13), (true, 14)] (by kernel_rfl) (by kernel_rfl) (by kernel_rfl) (by kernel_rfl) (by kernel_rfl) (by decide) (fun _ _ _ _ _ h => h) (fun _ _ _ _ _ h => h) (fun w' o h => ⟨Lc.gr h.1 (Gr.alloc w' o), Lc.gr h.2 (Gr.alloc w' o)⟩) ⟨L10, L18⟩ (by intro f hf; simp only [List.mem_cons, List.not_mem_nil, or_false] at hf; rcases hf with rfl | rfl <;> first | exact alloc_zero (z := (.agg #[(.bool false), (.slice none 0 0)])) (by kernel_rfl) rfl | exact alloc_zero (z := (.agg #[(.bool false), (.slice none 0 0)])) (by kernel_rfl) rfl) ?_
 refine fw 26 (.agg #[x9, y9]) rfl (fun w' hS => (rl 28 0 [x9, y9] hS.1)) ?_
 simp only [p3, p4]
 refine fw 27 (.agg #[x9, y9]) rfl (fun w' hS => (rl 28 0 [x9, y9] hS.1)) ?_
 simp only [p3, p4]
 refine fw 28 (.agg #[uaa0, uaa1, uaa2, uaa3]) rfl (fun w' hS => (rl 30 0 [uaa0, uaa1, uaa2, uaa3] hS.2)) ?_
 simp only [p3, p4]
 refine flo_eff rfl rfl (fun w22 g22 _ K22 k22 => ?_)
 replace hB := hB.trans g22
 have kq24 := g6.kp.trans (g9.kp.trans (g10.kp.trans (kp11.trans (g18.kp.trans (kp19.trans (gd21.kp.trans g22.kp))))))
 replace hua1 := hua1.kp kq24
 refine ec 29 (den_i hua1) ?_
 rintro e23 w23 ⟨⟨x23, y23, rfl, h23⟩, g23⟩
 refine ⟨_, rfl, ?_⟩
 replace hB := hB.trans g23
 replace L10 := L10.gr (g22.trans g23)
 replace L18 := L18.gr (g22.trans g23)
 refine k22 _ _ g23 ⟨L10, L18⟩ ?_
 try clear k22 K22
 simp only [p3, p4]
 refine flo_eff rfl rfl (fun w25 g25 _ K25 k25 => ?_)
 replace hB := hB.trans g25
 have kq27 := g10.kp.trans (kp11.trans (g18.kp.trans (kp19.trans (gd21.kp.trans (g22.kp.trans (g23.kp.trans g25.kp))))))
 replace h9 := h9.kp kq27
 replace h23 := h23.kp g25.kp
 refine ec 30 (gcd_i h9 h23 (by omega)) ?_
 rintro e26 w26 ⟨⟨x26, y26, rfl, h26⟩, g26⟩
 refine ⟨_, rfl, ?_⟩
 replace hB := hB.trans g26
 replace L10 := L10.gr (g25.trans g26)
 replace L18 := L18.gr (g25.trans g26)
 refine k25 _ _ g26 ⟨L10, L18⟩ ?_
 try clear k25 K25
 simp only [p3, p4]
 refine flo_eff rfl rfl (fun w28 g28 _ K28 k28 => ?_)
 replace hB := hB.trans g28
 have kq30 := g26.kp.trans g28.kp
 replace h9 := h9.kp kq30
 replace h26 := h26.kp g28.kp
 refine ec 31 (divmod_i h9 h26 (gcd_ex _ _).1 (by omega)) ?_
 rintro e29 w29 ⟨⟨x29, y29, xr29, yr29, rfl, h29, hr29⟩, g29⟩
 refine ⟨_, rfl, ?_⟩
 replace hB := hB.trans g29
 replace L10 := L10.gr (g28.trans g29)
 replace L18 := L18.gr (g28.trans g29)
 refine k28 _ _ g29 ⟨L10, L18⟩ ?_
 try clear k28 K28
 simp only [p3, p4]
 refine fv 25 (.tuple #[(.agg #[x29, y29]), (.agg #[xr29, yr29]), (.int .i64 0)]) ?_
 simp only [p3, p4]
 refine fv 32 (.agg #[x29, y29]) ?_
 simp only [p3, p4]
 refine fv 33 (.agg #[xr29, yr29]) ?_
 simp only [p3, p4]
 refine fv 34 (.int .i64 0) ?_
 simp only [p3, p4]
 refine flo_nil (fun w31 g31 _ => ?_)
 replace hB := hB.trans g31
 refine floFin2 (fun b32 b33 (L32 : Lc w31 b32 #[(.bool false), (.slice none 0 0)] 28) q32 (L33 : Lc w31 b33 #[(.bool false), (.slice none 0 0)] 28) q33 ne32_33 => ?_)
 have ne2_32 : b2 ≠ b32 := Nat.ne_of_lt (Nat.lt_of_lt_of_le lt2_21 q32)
 have ne3_32 : b3 ≠ b32 := Nat.ne_of_lt (Nat.lt_of_lt_of_le lt3_21 q32)
 have ne10_32 : b10 ≠ b32 := Nat.ne_of_lt (Nat.lt_of_lt_of_le lt10_21 q32)
 have ne18_32 : b18 ≠ b32 := Nat.ne_of_lt (Nat.lt_of_lt_of_le lt18_21 q32)
 replace q32 := Nat.le_trans hz21 q32
 have ne2_33 : b2 ≠ b33 := Nat.ne_of_lt (Nat.lt_of_lt_of_le lt2_21 q33)
 have ne3_33 : b3 ≠ b33 := Nat.ne_of_lt (Nat.lt_of_lt_of_le lt3_21 q33)
 have ne10_33 : b10 ≠ b33 := Nat.ne_of_lt (Nat.lt_of_lt_of_le lt10_21 q33)
 have ne18_33 : b18 ≠ b33 := Nat.ne_of_lt (Nat.lt_of_lt_of_le lt18_21 q33)
 replace q33 := Nat.le_trans hz21 q33
 simp only [putl, p3, p4]
 refine oe ?_
 refine es 28 0 (.agg #[x29, y29]) [x29, y29] #[x29, y29] L32 hB q32 ⟨h29.one0, h29.one1, trivial⟩ fun w35 st35 kp35 L32 hB => ?_
 replace L10 := st35.lc (L10.gr g31) ne10_32
 replace L18 := st35.lc (L18.gr g31) ne18_32
 refine ⟨⟨L10, L18⟩, ?_⟩
 refine oe ?_
 replace L33 := st35.lc L33 (Ne.symm ne32_33)
 refine es 28 0 (.agg #[xr29, yr29]) [xr29, yr29] #[xr29, yr29] L33 hB q33 ⟨hr29.one0, hr29.one1, trivial⟩ fun w37 st37 kp37 L33 hB => ?_
 replace L10 := st37.lc L10 ne10_33
 replace L18 := st37.lc L18 ne18_33
 refine ⟨⟨L10, L18⟩, ?_⟩
 refine ov 9 (.int .i64 0) ?_
 simp only [p3, p4]
 refine ord_nil ?_
 refine k20 _ _ ?_
 try clear k20 K20
 have gd47 := Gr.drew w37
 replace hB := hB.trans gd47
 replace L18 := L18.gr gd47
 replace L32 := (st37.lc L32 ne32_33).gr gd47
 refine wp_region_ord (fun w' => Lc w' b18 #[uaa0, uaa1, uaa2, uaa3] 30 ∧ Lc w' b32 #[x29, y29] 28) [(true, 0), (true, 1), (false, 2), (false, 3), (false, 4)] (by kernel_rfl) (by kernel_rfl) (by kernel_rfl) (by decide) (fun _ _ _ _ _ h => h) ⟨L18, L32⟩ ?_
 refine ow 35 (.agg #[x29, y29]) rfl (fun w' hS => (rl 28 0 [x29, y29] hS.2)) ?_
 simp only [p3, p4]
 refine ow 36 (.agg #[uaa0, uaa1, uaa2, uaa3]) rfl (fun w' hS => (rl 30 0 [uaa0, uaa1, uaa2, uaa3] hS.1)) ?_
 simp only [p3, p4]
 refine oe ?_
 have kq50 := g23.kp.trans (g25.kp.trans (g26.kp.trans (g28.kp.trans (g29.kp.trans (g31.kp.trans (kp35.trans (kp37.trans gd47.kp)))))))
 replace hua1 := hua1.kp kq50
 refine ec 37 (den_i hua1) ?_
 rintro e49 w49 ⟨⟨x49, y49, rfl, h49⟩, g49⟩
 refine ⟨_, rfl, ?_⟩
 replace hB := hB.trans g49
 replace L18 := L18.gr g49
 replace L32 := L32.gr g49
 refine ⟨⟨L18, L32⟩, ?_⟩
 simp only [p3, p4]
 refine oe ?_
 have kq53 := g31.kp.trans (kp35.trans (kp37.trans (gd47.kp.trans g49.kp)))
 replace h29 := h29.kp kq53
 refine ec 38 (mul_i h29 h49 (by omega)) ?_
 rintro e52 w52 ⟨⟨x52, y52, rfl, h52⟩, g52⟩
 refine ⟨_, rfl, ?_⟩
 replace hB := hB.trans g52
 replace h52 := (show IsInt _ _ _ _ (lcmS (1) (a1.den : Int)) from h52)
 replace L18 := L18.gr g52
 replace L32 := L32.gr g52
 refine ⟨⟨L18, L32⟩, ?_⟩
 simp only [p3, p4]
 refine oe ?_
 replace L10 := L10.gr (gd47.trans (g49.trans g52))
 refine es 28 0 (.agg #[x52, y52]) [x52, y52] #[x52, y52] L10 hB q10 ⟨h52.one0, h52.one1, trivial⟩ fun w55 st55 kp55 L10 hB => ?_
 replace L18 := st55.lc L18 (Ne.symm ne10_18)
 replace L32 := st55.lc L32 (Ne.symm ne10_32)
 refine ⟨⟨L18, L32⟩, ?_⟩
 refine ord_nil ?_
 refine k16 _ _ ?_
 try clear k16 K16
 refine rg [0, 1] ?_
 refine sv 39 (.int .i64 1) ?_
 simp only [p3, p4]
 refine sv 22 (.int .i64 1) ?_
 simp only [p3, p4]
 refine sq_nil ?_
 show Code.rounds _ _ _ _ _ _
 show Code.wp _ _ _ _ _
 refine wp_seq_k (fun K56 k56 => ?_)
 refine rg [0] ?_
 refine sv 23 (.bool true) ?_
 simp only [p3, p4]
 refine sq_nil ?_
 refine k56 _ _ ?_
 try clear k56 K56
 refine wp_seq_k (fun K57 k57 => ?_)
 refine wp_cond_true rfl ?_
 refine wp_skip ?_
 refine k57 _ _ ?_
 try clear k57 K57
 refine wp_seq_k (fun K58 k58 => ?_)
 refine wp_block ?_
 refine wp_seq_k (fun K59 k59 => ?_)
 refine rg [0, 1, 2] ?_
 refine sv 24 (.agg #[uab0, uab1, uab2, uab3]) ?_
 simp only [p3, p4]
 refine se ?_
 refine ea 30 #[(.bool false), (.slice none 0 0), (.bool false), (.slice none 0 0)] 6 hB fun b60 w60 g60 L60 o60 q60 hB => ?_
 replace L2 := st55.lc ((st37.lc (st35.lc (L2.gr (gd21.trans (g22.trans (g23.trans (g25.trans (g26.trans (g28.trans (g29.trans g31)))))))) ne2_32) ne2_33).gr (gd47.trans (g49.trans g52))) ne2_10
 have ne2_60 := L2.ne o60
 replace L3 := st55.lc ((st37.lc (st35.lc (L3.gr (gd21.trans (g22.trans (g23.trans (g25.trans (g26.trans (g28.trans (g29.trans g31)))))))) ne3_32) ne3_33).gr (gd47.trans (g49.trans g52))) ne3_10
 have ne3_60 := L3.ne o60
 have ne10_60 := L10.ne o60
 have ne32_60 := L32.ne o60
 replace L33 := st55.lc (L33.gr (gd47.trans (g49.trans g52))) (Ne.symm ne10_33)
 have ne33_60 := L33.ne o60
 simp only [p3, p4]
 refine se ?_
 refine es 30 0 (.agg #[uab0, uab1, uab2, uab3]) [uab0, uab1, uab2, uab3] #[uab0, uab1, uab2, uab3] L60 hB q60 ⟨hua2.one0, hua2.one1, hua2.one2, hua2.one3, trivial⟩ fun w61 st61 kp61 L60 hB => ?_
 refine sq_nil ?_
 refine k59 _ _ ?_
 try clear k59 K59
 refine wp_seq_k (fun K62 k62 => ?_)
 have hz63 := Below.size hB
 replace L2 := st61.lc (L2.gr g60) ne2_60
 have lt2_63 := L2.lt
 replace L3 := st61.lc (L3.gr g60) ne3_60
 have lt3_63 := L3.lt
 replace L10 := st61.lc (L10.gr g60) ne10_60
 have lt10_63 := L10.lt
 replace L32 := st61.lc (L32.gr g60) ne32_60
 have lt32_63 := L32.lt
 replace L33 := st61.lc (L33.gr g60) ne33_60
 have lt33_63 := L33.lt
 have lt60_63 := L60.lt
 have gd63 := Gr.drew w61
 replace hB := hB.trans gd63
 replace L10 := L10.gr gd63
 replace L60 := L60.gr gd63
 refine wp_region_flo (fun w' => Lc w' b10 #[x52, y52] 28 ∧ Lc w' b60 #[uab0, uab1, uab2, uab3] 30) [(true, 0), (true, 1), (true, 2), (false, 3), (false, 4), (false, 5), (true, 6), (true, 7), (true, 8), (true, 9)] [⟨10, 7, 28, #[(.bool false), (.slice none 0 0)]⟩, ⟨11, 8, 28, #[(.bool false), (.slice none 0 0)]⟩] [(false, 12), (false, 13), (true, 14)] (by kernel_rfl) (by kernel_rfl) (by kernel_rfl) (by kernel_rfl) (by kernel_rfl) (by decide) (fun _ _ _ _ _ h => h) (fun _ _ _ _ _ h => h) (fun w' o h => ⟨Lc.gr h.1 (Gr.alloc w' o), Lc.gr h.2 (Gr.alloc w' o)⟩) ⟨L10, L60⟩ (by intro f hf; simp only [List.mem_cons, List.not_mem_nil, or_false] at hf; rcases hf with rfl | rfl <;> first | exact alloc_zero (z := (.agg #[(.bool false), (.slice none 0 0)])) (by kernel_rfl) rfl | exact alloc_zero (z := (.agg #[(.bool false), (.slice none 0 0)])) (by kernel_rfl) rfl) ?_
 refine fw 26 (.agg #[x52, y52]) rfl (fun w' hS => (rl 28 0 [x52, y52] hS.1)) ?_
 simp only [p3, p4]
 refine fw 27 (.agg #[x52, y52]) rfl (fun w' hS => (rl 28 0 [x52, y52] hS.1)) ?_
 simp only [p3, p4]
 refine fw 28 (.agg #[uab0, uab1, uab2, uab3]) rfl (fun w' hS => (rl 30 0 [uab0, uab1, uab2, uab3] hS.2)) ?_
 simp only [p3, p4]
 refine flo_eff rfl rfl (fun w64 g64 _ K64 k64 => ?_)
 replace hB := hB.trans g64
 have kq66 := g6.kp.trans (g9.kp.trans (g10.kp.trans (kp11.trans (g18.kp.trans (kp19.trans (gd21.kp.trans (g22.kp.trans (g23.kp.trans (g25.kp.trans (g26.kp.trans (g28.kp.trans (g29.kp.trans (g31.kp.trans (kp35.trans (kp37.trans (gd47.kp.trans (g49.kp.trans (g52.kp.trans (kp55.trans (g60.kp.trans (kp61.trans (gd63.kp.trans g64.kp))))))))))))))))))))))
 replace hua2 := hua2.kp kq66
 refine ec 29 (den_i hua2) ?_
 rintro e65 w65 ⟨⟨x65, y65, rfl, h65⟩, g65⟩
 refine ⟨_, rfl, ?_⟩
 replace hB := hB.trans g65
 replace L10 := L10.gr (g64.trans g65)
 replace L60 := L60.gr (g64.trans g65)
 refine k64 _ _ g65 ⟨L10, L60⟩ ?_
 try clear k64 K64
 simp only [p3, p4]
 refine flo_eff rfl rfl (fun w67 g67 _ K67 k67 => ?_)
 replace hB := hB.trans g67
 have kq69 := kp55.trans (g60.kp.trans (kp61.trans (gd63.kp.trans (g64.kp.trans (g65.kp.trans g67.kp)))))
 replace h52 := h52.kp kq69
 replace h65 := h65.kp g67.kp
 refine ec 30 (gcd_i h52 h65 (by omega)) ?_
 rintro e68 w68 ⟨⟨x68, y68, rfl, h68⟩, g68⟩
 refine ⟨_, rfl, ?_⟩
 replace hB := hB.trans g68
 replace L10 := L10.gr (g67.trans g68)
 replace L60 := L60.gr (g67.trans g68)
 refine k67 _ _ g68 ⟨L10, L60⟩ ?_
 try clear k67 K67
 simp only [p3, p4]
 refine flo_eff rfl rfl (fun w70 g70 _ K70 k70 => ?_)
 replace hB := hB.trans g70
 have kq72 := g68.kp.trans g70.kp
 replace h52 := h52.kp kq72
 replace h68 := h68.kp g70.kp
 refine ec 31 (divmod_i h52 h68 (gcd_ex _ _).1 (by omega)) ?_
 rintro e71 w71 ⟨⟨x71, y71, xr71, yr71, rfl, h71, hr71⟩, g71⟩
 refine ⟨_, rfl, ?_⟩
 replace hB := hB.trans g71
 replace L10 := L10.gr (g70.trans g71)
 replace L60 := L60.gr (g70.trans g71)
 refine k70 _ _ g71 ⟨L10, L60⟩ ?_
 try clear k70 K70
 simp only [p3, p4]
 refine fv 25 (.tuple #[(.agg #[x71, y71]), (.agg #[xr71, yr71]), (.int .i64 0)]) ?_
 simp only [p3, p4]
 refine fv 32 (.agg #[x71, y71]) ?_
 simp only [p3, p4]
 refine fv 33 (.agg #[xr71, yr71]) ?_
 simp only [p3, p4]
 refine fv 34 (.int .i64 0) ?_
 simp only [p3, p4]
 refine flo_nil (fun w73 g73 _ => ?_)
 replace hB := hB.trans g73
 refine floFin2 (fun b74 b75 (L74 : Lc w73 b74 #[(.bool false), (.slice none 0 0)] 28) q74 (L75 : Lc w73 b75 #[(.bool false), (.slice none 0 0)] 28) q75 ne74_75 => ?_)
 have ne2_74 : b2 ≠ b74 := Nat.ne_of_lt (Nat.lt_of_lt_of_le lt2_63 q74)
 have ne3_74 : b3 ≠ b74 := Nat.ne_of_lt (Nat.lt_of_lt_of_le lt3_63 q74)
 have ne10_74 : b10 ≠ b74 := Nat.ne_of_lt (Nat.lt_of_lt_of_le lt10_63 q74)
 have ne32_74 : b32 ≠ b74 := Nat.ne_of_lt (Nat.lt_of_lt_of_le lt32_63 q74)
 have ne33_74 : b33 ≠ b74 := Nat.ne_of_lt (Nat.lt_of_lt_of_le lt33_63 q74)
 have ne60_74 : b60 ≠ b74 := Nat.ne_of_lt (Nat.lt_of_lt_of_le lt60_63 q74)
 replace q74 := Nat.le_trans hz63 q74
 have ne2_75 : b2 ≠ b75 := Nat.ne_of_lt (Nat.lt_of_lt_of_le lt2_63 q75)
 have ne3_75 : b3 ≠ b75 := Nat.ne_of_lt (Nat.lt_of_lt_of_le lt3_63 q75)
 have ne10_75 : b10 ≠ b75 := Nat.ne_of_lt (Nat.lt_of_lt_of_le lt10_63 q75)
 have ne32_75 : b32 ≠ b75 := Nat.ne_of_lt (Nat.lt_of_lt_of_le lt32_63 q75)
 have ne33_75 : b33 ≠ b75 := Nat.ne_of_lt (Nat.lt_of_lt_of_le lt33_63 q75)
 have ne60_75 : b60 ≠ b75 := Nat.ne_of_lt (Nat.lt_of_lt_of_le lt60_63 q75)
 replace q75 := Nat.le_trans hz63 q75
 simp only [putl, p3, p4]
 refine oe ?_
 refine es 28 0 (.agg #[x71, y71]) [x71, y71] #[x71, y71] L74 hB q74 ⟨h71.one0, h71.one1, trivial⟩ fun w77 st77 kp77 L74 hB => ?_
 replace L10 := st77.lc (L10.gr g73) ne10_74
 replace L60 := st77.lc (L60.gr g73) ne60_74
 refine ⟨⟨L10, L60⟩, ?_⟩
 refine oe ?_
 replace L75 := st77.lc L75 (Ne.symm ne74_75)
 refine es 28 0 (.agg #[xr71, yr71]) [xr71, yr71] #[xr71, yr71] L75 hB q75 ⟨hr71.one0, hr71.one1, trivial⟩ fun w79 st79 kp79 L75 hB => ?_
 replace L10 := st79.lc L10 ne10_75
 replace L60 := st79.lc L60 ne60_75
 refine ⟨⟨L10, L60⟩, ?_⟩
 refine ov 9 (.int .i64 0) ?_
 simp only [p3, p4]
 refine ord_nil ?_
 refine k62 _ _ ?_
 try clear k62 K62
 have gd89 := Gr.drew w79
 replace hB := hB.trans gd89
 replace L60 := L60.gr gd89
 replace L74 := (st79.lc L74 ne74_75).gr gd89
 refine wp_region_ord (fun w' => Lc w' b60 #[uab0, uab1, uab2, uab3] 30 ∧ Lc w' b74 #[x71, y71] 28) [(true, 0), (true, 1), (false, 2), (false, 3), (false, 4)] (by kernel_rfl) (by kernel_rfl) (by kernel_rfl) (by decide) (fun _ _ _ _ _ h => h) ⟨L60, L74⟩ ?_
 refine ow 35 (.agg #[x71, y71]) rfl (fun w' hS => (rl 28 0 [x71, y71] hS.2)) ?_
 simp only [p3, p4]
 refine ow 36 (.agg #[uab0, uab1, uab2, uab3]) rfl (fun w' hS => (rl 30 0 [uab0, uab1, uab2, uab3] hS.1)) ?_
 simp only [p3, p4]
 refine oe ?_
 have kq92 := g65.kp.trans (g67.kp.trans (g68.kp.trans (g70.kp.trans (g71.kp.trans (g73.kp.trans (kp77.trans (kp79.trans gd89.kp)))))))
 replace hua2 := hua2.kp kq92
 refine ec 37 (den_i hua2) ?_
 rintro e91 w91 ⟨⟨x91, y91, rfl, h91⟩, g91⟩
 refine ⟨_, rfl, ?_⟩
 replace hB := hB.trans g91
 replace L60 := L60.gr g91
 replace L74 := L74.gr g91
 refine ⟨⟨L60, L74⟩, ?_⟩
 simp only [p3, p4]
 refine oe ?_
 have kq95 := g73.kp.trans (kp77.trans (kp79.trans (gd89.kp.trans g91.kp)))
 replace h71 := h71.kp kq95
 refine ec 38 (mul_i h71 h91 (by omega)) ?_
 rintro e94 w94 ⟨⟨x94, y94, rfl, h94⟩, g94⟩
 refine ⟨_, rfl, ?_⟩
 replace hB := hB.trans g94
 replace h94 := (show IsInt _ _ _ _ (lcmS (lcmS (1) (a1.den : Int)) (a2.den : Int)) from h94)
 replace L60 := L60.gr g94
 replace L74 := L74.gr g94
 refine ⟨⟨L60, L74⟩, ?_⟩
 simp only [p3, p4]
 refine oe ?_
 replace L10 := L10.gr (gd89.trans (g91.trans g94))
 refine es 28 0 (.agg #[x94, y94]) [x94, y94] #[x94, y94] L10 hB q10 ⟨h94.one0, h94.one1, trivial⟩ fun w97 st97 kp97 L10 hB => ?_
 replace L60 := st97.lc L60 (Ne.symm ne10_60)
 replace L74 := st97.lc L74 (Ne.symm ne10_74)
 refine ⟨⟨L60, L74⟩, ?_⟩
 refine ord_nil ?_
 refine k58 _ _ ?_
 try clear k58 K58
 refine rg [0, 1] ?_
 refine sv 39 (.int .i64 2) ?_
 simp only [p3, p4]
 refine sv 22 (.int .i64 2) ?_
 simp only [p3, p4]
 refine sq_nil ?_
 show Code.rounds _ _ _ _ _ _
 show Code.wp _ _ _ _ _
 refine wp_seq_k (fun K98 k98 => ?_)
 refine rg [0] ?_
 refine sv 23 (.bool true) ?_
 simp only [p3, p4]
 refine sq_nil ?_
 refine k98 _ _ ?_
 try clear k98 K98
 refine wp_seq_k (fun K99 k99 => ?_)
 refine wp_cond_true rfl ?_
 refine wp_skip ?_
 refine k99 _ _ ?_
 try clear k99 K99
 refine wp_seq_k (fun K100 k100 => ?_)
 refine wp_block ?_
 refine wp_seq_k (fun K101 k101 => ?_)
 refine rg [0, 1, 2] ?_
 refine sv 24 (.agg #[uac0, uac1, uac2, uac3]) ?_
 simp only [p3, p4]
 refine se ?_
 refine ea 30 #[(.bool false), (.slice none 0 0), (.bool false), (.slice none 0 0)] 6 hB fun b102 w102 g102 L102 o102 q102 hB => ?_
 replace L2 := st97.lc ((st79.lc (st77.lc (L2.gr (gd63.trans (g64.trans (g65.trans (g67.trans (g68.trans (g70.trans (g71.trans g73)))))))) ne2_74) ne2_75).gr (gd89.trans (g91.trans g94))) ne2_10
 have ne2_102 := L2.ne o102
 replace L3 := st97.lc ((st79.lc (st77.lc (L3.gr (gd63.trans (g64.trans (g65.trans (g67.trans (g68.trans (g70.trans (g71.trans g73)))))))) ne3_74) ne3_75).gr (gd89.trans (g91.trans g94))) ne3_10
 have ne3_102 := L3.ne o102
 have ne10_102 := L10.ne o102
 have ne74_102 := L74.ne o102
 replace L75 := st97.lc (L75.gr (gd89.trans (g91.trans g94))) (Ne.symm ne10_75)
 have ne75_102 := L75.ne o102
 simp only [p3, p4]
 refine se ?_
 refine es 30 0 (.agg #[uac0, uac1, uac2, uac3]) [uac0, uac1, uac2, uac3] #[uac0, uac1, uac2, uac3] L102 hB q102 ⟨hua3.one0, hua3.one1, hua3.one2, hua3.one3, trivial⟩ fun w103 st103 kp103 L102 hB => ?_
 refine sq_nil ?_
 refine k101 _ _ ?_
 try clear k101 K101
 refine wp_seq_k (fun K104 k104 => ?_)
 have hz105 := Below.size hB
 replace L2 := st103.lc (L2.gr g102) ne2_102
 have lt2_105 := L2.lt
 replace L3 := st103.lc (L3.gr g102) ne3_102
 have lt3_105 := L3.lt
 replace L10 := st103.lc (L10.gr g102) ne10_102
 have lt10_105 := L10.lt
 replace L74 := st103.lc (L74.gr g102) ne74_102
 have lt74_105 := L74.lt
 replace L75 := st103.lc (L75.gr g102) ne75_102
 have lt75_105 := L75.lt
 have lt102_105 := L102.lt
 have gd105 := Gr.drew w103
 replace hB := hB.trans gd105
 replace L10 := L10.gr gd105
 replace L102 := L102.gr gd105
 refine wp_region_flo (fun w' => Lc w' b10 #[x94, y94] 28 ∧ Lc w' b102 #[uac0, uac1, uac2, uac3] 30) [(true, 0), (true, 1), (true, 2), (false, 3), (false, 4), (false, 5), (true, 6), (true, 7), (true, 8), (true, 9)] [⟨10, 7, 28, #[(.bool false), (.slice none 0 0)]⟩, ⟨11, 8, 28, #[(.bool false), (.slice none 0 0)]⟩] [(false, 12), (false, 13), (true, 14)] (by kernel_rfl) (by kernel_rfl) (by kernel_rfl) (by kernel_rfl) (by kernel_rfl) (by decide) (fun _ _ _ _ _ h => h) (fun _ _ _ _ _ h => h) (fun w' o h => ⟨Lc.gr h.1 (Gr.alloc w' o), Lc.gr h.2 (Gr.alloc w' o)⟩) ⟨L10, L102⟩ (by intro f hf; simp only [List.mem_cons, List.not_mem_nil, or_false] at hf; rcases hf with rfl | rfl <;> first | exact alloc_zero (z := (.agg #[(.bool false), (.slice none 0 0)])) (by kernel_rfl) rfl | exact alloc_zero (z := (.agg #[(.bool false), (.slice none 0 0)])) (by kernel_rfl) rfl) ?_
 refine fw 26 (.agg #[x94, y94]) rfl (fun w' hS => (rl 28 0 [x94, y94] hS.1)) ?_
 simp only [p3, p4]
 refine fw 27 (.agg #[x94, y94]) rfl (fun w' hS => (rl 28 0 [x94, y94] hS.1)) ?_
 simp only [p3, p4]
 refine fw 28 (.agg #[uac0, uac1, uac2, uac3]) rfl (fun w' hS => (rl 30 0 [uac0, uac1, uac2, uac3] hS.2)) ?_
 simp only [p3, p4]
 refine flo_eff rfl rfl (fun w106 g106 _ K106 k106 => ?_)
 replace hB := hB.trans g106
 have kq108 := g6.kp.trans (g9.kp.trans (g10.kp.trans (kp11.trans (g18.kp.trans (kp19.trans (gd21.kp.trans (g22.kp.trans (g23.kp.trans (g25.kp.trans (g26.kp.trans (g28.kp.trans (g29.kp.trans (g31.kp.trans (kp35.trans (kp37.trans (gd47.kp.trans (g49.kp.trans (g52.kp.trans (kp55.trans (g60.kp.trans (kp61.trans (gd63.kp.trans (g64.kp.trans (g65.kp.trans (g67.kp.trans (g68.kp.trans (g70.kp.trans (g71.kp.trans (g73.kp.trans (kp77.trans (kp79.trans (gd89.kp.trans (g91.kp.trans (g94.kp.trans (kp97.trans (g102.kp.trans (kp103.trans (gd105.kp.trans g106.kp))))))))))))))))))))))))))))))))))))))
 replace hua3 := hua3.kp kq108
 refine ec 29 (den_i hua3) ?_
 rintro e107 w107 ⟨⟨x107, y107, rfl, h107⟩, g107⟩
 refine ⟨_, rfl, ?_⟩
 replace hB := hB.trans g107
 replace L10 := L10.gr (g106.trans g107)
 replace L102 := L102.gr (g106.trans g107)
 refine k106 _ _ g107 ⟨L10, L102⟩ ?_
 try clear k106 K106
 simp only [p3, p4]
 refine flo_eff rfl rfl (fun w109 g109 _ K109 k109 => ?_)
 replace hB := hB.trans g109
 have kq111 := kp97.trans (g102.kp.trans (kp103.trans (gd105.kp.trans (g106.kp.trans (g107.kp.trans g109.kp)))))
 replace h94 := h94.kp kq111
 replace h107 := h107.kp g109.kp
 refine ec 30 (gcd_i h94 h107 (by omega)) ?_
 rintro e110 w110 ⟨⟨x110, y110, rfl, h110⟩, g110⟩
 refine ⟨_, rfl, ?_⟩
 replace hB := hB.trans g110
 replace L10 := L10.gr (g109.trans g110)
 replace L102 := L102.gr (g109.trans g110)
 refine k109 _ _ g110 ⟨L10, L102⟩ ?_
 try clear k109 K109
 simp only [p3, p4]
 refine flo_eff rfl rfl (fun w112 g112 _ K112 k112 => ?_)
 replace hB := hB.trans g112
 have kq114 := g110.kp.trans g112.kp
 replace h94 := h94.kp kq114
 replace h110 := h110.kp g112.kp
 refine ec 31 (divmod_i h94 h110 (gcd_ex _ _).1 (by omega)) ?_
 rintro e113 w113 ⟨⟨x113, y113, xr113, yr113, rfl, h113, hr113⟩, g113⟩
 refine ⟨_, rfl, ?_⟩
 replace hB := hB.trans g113
 replace L10 := L10.gr (g112.trans g113)
 replace L102 := L102.gr (g112.trans g113)
 refine k112 _ _ g113 ⟨L10, L102⟩ ?_
 try clear k112 K112
 simp only [p3, p4]
 refine fv 25 (.tuple #[(.agg #[x113, y113]), (.agg #[xr113, yr113]), (.int .i64 0)]) ?_
 simp only [p3, p4]
 refine fv 32 (.agg #[x113, y113]) ?_
 simp only [p3, p4]
 refine fv 33 (.agg #[xr113, yr113]) ?_
 simp only [p3, p4]
 refine fv 34 (.int .i64 0) ?_
 simp only [p3, p4]
 refine flo_nil (fun w115 g115 _ => ?_)
 replace hB := hB.trans g115
 refine floFin2 (fun b116 b117 (L116 : Lc w115 b116 #[(.bool false), (.slice none 0 0)] 28) q116 (L117 : Lc w115 b117 #[(.bool false), (.slice none 0 0)] 28) q117 ne116_117 => ?_)
 have ne2_116 : b2 ≠ b116 := Nat.ne_of_lt (Nat.lt_of_lt_of_le lt2_105 q116)
 have ne3_116 : b3 ≠ b116 := Nat.ne_of_lt (Nat.lt_of_lt_of_le lt3_105 q116)
 have ne10_116 : b10 ≠ b116 := Nat.ne_of_lt (Nat.lt_of_lt_of_le lt10_105 q116)
 have ne74_116 : b74 ≠ b116 := Nat.ne_of_lt (Nat.lt_of_lt_of_le lt74_105 q116)
 have ne75_116 : b75 ≠ b116 := Nat.ne_of_lt (Nat.lt_of_lt_of_le lt75_105 q116)
 have ne102_116 : b102 ≠ b116 := Nat.ne_of_lt (Nat.lt_of_lt_of_le lt102_105 q116)
 replace q116 := Nat.le_trans hz105 q116
 have ne2_117 : b2 ≠ b117 := Nat.ne_of_lt (Nat.lt_of_lt_of_le lt2_105 q117)
 have ne3_117 : b3 ≠ b117 := Nat.ne_of_lt (Nat.lt_of_lt_of_le lt3_105 q117)
 have ne10_117 : b10 ≠ b117 := Nat.ne_of_lt (Nat.lt_of_lt_of_le lt10_105 q117)
 have ne74_117 : b74 ≠ b117 := Nat.ne_of_lt (Nat.lt_of_lt_of_le lt74_105 q117)
 have ne75_117 : b75 ≠ b117 := Nat.ne_of_lt (Nat.lt_of_lt_of_le lt75_105 q117)
 have ne102_117 : b102 ≠ b117 := Nat.ne_of_lt (Nat.lt_of_lt_of_le lt102_105 q117)
 replace q117 := Nat.le_trans hz105 q117
 simp only [putl, p3, p4]
 refine oe ?_
 refine es 28 0 (.agg #[x113, y113]) [x113, y113] #[x113, y113] L116 hB q116 ⟨h113.one0, h113.one1, trivial⟩ fun w119 st119 kp119 L116 hB => ?_
 replace L10 := st119.lc (L10.gr g115) ne10_116
 replace L102 := st119.lc (L102.gr g115) ne102_116
 refine ⟨⟨L10, L102⟩, ?_⟩
 refine oe ?_
 replace L117 := st119.lc L117 (Ne.symm ne116_117)
 refine es 28 0 (.agg #[xr113, yr113]) [xr113, yr113] #[xr113, yr113] L117 hB q117 ⟨hr113.one0, hr113.one1, trivial⟩ fun w121 st121 kp121 L117 hB => ?_
 replace L10 := st121.lc L10 ne10_117
 replace L102 := st121.lc L102 ne102_117
 refine ⟨⟨L10, L102⟩, ?_⟩
 refine ov 9 (.int .i64 0) ?_
 simp only [p3, p4]
 refine ord_nil ?_
 refine k104 _ _ ?_
 try clear k104 K104
 have gd131 := Gr.drew w121
 replace hB := hB.trans gd131
 replace L102 := L102.gr gd131
 replace L116 := (st121.lc L116 ne116_117).gr gd131
 refine wp_region_ord (fun w' => Lc w' b102 #[uac0, uac1, uac2, uac3] 30 ∧ Lc w' b116 #[x113, y113] 28) [(true, 0), (true, 1), (false, 2), (false, 3), (false, 4)] (by kernel_rfl) (by kernel_rfl) (by kernel_rfl) (by decide) (fun _ _ _ _ _ h => h) ⟨L102, L116⟩ ?_
 refine ow 35 (.agg #[x113, y113]) rfl (fun w' hS => (rl 28 0 [x113, y113] hS.2)) ?_
 simp only [p3, p4]
 refine ow 36 (.agg #[uac0, uac1, uac2, uac3]) rfl (fun w' hS => (rl 30 0 [uac0, uac1, uac2, uac3] hS.1)) ?_
 simp only [p3, p4]
 refine oe ?_
 have kq134 := g107.kp.trans (g109.kp.trans (g110.kp.trans (g112.kp.trans (g113.kp.trans (g115.kp.trans (kp119.trans (kp121.trans gd131.kp)))))))
 replace hua3 := hua3.kp kq134
 refine ec 37 (den_i hua3) ?_
 rintro e133 w133 ⟨⟨x133, y133, rfl, h133⟩, g133⟩
 refine ⟨_, rfl, ?_⟩
 replace hB := hB.trans g133
 replace L102 := L102.gr g133
 replace L116 := L116.gr g133
 refine ⟨⟨L102, L116⟩, ?_⟩
 simp only [p3, p4]
 refine oe ?_
 have kq137 := g115.kp.trans (kp119.trans (kp121.trans (gd131.kp.trans g133.kp)))
 replace h113 := h113.kp kq137
 refine ec 38 (mul_i h113 h133 (by omega)) ?_
 rintro e136 w136 ⟨⟨x136, y136, rfl, h136⟩, g136⟩
 refine ⟨_, rfl, ?_⟩
 replace hB := hB.trans g136
 replace h136 := (show IsInt _ _ _ _ (pden a1 a2 a3) from h136)
 replace L102 := L102.gr g136
 replace L116 := L116.gr g136
 refine ⟨⟨L102, L116⟩, ?_⟩
 simp only [p3, p4]
 refine oe ?_
 replace L10 := L10.gr (gd131.trans (g133.trans g136))
 refine es 28 0 (.agg #[x136, y136]) [x136, y136] #[x136, y136] L10 hB q10 ⟨h136.one0, h136.one1, trivial⟩ fun w139 st139 kp139 L10 hB => ?_
 replace L102 := st139.lc L102 (Ne.symm ne10_102)
 replace L116 := st139.lc L116 (Ne.symm ne10_116)
 refine ⟨⟨L102, L116⟩, ?_⟩
 refine ord_nil ?_
 refine k100 _ _ ?_
 try clear k100 K100
 refine rg [0, 1] ?_
 refine sv 39 (.int .i64 3) ?_
 simp only [p3, p4]
 refine sv 22 (.int .i64 3) ?_
 simp only [p3, p4]
 refine sq_nil ?_
 show Code.rounds _ _ _ _ _ _
 show Code.wp _ _ _ _ _
 refine wp_seq_k (fun K140 k140 => ?_)
 refine rg [0] ?_
 refine sv 23 (.bool false) ?_
 simp only [p3, p4]
 refine sq_nil ?_
 refine k140 _ _ ?_
 try clear k140 K140
 refine wp_seq_k (fun K141 k141 => ?_)
 refine wp_cond_false rfl ?_
 refine wp_exit ?_
 simp only [Exit.then, Exit.inBlock, ↓reduceIte]
 refine k12 _ _ ?_
 try clear k12 K12
 refine wp_seq_k (fun K142 k142 => ?_)
 have hz143 := Below.size hB
 replace L2 := st139.lc ((st121.lc (st119.lc (L2.gr (gd105.trans (g106.trans (g107.trans (g109.trans (g110.trans (g112.trans (g113.trans g115)))))))) ne2_116) ne2_117).gr (gd131.trans (g133.trans g136))) ne2_10
 have lt2_143 := L2.lt
 replace L3 := st139.lc ((st121.lc (st119.lc (L3.gr (gd105.trans (g106.trans (g107.trans (g109.trans (g110.trans (g112.trans (g113.trans g115)))))))) ne3_116) ne3_117).gr (gd131.trans (g133.trans g136))) ne3_10
 have lt3_143 := L3.lt
 have lt10_143 := L10.lt
 have gd143 := Gr.drew w139
 replace hB := hB.trans gd143
 replace L10 := L10.gr gd143
 refine wp_region_flo (fun w' => Lc w' b10 #[x136, y136] 28) [(true, 0), (false, 1), (false, 2), (true, 3), (true, 4), (true, 5)] [⟨6, 10, 30, #[(.bool false), (.slice none 0 0), (.bool false), (.slice none 0 0)]⟩] [(false, 7), (true, 8)] (by kernel_rfl) (by kernel_rfl) (by kernel_rfl) (by kernel_rfl) (by kernel_rfl) (by decide) (fun _ _ _ _ _ h => h) (fun _ _ _ _ _ h => h) (fun w' o h => Lc.gr h (Gr.alloc w' o)) L10 (by intro f hf; simp only [List.mem_cons, List.not_mem_nil, or_false] at hf; rcases hf with rfl <;> first | exact alloc_zero (z := (.agg #[(.bool false), (.slice none 0 0), (.bool false), (.slice none 0 0)])) (by kernel_rfl) rfl) ?_
 refine fw 41 (.agg #[x136, y136]) rfl (fun w' hS => (rl 28 0 [x136, y136] hS)) ?_
 simp only [p3, p4]
 refine flo_eff rfl rfl (fun w144 g144 _ K144 k144 => ?_)
 replace hB := hB.trans g144
 refine ec 42 (from_i (1) (by omega) (by omega) _) ?_
 rintro e145 w145 ⟨⟨x145, y145, rfl, h145⟩, g145⟩
 refine ⟨_, rfl, ?_⟩
 replace hB := hB.trans g145
 replace L10 := L10.gr (g144.trans g145)
 refine k144 _ _ g145 L10 ?_
 try clear k144 K144
 simp only [p3, p4]
 refine flo_eff rfl rfl (fun w146 g146 _ K146 k146 => ?_)
 replace hB := hB.trans g146
 have kq148 := kp139.trans (gd143.kp.trans (g144.kp.trans (g145.kp.trans g146.kp)))
 replace h136 := h136.kp kq148
 replace h145 := h145.kp g146.kp
 refine ec 43 (make_r (64 + k + k + k) h136 h145 (by omega) (by omega) (by omega) (by omega) (by omega)) ?_
 rintro e147 w147 ⟨⟨p147, q147, r147, s147, rfl, h147⟩, g147⟩
 refine ⟨_, rfl, ?_⟩
 replace hB := hB.trans g147
 replace L10 := L10.gr (g146.trans g147)
 refine k146 _ _ g147 L10 ?_
 try clear k146 K146
 simp only [p3, p4]
 refine fv 40 (.tuple #[(.agg #[p147, q147, r147, s147]), (.int .i64 0)]) ?_
 simp only [p3, p4]
 refine fv 44 (.agg #[p147, q147, r147, s147]) ?_
 simp only [p3, p4]
 refine fv 45 (.int .i64 0) ?_
 simp only [p3, p4]
 refine flo_nil (fun w149 g149 _ => ?_)
 replace hB := hB.trans g149
 refine floFin1 (fun b150 (L150 : Lc w149 b150 #[(.bool false), (.slice none 0 0), (.bool false), (.slice none 0 0)] 30) q150  => ?_)
 have ne2_150 : b2 ≠ b150 := Nat.ne_of_lt (Nat.lt_of_lt_of_le lt2_143 q150)
 have ne3_150 : b3 ≠ b150 := Nat.ne_of_lt (Nat.lt_of_lt_of_le lt3_143 q150)
 have ne10_150 : b10 ≠ b150 := Nat.ne_of_lt (Nat.lt_of_lt_of_le lt10_143 q150)
 replace q150 := Nat.le_trans hz143 q150
 simp only [putl, p3, p4]
 refine oe ?_
 refine es 30 0 (.agg #[p147, q147, r147, s147]) [p147, q147, r147, s147] #[p147, q147, r147, s147] L150 hB q150 ⟨h147.one0, h147.one1, h147.one2, h147.one3, trivial⟩ fun w152 st152 kp152 L150 hB => ?_
 replace L10 := st152.lc (L10.gr g149) ne10_150
 refine ⟨L10, ?_⟩
 refine ov 11 (.int .i64 0) ?_
 simp only [p3, p4]
 refine ord_nil ?_
 refine k142 _ _ ?_
 try clear k142 K142
 refine wp_seq_k (fun K153 k153 => ?_)
 refine rg [0, 1, 2, 3] ?_
 replace L2 := st152.lc (L2.gr (gd143.trans (g144.trans (g145.trans (g146.trans (g147.trans g149)))))) ne2_150
 refine sw 46 (.agg #[uaa0, uaa1, uaa2, uaa3, uab0, uab1, uab2, uab3, uac0, uac1, uac2, uac3]) rfl (rl 32 0 [uaa0, uaa1, uaa2, uaa3, uab0, uab1, uab2, uab3, uac0, uac1, uac2, uac3] L2) ?_
 simp only [p3, p4]
 refine sw 47 (.agg #[p147, q147, r147, s147]) rfl (rl 30 0 [p147, q147, r147, s147] L150) ?_
 simp only [p3, p4]
 refine se ?_
 have kq155 := g49.kp.trans (g52.kp.trans (kp55.trans (g60.kp.trans (kp61.trans (gd63.kp.trans (g64.kp.trans (g65.kp.trans (g67.kp.trans (g68.kp.trans (g70.kp.trans (g71.kp.trans (g73.kp.trans (kp77.trans (kp79.trans (gd89.kp.trans (g91.kp.trans (g94.kp.trans (kp97.trans (g102.kp.trans (kp103.trans (gd105.kp.trans (g106.kp.trans (g107.kp.trans (g109.kp.trans (g110.kp.trans (g112.kp.trans (g113.kp.trans (g115.kp.trans (kp119.trans (kp121.trans (gd131.kp.trans (g133.kp.trans (g136.kp.trans (kp139.trans (gd143.kp.trans (g144.kp.trans (g145.kp.trans (g146.kp.trans (g147.kp.trans (g149.kp.trans kp152))))))))))))))))))))))))))))))))))))))))
 replace hua1 := hua1.kp kq155
 have kq156 := g91.kp.trans (g94.kp.trans (kp97.trans (g102.kp.trans (kp103.trans (gd105.kp.trans (g106.kp.trans (g107.kp.trans (g109.kp.trans (g110.kp.trans (g112.kp.trans (g113.kp.trans (g115.kp.trans (kp119.trans (kp121.trans (gd131.kp.trans (g133.kp.trans (g136.kp.trans (kp139.trans (gd143.kp.trans (g144.kp.trans (g145.kp.trans (g146.kp.trans (g147.kp.trans (g149.kp.trans kp152))))))))))))))))))))))))
 replace hua2 := hua2.kp kq156
 have kq157 := g133.kp.trans (g136.kp.trans (kp139.trans (gd143.kp.trans (g144.kp.trans (g145.kp.trans (g146.kp.trans (g147.kp.trans (g149.kp.trans kp152))))))))
 replace hua3 := hua3.kp kq157
 have kq158 := g149.kp.trans kp152
 replace h147 := h147.kp kq158
 refine ec 48 (vscale_v hua1 hua2 hua3 h147 (by omega)) ?_
 rintro e154 w154 ⟨⟨t154_0, t154_1, t154_2, t154_3, t154_4, t154_5, t154_6, t154_7, t154_8, t154_9, t154_10, t154_11, rfl, h154a, h154b, h154c⟩, g154⟩
 refine ⟨_, rfl, ?_⟩
 replace hB := hB.trans g154
 simp only [p3, p4]
 refine se ?_
 replace L2 := L2.gr g154
 refine es 32 0 (.agg #[t154_0, t154_1, t154_2, t154_3, t154_4, t154_5, t154_6, t154_7, t154_8, t154_9, t154_10, t154_11]) [t154_0, t154_1, t154_2, t154_3, t154_4, t154_5, t154_6, t154_7, t154_8, t154_9, t154_10, t154_11] #[t154_0, t154_1, t154_2, t154_3, t154_4, t154_5, t154_6, t154_7, t154_8, t154_9, t154_10, t154_11] L2 hB q2 ⟨h154a.one0, h154a.one1, h154a.one2, h154a.one3, h154b.one0, h154b.one1, h154b.one2, h154b.one3, h154c.one0, h154c.one1, h154c.one2, h154c.one3, trivial⟩ fun w159 st159 kp159 L2 hB => ?_
 refine sq_nil ?_
 refine k153 _ _ ?_
 try clear k153 K153
 refine wp_seq_k (fun K160 k160 => ?_)
 refine rg [0] ?_
 refine se ?_
 refine ea 28 #[(.bool false), (.slice none 0 0)] 12 hB fun b161 w161 g161 L161 o161 q161 hB => ?_
 have ne2_161 := L2.ne o161
 replace L3 := st159.lc ((st152.lc (L3.gr (gd143.trans (g144.trans (g145.trans (g146.trans (g147.trans g149)))))) ne3_150).gr g154) (Ne.symm ne2_3)
 have ne3_161 := L3.ne o161
 simp only [p3, p4]
 refine sq_nil ?_
 refine k160 _ _ ?_
 try clear k160 K160
 refine wp_seq_k (fun K162 k162 => ?_)
 refine wp_seq_k (fun K163 k163 => ?_)
 refine rg [0, 1] ?_
 replace L2 := L2.gr g161
 refine sw 49 (.agg #[t154_0, t154_1, t154_2, t154_3, t154_4, t154_5, t154_6, t154_7, t154_8, t154_9, t154_10, t154_11]) rfl (rl 32 0 [t154_0, t154_1, t154_2, t154_3, t154_4, t154_5, t154_6, t154_7, t154_8, t154_9, t154_10, t154_11] L2) ?_
 simp only [p3, p4]
 refine sv 50 (.int .i64 0) ?_
 simp only [p3, p4]
 refine sq_nil ?_
 refine k163 _ _ ?_
 try clear k163 K163
 refine wp_block ?_
 refine wp_loop_rounds 4 ?_
 show Code.wp _ _ _ _ _
 refine wp_seq_k (fun K164 k164 => ?_)
 refine rg [0] ?_
 refine sv 51 (.bool true) ?_
 simp only [p3, p4]
 refine sq_nil ?_
 refine k164 _ _ ?_
 try clear k164 K164
 refine wp_seq_k (fun K165 k165 => ?_)
 refine wp_cond_true rfl ?_
 refine wp_skip ?_
 refine k165 _ _ ?_
 try clear k165 K165
 refine wp_seq_k (fun K166 k166 => ?_)
 refine wp_block ?_
 refine wp_seq_k (fun K167 k167 => ?_)
 refine rg [0, 1, 2] ?_
 refine sv 52 (.agg #[t154_0, t154_1, t154_2, t154_3]) ?_
 simp only [p3, p4]
 refine se ?_
 refine ea 30 #[(.bool false), (.slice none 0 0), (.bool false), (.slice none 0 0)] 14 hB fun b168 w168 g168 L168 o168 q168 hB => ?_
 have ne2_168 := L2.ne o168
 replace L3 := L3.gr g161
 have ne3_168 := L3.ne o168
 have ne161_168 := L161.ne o168
 simp only [p3, p4]
 refine se ?_
 refine es 30 0 (.agg #[t154_0, t154_1, t154_2, t154_3]) [t154_0, t154_1, t154_2, t154_3] #[t154_0, t154_1, t154_2, t154_3] L168 hB q168 ⟨h154a.one0, h154a.one1, h154a.one2, h154a.one3, trivial⟩ fun w169 st169 kp169 L168 hB => ?_
 refine sq_nil ?_
 refine k167 _ _ ?_
 try clear k167 K167
 have gd171 := Gr.drew w169
 replace hB := hB.trans gd171
 replace L168 := L168.gr gd171
 replace L161 := (st169.lc (L161.gr g168) ne161_168).gr gd171
 refine wp_region_ort (fun w' => Lc w' b168 #[t154_0, t154_1, t154_2, t154_3] 30) [([4], (fun w' => Lc w' b161 #[(.bool false), (.slice none 0 0)] 28))] [(true, 0), (true, 1), (false, 2), (false, 3), (false, 4)] (by kernel_rfl) (by kernel_rfl) (by kernel_rfl) (by decide) (fun _ _ _ _ _ h => h) L168 ⟨fun _ => L161, trivial⟩ ?_
 refine tw 53 (.agg #[(.bool false), (.slice none 0 0)]) rfl (fun w' hS => (rl 28 0 [(.bool false), (.slice none 0 0)] (hS.2.1 (by kernel_rfl)))) ?_
 simp only [p3, p4]
 refine tw 54 (.agg #[t154_0, t154_1, t154_2, t154_3]) rfl (fun w' hS => (rl 30 0 [t154_0, t154_1, t154_2, t154_3] hS.1)) ?_
 simp only [p3, p4]
 refine te ?_
 have kq174 := kp159.trans (g161.kp.trans (g168.kp.trans (kp169.trans gd171.kp)))
 replace h154a := h154a.kp kq174
 refine ec 55 (num_r h154a) ?_
 rintro e173 w173 ⟨⟨x173, y173, rfl, h173⟩, g173⟩
 refine ⟨_, rfl, ?_⟩
 replace hB := hB.trans g173
 replace L168 := L168.gr g173
 replace L161 := L161.gr g173
 refine ⟨L168, ⟨fun _ => L161, trivial⟩, ?_⟩
 simp only [p3, p4]
 refine te ?_
 refine ec 56 (gcd_i (IsInt.zero _ 64) h173 (by omega)) ?_
 rintro e176 w176 ⟨⟨x176, y176, rfl, h176⟩, g176⟩
 refine ⟨_, rfl, ?_⟩
 replace hB := hB.trans g176
 replace h176 := (show IsInt _ _ _ _ ((Int.gcd (0) (Rat.divInt (pden a1 a2 a3) 1 * a1).num : Int)) from h176)
 replace L168 := L168.gr g176
 replace L161 := L161.gr g176
 refine ⟨L168, ⟨fun _ => L161, trivial⟩, ?_⟩
 simp only [p3, p4]
 refine te ?_
 refine es 28 0 (.agg #[x176, y176]) [x176, y176] #[x176, y176] L161 hB q161 ⟨h176.one0, h176.one1, trivial⟩ fun w178 st178 kp178 L161 hB => ?_
 replace L168 := st178.lc L168 (Ne.symm ne161_168)
 refine ⟨L168, ⟨cameT (by kernel_rfl), trivial⟩, ?_⟩
 refine ort_nil ?_
 refine k166 _ _ ?_
 try clear k166 K166
 refine rg [0, 1] ?_
 refine sv 57 (.int .i64 1) ?_
 simp only [p3, p4]
 refine sv 50 (.int .i64 1) ?_
 simp only [p3, p4]
 refine sq_nil ?_
 show Code.rounds _ _ _ _ _ _
 show Code.wp _ _ _ _ _
 refine wp_seq_k (fun K179 k179 => ?_)
 refine rg [0] ?_
 refine sv 51 (.bool true) ?_
 simp only [p3, p4]
 refine sq_nil ?_
 refine k179 _ _ ?_
 try clear k179 K179
 refine wp_seq_k (fun K180 k180 => ?_)
 refine wp_cond_true rfl ?_
 refine wp_skip ?_
 refine k180 _ _ ?_
 try clear k180 K180
 refine wp_seq_k (fun K181 k181 => ?_)
 refine wp_block ?_
 refine wp_seq_k (fun K182 k182 => ?_)
 refine rg [0, 1, 2] ?_
 refine sv 52 (.agg #[t154_4, t154_5, t154_6, t154_7]) ?_
 simp only [p3, p4]
 refine se ?_
 refine ea 30 #[(.bool false), (.slice none 0 0), (.bool false), (.slice none 0 0)] 14 hB fun b183 w183 g183 L183 o183 q183 hB => ?_
 replace L2 := st178.lc ((st169.lc (L2.gr g168) ne2_168).gr (gd171.trans (g173.trans g176))) ne2_161
 have ne2_183 := L2.ne o183
 replace L3 := st178.lc ((st169.lc (L3.gr g168) ne3_168).gr (gd171.trans (g173.trans g176))) ne3_161
 have ne3_183 := L3.ne o183
 have ne161_183 := L161.ne o183
 simp only [p3, p4]
 refine se ?_
 refine es 30 0 (.agg #[t154_4, t154_5, t154_6, t154_7]) [t154_4, t154_5, t154_6, t154_7] #[t154_4, t154_5, t154_6, t154_7] L183 hB q183 ⟨h154b.one0, h154b.one1, h154b.one2, h154b.one3, trivial⟩ fun w184 st184 kp184 L183 hB => ?_
 refine sq_nil ?_
 refine k182 _ _ ?_
 try clear k182 K182
 have gd186 := Gr.drew w184
 replace hB := hB.trans gd186
 replace L183 := L183.gr gd186
 replace L161 := (st184.lc (L161.gr g183) ne161_183).gr gd186
 refine wp_region_ort (fun w' => Lc w' b183 #[t154_4, t154_5, t154_6, t154_7] 30) [([4], (fun w' => Lc w' b161 #[x176, y176] 28))] [(true, 0), (true, 1), (false, 2), (false, 3), (false, 4)] (by kernel_rfl) (by kernel_rfl) (by kernel_rfl) (by decide) (fun _ _ _ _ _ h => h) L183 ⟨fun _ => L161, trivial⟩ ?_
 refine tw 53 (.agg #[x176, y176]) rfl (fun w' hS => (rl 28 0 [x176, y176] (hS.2.1 (by kernel_rfl)))) ?_
 simp only [p3, p4]
 refine tw 54 (.agg #[t154_4, t154_5, t154_6, t154_7]) rfl (fun w' hS => (rl 30 0 [t154_4, t154_5, t154_6, t154_7] hS.1)) ?_
 simp only [p3, p4]
 refine te ?_
 have kq189 := kp159.trans (g161.kp.trans (g168.kp.trans (kp169.trans (gd171.kp.trans (g173.kp.trans (g176.kp.trans (kp178.trans (g183.kp.trans (kp184.trans gd186.kp)))))))))
 replace h154b := h154b.kp kq189
 refine ec 55 (num_r h154b) ?_
 rintro e188 w188 ⟨⟨x188, y188, rfl, h188⟩, g188⟩
 refine ⟨_, rfl, ?_⟩
 replace hB := hB.trans g188
 replace L183 := L183.gr g188
 replace L161 := L161.gr g188
 refine ⟨L183, ⟨fun _ => L161, trivial⟩, ?_⟩
 simp only [p3, p4]
 refine te ?_
 have kq192 := kp178.trans (g183.kp.trans (kp184.trans (gd186.kp.trans g188.kp)))
 replace h176 := h176.kp kq192
 refine ec 56 (gcd_i h176 h188 (by omega)) ?_
 rintro e191 w191 ⟨⟨x191, y191, rfl, h191⟩, g191⟩
 refine ⟨_, rfl, ?_⟩
 replace hB := hB.trans g191
 replace h191 := (show IsInt _ _ _ _ ((Int.gcd ((Int.gcd (0) (Rat.divInt (pden a1 a2 a3) 1 * a1).num : Int)) (Rat.divInt (pden a1 a2 a3) 1 * a2).num : Int)) from h191)
 replace L183 := L183.gr g191
 replace L161 := L161.gr g191
 refine ⟨L183, ⟨fun _ => L161, trivial⟩, ?_⟩
 simp only [p3, p4]
 refine te ?_
 refine es 28 0 (.agg #[x191, y191]) [x191, y191] #[x191, y191] L161 hB q161 ⟨h191.one0, h191.one1, trivial⟩ fun w194 st194 kp194 L161 hB => ?_
 replace L183 := st194.lc L183 (Ne.symm ne161_183)
 refine ⟨L183, ⟨cameT (by kernel_rfl), trivial⟩, ?_⟩
 refine ort_nil ?_
 refine k181 _ _ ?_
 try clear k181 K181
 refine rg [0, 1] ?_
 refine sv 57 (.int .i64 2) ?_
 simp only [p3, p4]
 refine sv 50 (.int .i64 2) ?_
 simp only [p3, p4]
 refine sq_nil ?_
 show Code.rounds _ _ _ _ _ _
 show Code.wp _ _ _ _ _
 refine wp_seq_k (fun K195 k195 => ?_)
 refine rg [0] ?_
 refine sv 51 (.bool true) ?_
 simp only [p3, p4]
 refine sq_nil ?_
 refine k195 _ _ ?_
 try clear k195 K195
 refine wp_seq_k (fun K196 k196 => ?_)
 refine wp_cond_true rfl ?_
 refine wp_skip ?_
 refine k196 _ _ ?_
 try clear k196 K196
 refine wp_seq_k (fun K197 k197 => ?_)
 refine wp_block ?_
 refine wp_seq_k (fun K198 k198 => ?_)
 refine rg [0, 1, 2] ?_
 refine sv 52 (.agg #[t154_8, t154_9, t154_10, t154_11]) ?_
 simp only [p3, p4]
 refine se ?_
 refine ea 30 #[(.bool false), (.slice none 0 0), (.bool false), (.slice none 0 0)] 14 hB fun b199 w199 g199 L199 o199 q199 hB => ?_
 replace L2 := st194.lc ((st184.lc (L2.gr g183) ne2_183).gr (gd186.trans (g188.trans g191))) ne2_161
 have ne2_199 := L2.ne o199
 replace L3 := st194.lc ((st184.lc (L3.gr g183) ne3_183).gr (gd186.trans (g188.trans g191))) ne3_161
 have ne3_199 := L3.ne o199
 have ne161_199 := L161.ne o199
 simp only [p3, p4]
 refine se ?_
 refine es 30 0 (.agg #[t154_8, t154_9, t154_10, t154_11]) [t154_8, t154_9, t154_10, t154_11] #[t154_8, t154_9, t154_10, t154_11] L199 hB q199 ⟨h154c.one0, h154c.one1, h154c.one2, h154c.one3, trivial⟩ fun w200 st200 kp200 L199 hB => ?_
 refine sq_nil ?_
 refine k198 _ _ ?_
 try clear k198 K198
 have gd202 := Gr.drew w200
 replace hB := hB.trans gd202
 replace L199 := L199.gr gd202
 replace L161 := (st200.lc (L161.gr g199) ne161_199).gr gd202
 refine wp_region_ort (fun w' => Lc w' b199 #[t154_8, t154_9, t154_10, t154_11] 30) [([4], (fun w' => Lc w' b161 #[x191, y191] 28))] [(true, 0), (true, 1), (false, 2), (false, 3), (false, 4)] (by kernel_rfl) (by kernel_rfl) (by kernel_rfl) (by decide) (fun _ _ _ _ _ h => h) L199 ⟨fun _ => L161, trivial⟩ ?_
 refine tw 53 (.agg #[x191, y191]) rfl (fun w' hS => (rl 28 0 [x191, y191] (hS.2.1 (by kernel_rfl)))) ?_
 simp only [p3, p4]
 refine tw 54 (.agg #[t154_8, t154_9, t154_10, t154_11]) rfl (fun w' hS => (rl 30 0 [t154_8, t154_9, t154_10, t154_11] hS.1)) ?_
 simp only [p3, p4]
 refine te ?_
 have kq205 := kp159.trans (g161.kp.trans (g168.kp.trans (kp169.trans (gd171.kp.trans (g173.kp.trans (g176.kp.trans (kp178.trans (g183.kp.trans (kp184.trans (gd186.kp.trans (g188.kp.trans (g191.kp.trans (kp194.trans (g199.kp.trans (kp200.trans gd202.kp)))))))))))))))
 replace h154c := h154c.kp kq205
 refine ec 55 (num_r h154c) ?_
 rintro e204 w204 ⟨⟨x204, y204, rfl, h204⟩, g204⟩
 refine ⟨_, rfl, ?_⟩
 replace hB := hB.trans g204
 replace L199 := L199.gr g204
 replace L161 := L161.gr g204
 refine ⟨L199, ⟨fun _ => L161, trivial⟩, ?_⟩
 simp only [p3, p4]
 refine te ?_
 have kq208 := kp194.trans (g199.kp.trans (kp200.trans (gd202.kp.trans g204.kp)))
 replace h191 := h191.kp kq208
 refine ec 56 (gcd_i h191 h204 (by omega)) ?_
 rintro e207 w207 ⟨⟨x207, y207, rfl, h207⟩, g207⟩
 refine ⟨_, rfl, ?_⟩
 replace hB := hB.trans g207
 replace h207 := (show IsInt _ _ _ _ (pgcd a1 a2 a3) from h207)
 replace L199 := L199.gr g207
 replace L161 := L161.gr g207
 refine ⟨L199, ⟨fun _ => L161, trivial⟩, ?_⟩
 simp only [p3, p4]
 refine te ?_
 refine es 28 0 (.agg #[x207, y207]) [x207, y207] #[x207, y207] L161 hB q161 ⟨h207.one0, h207.one1, trivial⟩ fun w210 st210 kp210 L161 hB => ?_
 replace L199 := st210.lc L199 (Ne.symm ne161_199)
 refine ⟨L199, ⟨cameT (by kernel_rfl), trivial⟩, ?_⟩
 refine ort_nil ?_
 refine k197 _ _ ?_
 try clear k197 K197
 refine rg [0, 1] ?_
 refine sv 57 (.int .i64 3) ?_
 simp only [p3, p4]
 refine sv 50 (.int .i64 3) ?_
 simp only [p3, p4]
 refine sq_nil ?_
 show Code.rounds _ _ _ _ _ _
 show Code.wp _ _ _ _ _
 refine wp_seq_k (fun K211 k211 => ?_)
 refine rg [0] ?_
 refine sv 51 (.bool false) ?_
 simp only [p3, p4]
 refine sq_nil ?_
 refine k211 _ _ ?_
 try clear k211 K211
 refine wp_seq_k (fun K212 k212 => ?_)
 refine wp_cond_false rfl ?_
 refine wp_exit ?_
 simp only [Exit.then, Exit.inBlock, ↓reduceIte]
 refine k162 _ _ ?_
 try clear k162 K162
 refine wp_seq_k (fun K213 k213 => ?_)
 have hz214 := Below.size hB
 replace L2 := st210.lc ((st200.lc (L2.gr g199) ne2_199).gr (gd202.trans (g204.trans g207))) ne2_161
 have lt2_214 := L2.lt
 replace L3 := st210.lc ((st200.lc (L3.gr g199) ne3_199).gr (gd202.trans (g204.trans g207))) ne3_161
 have lt3_214 := L3.lt
 have lt161_214 := L161.lt
 have gd214 := Gr.drew w210
 replace hB := hB.trans gd214
 replace L161 := L161.gr gd214
 refine wp_region_flo (fun w' => Lc w' b161 #[x207, y207] 28) [(true, 1), (false, 0), (false, 2), (true, 3), (true, 4), (true, 5)] [⟨6, 15, 30, #[(.bool false), (.slice none 0 0), (.bool false), (.slice none 0 0)]⟩] [(false, 7), (true, 8)] (by kernel_rfl) (by kernel_rfl) (by kernel_rfl) (by kernel_rfl) (by kernel_rfl) (by decide) (fun _ _ _ _ _ h => h) (fun _ _ _ _ _ h => h) (fun w' o h => Lc.gr h (Gr.alloc w' o)) L161 (by intro f hf; simp only [List.mem_cons, List.not_mem_nil, or_false] at hf; rcases hf with rfl <;> first | exact alloc_zero (z := (.agg #[(.bool false), (.slice none 0 0), (.bool false), (.slice none 0 0)])) (by kernel_rfl) rfl) ?_
 refine fw 60 (.agg #[x207, y207]) rfl (fun w' hS => (rl 28 0 [x207, y207] hS)) ?_
 simp only [p3, p4]
 refine flo_eff rfl rfl (fun w215 g215 _ K215 k215 => ?_)
 replace hB := hB.trans g215
 refine ec 59 (from_i (1) (by omega) (by omega) _) ?_
 rintro e216 w216 ⟨⟨x216, y216, rfl, h216⟩, g216⟩
 refine ⟨_, rfl, ?_⟩
 replace hB := hB.trans g216
 replace L161 := L161.gr (g215.trans g216)
 refine k215 _ _ g216 L161 ?_
 try clear k215 K215
 simp only [p3, p4]
 refine flo_eff rfl rfl (fun w217 g217 _ K217 k217 => ?_)
 replace hB := hB.trans g217
 replace h216 := h216.kp g217.kp
 have kq219 := kp210.trans (gd214.kp.trans (g215.kp.trans (g216.kp.trans g217.kp)))
 replace h207 := h207.kp kq219
 refine ec 61 (make_r ((64 + (64 + (64 + k + k + k + k)) + (64 + (64 + k + k + k + k)) + (64 + (64 + k + k + k + k)))) h216 h207 (pgcd_pos hz0) (by omega) (by omega) (by omega) (by omega)) ?_
 rintro e218 w218 ⟨⟨p218, q218, r218, s218, rfl, h218⟩, g218⟩
 refine ⟨_, rfl, ?_⟩
 replace hB := hB.trans g218
 replace L161 := L161.gr (g217.trans g218)
 refine k217 _ _ g218 L161 ?_
 try clear k217 K217
 simp only [p3, p4]
 refine fv 58 (.tuple #[(.agg #[p218, q218, r218, s218]), (.int .i64 0)]) ?_
 simp only [p3, p4]
 refine fv 62 (.agg #[p218, q218, r218, s218]) ?_
 simp only [p3, p4]
 refine fv 63 (.int .i64 0) ?_
 simp only [p3, p4]
 refine flo_nil (fun w220 g220 _ => ?_)
 replace hB := hB.trans g220
 refine floFin1 (fun b221 (L221 : Lc w220 b221 #[(.bool false), (.slice none 0 0), (.bool false), (.slice none 0 0)] 30) q221  => ?_)
 have ne2_221 : b2 ≠ b221 := Nat.ne_of_lt (Nat.lt_of_lt_of_le lt2_214 q221)
 have ne3_221 : b3 ≠ b221 := Nat.ne_of_lt (Nat.lt_of_lt_of_le lt3_214 q221)
 have ne161_221 : b161 ≠ b221 := Nat.ne_of_lt (Nat.lt_of_lt_of_le lt161_214 q221)
 replace q221 := Nat.le_trans hz214 q221
 simp only [putl, p3, p4]
 refine oe ?_
 refine es 30 0 (.agg #[p218, q218, r218, s218]) [p218, q218, r218, s218] #[p218, q218, r218, s218] L221 hB q221 ⟨h218.one0, h218.one1, h218.one2, h218.one3, trivial⟩ fun w223 st223 kp223 L221 hB => ?_
 replace L161 := st223.lc (L161.gr g220) ne161_221
 refine ⟨L161, ?_⟩
 refine ov 16 (.int .i64 0) ?_
 simp only [p3, p4]
 refine ord_nil ?_
 refine k213 _ _ ?_
 try clear k213 K213
 refine wp_seq_k (fun K224 k224 => ?_)
 refine rg [0, 1, 2, 3, 4] ?_
 replace L2 := st223.lc (L2.gr (gd214.trans (g215.trans (g216.trans (g217.trans (g218.trans g220)))))) ne2_221
 refine sw 64 (.agg #[t154_0, t154_1, t154_2, t154_3, t154_4, t154_5, t154_6, t154_7, t154_8, t154_9, t154_10, t154_11]) rfl (rl 32 0 [t154_0, t154_1, t154_2, t154_3, t154_4, t154_5, t154_6, t154_7, t154_8, t154_9, t154_10, t154_11] L2) ?_
 simp only [p3, p4]
 refine sw 65 (.agg #[p218, q218, r218, s218]) rfl (rl 30 0 [p218, q218, r218, s218] L221) ?_
 simp only [p3, p4]
 refine se ?_
 have kq226 := g173.kp.trans (g176.kp.trans (kp178.trans (g183.kp.trans (kp184.trans (gd186.kp.trans (g188.kp.trans (g191.kp.trans (kp194.trans (g199.kp.trans (kp200.trans (gd202.kp.trans (g204.kp.trans (g207.kp.trans (kp210.trans (gd214.kp.trans (g215.kp.trans (g216.kp.trans (g217.kp.trans (g218.kp.trans (g220.kp.trans kp223))))))))))))))))))))
 replace h154a := h154a.kp kq226
 have kq227 := g188.kp.trans (g191.kp.trans (kp194.trans (g199.kp.trans (kp200.trans (gd202.kp.trans (g204.kp.trans (g207.kp.trans (kp210.trans (gd214.kp.trans (g215.kp.trans (g216.kp.trans (g217.kp.trans (g218.kp.trans (g220.kp.trans kp223))))))))))))))
 replace h154b := h154b.kp kq227
 have kq228 := g204.kp.trans (g207.kp.trans (kp210.trans (gd214.kp.trans (g215.kp.trans (g216.kp.trans (g217.kp.trans (g218.kp.trans (g220.kp.trans kp223))))))))
 replace h154c := h154c.kp kq228
 have kq229 := g220.kp.trans kp223
 replace h218 := h218.kp kq229
 refine ec 66 (vscale_v h154a h154b h154c h218 (by omega)) ?_
 rintro e225 w225 ⟨⟨t225_0, t225_1, t225_2, t225_3, t225_4, t225_5, t225_6, t225_7, t225_8, t225_9, t225_10, t225_11, rfl, h225a, h225b, h225c⟩, g225⟩
 refine ⟨_, rfl, ?_⟩
 replace hB := hB.trans g225
 simp only [p3, p4]
 refine se ?_
 replace L3 := (st223.lc (L3.gr (gd214.trans (g215.trans (g216.trans (g217.trans (g218.trans g220)))))) ne3_221).gr g225
 refine es 32 0 (.agg #[t225_0, t225_1, t225_2, t225_3, t225_4, t225_5, t225_6, t225_7, t225_8, t225_9, t225_10, t225_11]) [t225_0, t225_1, t225_2, t225_3, t225_4, t225_5, t225_6, t225_7, t225_8, t225_9, t225_10, t225_11] #[t225_0, t225_1, t225_2, t225_3, t225_4, t225_5, t225_6, t225_7, t225_8, t225_9, t225_10, t225_11] L3 hB q3 ⟨h225a.one0, h225a.one1, h225a.one2, h225a.one3, h225b.one0, h225b.one1, h225b.one2, h225b.one3, h225c.one0, h225c.one1, h225c.one2, h225c.one3, trivial⟩ fun w230 st230 kp230 L3 hB => ?_
 refine sv 3 (.int .i64 0) ?_
 simp only [p3, p4]
 refine sq_nil ?_
 refine k224 _ _ ?_
 try clear k224 K224
 refine wp_ret ?_
 refine bodyPost_ret (v := (.tuple #[(.agg #[t225_0, t225_1, t225_2, t225_3, t225_4, t225_5, t225_6, t225_7, t225_8, t225_9, t225_10, t225_11]), (.int .i64 0)])) (ret_cell_tmp' _ _ _ rfl rfl L3 (by kernel_rfl) rfl) rfl ⟨?_, hB⟩
 replace h225a := h225a.kp kp230
 replace h225b := h225b.kp kp230
 replace h225c := h225c.kp kp230
 exact ⟨_, _, _, _, _, _, _, _, _, _, _, _, rfl, h225a, h225b, h225c⟩

set_option maxRecDepth 100000 in
set_option maxHeartbeats 1000000 in
theorem vprim_zero {k : Nat} {uaa0 uaa1 uaa2 uaa3 uab0 uab1 uab2 uab3 uac0 uac1 uac2 uac3 : Value} {a1 a2 a3 : Rat} {w : World} (hua1 : IsRat w k uaa0 uaa1 uaa2 uaa3 a1) (hua2 : IsRat w k uab0 uab1 uab2 uab3 a2) (hua3 : IsRat w k uac0 uac1 uac2 uac3 a3) (_hk : k ≤ 25000) (hz0 : (a1 = 0 ∧ a2 = 0 ∧ a3 = 0)) :
    Calls Tryz.prog 34 #[(.agg #[uaa0, uaa1, uaa2, uaa3, uab0, uab1, uab2, uab3, uac0, uac1, uac2, uac3])] w fun e w' => (∃ t0 t1 t2 t3 t4 t5 t6 t7 t8 t9 t10 t11, e = .returned (.tuple #[.agg #[t0, t1, t2, t3, t4, t5, t6, t7, t8, t9, t10, t11], .int .i64 19]) ∧ IsRat w' 64 t0 t1 t2 t3 (0) ∧ IsRat w' 64 t4 t5 t6 t7 (0) ∧ IsRat w' 64 t8 t9 t10 t11 (0)) ∧ Gr w w' := by
 have e1 := vzero_iff.2 hz0
 go_enter Tryz.func34, Tryz.ntmps34
 have hB := Gr.refl w
 refine wp_seq_k (fun K1 k1 => ?_)
 refine rg [0, 1, 2] ?_
 refine se ?_
 refine eb 32 #[uaa0, uaa1, uaa2, uaa3, uab0, uab1, uab2, uab3, uac0, uac1, uac2, uac3] 1 hB fun b2 w2 g2 L2 o2 q2 hB => ?_
 simp only [p3, p4]
 refine se ?_
 refine ea 32 #[(.bool false), (.slice none 0 0), (.bool false), (.slice none 0 0), (.bool false), (.slice none 0 0), (.bool false), (.slice none 0 0), (.bool false), (.slice none 0 0), (.bool false), (.slice none 0 0)] 2 hB fun b3 w3 g3 L3 o3 q3 hB => ?_
 simp only [p3, p4]
 refine sv 3 (.int .i64 0) ?_
 simp only [p3, p4]
 refine sq_nil ?_
 refine k1 _ _ ?_
 try clear k1 K1
 refine wp_seq_k (fun K4 k4 => ?_)
 refine wp_seq_k (fun K5 k5 => ?_)
 refine rg [0, 1] ?_
 replace L2 := L2.gr g3
 refine sw 17 (.agg #[uaa0, uaa1, uaa2, uaa3, uab0, uab1, uab2, uab3, uac0, uac1, uac2, uac3]) rfl (rl 32 0 [uaa0, uaa1, uaa2, uaa3, uab0, uab1, uab2, uab3, uac0, uac1, uac2, uac3] L2) ?_
 simp only [p3, p4]
 refine se ?_
 have kq7 := g2.kp.trans g3.kp
 replace hua1 := hua1.kp kq7
 replace hua2 := hua2.kp kq7
 replace hua3 := hua3.kp kq7
 refine ec 18 (vzero_b hua1 hua2 hua3 (by omega) true e1) ?_
 rintro e6 w6 ⟨rfl, g6⟩
 refine ⟨_, rfl, ?_⟩
 replace hB := hB.trans g6
 simp only [p3, p4]
 refine sq_nil ?_
 refine k5 _ _ ?_
 try clear k5 K5
 refine wp_cond_true rfl ?_
 refine wp_seq_k (fun K8 k8 => ?_)
 refine rg [0, 1, 2] ?_
 refine sv 19 (.agg #[(.bool false), (.slice none 0 0), (.bool false), (.slice none 0 0), (.bool false), (.slice none 0 0), (.bool false), (.slice none 0 0), (.bool false), (.slice none 0 0), (.bool false), (.slice none 0 0)]) ?_
 simp only [p3, p4]
 refine se ?_
 replace L3 := L3.gr g6
 refine es 32 0 (.agg #[(.bool false), (.slice none 0 0), (.bool false), (.slice none 0 0), (.bool false), (.slice none 0 0), (.bool false), (.slice none 0 0), (.bool false), (.slice none 0 0), (.bool false), (.slice none 0 0)]) [(.bool false), (.slice none 0 0), (.bool false), (.slice none 0 0), (.bool false), (.slice none 0 0), (.bool false), (.slice none 0 0), (.bool false), (.slice none 0 0), (.bool false), (.slice none 0 0)] #[(.bool false), (.slice none 0 0), (.bool false), (.slice none 0 0), (.bool false), (.slice none 0 0), (.bool false), (.slice none 0 0), (.bool false), (.slice none 0 0), (.bool false), (.slice none 0 0)] L3 hB q3 ⟨rfl, rfl, rfl, rfl, rfl, rfl, rfl, rfl, rfl, rfl, rfl, rfl, trivial⟩ fun w9 st9 kp9 L3 hB => ?_
 refine sv 3 (.int .i64 19) ?_
 simp only [p3, p4]
 refine sq_nil ?_
 refine k8 _ _ ?_
 try clear k8 K8
 refine wp_ret ?_
 simp only [Exit.then]
 refine bodyPost_ret (v := (.tuple #[(.agg #[(.bool false), (.slice none 0 0), (.bool false), (.slice none 0 0), (.bool false), (.slice none 0 0), (.bool false), (.slice none 0 0), (.bool false), (.slice none 0 0), (.bool false), (.slice none 0 0)]), (.int .i64 19)])) (ret_cell_tmp' _ _ _ rfl rfl L3 (by kernel_rfl) rfl) rfl ⟨?_, hB⟩
 exact ⟨_, _, _, _, _, _, _, _, _, _, _, _, rfl, (IsRat.zero _ (k := 64) (Nat.le_refl _)), (IsRat.zero _ (k := 64) (Nat.le_refl _)), (IsRat.zero _ (k := 64) (Nat.le_refl _))⟩

end Go.Proofs.YtlcmllfacolkaaaGreatDoor
/- Equal numbers; more floating variables. -/
namespace Go.Proofs.YtlcmllfacolkaaaGreatDoor
open Go.RowKit

theorem veq_t {a1 a2 a3 c1 c2 c3 : Rat} (h1 : a1 = c1) (h2 : a2 = c2) (h3 : a3 = c3) : (vcmp a1 a2 a3 c1 c2 c3 == (0 : Int)) = true := by
  rw [beq_iff_eq, vcmp_zero]; exact ⟨h1, h2, h3⟩
section
variable {P : Program} {ops : Array Oper} {Q : Exit → Act → World → Prop} {S0 : World → Prop} {HS : List (List Nat × (World → Prop))}
end
end Go.Proofs.YtlcmllfacolkaaaGreatDoor
/- Arrays of strings compared; sizes of sums and products of rationals. -/
namespace Go.Proofs.YtlcmllfacolkaaaGreatDoor
open Go.RowKit

def sEq : List (List UInt8) → List (List UInt8) → Bool
  | x :: xs, y :: ys => x == y && sEq xs ys
  | _, _ => true
theorem items_strs {P : Program} {w : World} {d e : Nat} (he : P.underlying e = some .string) (hp : P.plainKey e = true) (A B : Array Value) :
    ∀ (X Y : List (List UInt8)) (i0 : Nat), X.length = Y.length → (∀ j x, X[j]? = some x → A[i0 + j]? = some (.string ⟨x.toArray⟩)) → (∀ j y, Y[j]? = some y → B[i0 + j]? = some (.string ⟨y.toArray⟩)) →
      (Op.eqItems (d + 1) e 1 A B (List.range' i0 X.length)).run P w = .ok (sEq X Y) w
  | [], _, _, _, _, _ => by simp [Op.eqItems, sEq]
  | x :: xs, [], _, h, _, _ => by simp at h
  | x :: xs, y :: ys, i0, h, hA, hB => by
    have h1 : A[i0]? = some (.string ⟨x.toArray⟩) := hA 0 x rfl
    have h2 : B[i0]? = some (.string ⟨y.toArray⟩) := hB 0 y rfl
    have ih := items_strs (w := w) (d := d) he hp A B xs ys (i0 + 1) (by simpa using h) (fun j z hj => by have := hA (j + 1) z hj; rwa [show i0 + (j + 1) = i0 + 1 + j by omega] at this)
      (fun j z hj => by have := hB (j + 1) z hj; rwa [show i0 + (j + 1) = i0 + 1 + j by omega] at this)
    have e : ((⟨x.toArray⟩ : ByteArray).toList == (⟨y.toArray⟩ : ByteArray).toList) = (x == y) := by rw [ByteArray.toList_eq, ByteArray.toList_eq]
    rw [List.length_cons, List.range'_succ]
    simp only [Op.eqItems, Sem.run_bind, Nat.mul_one, run_part_plain w hp h1, run_part_plain w hp h2, Result.andThen_ok, run_equalIn_string w d _ _ _ he, e, sEq]
    cases hxy : (x == y) with
    | true => simpa using ih
    | false => simp
section
variable {P : Program} {a : Act} {o : Oper} {w : World}
theorem strs_equal {t e : Nat} (X Y : List (List UInt8)) (hu : P.underlying t = some (.array X.length e)) (hn : X.length = Y.length)
    (he : (P.underlying e, (P.info? e).isSome, P.cellsOf e, P.plainKey e) = (some .string, true, 1, true)) :
    (Op.equal t (.agg (X.map fun l => Value.string ⟨l.toArray⟩).toArray) (.agg (Y.map fun l => Value.string ⟨l.toArray⟩).toArray)).run P w = .ok (sEq X Y) w := by
  simp only [Prod.mk.injEq] at he
  obtain ⟨h1, h2, h3, h4⟩ := he
  obtain ⟨i, hi⟩ := Option.isSome_iff_exists.1 h2
  show (Op.equalIn (9999 + 1) t _ _).run P w = _
  rw [run_equalIn_array w 9999 _ _ hu hi, h3, List.range_eq_range']
  exact items_strs (d := 9998) h1 h4 _ _ X Y 0 hn (fun j x hj => by simp [hj]) (fun j y hj => by simp [hj])
theorem rv_ssq (t t2 e : Nat) (x y : Operand) (X Y : List (List UInt8)) (hop : o.op = .binOp .eql t x y t2) (hx : a.eval x = .agg (X.map fun l => Value.string ⟨l.toArray⟩).toArray) (hy : a.eval y = .agg (Y.map fun l => Value.string ⟨l.toArray⟩).toArray)
    (hu : (P.underlying t, decide (X.length = Y.length)) = (some (.array X.length e), true)) (he : (P.underlying e, (P.info? e).isSome, P.cellsOf e, P.plainKey e) = (some .string, true, 1, true)) (hg : P.eqGuardType P.depth t = false) :
    RunV P a o w (.bool (sEq X Y)) := by
  simp only [Prod.mk.injEq, decide_eq_true_eq] at hu
  have h := strs_equal (w := w) X Y hu.1 hu.2 he
  unfold RunV execOp
  simp only [hop, hx, hy]
  simp [go_sem, binOp, eqGuard, hg, h]
end
theorem sEq_same : ∀ (X : List (List UInt8)), sEq X X = true
  | [] => rfl
  | x :: xs => by rw [sEq, sEq_same xs, beq_self_eq_true]; rfl
theorem ratL_inj {a b : Rat} (h : ratL a = ratL b) : a = b := by
  have h1 := numL_ratL a
  have h2 := denL_ratL a
  rw [h, numL_ratL] at h1
  rw [h, denL_ratL] at h2
  have e1 := itoa_inj h1
  have e2 := itoa_inj h2
  exact Rat.ext e1.symm (by omega)
theorem ratL_beq (a b : Rat) : (ratL a == ratL b) = decide (a = b) := by
  rw [Bool.eq_iff_iff, beq_iff_eq, decide_eq_true_eq]
  exact ⟨ratL_inj, fun h => by rw [h]⟩
/-- both numbers of a rational are of less than k bits -/
abbrev RS (k : Nat) (a : Rat) : Prop := Sz k a.num ∧ Sz k (a.den : Int)
theorem RS.add {k m : Nat} {a b : Rat} (ha : RS k a) (hb : RS m b) : RS (k + m + 1) (a + b) := by
  rw [← rat_add]
  have h := (ha.1.mul hb.2).add' (by have := hb.1.mul ha.2; rw [Nat.add_comm] at this; exact this)
  exact sz_divInt h ((ha.2.mul hb.2).mono (by omega)) (Int.ne_of_gt (den2_pos a b))
theorem RS.mul {k m : Nat} {a b : Rat} (ha : RS k a) (hb : RS m b) : RS (k + m) (a * b) := by
  rw [← rat_mul]
  exact sz_divInt (ha.1.mul hb.1) (ha.2.mul hb.2) (Int.ne_of_gt (den2_pos a b))
theorem RS.neg {k : Nat} {a : Rat} (h : RS k a) : RS k (-a) := rsz_neg h
theorem RS.div {k m : Nat} {a b : Rat} (ha : RS k a) (hb : RS m b) (h0 : b.num ≠ 0) : RS (k + m) (a / b) := by
  rw [← rat_div]
  exact sz_divInt (ha.1.mul hb.2) (ha.2.mul hb.1) (Int.mul_ne_zero (Int.ne_of_gt (den_pos_i a)) h0)
theorem RS.int {k : Nat} {z : Int} (h : Sz k z) (hk : 0 < k) : RS k (z : Rat) := ⟨h, show (1 : Nat) < 2 ^ k from Nat.one_lt_two_pow (by omega)⟩
theorem RS.mono {k m : Nat} {a : Rat} (h : RS k a) (hk : k ≤ m) : RS m a := ⟨h.1.mono hk, h.2.mono hk⟩
end Go.Proofs.YtlcmllfacolkaaaGreatDoor
