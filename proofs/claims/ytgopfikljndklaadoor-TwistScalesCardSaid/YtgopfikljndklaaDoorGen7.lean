/- Printed by a program of the prover's: the operations on twists. -/
import Derived.Test.YtgopfikljndklaaDoorGen6
namespace Go.Proofs.YtgopfikljndklaaDoor
open Go.RowKit

set_option maxRecDepth 100000 in
set_option maxHeartbeats 1000000 in
theorem vof_v (n1 n2 n3 : Int) (_j1 : -9223372036854775808 ≤ n1 ∧ n1 ≤ 9223372036854775807) (_j2 : -9223372036854775808 ≤ n2 ∧ n2 ≤ 9223372036854775807) (_j3 : -9223372036854775808 ≤ n3 ∧ n3 ≤ 9223372036854775807) (w : World) :
    Calls Tryd.prog 40 #[(.agg #[(.int .i64 (n1)), (.int .i64 (n2)), (.int .i64 (n3))])] w fun e w' => (∃ t0 t1 t2 t3 t4 t5 t6 t7 t8 t9 t10 t11, e = .returned (.agg #[t0, t1, t2, t3, t4, t5, t6, t7, t8, t9, t10, t11]) ∧ IsRat w' 64 t0 t1 t2 t3 ((n1 : Int) : Rat) ∧ IsRat w' 64 t4 t5 t6 t7 ((n2 : Int) : Rat) ∧ IsRat w' 64 t8 t9 t10 t11 ((n3 : Int) : Rat)) ∧ Gr w w' := by
 go_enter Tryd.func40, Tryd.ntmps40
 have hB := Gr.refl w
 refine wp_seq_k (fun K1 k1 => ?_)
 refine rg [0, 1] ?_
 refine se ?_
 refine eb 83 #[(.int .i64 (n1)), (.int .i64 (n2)), (.int .i64 (n3))] 1 hB fun b2 w2 g2 L2 o2 q2 hB => ?_
 simp only [p3, p4]
 refine se ?_
 refine ea 33 #[(.bool false), (.slice none 0 0), (.bool false), (.slice none 0 0), (.bool false), (.slice none 0 0), (.bool false), (.slice none 0 0), (.bool false), (.slice none 0 0), (.bool false), (.slice none 0 0)] 2 hB fun b3 w3 g3 L3 o3 q3 hB => ?_
 simp only [p3, p4]
 refine sq_nil ?_
 refine k1 _ _ ?_
 try clear k1 K1
 refine wp_seq_k (fun K4 k4 => ?_)
 refine rg [0] ?_
 refine se ?_
 refine ea 33 #[(.bool false), (.slice none 0 0), (.bool false), (.slice none 0 0), (.bool false), (.slice none 0 0), (.bool false), (.slice none 0 0), (.bool false), (.slice none 0 0), (.bool false), (.slice none 0 0)] 3 hB fun b5 w5 g5 L5 o5 q5 hB => ?_
 replace L2 := L2.gr g3
 have ne3_5 := L3.ne o5
 simp only [p3, p4]
 refine sq_nil ?_
 refine k4 _ _ ?_
 try clear k4 K4
 refine wp_seq_k (fun K6 k6 => ?_)
 refine wp_seq_k (fun K7 k7 => ?_)
 refine rg [0, 1] ?_
 replace L2 := L2.gr g5
 refine sw 6 (.agg #[(.int .i64 (n1)), (.int .i64 (n2)), (.int .i64 (n3))]) rfl (rl 83 0 [(.int .i64 (n1)), (.int .i64 (n2)), (.int .i64 (n3))] L2) ?_
 simp only [p3, p4]
 refine sv 7 (.int .i64 0) ?_
 simp only [p3, p4]
 refine sq_nil ?_
 refine k7 _ _ ?_
 try clear k7 K7
 refine wp_block ?_
 refine wp_loop_rounds 4 ?_
 show Code.wp _ _ _ _ _
 refine wp_seq_k (fun K8 k8 => ?_)
 refine rg [0] ?_
 refine sv 8 (.bool true) ?_
 simp only [p3, p4]
 refine sq_nil ?_
 refine k8 _ _ ?_
 try clear k8 K8
 refine wp_seq_k (fun K9 k9 => ?_)
 refine wp_cond_true rfl ?_
 refine wp_skip ?_
 refine k9 _ _ ?_
 try clear k9 K9
 refine wp_seq_k (fun K10 k10 => ?_)
 refine wp_block ?_
 refine wp_seq_k (fun K11 k11 => ?_)
 refine rg [0, 1, 2, 3] ?_
 refine sv 9 (.int .i64 0) ?_
 simp only [p3, p4]
 refine sv 10 (.int .i64 (n1)) ?_
 simp only [p3, p4]
 refine sv 4 (.int .i64 0) ?_
 simp only [p3, p4]
 refine sv 5 (.int .i64 (n1)) ?_
 simp only [p3, p4]
 refine sq_nil ?_
 refine k11 _ _ ?_
 try clear k11 K11
 refine rg [0, 1, 2, 3, 4] ?_
 refine sv 11 (.int .i64 0) ?_
 simp only [p3, p4]
 refine sv 12 (.int .i64 (n1)) ?_
 simp only [p3, p4]
 refine se ?_
 refine ec 13 (from_r (n1) (by omega) (by omega) _) ?_
 rintro e12 w12 ⟨⟨p12, q12, r12, s12, rfl, h12⟩, g12⟩
 refine ⟨_, rfl, ?_⟩
 replace hB := hB.trans g12
 simp only [p3, p4]
 refine sv 14 (.pointer (some ⟨b5, 0, none⟩)) ?_
 simp only [p3, p4]
 refine se ?_
 replace L5 := L5.gr g12
 refine es 31 0 (.agg #[p12, q12, r12, s12]) [p12, q12, r12, s12] #[p12, q12, r12, s12, (.bool false), (.slice none 0 0), (.bool false), (.slice none 0 0), (.bool false), (.slice none 0 0), (.bool false), (.slice none 0 0)] L5 hB q5 ⟨h12.one0, h12.one1, h12.one2, h12.one3, trivial⟩ fun w13 st13 kp13 L5 hB => ?_
 refine sq_nil ?_
 refine k10 _ _ ?_
 try clear k10 K10
 refine rg [0, 1] ?_
 refine sv 15 (.int .i64 1) ?_
 simp only [p3, p4]
 refine sv 7 (.int .i64 1) ?_
 simp only [p3, p4]
 refine sq_nil ?_
 show Code.rounds _ _ _ _ _ _
 show Code.wp _ _ _ _ _
 refine wp_seq_k (fun K14 k14 => ?_)
 refine rg [0] ?_
 refine sv 8 (.bool true) ?_
 simp only [p3, p4]
 refine sq_nil ?_
 refine k14 _ _ ?_
 try clear k14 K14
 refine wp_seq_k (fun K15 k15 => ?_)
 refine wp_cond_true rfl ?_
 refine wp_skip ?_
 refine k15 _ _ ?_
 try clear k15 K15
 refine wp_seq_k (fun K16 k16 => ?_)
 refine wp_block ?_
 refine wp_seq_k (fun K17 k17 => ?_)
 refine rg [0, 1, 2, 3] ?_
 refine sv 9 (.int .i64 1) ?_
 simp only [p3, p4]
 refine sv 10 (.int .i64 (n2)) ?_
 simp only [p3, p4]
 refine sv 4 (.int .i64 1) ?_
 simp only [p3, p4]
 refine sv 5 (.int .i64 (n2)) ?_
 simp only [p3, p4]
 refine sq_nil ?_
 refine k17 _ _ ?_
 try clear k17 K17
 refine rg [0, 1, 2, 3, 4] ?_
 refine sv 11 (.int .i64 1) ?_
 simp only [p3, p4]
 refine sv 12 (.int .i64 (n2)) ?_
 simp only [p3, p4]
 refine se ?_
 refine ec 13 (from_r (n2) (by omega) (by omega) _) ?_
 rintro e18 w18 ⟨⟨p18, q18, r18, s18, rfl, h18⟩, g18⟩
 refine ⟨_, rfl, ?_⟩
 replace hB := hB.trans g18
 simp only [p3, p4]
 refine sv 14 (.pointer (some ⟨b5, 4, none⟩)) ?_
 simp only [p3, p4]
 refine se ?_
 replace L5 := L5.gr g18
 refine es 31 4 (.agg #[p18, q18, r18, s18]) [p18, q18, r18, s18] #[p12, q12, r12, s12, p18, q18, r18, s18, (.bool false), (.slice none 0 0), (.bool false), (.slice none 0 0)] L5 hB q5 ⟨h18.one0, h18.one1, h18.one2, h18.one3, trivial⟩ fun w19 st19 kp19 L5 hB => ?_
 refine sq_nil ?_
 refine k16 _ _ ?_
 try clear k16 K16
 refine rg [0, 1] ?_
 refine sv 15 (.int .i64 2) ?_
 simp only [p3, p4]
 refine sv 7 (.int .i64 2) ?_
 simp only [p3, p4]
 refine sq_nil ?_
 show Code.rounds _ _ _ _ _ _
 show Code.wp _ _ _ _ _
 refine wp_seq_k (fun K20 k20 => ?_)
 refine rg [0] ?_
 refine sv 8 (.bool true) ?_
 simp only [p3, p4]
 refine sq_nil ?_
 refine k20 _ _ ?_
 try clear k20 K20
 refine wp_seq_k (fun K21 k21 => ?_)
 refine wp_cond_true rfl ?_
 refine wp_skip ?_
 refine k21 _ _ ?_
 try clear k21 K21
 refine wp_seq_k (fun K22 k22 => ?_)
 refine wp_block ?_
 refine wp_seq_k (fun K23 k23 => ?_)
 refine rg [0, 1, 2, 3] ?_
 refine sv 9 (.int .i64 2) ?_
 simp only [p3, p4]
 refine sv 10 (.int .i64 (n3)) ?_
 simp only [p3, p4]
 refine sv 4 (.int .i64 2) ?_
 simp only [p3, p4]
 refine sv 5 (.int .i64 (n3)) ?_
 simp only [p3, p4]
 refine sq_nil ?_
 refine k23 _ _ ?_
 try clear k23 K23
 refine rg [0, 1, 2, 3, 4] ?_
 refine sv 11 (.int .i64 2) ?_
 simp only [p3, p4]
 refine sv 12 (.int .i64 (n3)) ?_
 simp only [p3, p4]
 refine se ?_
 refine ec 13 (from_r (n3) (by omega) (by omega) _) ?_
 rintro e24 w24 ⟨⟨p24, q24, r24, s24, rfl, h24⟩, g24⟩
 refine ⟨_, rfl, ?_⟩
 replace hB := hB.trans g24
 simp only [p3, p4]
 refine sv 14 (.pointer (some ⟨b5, 8, none⟩)) ?_
 simp only [p3, p4]
 refine se ?_
 replace L5 := L5.gr g24
 refine es 31 8 (.agg #[p24, q24, r24, s24]) [p24, q24, r24, s24] #[p12, q12, r12, s12, p18, q18, r18, s18, p24, q24, r24, s24] L5 hB q5 ⟨h24.one0, h24.one1, h24.one2, h24.one3, trivial⟩ fun w25 st25 kp25 L5 hB => ?_
 refine sq_nil ?_
 refine k22 _ _ ?_
 try clear k22 K22
 refine rg [0, 1] ?_
 refine sv 15 (.int .i64 3) ?_
 simp only [p3, p4]
 refine sv 7 (.int .i64 3) ?_
 simp only [p3, p4]
 refine sq_nil ?_
 show Code.rounds _ _ _ _ _ _
 show Code.wp _ _ _ _ _
 refine wp_seq_k (fun K26 k26 => ?_)
 refine rg [0] ?_
 refine sv 8 (.bool false) ?_
 simp only [p3, p4]
 refine sq_nil ?_
 refine k26 _ _ ?_
 try clear k26 K26
 refine wp_seq_k (fun K27 k27 => ?_)
 refine wp_cond_false rfl ?_
 refine wp_exit ?_
 simp only [Exit.then, Exit.inBlock, ↓reduceIte]
 refine k6 _ _ ?_
 try clear k6 K6
 refine wp_seq_k (fun K28 k28 => ?_)
 refine rg [0, 1] ?_
 refine sw 16 (.agg #[p12, q12, r12, s12, p18, q18, r18, s18, p24, q24, r24, s24]) rfl (rl 33 0 [p12, q12, r12, s12, p18, q18, r18, s18, p24, q24, r24, s24] L5) ?_
 simp only [p3, p4]
 refine se ?_
 replace L3 := st25.lc ((st19.lc ((st13.lc (L3.gr (g5.trans g12)) ne3_5).gr g18) ne3_5).gr g24) ne3_5
 refine es 33 0 (.agg #[p12, q12, r12, s12, p18, q18, r18, s18, p24, q24, r24, s24]) [p12, q12, r12, s12, p18, q18, r18, s18, p24, q24, r24, s24] #[p12, q12, r12, s12, p18, q18, r18, s18, p24, q24, r24, s24] L3 hB q3 ⟨h12.one0, h12.one1, h12.one2, h12.one3, h18.one0, h18.one1, h18.one2, h18.one3, h24.one0, h24.one1, h24.one2, h24.one3, trivial⟩ fun w29 st29 kp29 L3 hB => ?_
 refine sq_nil ?_
 refine k28 _ _ ?_
 try clear k28 K28
 refine wp_ret ?_
 refine bodyPost_ret (v := (.agg #[p12, q12, r12, s12, p18, q18, r18, s18, p24, q24, r24, s24])) (ret_cell _ _ _ rfl rfl L3 (by kernel_rfl)) rfl ⟨?_, hB⟩
 have kq30 := kp13.trans (g18.kp.trans (kp19.trans (g24.kp.trans (kp25.trans kp29))))
 replace h12 := h12.kp kq30
 have kq31 := kp19.trans (g24.kp.trans (kp25.trans kp29))
 replace h18 := h18.kp kq31
 have kq32 := kp25.trans kp29
 replace h24 := h24.kp kq32
 exact ⟨_, _, _, _, _, _, _, _, _, _, _, _, rfl, h12, h18, h24⟩

set_option maxRecDepth 100000 in
set_option maxHeartbeats 1000000 in
theorem tvel_v {k m : Nat} {uaa0 uaa1 uaa2 uaa3 uab0 uab1 uab2 uab3 uac0 uac1 uac2 uac3 : Value} {a1 a2 a3 : Rat} {uba0 uba1 uba2 uba3 ubb0 ubb1 ubb2 ubb3 ubc0 ubc1 ubc2 ubc3 : Value} {d1 d2 d3 : Rat} {vaa0 vaa1 vaa2 vaa3 vab0 vab1 vab2 vab3 vac0 vac1 vac2 vac3 : Value} {c1 c2 c3 : Rat} {w : World} (hua1 : IsRat w k uaa0 uaa1 uaa2 uaa3 a1) (hua2 : IsRat w k uab0 uab1 uab2 uab3 a2) (hua3 : IsRat w k uac0 uac1 uac2 uac3 a3) (hub1 : IsRat w k uba0 uba1 uba2 uba3 d1) (hub2 : IsRat w k ubb0 ubb1 ubb2 ubb3 d2) (hub3 : IsRat w k ubc0 ubc1 ubc2 ubc3 d3) (hva1 : IsRat w m vaa0 vaa1 vaa2 vaa3 c1) (hva2 : IsRat w m vab0 vab1 vab2 vab3 c2) (hva3 : IsRat w m vac0 vac1 vac2 vac3 c3) (_hk : k + m ≤ 20000) :
    Calls Tryd.prog 23 #[(.agg #[uaa0, uaa1, uaa2, uaa3, uab0, uab1, uab2, uab3, uac0, uac1, uac2, uac3, uba0, uba1, uba2, uba3, ubb0, ubb1, ubb2, ubb3, ubc0, ubc1, ubc2, ubc3]), (.agg #[vaa0, vaa1, vaa2, vaa3, vab0, vab1, vab2, vab3, vac0, vac1, vac2, vac3])] w fun e w' => (∃ t0 t1 t2 t3 t4 t5 t6 t7 t8 t9 t10 t11, e = .returned (.agg #[t0, t1, t2, t3, t4, t5, t6, t7, t8, t9, t10, t11]) ∧ IsRat w' (k + (k + m + (k + m) + 1) + 1) t0 t1 t2 t3 (d1 + (a2 * c3 - a3 * c2)) ∧ IsRat w' (k + (k + m + (k + m) + 1) + 1) t4 t5 t6 t7 (d2 + (a3 * c1 - a1 * c3)) ∧ IsRat w' (k + (k + m + (k + m) + 1) + 1) t8 t9 t10 t11 (d3 + (a1 * c2 - a2 * c1))) ∧ Gr w w' := by
 have hb1 := hua1.big
 have hb2 := hva1.big
 go_enter Tryd.func23, Tryd.ntmps23
 have hB := Gr.refl w
 refine wp_seq_k (fun K1 k1 => ?_)
 refine rg [0, 1, 2] ?_
 refine se ?_
 refine eb 35 #[uaa0, uaa1, uaa2, uaa3, uab0, uab1, uab2, uab3, uac0, uac1, uac2, uac3, uba0, uba1, uba2, uba3, ubb0, ubb1, ubb2, ubb3, ubc0, ubc1, ubc2, ubc3] 2 hB fun b2 w2 g2 L2 o2 q2 hB => ?_
 simp only [p3, p4]
 refine se ?_
 refine eb 33 #[vaa0, vaa1, vaa2, vaa3, vab0, vab1, vab2, vab3, vac0, vac1, vac2, vac3] 3 hB fun b3 w3 g3 L3 o3 q3 hB => ?_
 simp only [p3, p4]
 refine se ?_
 refine ea 33 #[(.bool false), (.slice none 0 0), (.bool false), (.slice none 0 0), (.bool false), (.slice none 0 0), (.bool false), (.slice none 0 0), (.bool false), (.slice none 0 0), (.bool false), (.slice none 0 0)] 4 hB fun b4 w4 g4 L4 o4 q4 hB => ?_
 replace L2 := L2.gr g3
 have ne2_4 := L2.ne o4
 have ne3_4 := L3.ne o4
 simp only [p3, p4]
 refine sq_nil ?_
 refine k1 _ _ ?_
 try clear k1 K1
 refine wp_seq_k (fun K5 k5 => ?_)
 have gd15 := Gr.drew w4
 replace hB := hB.trans gd15
 replace L2 := L2.gr (g4.trans gd15)
 replace L3 := L3.gr (g4.trans gd15)
 refine wp_region_ord (fun w' => Lc w' b2 #[uaa0, uaa1, uaa2, uaa3, uab0, uab1, uab2, uab3, uac0, uac1, uac2, uac3, uba0, uba1, uba2, uba3, ubb0, ubb1, ubb2, ubb3, ubc0, ubc1, ubc2, ubc3] 35 ∧ Lc w' b3 #[vaa0, vaa1, vaa2, vaa3, vab0, vab1, vab2, vab3, vac0, vac1, vac2, vac3] 33) [(true, 0), (true, 1), (true, 2), (true, 3), (true, 4), (false, 5), (false, 6), (false, 7)] (by kernel_rfl) (by kernel_rfl) (by kernel_rfl) (by decide) (fun _ _ _ _ _ h => h) ⟨L2, L3⟩ ?_
 refine ov 5 (.pointer (some ⟨b2, 12, none⟩)) ?_
 simp only [p3, p4]
 refine ow 6 (.agg #[uba0, uba1, uba2, uba3, ubb0, ubb1, ubb2, ubb3, ubc0, ubc1, ubc2, ubc3]) rfl (fun w' hS => (rl 33 12 [uba0, uba1, uba2, uba3, ubb0, ubb1, ubb2, ubb3, ubc0, ubc1, ubc2, ubc3] hS.1)) ?_
 simp only [p3, p4]
 refine ov 7 (.pointer (some ⟨b2, 0, none⟩)) ?_
 simp only [p3, p4]
 refine ow 8 (.agg #[uaa0, uaa1, uaa2, uaa3, uab0, uab1, uab2, uab3, uac0, uac1, uac2, uac3]) rfl (fun w' hS => (rl 33 0 [uaa0, uaa1, uaa2, uaa3, uab0, uab1, uab2, uab3, uac0, uac1, uac2, uac3] hS.1)) ?_
 simp only [p3, p4]
 refine ow 9 (.agg #[vaa0, vaa1, vaa2, vaa3, vab0, vab1, vab2, vab3, vac0, vac1, vac2, vac3]) rfl (fun w' hS => (rl 33 0 [vaa0, vaa1, vaa2, vaa3, vab0, vab1, vab2, vab3, vac0, vac1, vac2, vac3] hS.2)) ?_
 simp only [p3, p4]
 refine oe ?_
 have kq18 := g2.kp.trans (g3.kp.trans (g4.kp.trans gd15.kp))
 replace hua1 := hua1.kp kq18
 replace hua2 := hua2.kp kq18
 replace hua3 := hua3.kp kq18
 replace hva1 := hva1.kp kq18
 replace hva2 := hva2.kp kq18
 replace hva3 := hva3.kp kq18
 refine ec 10 (cross_v hua1 hua2 hua3 hva1 hva2 hva3 (by omega)) ?_
 rintro e17 w17 ⟨⟨t17_0, t17_1, t17_2, t17_3, t17_4, t17_5, t17_6, t17_7, t17_8, t17_9, t17_10, t17_11, rfl, h17a, h17b, h17c⟩, g17⟩
 refine ⟨_, rfl, ?_⟩
 replace hB := hB.trans g17
 replace L2 := L2.gr g17
 replace L3 := L3.gr g17
 refine ⟨⟨L2, L3⟩, ?_⟩
 simp only [p3, p4]
 refine oe ?_
 have kq21 := g2.kp.trans (g3.kp.trans (g4.kp.trans (gd15.kp.trans g17.kp)))
 replace hub1 := hub1.kp kq21
 replace hub2 := hub2.kp kq21
 replace hub3 := hub3.kp kq21
 refine ec 11 (vadd_v hub1 hub2 hub3 h17a h17b h17c (by omega)) ?_
 rintro e20 w20 ⟨⟨t20_0, t20_1, t20_2, t20_3, t20_4, t20_5, t20_6, t20_7, t20_8, t20_9, t20_10, t20_11, rfl, h20a, h20b, h20c⟩, g20⟩
 refine ⟨_, rfl, ?_⟩
 replace hB := hB.trans g20
 replace L2 := L2.gr g20
 replace L3 := L3.gr g20
 refine ⟨⟨L2, L3⟩, ?_⟩
 simp only [p3, p4]
 refine oe ?_
 replace L4 := L4.gr (gd15.trans (g17.trans g20))
 refine es 33 0 (.agg #[t20_0, t20_1, t20_2, t20_3, t20_4, t20_5, t20_6, t20_7, t20_8, t20_9, t20_10, t20_11]) [t20_0, t20_1, t20_2, t20_3, t20_4, t20_5, t20_6, t20_7, t20_8, t20_9, t20_10, t20_11] #[t20_0, t20_1, t20_2, t20_3, t20_4, t20_5, t20_6, t20_7, t20_8, t20_9, t20_10, t20_11] L4 hB q4 ⟨h20a.one0, h20a.one1, h20a.one2, h20a.one3, h20b.one0, h20b.one1, h20b.one2, h20b.one3, h20c.one0, h20c.one1, h20c.one2, h20c.one3, trivial⟩ fun w23 st23 kp23 L4 hB => ?_
 replace L2 := st23.lc L2 ne2_4
 replace L3 := st23.lc L3 ne3_4
 refine ⟨⟨L2, L3⟩, ?_⟩
 refine ord_nil ?_
 refine k5 _ _ ?_
 try clear k5 K5
 refine wp_ret ?_
 refine bodyPost_ret (v := (.agg #[t20_0, t20_1, t20_2, t20_3, t20_4, t20_5, t20_6, t20_7, t20_8, t20_9, t20_10, t20_11])) (ret_cell _ _ _ rfl rfl L4 (by kernel_rfl)) rfl ⟨?_, hB⟩
 replace h20a := h20a.kp kp23
 replace h20b := h20b.kp kp23
 replace h20c := h20c.kp kp23
 exact ⟨_, _, _, _, _, _, _, _, _, _, _, _, rfl, h20a, h20b, h20c⟩

set_option maxRecDepth 100000 in
set_option maxHeartbeats 1000000 in
theorem lvel_v {k m : Nat} {uaa0 uaa1 uaa2 uaa3 uab0 uab1 uab2 uab3 uac0 uac1 uac2 uac3 : Value} {a1 a2 a3 : Rat} {uba0 uba1 uba2 uba3 ubb0 ubb1 ubb2 ubb3 ubc0 ubc1 ubc2 ubc3 : Value} {d1 d2 d3 : Rat} {vaa0 vaa1 vaa2 vaa3 vab0 vab1 vab2 vab3 vac0 vac1 vac2 vac3 : Value} {c1 c2 c3 : Rat} {w : World} (hua1 : IsRat w k uaa0 uaa1 uaa2 uaa3 a1) (hua2 : IsRat w k uab0 uab1 uab2 uab3 a2) (hua3 : IsRat w k uac0 uac1 uac2 uac3 a3) (hub1 : IsRat w k uba0 uba1 uba2 uba3 d1) (hub2 : IsRat w k ubb0 ubb1 ubb2 ubb3 d2) (hub3 : IsRat w k ubc0 ubc1 ubc2 ubc3 d3) (hva1 : IsRat w m vaa0 vaa1 vaa2 vaa3 c1) (hva2 : IsRat w m vab0 vab1 vab2 vab3 c2) (hva3 : IsRat w m vac0 vac1 vac2 vac3 c3) (_hk : k + m ≤ 20000) :
    Calls Tryd.prog 24 #[(.agg #[uaa0, uaa1, uaa2, uaa3, uab0, uab1, uab2, uab3, uac0, uac1, uac2, uac3, uba0, uba1, uba2, uba3, ubb0, ubb1, ubb2, ubb3, ubc0, ubc1, ubc2, ubc3]), (.agg #[vaa0, vaa1, vaa2, vaa3, vab0, vab1, vab2, vab3, vac0, vac1, vac2, vac3])] w fun e w' => (∃ t0 t1 t2 t3 t4 t5 t6 t7 t8 t9 t10 t11, e = .returned (.agg #[t0, t1, t2, t3, t4, t5, t6, t7, t8, t9, t10, t11]) ∧ IsRat w' (k + (k + m + (k + m) + 1) + 1) t0 t1 t2 t3 (d1 + (a2 * c3 - a3 * c2)) ∧ IsRat w' (k + (k + m + (k + m) + 1) + 1) t4 t5 t6 t7 (d2 + (a3 * c1 - a1 * c3)) ∧ IsRat w' (k + (k + m + (k + m) + 1) + 1) t8 t9 t10 t11 (d3 + (a1 * c2 - a2 * c1))) ∧ Gr w w' := by
 have hb1 := hua1.big
 have hb2 := hva1.big
 go_enter Tryd.func24, Tryd.ntmps24
 have hB := Gr.refl w
 refine wp_seq_k (fun K1 k1 => ?_)
 refine rg [0, 1, 2] ?_
 refine se ?_
 refine eb 35 #[uaa0, uaa1, uaa2, uaa3, uab0, uab1, uab2, uab3, uac0, uac1, uac2, uac3, uba0, uba1, uba2, uba3, ubb0, ubb1, ubb2, ubb3, ubc0, ubc1, ubc2, ubc3] 2 hB fun b2 w2 g2 L2 o2 q2 hB => ?_
 simp only [p3, p4]
 refine se ?_
 refine eb 33 #[vaa0, vaa1, vaa2, vaa3, vab0, vab1, vab2, vab3, vac0, vac1, vac2, vac3] 3 hB fun b3 w3 g3 L3 o3 q3 hB => ?_
 simp only [p3, p4]
 refine se ?_
 refine ea 33 #[(.bool false), (.slice none 0 0), (.bool false), (.slice none 0 0), (.bool false), (.slice none 0 0), (.bool false), (.slice none 0 0), (.bool false), (.slice none 0 0), (.bool false), (.slice none 0 0)] 4 hB fun b4 w4 g4 L4 o4 q4 hB => ?_
 replace L2 := L2.gr g3
 have ne2_4 := L2.ne o4
 have ne3_4 := L3.ne o4
 simp only [p3, p4]
 refine sq_nil ?_
 refine k1 _ _ ?_
 try clear k1 K1
 refine wp_seq_k (fun K5 k5 => ?_)
 have gd15 := Gr.drew w4
 replace hB := hB.trans gd15
 replace L2 := L2.gr (g4.trans gd15)
 replace L3 := L3.gr (g4.trans gd15)
 refine wp_region_ord (fun w' => Lc w' b2 #[uaa0, uaa1, uaa2, uaa3, uab0, uab1, uab2, uab3, uac0, uac1, uac2, uac3, uba0, uba1, uba2, uba3, ubb0, ubb1, ubb2, ubb3, ubc0, ubc1, ubc2, ubc3] 35 ∧ Lc w' b3 #[vaa0, vaa1, vaa2, vaa3, vab0, vab1, vab2, vab3, vac0, vac1, vac2, vac3] 33) [(true, 0), (true, 1), (true, 2), (true, 3), (true, 4), (false, 5), (false, 6), (false, 7)] (by kernel_rfl) (by kernel_rfl) (by kernel_rfl) (by decide) (fun _ _ _ _ _ h => h) ⟨L2, L3⟩ ?_
 refine ov 5 (.pointer (some ⟨b2, 12, none⟩)) ?_
 simp only [p3, p4]
 refine ow 6 (.agg #[uba0, uba1, uba2, uba3, ubb0, ubb1, ubb2, ubb3, ubc0, ubc1, ubc2, ubc3]) rfl (fun w' hS => (rl 33 12 [uba0, uba1, uba2, uba3, ubb0, ubb1, ubb2, ubb3, ubc0, ubc1, ubc2, ubc3] hS.1)) ?_
 simp only [p3, p4]
 refine ov 7 (.pointer (some ⟨b2, 0, none⟩)) ?_
 simp only [p3, p4]
 refine ow 8 (.agg #[uaa0, uaa1, uaa2, uaa3, uab0, uab1, uab2, uab3, uac0, uac1, uac2, uac3]) rfl (fun w' hS => (rl 33 0 [uaa0, uaa1, uaa2, uaa3, uab0, uab1, uab2, uab3, uac0, uac1, uac2, uac3] hS.1)) ?_
 simp only [p3, p4]
 refine ow 9 (.agg #[vaa0, vaa1, vaa2, vaa3, vab0, vab1, vab2, vab3, vac0, vac1, vac2, vac3]) rfl (fun w' hS => (rl 33 0 [vaa0, vaa1, vaa2, vaa3, vab0, vab1, vab2, vab3, vac0, vac1, vac2, vac3] hS.2)) ?_
 simp only [p3, p4]
 refine oe ?_
 have kq18 := g2.kp.trans (g3.kp.trans (g4.kp.trans gd15.kp))
 replace hua1 := hua1.kp kq18
 replace hua2 := hua2.kp kq18
 replace hua3 := hua3.kp kq18
 replace hva1 := hva1.kp kq18
 replace hva2 := hva2.kp kq18
 replace hva3 := hva3.kp kq18
 refine ec 10 (cross_v hua1 hua2 hua3 hva1 hva2 hva3 (by omega)) ?_
 rintro e17 w17 ⟨⟨t17_0, t17_1, t17_2, t17_3, t17_4, t17_5, t17_6, t17_7, t17_8, t17_9, t17_10, t17_11, rfl, h17a, h17b, h17c⟩, g17⟩
 refine ⟨_, rfl, ?_⟩
 replace hB := hB.trans g17
 replace L2 := L2.gr g17
 replace L3 := L3.gr g17
 refine ⟨⟨L2, L3⟩, ?_⟩
 simp only [p3, p4]
 refine oe ?_
 have kq21 := g2.kp.trans (g3.kp.trans (g4.kp.trans (gd15.kp.trans g17.kp)))
 replace hub1 := hub1.kp kq21
 replace hub2 := hub2.kp kq21
 replace hub3 := hub3.kp kq21
 refine ec 11 (vadd_v hub1 hub2 hub3 h17a h17b h17c (by omega)) ?_
 rintro e20 w20 ⟨⟨t20_0, t20_1, t20_2, t20_3, t20_4, t20_5, t20_6, t20_7, t20_8, t20_9, t20_10, t20_11, rfl, h20a, h20b, h20c⟩, g20⟩
 refine ⟨_, rfl, ?_⟩
 replace hB := hB.trans g20
 replace L2 := L2.gr g20
 replace L3 := L3.gr g20
 refine ⟨⟨L2, L3⟩, ?_⟩
 simp only [p3, p4]
 refine oe ?_
 replace L4 := L4.gr (gd15.trans (g17.trans g20))
 refine es 33 0 (.agg #[t20_0, t20_1, t20_2, t20_3, t20_4, t20_5, t20_6, t20_7, t20_8, t20_9, t20_10, t20_11]) [t20_0, t20_1, t20_2, t20_3, t20_4, t20_5, t20_6, t20_7, t20_8, t20_9, t20_10, t20_11] #[t20_0, t20_1, t20_2, t20_3, t20_4, t20_5, t20_6, t20_7, t20_8, t20_9, t20_10, t20_11] L4 hB q4 ⟨h20a.one0, h20a.one1, h20a.one2, h20a.one3, h20b.one0, h20b.one1, h20b.one2, h20b.one3, h20c.one0, h20c.one1, h20c.one2, h20c.one3, trivial⟩ fun w23 st23 kp23 L4 hB => ?_
 replace L2 := st23.lc L2 ne2_4
 replace L3 := st23.lc L3 ne3_4
 refine ⟨⟨L2, L3⟩, ?_⟩
 refine ord_nil ?_
 refine k5 _ _ ?_
 try clear k5 K5
 refine wp_ret ?_
 refine bodyPost_ret (v := (.agg #[t20_0, t20_1, t20_2, t20_3, t20_4, t20_5, t20_6, t20_7, t20_8, t20_9, t20_10, t20_11])) (ret_cell _ _ _ rfl rfl L4 (by kernel_rfl)) rfl ⟨?_, hB⟩
 replace h20a := h20a.kp kp23
 replace h20b := h20b.kp kp23
 replace h20c := h20c.kp kp23
 exact ⟨_, _, _, _, _, _, _, _, _, _, _, _, rfl, h20a, h20b, h20c⟩

set_option maxRecDepth 100000 in
set_option maxHeartbeats 1000000 in
theorem ttrans_v {k : Nat} {uaa0 uaa1 uaa2 uaa3 uab0 uab1 uab2 uab3 uac0 uac1 uac2 uac3 : Value} {a1 a2 a3 : Rat} {w : World} (hua1 : IsRat w k uaa0 uaa1 uaa2 uaa3 a1) (hua2 : IsRat w k uab0 uab1 uab2 uab3 a2) (hua3 : IsRat w k uac0 uac1 uac2 uac3 a3) (_hk : k ≤ 25000) :
    Calls Tryd.prog 25 #[(.agg #[uaa0, uaa1, uaa2, uaa3, uab0, uab1, uab2, uab3, uac0, uac1, uac2, uac3])] w fun e w' => (∃ t0 t1 t2 t3 t4 t5 t6 t7 t8 t9 t10 t11 t12 t13 t14 t15 t16 t17 t18 t19 t20 t21 t22 t23, e = .returned (.agg #[t0, t1, t2, t3, t4, t5, t6, t7, t8, t9, t10, t11, t12, t13, t14, t15, t16, t17, t18, t19, t20, t21, t22, t23]) ∧ IsRat w' 64 t0 t1 t2 t3 (0) ∧ IsRat w' 64 t4 t5 t6 t7 (0) ∧ IsRat w' 64 t8 t9 t10 t11 (0) ∧ IsRat w' k t12 t13 t14 t15 (a1) ∧ IsRat w' k t16 t17 t18 t19 (a2) ∧ IsRat w' k t20 t21 t22 t23 (a3)) ∧ Gr w w' := by
 go_enter Tryd.func25, Tryd.ntmps25
 have hB := Gr.refl w
 refine wp_seq_k (fun K1 k1 => ?_)
 refine rg [0, 1] ?_
 refine se ?_
 refine eb 33 #[uaa0, uaa1, uaa2, uaa3, uab0, uab1, uab2, uab3, uac0, uac1, uac2, uac3] 1 hB fun b2 w2 g2 L2 o2 q2 hB => ?_
 simp only [p3, p4]
 refine se ?_
 refine ea 35 #[(.bool false), (.slice none 0 0), (.bool false), (.slice none 0 0), (.bool false), (.slice none 0 0), (.bool false), (.slice none 0 0), (.bool false), (.slice none 0 0), (.bool false), (.slice none 0 0), (.bool false), (.slice none 0 0), (.bool false), (.slice none 0 0), (.bool false), (.slice none 0 0), (.bool false), (.slice none 0 0), (.bool false), (.slice none 0 0), (.bool false), (.slice none 0 0)] 2 hB fun b3 w3 g3 L3 o3 q3 hB => ?_
 simp only [p3, p4]
 refine sq_nil ?_
 refine k1 _ _ ?_
 try clear k1 K1
 refine wp_seq_k (fun K4 k4 => ?_)
 refine rg [0, 1, 2] ?_
 replace L2 := L2.gr g3
 refine sw 3 (.agg #[uaa0, uaa1, uaa2, uaa3, uab0, uab1, uab2, uab3, uac0, uac1, uac2, uac3]) rfl (rl 33 0 [uaa0, uaa1, uaa2, uaa3, uab0, uab1, uab2, uab3, uac0, uac1, uac2, uac3] L2) ?_
 simp only [p3, p4]
 refine sv 4 (.agg #[(.bool false), (.slice none 0 0), (.bool false), (.slice none 0 0), (.bool false), (.slice none 0 0), (.bool false), (.slice none 0 0), (.bool false), (.slice none 0 0), (.bool false), (.slice none 0 0), uaa0, uaa1, uaa2, uaa3, uab0, uab1, uab2, uab3, uac0, uac1, uac2, uac3]) ?_
 simp only [p3, p4]
 refine se ?_
 refine es 35 0 (.agg #[(.bool false), (.slice none 0 0), (.bool false), (.slice none 0 0), (.bool false), (.slice none 0 0), (.bool false), (.slice none 0 0), (.bool false), (.slice none 0 0), (.bool false), (.slice none 0 0), uaa0, uaa1, uaa2, uaa3, uab0, uab1, uab2, uab3, uac0, uac1, uac2, uac3]) [(.bool false), (.slice none 0 0), (.bool false), (.slice none 0 0), (.bool false), (.slice none 0 0), (.bool false), (.slice none 0 0), (.bool false), (.slice none 0 0), (.bool false), (.slice none 0 0), uaa0, uaa1, uaa2, uaa3, uab0, uab1, uab2, uab3, uac0, uac1, uac2, uac3] #[(.bool false), (.slice none 0 0), (.bool false), (.slice none 0 0), (.bool false), (.slice none 0 0), (.bool false), (.slice none 0 0), (.bool false), (.slice none 0 0), (.bool false), (.slice none 0 0), uaa0, uaa1, uaa2, uaa3, uab0, uab1, uab2, uab3, uac0, uac1, uac2, uac3] L3 hB q3 ⟨rfl, rfl, rfl, rfl, rfl, rfl, rfl, rfl, rfl, rfl, rfl, rfl, hua1.one0, hua1.one1, hua1.one2, hua1.one3, hua2.one0, hua2.one1, hua2.one2, hua2.one3, hua3.one0, hua3.one1, hua3.one2, hua3.one3, trivial⟩ fun w5 st5 kp5 L3 hB => ?_
 refine sq_nil ?_
 refine k4 _ _ ?_
 try clear k4 K4
 refine wp_ret ?_
 refine bodyPost_ret (v := (.agg #[(.bool false), (.slice none 0 0), (.bool false), (.slice none 0 0), (.bool false), (.slice none 0 0), (.bool false), (.slice none 0 0), (.bool false), (.slice none 0 0), (.bool false), (.slice none 0 0), uaa0, uaa1, uaa2, uaa3, uab0, uab1, uab2, uab3, uac0, uac1, uac2, uac3])) (ret_cell _ _ _ rfl rfl L3 (by kernel_rfl)) rfl ⟨?_, hB⟩
 have kq6 := g2.kp.trans (g3.kp.trans kp5)
 replace hua1 := hua1.kp kq6
 replace hua2 := hua2.kp kq6
 replace hua3 := hua3.kp kq6
 exact ⟨_, _, _, _, _, _, _, _, _, _, _, _, _, _, _, _, _, _, _, _, _, _, _, _, rfl, (IsRat.zero _ (k := 64) (Nat.le_refl _)), (IsRat.zero _ (k := 64) (Nat.le_refl _)), (IsRat.zero _ (k := 64) (Nat.le_refl _)), hua1, hua2, hua3⟩

set_option maxRecDepth 100000 in
set_option maxHeartbeats 1000000 in
theorem trot_v {k m : Nat} {uaa0 uaa1 uaa2 uaa3 uab0 uab1 uab2 uab3 uac0 uac1 uac2 uac3 : Value} {a1 a2 a3 : Rat} {vaa0 vaa1 vaa2 vaa3 vab0 vab1 vab2 vab3 vac0 vac1 vac2 vac3 : Value} {c1 c2 c3 : Rat} {w : World} (hua1 : IsRat w k uaa0 uaa1 uaa2 uaa3 a1) (hua2 : IsRat w k uab0 uab1 uab2 uab3 a2) (hua3 : IsRat w k uac0 uac1 uac2 uac3 a3) (hva1 : IsRat w m vaa0 vaa1 vaa2 vaa3 c1) (hva2 : IsRat w m vab0 vab1 vab2 vab3 c2) (hva3 : IsRat w m vac0 vac1 vac2 vac3 c3) (_hk : k + m ≤ 20000) :
    Calls Tryd.prog 28 #[(.agg #[uaa0, uaa1, uaa2, uaa3, uab0, uab1, uab2, uab3, uac0, uac1, uac2, uac3]), (.agg #[vaa0, vaa1, vaa2, vaa3, vab0, vab1, vab2, vab3, vac0, vac1, vac2, vac3])] w fun e w' => (∃ t0 t1 t2 t3 t4 t5 t6 t7 t8 t9 t10 t11 t12 t13 t14 t15 t16 t17 t18 t19 t20 t21 t22 t23, e = .returned (.agg #[t0, t1, t2, t3, t4, t5, t6, t7, t8, t9, t10, t11, t12, t13, t14, t15, t16, t17, t18, t19, t20, t21, t22, t23]) ∧ IsRat w' k t0 t1 t2 t3 (a1) ∧ IsRat w' k t4 t5 t6 t7 (a2) ∧ IsRat w' k t8 t9 t10 t11 (a3) ∧ IsRat w' (m + k + (m + k) + 1) t12 t13 t14 t15 (c2 * a3 - c3 * a2) ∧ IsRat w' (m + k + (m + k) + 1) t16 t17 t18 t19 (c3 * a1 - c1 * a3) ∧ IsRat w' (m + k + (m + k) + 1) t20 t21 t22 t23 (c1 * a2 - c2 * a1)) ∧ Gr w w' := by
 go_enter Tryd.func28, Tryd.ntmps28
 have hB := Gr.refl w
 refine wp_seq_k (fun K1 k1 => ?_)
 refine rg [0, 1, 2] ?_
 refine se ?_
 refine eb 33 #[uaa0, uaa1, uaa2, uaa3, uab0, uab1, uab2, uab3, uac0, uac1, uac2, uac3] 2 hB fun b2 w2 g2 L2 o2 q2 hB => ?_
 simp only [p3, p4]
 refine se ?_
 refine eb 33 #[vaa0, vaa1, vaa2, vaa3, vab0, vab1, vab2, vab3, vac0, vac1, vac2, vac3] 3 hB fun b3 w3 g3 L3 o3 q3 hB => ?_
 simp only [p3, p4]
 refine se ?_
 refine ea 35 #[(.bool false), (.slice none 0 0), (.bool false), (.slice none 0 0), (.bool false), (.slice none 0 0), (.bool false), (.slice none 0 0), (.bool false), (.slice none 0 0), (.bool false), (.slice none 0 0), (.bool false), (.slice none 0 0), (.bool false), (.slice none 0 0), (.bool false), (.slice none 0 0), (.bool false), (.slice none 0 0), (.bool false), (.slice none 0 0), (.bool false), (.slice none 0 0)] 4 hB fun b4 w4 g4 L4 o4 q4 hB => ?_
 replace L2 := L2.gr g3
 have ne2_4 := L2.ne o4
 have ne3_4 := L3.ne o4
 simp only [p3, p4]
 refine sq_nil ?_
 refine k1 _ _ ?_
 try clear k1 K1
 refine wp_seq_k (fun K5 k5 => ?_)
 have gd12 := Gr.drew w4
 replace hB := hB.trans gd12
 replace L2 := L2.gr (g4.trans gd12)
 replace L3 := L3.gr (g4.trans gd12)
 refine wp_region_ord (fun w' => Lc w' b2 #[uaa0, uaa1, uaa2, uaa3, uab0, uab1, uab2, uab3, uac0, uac1, uac2, uac3] 33 ∧ Lc w' b3 #[vaa0, vaa1, vaa2, vaa3, vab0, vab1, vab2, vab3, vac0, vac1, vac2, vac3] 33) [(true, 0), (true, 1), (true, 2), (false, 3), (true, 4), (false, 5)] (by kernel_rfl) (by kernel_rfl) (by kernel_rfl) (by decide) (fun _ _ _ _ _ h => h) ⟨L2, L3⟩ ?_
 refine ow 5 (.agg #[uaa0, uaa1, uaa2, uaa3, uab0, uab1, uab2, uab3, uac0, uac1, uac2, uac3]) rfl (fun w' hS => (rl 33 0 [uaa0, uaa1, uaa2, uaa3, uab0, uab1, uab2, uab3, uac0, uac1, uac2, uac3] hS.1)) ?_
 simp only [p3, p4]
 refine ow 6 (.agg #[vaa0, vaa1, vaa2, vaa3, vab0, vab1, vab2, vab3, vac0, vac1, vac2, vac3]) rfl (fun w' hS => (rl 33 0 [vaa0, vaa1, vaa2, vaa3, vab0, vab1, vab2, vab3, vac0, vac1, vac2, vac3] hS.2)) ?_
 simp only [p3, p4]
 refine ow 7 (.agg #[uaa0, uaa1, uaa2, uaa3, uab0, uab1, uab2, uab3, uac0, uac1, uac2, uac3]) rfl (fun w' hS => (rl 33 0 [uaa0, uaa1, uaa2, uaa3, uab0, uab1, uab2, uab3, uac0, uac1, uac2, uac3] hS.1)) ?_
 simp only [p3, p4]
 refine oe ?_
 have kq15 := g2.kp.trans (g3.kp.trans (g4.kp.trans gd12.kp))
 replace hva1 := hva1.kp kq15
 replace hva2 := hva2.kp kq15
 replace hva3 := hva3.kp kq15
 replace hua1 := hua1.kp kq15
 replace hua2 := hua2.kp kq15
 replace hua3 := hua3.kp kq15
 refine ec 8 (cross_v hva1 hva2 hva3 hua1 hua2 hua3 (by omega)) ?_
 rintro e14 w14 ⟨⟨t14_0, t14_1, t14_2, t14_3, t14_4, t14_5, t14_6, t14_7, t14_8, t14_9, t14_10, t14_11, rfl, h14a, h14b, h14c⟩, g14⟩
 refine ⟨_, rfl, ?_⟩
 replace hB := hB.trans g14
 replace L2 := L2.gr g14
 replace L3 := L3.gr g14
 refine ⟨⟨L2, L3⟩, ?_⟩
 simp only [p3, p4]
 refine ov 9 (.agg #[uaa0, uaa1, uaa2, uaa3, uab0, uab1, uab2, uab3, uac0, uac1, uac2, uac3, t14_0, t14_1, t14_2, t14_3, t14_4, t14_5, t14_6, t14_7, t14_8, t14_9, t14_10, t14_11]) ?_
 simp only [p3, p4]
 refine oe ?_
 replace L4 := L4.gr (gd12.trans g14)
 refine es 35 0 (.agg #[uaa0, uaa1, uaa2, uaa3, uab0, uab1, uab2, uab3, uac0, uac1, uac2, uac3, t14_0, t14_1, t14_2, t14_3, t14_4, t14_5, t14_6, t14_7, t14_8, t14_9, t14_10, t14_11]) [uaa0, uaa1, uaa2, uaa3, uab0, uab1, uab2, uab3, uac0, uac1, uac2, uac3, t14_0, t14_1, t14_2, t14_3, t14_4, t14_5, t14_6, t14_7, t14_8, t14_9, t14_10, t14_11] #[uaa0, uaa1, uaa2, uaa3, uab0, uab1, uab2, uab3, uac0, uac1, uac2, uac3, t14_0, t14_1, t14_2, t14_3, t14_4, t14_5, t14_6, t14_7, t14_8, t14_9, t14_10, t14_11] L4 hB q4 ⟨hua1.one0, hua1.one1, hua1.one2, hua1.one3, hua2.one0, hua2.one1, hua2.one2, hua2.one3, hua3.one0, hua3.one1, hua3.one2, hua3.one3, h14a.one0, h14a.one1, h14a.one2, h14a.one3, h14b.one0, h14b.one1, h14b.one2, h14b.one3, h14c.one0, h14c.one1, h14c.one2, h14c.one3, trivial⟩ fun w17 st17 kp17 L4 hB => ?_
 replace L2 := st17.lc L2 ne2_4
 replace L3 := st17.lc L3 ne3_4
 refine ⟨⟨L2, L3⟩, ?_⟩
 refine ord_nil ?_
 refine k5 _ _ ?_
 try clear k5 K5
 refine wp_ret ?_
 refine bodyPost_ret (v := (.agg #[uaa0, uaa1, uaa2, uaa3, uab0, uab1, uab2, uab3, uac0, uac1, uac2, uac3, t14_0, t14_1, t14_2, t14_3, t14_4, t14_5, t14_6, t14_7, t14_8, t14_9, t14_10, t14_11])) (ret_cell _ _ _ rfl rfl L4 (by kernel_rfl)) rfl ⟨?_, hB⟩
 have kq18 := g14.kp.trans kp17
 replace hua1 := hua1.kp kq18
 replace hua2 := hua2.kp kq18
 replace hua3 := hua3.kp kq18
 replace h14a := h14a.kp kp17
 replace h14b := h14b.kp kp17
 replace h14c := h14c.kp kp17
 exact ⟨_, _, _, _, _, _, _, _, _, _, _, _, _, _, _, _, _, _, _, _, _, _, _, _, rfl, hua1, hua2, hua3, h14a, h14b, h14c⟩

set_option maxRecDepth 100000 in
set_option maxHeartbeats 1000000 in
theorem tadd_v {k m : Nat} {uaa0 uaa1 uaa2 uaa3 uab0 uab1 uab2 uab3 uac0 uac1 uac2 uac3 : Value} {a1 a2 a3 : Rat} {uba0 uba1 uba2 uba3 ubb0 ubb1 ubb2 ubb3 ubc0 ubc1 ubc2 ubc3 : Value} {d1 d2 d3 : Rat} {vaa0 vaa1 vaa2 vaa3 vab0 vab1 vab2 vab3 vac0 vac1 vac2 vac3 : Value} {c1 c2 c3 : Rat} {vba0 vba1 vba2 vba3 vbb0 vbb1 vbb2 vbb3 vbc0 vbc1 vbc2 vbc3 : Value} {f1 f2 f3 : Rat} {w : World} (hua1 : IsRat w k uaa0 uaa1 uaa2 uaa3 a1) (hua2 : IsRat w k uab0 uab1 uab2 uab3 a2) (hua3 : IsRat w k uac0 uac1 uac2 uac3 a3) (hub1 : IsRat w k uba0 uba1 uba2 uba3 d1) (hub2 : IsRat w k ubb0 ubb1 ubb2 ubb3 d2) (hub3 : IsRat w k ubc0 ubc1 ubc2 ubc3 d3) (hva1 : IsRat w m vaa0 vaa1 vaa2 vaa3 c1) (hva2 : IsRat w m vab0 vab1 vab2 vab3 c2) (hva3 : IsRat w m vac0 vac1 vac2 vac3 c3) (hvb1 : IsRat w m vba0 vba1 vba2 vba3 f1) (hvb2 : IsRat w m vbb0 vbb1 vbb2 vbb3 f2) (hvb3 : IsRat w m vbc0 vbc1 vbc2 vbc3 f3) (_hk : k + m ≤ 20000) :
    Calls Tryd.prog 34 #[(.agg #[uaa0, uaa1, uaa2, uaa3, uab0, uab1, uab2, uab3, uac0, uac1, uac2, uac3, uba0, uba1, uba2, uba3, ubb0, ubb1, ubb2, ubb3, ubc0, ubc1, ubc2, ubc3]), (.agg #[vaa0, vaa1, vaa2, vaa3, vab0, vab1, vab2, vab3, vac0, vac1, vac2, vac3, vba0, vba1, vba2, vba3, vbb0, vbb1, vbb2, vbb3, vbc0, vbc1, vbc2, vbc3])] w fun e w' => (∃ t0 t1 t2 t3 t4 t5 t6 t7 t8 t9 t10 t11 t12 t13 t14 t15 t16 t17 t18 t19 t20 t21 t22 t23, e = .returned (.agg #[t0, t1, t2, t3, t4, t5, t6, t7, t8, t9, t10, t11, t12, t13, t14, t15, t16, t17, t18, t19, t20, t21, t22, t23]) ∧ IsRat w' (k + m + 1) t0 t1 t2 t3 (a1 + c1) ∧ IsRat w' (k + m + 1) t4 t5 t6 t7 (a2 + c2) ∧ IsRat w' (k + m + 1) t8 t9 t10 t11 (a3 + c3) ∧ IsRat w' (k + m + 1) t12 t13 t14 t15 (d1 + f1) ∧ IsRat w' (k + m + 1) t16 t17 t18 t19 (d2 + f2) ∧ IsRat w' (k + m + 1) t20 t21 t22 t23 (d3 + f3)) ∧ Gr w w' := by
 go_enter Tryd.func34, Tryd.ntmps34
 have hB := Gr.refl w
 refine wp_seq_k (fun K1 k1 => ?_)
 refine rg [0, 1, 2] ?_
 refine se ?_
 refine eb 35 #[uaa0, uaa1, uaa2, uaa3, uab0, uab1, uab2, uab3, uac0, uac1, uac2, uac3, uba0, uba1, uba2, uba3, ubb0, ubb1, ubb2, ubb3, ubc0, ubc1, ubc2, ubc3] 2 hB fun b2 w2 g2 L2 o2 q2 hB => ?_
 simp only [p3, p4]
 refine se ?_
 refine eb 35 #[vaa0, vaa1, vaa2, vaa3, vab0, vab1, vab2, vab3, vac0, vac1, vac2, vac3, vba0, vba1, vba2, vba3, vbb0, vbb1, vbb2, vbb3, vbc0, vbc1, vbc2, vbc3] 3 hB fun b3 w3 g3 L3 o3 q3 hB => ?_
 simp only [p3, p4]
 refine se ?_
 refine ea 35 #[(.bool false), (.slice none 0 0), (.bool false), (.slice none 0 0), (.bool false), (.slice none 0 0), (.bool false), (.slice none 0 0), (.bool false), (.slice none 0 0), (.bool false), (.slice none 0 0), (.bool false), (.slice none 0 0), (.bool false), (.slice none 0 0), (.bool false), (.slice none 0 0), (.bool false), (.slice none 0 0), (.bool false), (.slice none 0 0), (.bool false), (.slice none 0 0)] 4 hB fun b4 w4 g4 L4 o4 q4 hB => ?_
 replace L2 := L2.gr g3
 have ne2_4 := L2.ne o4
 have ne3_4 := L3.ne o4
 simp only [p3, p4]
 refine sq_nil ?_
 refine k1 _ _ ?_
 try clear k1 K1
 refine wp_seq_k (fun K5 k5 => ?_)
 have gd15 := Gr.drew w4
 replace hB := hB.trans gd15
 replace L2 := L2.gr (g4.trans gd15)
 replace L3 := L3.gr (g4.trans gd15)
 refine wp_region_ord (fun w' => Lc w' b2 #[uaa0, uaa1, uaa2, uaa3, uab0, uab1, uab2, uab3, uac0, uac1, uac2, uac3, uba0, uba1, uba2, uba3, ubb0, ubb1, ubb2, ubb3, ubc0, ubc1, ubc2, ubc3] 35 ∧ Lc w' b3 #[vaa0, vaa1, vaa2, vaa3, vab0, vab1, vab2, vab3, vac0, vac1, vac2, vac3, vba0, vba1, vba2, vba3, vbb0, vbb1, vbb2, vbb3, vbc0, vbc1, vbc2, vbc3] 35) [(true, 0), (true, 1), (true, 2), (true, 3), (true, 5), (true, 6), (true, 7), (true, 8), (false, 4), (false, 9), (true, 10), (false, 11)] (by kernel_rfl) (by kernel_rfl) (by kernel_rfl) (by decide) (fun _ _ _ _ _ h => h) ⟨L2, L3⟩ ?_
 refine ov 5 (.pointer (some ⟨b2, 0, none⟩)) ?_
 simp only [p3, p4]
 refine ow 6 (.agg #[uaa0, uaa1, uaa2, uaa3, uab0, uab1, uab2, uab3, uac0, uac1, uac2, uac3]) rfl (fun w' hS => (rl 33 0 [uaa0, uaa1, uaa2, uaa3, uab0, uab1, uab2, uab3, uac0, uac1, uac2, uac3] hS.1)) ?_
 simp only [p3, p4]
 refine ov 7 (.pointer (some ⟨b3, 0, none⟩)) ?_
 simp only [p3, p4]
 refine ow 8 (.agg #[vaa0, vaa1, vaa2, vaa3, vab0, vab1, vab2, vab3, vac0, vac1, vac2, vac3]) rfl (fun w' hS => (rl 33 0 [vaa0, vaa1, vaa2, vaa3, vab0, vab1, vab2, vab3, vac0, vac1, vac2, vac3] hS.2)) ?_
 simp only [p3, p4]
 refine ov 10 (.pointer (some ⟨b2, 12, none⟩)) ?_
 simp only [p3, p4]
 refine ow 11 (.agg #[uba0, uba1, uba2, uba3, ubb0, ubb1, ubb2, ubb3, ubc0, ubc1, ubc2, ubc3]) rfl (fun w' hS => (rl 33 12 [uba0, uba1, uba2, uba3, ubb0, ubb1, ubb2, ubb3, ubc0, ubc1, ubc2, ubc3] hS.1)) ?_
 simp only [p3, p4]
 refine ov 12 (.pointer (some ⟨b3, 12, none⟩)) ?_
 simp only [p3, p4]
 refine ow 13 (.agg #[vba0, vba1, vba2, vba3, vbb0, vbb1, vbb2, vbb3, vbc0, vbc1, vbc2, vbc3]) rfl (fun w' hS => (rl 33 12 [vba0, vba1, vba2, vba3, vbb0, vbb1, vbb2, vbb3, vbc0, vbc1, vbc2, vbc3] hS.2)) ?_
 simp only [p3, p4]
 refine oe ?_
 have kq18 := g2.kp.trans (g3.kp.trans (g4.kp.trans gd15.kp))
 replace hua1 := hua1.kp kq18
 replace hua2 := hua2.kp kq18
 replace hua3 := hua3.kp kq18
 replace hva1 := hva1.kp kq18
 replace hva2 := hva2.kp kq18
 replace hva3 := hva3.kp kq18
 refine ec 9 (vadd_v hua1 hua2 hua3 hva1 hva2 hva3 (by omega)) ?_
 rintro e17 w17 ⟨⟨t17_0, t17_1, t17_2, t17_3, t17_4, t17_5, t17_6, t17_7, t17_8, t17_9, t17_10, t17_11, rfl, h17a, h17b, h17c⟩, g17⟩
 refine ⟨_, rfl, ?_⟩
 replace hB := hB.trans g17
 replace L2 := L2.gr g17
 replace L3 := L3.gr g17
 refine ⟨⟨L2, L3⟩, ?_⟩
 simp only [p3, p4]
 refine oe ?_
 have kq21 := g2.kp.trans (g3.kp.trans (g4.kp.trans (gd15.kp.trans g17.kp)))
 replace hub1 := hub1.kp kq21
 replace hub2 := hub2.kp kq21
 replace hub3 := hub3.kp kq21
 replace hvb1 := hvb1.kp kq21
 replace hvb2 := hvb2.kp kq21
 replace hvb3 := hvb3.kp kq21
 refine ec 14 (vadd_v hub1 hub2 hub3 hvb1 hvb2 hvb3 (by omega)) ?_
 rintro e20 w20 ⟨⟨t20_0, t20_1, t20_2, t20_3, t20_4, t20_5, t20_6, t20_7, t20_8, t20_9, t20_10, t20_11, rfl, h20a, h20b, h20c⟩, g20⟩
 refine ⟨_, rfl, ?_⟩
 replace hB := hB.trans g20
 replace L2 := L2.gr g20
 replace L3 := L3.gr g20
 refine ⟨⟨L2, L3⟩, ?_⟩
 simp only [p3, p4]
 refine ov 15 (.agg #[t17_0, t17_1, t17_2, t17_3, t17_4, t17_5, t17_6, t17_7, t17_8, t17_9, t17_10, t17_11, t20_0, t20_1, t20_2, t20_3, t20_4, t20_5, t20_6, t20_7, t20_8, t20_9, t20_10, t20_11]) ?_
 simp only [p3, p4]
 refine oe ?_
 replace L4 := L4.gr (gd15.trans (g17.trans g20))
 refine es 35 0 (.agg #[t17_0, t17_1, t17_2, t17_3, t17_4, t17_5, t17_6, t17_7, t17_8, t17_9, t17_10, t17_11, t20_0, t20_1, t20_2, t20_3, t20_4, t20_5, t20_6, t20_7, t20_8, t20_9, t20_10, t20_11]) [t17_0, t17_1, t17_2, t17_3, t17_4, t17_5, t17_6, t17_7, t17_8, t17_9, t17_10, t17_11, t20_0, t20_1, t20_2, t20_3, t20_4, t20_5, t20_6, t20_7, t20_8, t20_9, t20_10, t20_11] #[t17_0, t17_1, t17_2, t17_3, t17_4, t17_5, t17_6, t17_7, t17_8, t17_9, t17_10, t17_11, t20_0, t20_1, t20_2, t20_3, t20_4, t20_5, t20_6, t20_7, t20_8, t20_9, t20_10, t20_11] L4 hB q4 ⟨h17a.one0, h17a.one1, h17a.one2, h17a.one3, h17b.one0, h17b.one1, h17b.one2, h17b.one3, h17c.one0, h17c.one1, h17c.one2, h17c.one3, h20a.one0, h20a.one1, h20a.one2, h20a.one3, h20b.one0, h20b.one1, h20b.one2, h20b.one3, h20c.one0, h20c.one1, h20c.one2, h20c.one3, trivial⟩ fun w23 st23 kp23 L4 hB => ?_
 replace L2 := st23.lc L2 ne2_4
 replace L3 := st23.lc L3 ne3_4
 refine ⟨⟨L2, L3⟩, ?_⟩
 refine ord_nil ?_
 refine k5 _ _ ?_
 try clear k5 K5
 refine wp_ret ?_
 refine bodyPost_ret (v := (.agg #[t17_0, t17_1, t17_2, t17_3, t17_4, t17_5, t17_6, t17_7, t17_8, t17_9, t17_10, t17_11, t20_0, t20_1, t20_2, t20_3, t20_4, t20_5, t20_6, t20_7, t20_8, t20_9, t20_10, t20_11])) (ret_cell _ _ _ rfl rfl L4 (by kernel_rfl)) rfl ⟨?_, hB⟩
 have kq24 := g20.kp.trans kp23
 replace h17a := h17a.kp kq24
 replace h17b := h17b.kp kq24
 replace h17c := h17c.kp kq24
 replace h20a := h20a.kp kp23
 replace h20b := h20b.kp kp23
 replace h20c := h20c.kp kp23
 exact ⟨_, _, _, _, _, _, _, _, _, _, _, _, _, _, _, _, _, _, _, _, _, _, _, _, rfl, h17a, h17b, h17c, h20a, h20b, h20c⟩

set_option maxRecDepth 100000 in
set_option maxHeartbeats 1000000 in
theorem tscale_v {k m : Nat} {s0 s1 s2 s3 : Value} {sq : Rat} {uaa0 uaa1 uaa2 uaa3 uab0 uab1 uab2 uab3 uac0 uac1 uac2 uac3 : Value} {a1 a2 a3 : Rat} {uba0 uba1 uba2 uba3 ubb0 ubb1 ubb2 ubb3 ubc0 ubc1 ubc2 ubc3 : Value} {d1 d2 d3 : Rat} {w : World} (hua1 : IsRat w k uaa0 uaa1 uaa2 uaa3 a1) (hua2 : IsRat w k uab0 uab1 uab2 uab3 a2) (hua3 : IsRat w k uac0 uac1 uac2 uac3 a3) (hub1 : IsRat w k uba0 uba1 uba2 uba3 d1) (hub2 : IsRat w k ubb0 ubb1 ubb2 ubb3 d2) (hub3 : IsRat w k ubc0 ubc1 ubc2 ubc3 d3) (hs : IsRat w m s0 s1 s2 s3 sq) (_hk : k + m ≤ 100000) :
    Calls Tryd.prog 35 #[(.agg #[uaa0, uaa1, uaa2, uaa3, uab0, uab1, uab2, uab3, uac0, uac1, uac2, uac3, uba0, uba1, uba2, uba3, ubb0, ubb1, ubb2, ubb3, ubc0, ubc1, ubc2, ubc3]), (.agg #[s0, s1, s2, s3])] w fun e w' => (∃ t0 t1 t2 t3 t4 t5 t6 t7 t8 t9 t10 t11 t12 t13 t14 t15 t16 t17 t18 t19 t20 t21 t22 t23, e = .returned (.agg #[t0, t1, t2, t3, t4, t5, t6, t7, t8, t9, t10, t11, t12, t13, t14, t15, t16, t17, t18, t19, t20, t21, t22, t23]) ∧ IsRat w' (m + k) t0 t1 t2 t3 (sq * a1) ∧ IsRat w' (m + k) t4 t5 t6 t7 (sq * a2) ∧ IsRat w' (m + k) t8 t9 t10 t11 (sq * a3) ∧ IsRat w' (m + k) t12 t13 t14 t15 (sq * d1) ∧ IsRat w' (m + k) t16 t17 t18 t19 (sq * d2) ∧ IsRat w' (m + k) t20 t21 t22 t23 (sq * d3)) ∧ Gr w w' := by
 go_enter Tryd.func35, Tryd.ntmps35
 have hB := Gr.refl w
 refine wp_seq_k (fun K1 k1 => ?_)
 refine rg [0, 1, 2] ?_
 refine se ?_
 refine eb 35 #[uaa0, uaa1, uaa2, uaa3, uab0, uab1, uab2, uab3, uac0, uac1, uac2, uac3, uba0, uba1, uba2, uba3, ubb0, ubb1, ubb2, ubb3, ubc0, ubc1, ubc2, ubc3] 2 hB fun b2 w2 g2 L2 o2 q2 hB => ?_
 simp only [p3, p4]
 refine se ?_
 refine eb 31 #[s0, s1, s2, s3] 3 hB fun b3 w3 g3 L3 o3 q3 hB => ?_
 simp only [p3, p4]
 refine se ?_
 refine ea 35 #[(.bool false), (.slice none 0 0), (.bool false), (.slice none 0 0), (.bool false), (.slice none 0 0), (.bool false), (.slice none 0 0), (.bool false), (.slice none 0 0), (.bool false), (.slice none 0 0), (.bool false), (.slice none 0 0), (.bool false), (.slice none 0 0), (.bool false), (.slice none 0 0), (.bool false), (.slice none 0 0), (.bool false), (.slice none 0 0), (.bool false), (.slice none 0 0)] 4 hB fun b4 w4 g4 L4 o4 q4 hB => ?_
 replace L2 := L2.gr g3
 have ne2_4 := L2.ne o4
 have ne3_4 := L3.ne o4
 simp only [p3, p4]
 refine sq_nil ?_
 refine k1 _ _ ?_
 try clear k1 K1
 refine wp_seq_k (fun K5 k5 => ?_)
 have gd15 := Gr.drew w4
 replace hB := hB.trans gd15
 replace L2 := L2.gr (g4.trans gd15)
 replace L3 := L3.gr (g4.trans gd15)
 refine wp_region_ord (fun w' => Lc w' b2 #[uaa0, uaa1, uaa2, uaa3, uab0, uab1, uab2, uab3, uac0, uac1, uac2, uac3, uba0, uba1, uba2, uba3, ubb0, ubb1, ubb2, ubb3, ubc0, ubc1, ubc2, ubc3] 35 ∧ Lc w' b3 #[s0, s1, s2, s3] 31) [(true, 0), (true, 1), (true, 2), (true, 4), (true, 5), (true, 6), (false, 3), (false, 7), (true, 8), (false, 9)] (by kernel_rfl) (by kernel_rfl) (by kernel_rfl) (by decide) (fun _ _ _ _ _ h => h) ⟨L2, L3⟩ ?_
 refine ov 5 (.pointer (some ⟨b2, 0, none⟩)) ?_
 simp only [p3, p4]
 refine ow 6 (.agg #[uaa0, uaa1, uaa2, uaa3, uab0, uab1, uab2, uab3, uac0, uac1, uac2, uac3]) rfl (fun w' hS => (rl 33 0 [uaa0, uaa1, uaa2, uaa3, uab0, uab1, uab2, uab3, uac0, uac1, uac2, uac3] hS.1)) ?_
 simp only [p3, p4]
 refine ow 7 (.agg #[s0, s1, s2, s3]) rfl (fun w' hS => (rl 31 0 [s0, s1, s2, s3] hS.2)) ?_
 simp only [p3, p4]
 refine ov 9 (.pointer (some ⟨b2, 12, none⟩)) ?_
 simp only [p3, p4]
 refine ow 10 (.agg #[uba0, uba1, uba2, uba3, ubb0, ubb1, ubb2, ubb3, ubc0, ubc1, ubc2, ubc3]) rfl (fun w' hS => (rl 33 12 [uba0, uba1, uba2, uba3, ubb0, ubb1, ubb2, ubb3, ubc0, ubc1, ubc2, ubc3] hS.1)) ?_
 simp only [p3, p4]
 refine ow 11 (.agg #[s0, s1, s2, s3]) rfl (fun w' hS => (rl 31 0 [s0, s1, s2, s3] hS.2)) ?_
 simp only [p3, p4]
 refine oe ?_
 have kq18 := g2.kp.trans (g3.kp.trans (g4.kp.trans gd15.kp))
 replace hua1 := hua1.kp kq18
 replace hua2 := hua2.kp kq18
 replace hua3 := hua3.kp kq18
 replace hs := hs.kp kq18
 refine ec 8 (vscale_v hua1 hua2 hua3 hs (by omega)) ?_
 rintro e17 w17 ⟨⟨t17_0, t17_1, t17_2, t17_3, t17_4, t17_5, t17_6, t17_7, t17_8, t17_9, t17_10, t17_11, rfl, h17a, h17b, h17c⟩, g17⟩
 refine ⟨_, rfl, ?_⟩
 replace hB := hB.trans g17
 replace L2 := L2.gr g17
 replace L3 := L3.gr g17
 refine ⟨⟨L2, L3⟩, ?_⟩
 simp only [p3, p4]
 refine oe ?_
 have kq21 := g2.kp.trans (g3.kp.trans (g4.kp.trans (gd15.kp.trans g17.kp)))
 replace hub1 := hub1.kp kq21
 replace hub2 := hub2.kp kq21
 replace hub3 := hub3.kp kq21
 replace hs := hs.kp g17.kp
 refine ec 12 (vscale_v hub1 hub2 hub3 hs (by omega)) ?_
 rintro e20 w20 ⟨⟨t20_0, t20_1, t20_2, t20_3, t20_4, t20_5, t20_6, t20_7, t20_8, t20_9, t20_10, t20_11, rfl, h20a, h20b, h20c⟩, g20⟩
 refine ⟨_, rfl, ?_⟩
 replace hB := hB.trans g20
 replace L2 := L2.gr g20
 replace L3 := L3.gr g20
 refine ⟨⟨L2, L3⟩, ?_⟩
 simp only [p3, p4]
 refine ov 13 (.agg #[t17_0, t17_1, t17_2, t17_3, t17_4, t17_5, t17_6, t17_7, t17_8, t17_9, t17_10, t17_11, t20_0, t20_1, t20_2, t20_3, t20_4, t20_5, t20_6, t20_7, t20_8, t20_9, t20_10, t20_11]) ?_
 simp only [p3, p4]
 refine oe ?_
 replace L4 := L4.gr (gd15.trans (g17.trans g20))
 refine es 35 0 (.agg #[t17_0, t17_1, t17_2, t17_3, t17_4, t17_5, t17_6, t17_7, t17_8, t17_9, t17_10, t17_11, t20_0, t20_1, t20_2, t20_3, t20_4, t20_5, t20_6, t20_7, t20_8, t20_9, t20_10, t20_11]) [t17_0, t17_1, t17_2, t17_3, t17_4, t17_5, t17_6, t17_7, t17_8, t17_9, t17_10, t17_11, t20_0, t20_1, t20_2, t20_3, t20_4, t20_5, t20_6, t20_7, t20_8, t20_9, t20_10, t20_11] #[t17_0, t17_1, t17_2, t17_3, t17_4, t17_5, t17_6, t17_7, t17_8, t17_9, t17_10, t17_11, t20_0, t20_1, t20_2, t20_3, t20_4, t20_5, t20_6, t20_7, t20_8, t20_9, t20_10, t20_11] L4 hB q4 ⟨h17a.one0, h17a.one1, h17a.one2, h17a.one3, h17b.one0, h17b.one1, h17b.one2, h17b.one3, h17c.one0, h17c.one1, h17c.one2, h17c.one3, h20a.one0, h20a.one1, h20a.one2, h20a.one3, h20b.one0, h20b.one1, h20b.one2, h20b.one3, h20c.one0, h20c.one1, h20c.one2, h20c.one3, trivial⟩ fun w23 st23 kp23 L4 hB => ?_
 replace L2 := st23.lc L2 ne2_4
 replace L3 := st23.lc L3 ne3_4
 refine ⟨⟨L2, L3⟩, ?_⟩
 refine ord_nil ?_
 refine k5 _ _ ?_
 try clear k5 K5
 refine wp_ret ?_
 refine bodyPost_ret (v := (.agg #[t17_0, t17_1, t17_2, t17_3, t17_4, t17_5, t17_6, t17_7, t17_8, t17_9, t17_10, t17_11, t20_0, t20_1, t20_2, t20_3, t20_4, t20_5, t20_6, t20_7, t20_8, t20_9, t20_10, t20_11])) (ret_cell _ _ _ rfl rfl L4 (by kernel_rfl)) rfl ⟨?_, hB⟩
 have kq24 := g20.kp.trans kp23
 replace h17a := h17a.kp kq24
 replace h17b := h17b.kp kq24
 replace h17c := h17c.kp kq24
 replace h20a := h20a.kp kp23
 replace h20b := h20b.kp kp23
 replace h20c := h20c.kp kp23
 exact ⟨_, _, _, _, _, _, _, _, _, _, _, _, _, _, _, _, _, _, _, _, _, _, _, _, rfl, h17a, h17b, h17c, h20a, h20b, h20c⟩

end Go.Proofs.YtgopfikljndklaaDoor
