/- Printed by a program of the prover's: AxisOf. -/
import Derived.Test.YtgopfikljndklaaDoorAxis
namespace Go.Proofs.YtgopfikljndklaaDoor
open Go.RowKit

set_option maxRecDepth 100000 in
set_option maxHeartbeats 8000000 in
theorem axis_n {k : Nat} {uaa0 uaa1 uaa2 uaa3 uab0 uab1 uab2 uab3 uac0 uac1 uac2 uac3 : Value} {a1 a2 a3 : Rat} {uba0 uba1 uba2 uba3 ubb0 ubb1 ubb2 ubb3 ubc0 ubc1 ubc2 ubc3 : Value} {d1 d2 d3 : Rat} {w : World} (hua1 : IsRat w k uaa0 uaa1 uaa2 uaa3 a1) (hua2 : IsRat w k uab0 uab1 uab2 uab3 a2) (hua3 : IsRat w k uac0 uac1 uac2 uac3 a3) (hub1 : IsRat w k uba0 uba1 uba2 uba3 d1) (hub2 : IsRat w k ubb0 ubb1 ubb2 ubb3 d2) (hub3 : IsRat w k ubc0 ubc1 ubc2 ubc3 d3) (_hk : k ≤ 2000) (ha : a1 = 0 ∧ a2 = 0 ∧ a3 = 0) (hd : d1 = 0 ∧ d2 = 0 ∧ d3 = 0) :
    Calls Tryd.prog 11 #[(.agg #[uaa0, uaa1, uaa2, uaa3, uab0, uab1, uab2, uab3, uac0, uac1, uac2, uac3, uba0, uba1, uba2, uba3, ubb0, ubb1, ubb2, ubb3, ubc0, ubc1, ubc2, ubc3])] w fun e w' => (∃ t0 t1 t2 t3 t4 t5 t6 t7 t8 t9 t10 t11 t12 t13 t14 t15 t16 t17 t18 t19 t20 t21 t22 t23 t24 t25 t26 t27, e = .returned (.agg #[.int .i64 0, t0, t1, t2, t3, t4, t5, t6, t7, t8, t9, t10, t11, t12, t13, t14, t15, t16, t17, t18, t19, t20, t21, t22, t23, t24, t25, t26, t27]) ∧ IsRat w' (20 * k + 1000) t0 t1 t2 t3 (0) ∧ IsRat w' (20 * k + 1000) t4 t5 t6 t7 (0) ∧ IsRat w' (20 * k + 1000) t8 t9 t10 t11 (0) ∧ IsRat w' (20 * k + 1000) t12 t13 t14 t15 (0) ∧ IsRat w' (20 * k + 1000) t16 t17 t18 t19 (0) ∧ IsRat w' (20 * k + 1000) t20 t21 t22 t23 (0) ∧ IsRat w' (20 * k + 1000) t24 t25 t26 t27 (0)) ∧ Gr w w' := by
 have e1 := vzero_iff.2 ha
 have e2 := vzero_iff.2 hd
 have hbig := hua1.big
 go_enter Tryd.func11, Tryd.ntmps11
 have hB := Gr.refl w
 refine wp_seq_k (fun K1 k1 => ?_)
 refine rg [0, 1] ?_
 refine se ?_
 refine eb 35 #[uaa0, uaa1, uaa2, uaa3, uab0, uab1, uab2, uab3, uac0, uac1, uac2, uac3, uba0, uba1, uba2, uba3, ubb0, ubb1, ubb2, ubb3, ubc0, ubc1, ubc2, ubc3] 1 hB fun b2 w2 g2 L2 o2 q2 hB => ?_
 simp only [p3, p4]
 refine se ?_
 refine ea 38 #[(.int .i64 0), (.bool false), (.slice none 0 0), (.bool false), (.slice none 0 0), (.bool false), (.slice none 0 0), (.bool false), (.slice none 0 0), (.bool false), (.slice none 0 0), (.bool false), (.slice none 0 0), (.bool false), (.slice none 0 0), (.bool false), (.slice none 0 0), (.bool false), (.slice none 0 0), (.bool false), (.slice none 0 0), (.bool false), (.slice none 0 0), (.bool false), (.slice none 0 0), (.bool false), (.slice none 0 0), (.bool false), (.slice none 0 0)] 2 hB fun b3 w3 g3 L3 o3 q3 hB => ?_
 simp only [p3, p4]
 refine sq_nil ?_
 refine k1 _ _ ?_
 try clear k1 K1
 refine wp_seq_k (fun K4 k4 => ?_)
 refine wp_seq_k (fun K5 k5 => ?_)
 refine rg [0, 1] ?_
 replace L2 := L2.gr g3
 refine sw 10 (.agg #[uaa0, uaa1, uaa2, uaa3, uab0, uab1, uab2, uab3, uac0, uac1, uac2, uac3, uba0, uba1, uba2, uba3, ubb0, ubb1, ubb2, ubb3, ubc0, ubc1, ubc2, ubc3]) rfl (rl 35 0 [uaa0, uaa1, uaa2, uaa3, uab0, uab1, uab2, uab3, uac0, uac1, uac2, uac3, uba0, uba1, uba2, uba3, ubb0, ubb1, ubb2, ubb3, ubc0, ubc1, ubc2, ubc3] L2) ?_
 simp only [p3, p4]
 refine se ?_
 have kq7 := g2.kp.trans g3.kp
 replace hua1 := hua1.kp kq7
 replace hua2 := hua2.kp kq7
 replace hua3 := hua3.kp kq7
 replace hub1 := hub1.kp kq7
 replace hub2 := hub2.kp kq7
 replace hub3 := hub3.kp kq7
 refine ec 11 (tzero_t hua1 hua2 hua3 hub1 hub2 hub3 (by omega) e1) ?_
 rintro e6 w6 ⟨rfl, g6⟩
 refine ⟨_, rfl, ?_⟩
 replace hB := hB.trans g6
 simp only [p3, p4]
 refine sq_nil ?_
 refine k5 _ _ ?_
 try clear k5 K5
 refine wp_cond_true (show _ = Value.bool true by rw [← e2]; rfl) ?_
 refine wp_seq_k (fun K8 k8 => ?_)
 refine rg [0, 1] ?_
 refine sv 12 (.agg #[(.int .i64 0), (.bool false), (.slice none 0 0), (.bool false), (.slice none 0 0), (.bool false), (.slice none 0 0), (.bool false), (.slice none 0 0), (.bool false), (.slice none 0 0), (.bool false), (.slice none 0 0), (.bool false), (.slice none 0 0), (.bool false), (.slice none 0 0), (.bool false), (.slice none 0 0), (.bool false), (.slice none 0 0), (.bool false), (.slice none 0 0), (.bool false), (.slice none 0 0), (.bool false), (.slice none 0 0), (.bool false), (.slice none 0 0)]) ?_
 simp only [p3, p4]
 refine se ?_
 replace L3 := L3.gr g6
 refine es 38 0 (.agg #[(.int .i64 0), (.bool false), (.slice none 0 0), (.bool false), (.slice none 0 0), (.bool false), (.slice none 0 0), (.bool false), (.slice none 0 0), (.bool false), (.slice none 0 0), (.bool false), (.slice none 0 0), (.bool false), (.slice none 0 0), (.bool false), (.slice none 0 0), (.bool false), (.slice none 0 0), (.bool false), (.slice none 0 0), (.bool false), (.slice none 0 0), (.bool false), (.slice none 0 0), (.bool false), (.slice none 0 0), (.bool false), (.slice none 0 0)]) [(.int .i64 0), (.bool false), (.slice none 0 0), (.bool false), (.slice none 0 0), (.bool false), (.slice none 0 0), (.bool false), (.slice none 0 0), (.bool false), (.slice none 0 0), (.bool false), (.slice none 0 0), (.bool false), (.slice none 0 0), (.bool false), (.slice none 0 0), (.bool false), (.slice none 0 0), (.bool false), (.slice none 0 0), (.bool false), (.slice none 0 0), (.bool false), (.slice none 0 0), (.bool false), (.slice none 0 0), (.bool false), (.slice none 0 0)] #[(.int .i64 0), (.bool false), (.slice none 0 0), (.bool false), (.slice none 0 0), (.bool false), (.slice none 0 0), (.bool false), (.slice none 0 0), (.bool false), (.slice none 0 0), (.bool false), (.slice none 0 0), (.bool false), (.slice none 0 0), (.bool false), (.slice none 0 0), (.bool false), (.slice none 0 0), (.bool false), (.slice none 0 0), (.bool false), (.slice none 0 0), (.bool false), (.slice none 0 0), (.bool false), (.slice none 0 0), (.bool false), (.slice none 0 0)] L3 hB q3 ⟨rfl, rfl, rfl, rfl, rfl, rfl, rfl, rfl, rfl, rfl, rfl, rfl, rfl, rfl, rfl, rfl, rfl, rfl, rfl, rfl, rfl, rfl, rfl, rfl, rfl, rfl, rfl, rfl, rfl, trivial⟩ fun w9 st9 kp9 L3 hB => ?_
 refine sq_nil ?_
 refine k8 _ _ ?_
 try clear k8 K8
 refine wp_ret ?_
 simp only [Exit.then]
 refine bodyPost_ret (v := (.agg #[(.int .i64 0), (.bool false), (.slice none 0 0), (.bool false), (.slice none 0 0), (.bool false), (.slice none 0 0), (.bool false), (.slice none 0 0), (.bool false), (.slice none 0 0), (.bool false), (.slice none 0 0), (.bool false), (.slice none 0 0), (.bool false), (.slice none 0 0), (.bool false), (.slice none 0 0), (.bool false), (.slice none 0 0), (.bool false), (.slice none 0 0), (.bool false), (.slice none 0 0), (.bool false), (.slice none 0 0), (.bool false), (.slice none 0 0)])) (ret_cell _ _ _ rfl rfl L3 (by kernel_rfl)) rfl ⟨?_, hB⟩
 exact ⟨_, _, _, _, _, _, _, _, _, _, _, _, _, _, _, _, _, _, _, _, _, _, _, _, _, _, _, _, rfl, IsRat.zero _ (by omega), IsRat.zero _ (by omega), IsRat.zero _ (by omega), IsRat.zero _ (by omega), IsRat.zero _ (by omega), IsRat.zero _ (by omega), IsRat.zero _ (by omega)⟩

set_option maxRecDepth 100000 in
set_option maxHeartbeats 8000000 in
theorem axis_t {k : Nat} {uaa0 uaa1 uaa2 uaa3 uab0 uab1 uab2 uab3 uac0 uac1 uac2 uac3 : Value} {a1 a2 a3 : Rat} {uba0 uba1 uba2 uba3 ubb0 ubb1 ubb2 ubb3 ubc0 ubc1 ubc2 ubc3 : Value} {d1 d2 d3 : Rat} {w : World} (hua1 : IsRat w k uaa0 uaa1 uaa2 uaa3 a1) (hua2 : IsRat w k uab0 uab1 uab2 uab3 a2) (hua3 : IsRat w k uac0 uac1 uac2 uac3 a3) (hub1 : IsRat w k uba0 uba1 uba2 uba3 d1) (hub2 : IsRat w k ubb0 ubb1 ubb2 ubb3 d2) (hub3 : IsRat w k ubc0 ubc1 ubc2 ubc3 d3) (_hk : k ≤ 2000) (ha : a1 = 0 ∧ a2 = 0 ∧ a3 = 0) (hd : ¬(d1 = 0 ∧ d2 = 0 ∧ d3 = 0)) :
    Calls Tryd.prog 11 #[(.agg #[uaa0, uaa1, uaa2, uaa3, uab0, uab1, uab2, uab3, uac0, uac1, uac2, uac3, uba0, uba1, uba2, uba3, ubb0, ubb1, ubb2, ubb3, ubc0, ubc1, ubc2, ubc3])] w fun e w' => (∃ t0 t1 t2 t3 t4 t5 t6 t7 t8 t9 t10 t11 t12 t13 t14 t15 t16 t17 t18 t19 t20 t21 t22 t23 t24 t25 t26 t27, e = .returned (.agg #[.int .i64 1, t0, t1, t2, t3, t4, t5, t6, t7, t8, t9, t10, t11, t12, t13, t14, t15, t16, t17, t18, t19, t20, t21, t22, t23, t24, t25, t26, t27]) ∧ IsRat w' (20 * k + 1000) t0 t1 t2 t3 (prim d1 d2 d3 d1) ∧ IsRat w' (20 * k + 1000) t4 t5 t6 t7 (prim d1 d2 d3 d2) ∧ IsRat w' (20 * k + 1000) t8 t9 t10 t11 (prim d1 d2 d3 d3) ∧ IsRat w' (20 * k + 1000) t12 t13 t14 t15 (0) ∧ IsRat w' (20 * k + 1000) t16 t17 t18 t19 (0) ∧ IsRat w' (20 * k + 1000) t20 t21 t22 t23 (0) ∧ IsRat w' (20 * k + 1000) t24 t25 t26 t27 (0)) ∧ Gr w w' := by
 have e1 := vzero_iff.2 ha
 have e2 := vzero_false.2 hd
 have hbig := hua1.big
 go_enter Tryd.func11, Tryd.ntmps11
 have hB := Gr.refl w
 refine wp_seq_k (fun K1 k1 => ?_)
 refine rg [0, 1] ?_
 refine se ?_
 refine eb 35 #[uaa0, uaa1, uaa2, uaa3, uab0, uab1, uab2, uab3, uac0, uac1, uac2, uac3, uba0, uba1, uba2, uba3, ubb0, ubb1, ubb2, ubb3, ubc0, ubc1, ubc2, ubc3] 1 hB fun b2 w2 g2 L2 o2 q2 hB => ?_
 simp only [p3, p4]
 refine se ?_
 refine ea 38 #[(.int .i64 0), (.bool false), (.slice none 0 0), (.bool false), (.slice none 0 0), (.bool false), (.slice none 0 0), (.bool false), (.slice none 0 0), (.bool false), (.slice none 0 0), (.bool false), (.slice none 0 0), (.bool false), (.slice none 0 0), (.bool false), (.slice none 0 0), (.bool false), (.slice none 0 0), (.bool false), (.slice none 0 0), (.bool false), (.slice none 0 0), (.bool false), (.slice none 0 0), (.bool false), (.slice none 0 0), (.bool false), (.slice none 0 0)] 2 hB fun b3 w3 g3 L3 o3 q3 hB => ?_
 simp only [p3, p4]
 refine sq_nil ?_
 refine k1 _ _ ?_
 try clear k1 K1
 refine wp_seq_k (fun K4 k4 => ?_)
 refine wp_seq_k (fun K5 k5 => ?_)
 refine rg [0, 1] ?_
 replace L2 := L2.gr g3
 refine sw 10 (.agg #[uaa0, uaa1, uaa2, uaa3, uab0, uab1, uab2, uab3, uac0, uac1, uac2, uac3, uba0, uba1, uba2, uba3, ubb0, ubb1, ubb2, ubb3, ubc0, ubc1, ubc2, ubc3]) rfl (rl 35 0 [uaa0, uaa1, uaa2, uaa3, uab0, uab1, uab2, uab3, uac0, uac1, uac2, uac3, uba0, uba1, uba2, uba3, ubb0, ubb1, ubb2, ubb3, ubc0, ubc1, ubc2, ubc3] L2) ?_
 simp only [p3, p4]
 refine se ?_
 have kq7 := g2.kp.trans g3.kp
 replace hua1 := hua1.kp kq7
 replace hua2 := hua2.kp kq7
 replace hua3 := hua3.kp kq7
 replace hub1 := hub1.kp kq7
 replace hub2 := hub2.kp kq7
 replace hub3 := hub3.kp kq7
 refine ec 11 (tzero_t hua1 hua2 hua3 hub1 hub2 hub3 (by omega) e1) ?_
 rintro e6 w6 ⟨rfl, g6⟩
 refine ⟨_, rfl, ?_⟩
 replace hB := hB.trans g6
 simp only [p3, p4]
 refine sq_nil ?_
 refine k5 _ _ ?_
 try clear k5 K5
 refine wp_cond_false (show _ = Value.bool false by rw [← e2]; rfl) ?_
 refine wp_skip ?_
 refine k4 _ _ ?_
 try clear k4 K4
 refine wp_seq_k (fun K8 k8 => ?_)
 refine wp_seq_k (fun K9 k9 => ?_)
 refine rg [0, 1, 2] ?_
 refine sv 13 (.pointer (some ⟨b2, 0, none⟩)) ?_
 simp only [p3, p4]
 replace L2 := L2.gr g6
 refine sw 14 (.agg #[uaa0, uaa1, uaa2, uaa3, uab0, uab1, uab2, uab3, uac0, uac1, uac2, uac3]) rfl (rl 33 0 [uaa0, uaa1, uaa2, uaa3, uab0, uab1, uab2, uab3, uac0, uac1, uac2, uac3] L2) ?_
 simp only [p3, p4]
 refine se ?_
 replace hua1 := hua1.kp g6.kp
 replace hua2 := hua2.kp g6.kp
 replace hua3 := hua3.kp g6.kp
 refine ec 15 (vzero_b hua1 hua2 hua3 (by omega) true e1) ?_
 rintro e10 w10 ⟨rfl, g10⟩
 refine ⟨_, rfl, ?_⟩
 replace hB := hB.trans g10
 simp only [p3, p4]
 refine sq_nil ?_
 refine k9 _ _ ?_
 try clear k9 K9
 refine wp_cond_true rfl ?_
 refine wp_seq_k (fun K11 k11 => ?_)
 refine rg [0, 1, 2, 3, 4, 5, 6, 7, 8] ?_
 refine sv 17 (.pointer (some ⟨b2, 12, none⟩)) ?_
 simp only [p3, p4]
 replace L2 := L2.gr g10
 refine sw 18 (.agg #[uba0, uba1, uba2, uba3, ubb0, ubb1, ubb2, ubb3, ubc0, ubc1, ubc2, ubc3]) rfl (rl 33 12 [uba0, uba1, uba2, uba3, ubb0, ubb1, ubb2, ubb3, ubc0, ubc1, ubc2, ubc3] L2) ?_
 simp only [p3, p4]
 refine se ?_
 have kq13 := g6.kp.trans g10.kp
 replace hub1 := hub1.kp kq13
 replace hub2 := hub2.kp kq13
 replace hub3 := hub3.kp kq13
 refine ec 19 (vprim_ok hub1 hub2 hub3 (by omega) hd) ?_
 rintro e12 w12 ⟨⟨t12_0, t12_1, t12_2, t12_3, t12_4, t12_5, t12_6, t12_7, t12_8, t12_9, t12_10, t12_11, rfl, h12a, h12b, h12c⟩, g12⟩
 refine ⟨_, rfl, ?_⟩
 replace hB := hB.trans g12
 simp only [p3, p4]
 refine sv 16 (.tuple #[(.agg #[t12_0, t12_1, t12_2, t12_3, t12_4, t12_5, t12_6, t12_7, t12_8, t12_9, t12_10, t12_11]), (.int .i64 0)]) ?_
 simp only [p3, p4]
 refine sv 20 (.agg #[t12_0, t12_1, t12_2, t12_3, t12_4, t12_5, t12_6, t12_7, t12_8, t12_9, t12_10, t12_11]) ?_
 simp only [p3, p4]
 refine sv 21 (.int .i64 0) ?_
 simp only [p3, p4]
 refine se ?_
 refine ea 33 #[(.bool false), (.slice none 0 0), (.bool false), (.slice none 0 0), (.bool false), (.slice none 0 0), (.bool false), (.slice none 0 0), (.bool false), (.slice none 0 0), (.bool false), (.slice none 0 0)] 3 hB fun b14 w14 g14 L14 o14 q14 hB => ?_
 replace L3 := L3.gr (g6.trans (g10.trans g12))
 have ne3_14 := L3.ne o14
 simp only [p3, p4]
 refine se ?_
 refine es 33 0 (.agg #[t12_0, t12_1, t12_2, t12_3, t12_4, t12_5, t12_6, t12_7, t12_8, t12_9, t12_10, t12_11]) [t12_0, t12_1, t12_2, t12_3, t12_4, t12_5, t12_6, t12_7, t12_8, t12_9, t12_10, t12_11] #[t12_0, t12_1, t12_2, t12_3, t12_4, t12_5, t12_6, t12_7, t12_8, t12_9, t12_10, t12_11] L14 hB q14 ⟨h12a.one0, h12a.one1, h12a.one2, h12a.one3, h12b.one0, h12b.one1, h12b.one2, h12b.one3, h12c.one0, h12c.one1, h12c.one2, h12c.one3, trivial⟩ fun w15 st15 kp15 L14 hB => ?_
 refine sv 4 (.int .i64 0) ?_
 simp only [p3, p4]
 refine sq_nil ?_
 refine k11 _ _ ?_
 try clear k11 K11
 refine wp_seq_k (fun K16 k16 => ?_)
 refine rg [0, 1, 2] ?_
 refine sw 22 (.agg #[t12_0, t12_1, t12_2, t12_3, t12_4, t12_5, t12_6, t12_7, t12_8, t12_9, t12_10, t12_11]) rfl (rl 33 0 [t12_0, t12_1, t12_2, t12_3, t12_4, t12_5, t12_6, t12_7, t12_8, t12_9, t12_10, t12_11] L14) ?_
 simp only [p3, p4]
 refine sv 23 (.agg #[(.int .i64 1), t12_0, t12_1, t12_2, t12_3, t12_4, t12_5, t12_6, t12_7, t12_8, t12_9, t12_10, t12_11, (.bool false), (.slice none 0 0), (.bool false), (.slice none 0 0), (.bool false), (.slice none 0 0), (.bool false), (.slice none 0 0), (.bool false), (.slice none 0 0), (.bool false), (.slice none 0 0), (.bool false), (.slice none 0 0), (.bool false), (.slice none 0 0)]) ?_
 simp only [p3, p4]
 refine se ?_
 replace L3 := st15.lc (L3.gr g14) ne3_14
 refine es 38 0 (.agg #[(.int .i64 1), t12_0, t12_1, t12_2, t12_3, t12_4, t12_5, t12_6, t12_7, t12_8, t12_9, t12_10, t12_11, (.bool false), (.slice none 0 0), (.bool false), (.slice none 0 0), (.bool false), (.slice none 0 0), (.bool false), (.slice none 0 0), (.bool false), (.slice none 0 0), (.bool false), (.slice none 0 0), (.bool false), (.slice none 0 0), (.bool false), (.slice none 0 0)]) [(.int .i64 1), t12_0, t12_1, t12_2, t12_3, t12_4, t12_5, t12_6, t12_7, t12_8, t12_9, t12_10, t12_11, (.bool false), (.slice none 0 0), (.bool false), (.slice none 0 0), (.bool false), (.slice none 0 0), (.bool false), (.slice none 0 0), (.bool false), (.slice none 0 0), (.bool false), (.slice none 0 0), (.bool false), (.slice none 0 0), (.bool false), (.slice none 0 0)] #[(.int .i64 1), t12_0, t12_1, t12_2, t12_3, t12_4, t12_5, t12_6, t12_7, t12_8, t12_9, t12_10, t12_11, (.bool false), (.slice none 0 0), (.bool false), (.slice none 0 0), (.bool false), (.slice none 0 0), (.bool false), (.slice none 0 0), (.bool false), (.slice none 0 0), (.bool false), (.slice none 0 0), (.bool false), (.slice none 0 0), (.bool false), (.slice none 0 0)] L3 hB q3 ⟨rfl, h12a.one0, h12a.one1, h12a.one2, h12a.one3, h12b.one0, h12b.one1, h12b.one2, h12b.one3, h12c.one0, h12c.one1, h12c.one2, h12c.one3, rfl, rfl, rfl, rfl, rfl, rfl, rfl, rfl, rfl, rfl, rfl, rfl, rfl, rfl, rfl, rfl, trivial⟩ fun w17 st17 kp17 L3 hB => ?_
 refine sq_nil ?_
 refine k16 _ _ ?_
 try clear k16 K16
 refine wp_ret ?_
 simp only [Exit.then]
 refine bodyPost_ret (v := (.agg #[(.int .i64 1), t12_0, t12_1, t12_2, t12_3, t12_4, t12_5, t12_6, t12_7, t12_8, t12_9, t12_10, t12_11, (.bool false), (.slice none 0 0), (.bool false), (.slice none 0 0), (.bool false), (.slice none 0 0), (.bool false), (.slice none 0 0), (.bool false), (.slice none 0 0), (.bool false), (.slice none 0 0), (.bool false), (.slice none 0 0), (.bool false), (.slice none 0 0)])) (ret_cell _ _ _ rfl rfl L3 (by kernel_rfl)) rfl ⟨?_, hB⟩
 have kq18 := g14.kp.trans (kp15.trans kp17)
 replace h12a := h12a.kp kq18
 replace h12b := h12b.kp kq18
 replace h12c := h12c.kp kq18
 exact ⟨_, _, _, _, _, _, _, _, _, _, _, _, _, _, _, _, _, _, _, _, _, _, _, _, _, _, _, _, rfl, h12a.mono (by omega), h12b.mono (by omega), h12c.mono (by omega), IsRat.zero _ (by omega), IsRat.zero _ (by omega), IsRat.zero _ (by omega), IsRat.zero _ (by omega)⟩

set_option maxRecDepth 100000 in
set_option maxHeartbeats 8000000 in
theorem axis_r {k : Nat} {uaa0 uaa1 uaa2 uaa3 uab0 uab1 uab2 uab3 uac0 uac1 uac2 uac3 : Value} {a1 a2 a3 : Rat} {uba0 uba1 uba2 uba3 ubb0 ubb1 ubb2 ubb3 ubc0 ubc1 ubc2 ubc3 : Value} {d1 d2 d3 : Rat} {w : World} (hua1 : IsRat w k uaa0 uaa1 uaa2 uaa3 a1) (hua2 : IsRat w k uab0 uab1 uab2 uab3 a2) (hua3 : IsRat w k uac0 uac1 uac2 uac3 a3) (hub1 : IsRat w k uba0 uba1 uba2 uba3 d1) (hub2 : IsRat w k ubb0 ubb1 ubb2 ubb3 d2) (hub3 : IsRat w k ubc0 ubc1 ubc2 ubc3 d3) (_hk : k ≤ 2000) (ha : ¬(a1 = 0 ∧ a2 = 0 ∧ a3 = 0)) (hp : ((0 + a1 * d1 + a2 * d2 + a3 * d3) * (((1 : Int) : Rat) / (0 + a1 * a1 + a2 * a2 + a3 * a3))) = 0) :
    Calls Tryd.prog 11 #[(.agg #[uaa0, uaa1, uaa2, uaa3, uab0, uab1, uab2, uab3, uac0, uac1, uac2, uac3, uba0, uba1, uba2, uba3, ubb0, ubb1, ubb2, ubb3, ubc0, ubc1, ubc2, ubc3])] w fun e w' => (∃ t0 t1 t2 t3 t4 t5 t6 t7 t8 t9 t10 t11 t12 t13 t14 t15 t16 t17 t18 t19 t20 t21 t22 t23 t24 t25 t26 t27, e = .returned (.agg #[.int .i64 2, t0, t1, t2, t3, t4, t5, t6, t7, t8, t9, t10, t11, t12, t13, t14, t15, t16, t17, t18, t19, t20, t21, t22, t23, t24, t25, t26, t27]) ∧ IsRat w' (20 * k + 1000) t0 t1 t2 t3 (prim a1 a2 a3 a1) ∧ IsRat w' (20 * k + 1000) t4 t5 t6 t7 (prim a1 a2 a3 a2) ∧ IsRat w' (20 * k + 1000) t8 t9 t10 t11 (prim a1 a2 a3 a3) ∧ IsRat w' (20 * k + 1000) t12 t13 t14 t15 ((((1 : Int) : Rat) / (0 + a1 * a1 + a2 * a2 + a3 * a3)) * (a2 * d3 - a3 * d2)) ∧ IsRat w' (20 * k + 1000) t16 t17 t18 t19 ((((1 : Int) : Rat) / (0 + a1 * a1 + a2 * a2 + a3 * a3)) * (a3 * d1 - a1 * d3)) ∧ IsRat w' (20 * k + 1000) t20 t21 t22 t23 ((((1 : Int) : Rat) / (0 + a1 * a1 + a2 * a2 + a3 * a3)) * (a1 * d2 - a2 * d1)) ∧ IsRat w' (20 * k + 1000) t24 t25 t26 t27 (((0 + a1 * d1 + a2 * d2 + a3 * d3) * (((1 : Int) : Rat) / (0 + a1 * a1 + a2 * a2 + a3 * a3))))) ∧ Gr w w' := by
 have e1 := vzero_false.2 ha
 have e3 := sgnz_f hp
 have hbig := hua1.big
 have hdv := num_pos (dot_pos ha)
 go_enter Tryd.func11, Tryd.ntmps11
 have hB := Gr.refl w
 refine wp_seq_k (fun K1 k1 => ?_)
 refine rg [0, 1] ?_
 refine se ?_
 refine eb 35 #[uaa0, uaa1, uaa2, uaa3, uab0, uab1, uab2, uab3, uac0, uac1, uac2, uac3, uba0, uba1, uba2, uba3, ubb0, ubb1, ubb2, ubb3, ubc0, ubc1, ubc2, ubc3] 1 hB fun b2 w2 g2 L2 o2 q2 hB => ?_
 simp only [p3, p4]
 refine se ?_
 refine ea 38 #[(.int .i64 0), (.bool false), (.slice none 0 0), (.bool false), (.slice none 0 0), (.bool false), (.slice none 0 0), (.bool false), (.slice none 0 0), (.bool false), (.slice none 0 0), (.bool false), (.slice none 0 0), (.bool false), (.slice none 0 0), (.bool false), (.slice none 0 0), (.bool false), (.slice none 0 0), (.bool false), (.slice none 0 0), (.bool false), (.slice none 0 0), (.bool false), (.slice none 0 0), (.bool false), (.slice none 0 0), (.bool false), (.slice none 0 0)] 2 hB fun b3 w3 g3 L3 o3 q3 hB => ?_
 simp only [p3, p4]
 refine sq_nil ?_
 refine k1 _ _ ?_
 try clear k1 K1
 refine wp_seq_k (fun K4 k4 => ?_)
 refine wp_seq_k (fun K5 k5 => ?_)
 refine rg [0, 1] ?_
 replace L2 := L2.gr g3
 refine sw 10 (.agg #[uaa0, uaa1, uaa2, uaa3, uab0, uab1, uab2, uab3, uac0, uac1, uac2, uac3, uba0, uba1, uba2, uba3, ubb0, ubb1, ubb2, ubb3, ubc0, ubc1, ubc2, ubc3]) rfl (rl 35 0 [uaa0, uaa1, uaa2, uaa3, uab0, uab1, uab2, uab3, uac0, uac1, uac2, uac3, uba0, uba1, uba2, uba3, ubb0, ubb1, ubb2, ubb3, ubc0, ubc1, ubc2, ubc3] L2) ?_
 simp only [p3, p4]
 refine se ?_
 have kq7 := g2.kp.trans g3.kp
 replace hua1 := hua1.kp kq7
 replace hua2 := hua2.kp kq7
 replace hua3 := hua3.kp kq7
 replace hub1 := hub1.kp kq7
 replace hub2 := hub2.kp kq7
 replace hub3 := hub3.kp kq7
 refine ec 11 (tzero_f hua1 hua2 hua3 hub1 hub2 hub3 (by omega) e1) ?_
 rintro e6 w6 ⟨rfl, g6⟩
 refine ⟨_, rfl, ?_⟩
 replace hB := hB.trans g6
 simp only [p3, p4]
 refine sq_nil ?_
 refine k5 _ _ ?_
 try clear k5 K5
 refine wp_cond_false rfl ?_
 refine wp_skip ?_
 refine k4 _ _ ?_
 try clear k4 K4
 refine wp_seq_k (fun K8 k8 => ?_)
 refine wp_seq_k (fun K9 k9 => ?_)
 refine rg [0, 1, 2] ?_
 refine sv 13 (.pointer (some ⟨b2, 0, none⟩)) ?_
 simp only [p3, p4]
 replace L2 := L2.gr g6
 refine sw 14 (.agg #[uaa0, uaa1, uaa2, uaa3, uab0, uab1, uab2, uab3, uac0, uac1, uac2, uac3]) rfl (rl 33 0 [uaa0, uaa1, uaa2, uaa3, uab0, uab1, uab2, uab3, uac0, uac1, uac2, uac3] L2) ?_
 simp only [p3, p4]
 refine se ?_
 replace hua1 := hua1.kp g6.kp
 replace hua2 := hua2.kp g6.kp
 replace hua3 := hua3.kp g6.kp
 refine ec 15 (vzero_b hua1 hua2 hua3 (by omega) false e1) ?_
 rintro e10 w10 ⟨rfl, g10⟩
 refine ⟨_, rfl, ?_⟩
 replace hB := hB.trans g10
 simp only [p3, p4]
 refine sq_nil ?_
 refine k9 _ _ ?_
 try clear k9 K9
 refine wp_cond_false rfl ?_
 refine wp_skip ?_
 refine k8 _ _ ?_
 try clear k8 K8
 refine wp_seq_k (fun K11 k11 => ?_)
 refine rg [0, 1, 2, 3, 4, 5, 6, 7, 8] ?_
 refine sv 25 (.pointer (some ⟨b2, 0, none⟩)) ?_
 simp only [p3, p4]
 replace L2 := L2.gr g10
 refine sw 26 (.agg #[uaa0, uaa1, uaa2, uaa3, uab0, uab1, uab2, uab3, uac0, uac1, uac2, uac3]) rfl (rl 33 0 [uaa0, uaa1, uaa2, uaa3, uab0, uab1, uab2, uab3, uac0, uac1, uac2, uac3] L2) ?_
 simp only [p3, p4]
 refine se ?_
 replace hua1 := hua1.kp g10.kp
 replace hua2 := hua2.kp g10.kp
 replace hua3 := hua3.kp g10.kp
 refine ec 27 (vprim_ok hua1 hua2 hua3 (by omega) ha) ?_
 rintro e12 w12 ⟨⟨t12_0, t12_1, t12_2, t12_3, t12_4, t12_5, t12_6, t12_7, t12_8, t12_9, t12_10, t12_11, rfl, h12a, h12b, h12c⟩, g12⟩
 refine ⟨_, rfl, ?_⟩
 replace hB := hB.trans g12
 simp only [p3, p4]
 refine sv 24 (.tuple #[(.agg #[t12_0, t12_1, t12_2, t12_3, t12_4, t12_5, t12_6, t12_7, t12_8, t12_9, t12_10, t12_11]), (.int .i64 0)]) ?_
 simp only [p3, p4]
 refine sv 28 (.agg #[t12_0, t12_1, t12_2, t12_3, t12_4, t12_5, t12_6, t12_7, t12_8, t12_9, t12_10, t12_11]) ?_
 simp only [p3, p4]
 refine sv 29 (.int .i64 0) ?_
 simp only [p3, p4]
 refine se ?_
 refine ea 33 #[(.bool false), (.slice none 0 0), (.bool false), (.slice none 0 0), (.bool false), (.slice none 0 0), (.bool false), (.slice none 0 0), (.bool false), (.slice none 0 0), (.bool false), (.slice none 0 0)] 5 hB fun b13 w13 g13 L13 o13 q13 hB => ?_
 replace L2 := L2.gr g12
 have ne2_13 := L2.ne o13
 replace L3 := L3.gr (g6.trans (g10.trans g12))
 have ne3_13 := L3.ne o13
 simp only [p3, p4]
 refine se ?_
 refine es 33 0 (.agg #[t12_0, t12_1, t12_2, t12_3, t12_4, t12_5, t12_6, t12_7, t12_8, t12_9, t12_10, t12_11]) [t12_0, t12_1, t12_2, t12_3, t12_4, t12_5, t12_6, t12_7, t12_8, t12_9, t12_10, t12_11] #[t12_0, t12_1, t12_2, t12_3, t12_4, t12_5, t12_6, t12_7, t12_8, t12_9, t12_10, t12_11] L13 hB q13 ⟨h12a.one0, h12a.one1, h12a.one2, h12a.one3, h12b.one0, h12b.one1, h12b.one2, h12b.one3, h12c.one0, h12c.one1, h12c.one2, h12c.one3, trivial⟩ fun w14 st14 kp14 L13 hB => ?_
 refine sv 6 (.int .i64 0) ?_
 simp only [p3, p4]
 refine sq_nil ?_
 refine k11 _ _ ?_
 try clear k11 K11
 refine wp_seq_k (fun K15 k15 => ?_)
 have hz16 := Below.size hB
 replace L2 := st14.lc (L2.gr g13) ne2_13
 have lt2_16 := L2.lt
 replace L3 := st14.lc (L3.gr g13) ne3_13
 have lt3_16 := L3.lt
 have lt13_16 := L13.lt
 have gd16 := Gr.drew w14
 replace hB := hB.trans gd16
 replace L2 := L2.gr gd16
 refine wp_region_flo (fun w' => Lc w' b2 #[uaa0, uaa1, uaa2, uaa3, uab0, uab1, uab2, uab3, uac0, uac1, uac2, uac3, uba0, uba1, uba2, uba3, ubb0, ubb1, ubb2, ubb3, ubc0, ubc1, ubc2, ubc3] 35) [(true, 1), (true, 2), (true, 3), (true, 4), (false, 0), (false, 5), (false, 6), (true, 7), (true, 8), (true, 9)] [⟨10, 7, 31, #[(.bool false), (.slice none 0 0), (.bool false), (.slice none 0 0)]⟩] [(false, 11), (true, 12)] (by kernel_rfl) (by kernel_rfl) (by kernel_rfl) (by kernel_rfl) (by kernel_rfl) (by decide) (fun _ _ _ _ _ h => h) (fun _ _ _ _ _ h => h) (fun w' o h => Lc.gr h (Gr.alloc w' o)) L2 (by intro f hf; simp only [List.mem_cons, List.not_mem_nil, or_false] at hf; rcases hf with rfl <;> first | exact alloc_zero (z := (.agg #[(.bool false), (.slice none 0 0), (.bool false), (.slice none 0 0)])) (by kernel_rfl) rfl) ?_
 refine fv 32 (.pointer (some ⟨b2, 0, none⟩)) ?_
 simp only [p3, p4]
 refine fw 33 (.agg #[uaa0, uaa1, uaa2, uaa3, uab0, uab1, uab2, uab3, uac0, uac1, uac2, uac3]) rfl (fun w' hS => (rl 33 0 [uaa0, uaa1, uaa2, uaa3, uab0, uab1, uab2, uab3, uac0, uac1, uac2, uac3] hS)) ?_
 simp only [p3, p4]
 refine fv 34 (.pointer (some ⟨b2, 0, none⟩)) ?_
 simp only [p3, p4]
 refine fw 35 (.agg #[uaa0, uaa1, uaa2, uaa3, uab0, uab1, uab2, uab3, uac0, uac1, uac2, uac3]) rfl (fun w' hS => (rl 33 0 [uaa0, uaa1, uaa2, uaa3, uab0, uab1, uab2, uab3, uac0, uac1, uac2, uac3] hS)) ?_
 simp only [p3, p4]
 refine flo_eff rfl rfl (fun w17 g17 _ K17 k17 => ?_)
 replace hB := hB.trans g17
 refine ec 31 (from_r (1) (by omega) (by omega) _) ?_
 rintro e18 w18 ⟨⟨p18, q18, r18, s18, rfl, h18⟩, g18⟩
 refine ⟨_, rfl, ?_⟩
 replace hB := hB.trans g18
 replace L2 := L2.gr (g17.trans g18)
 refine k17 _ _ g18 L2 ?_
 try clear k17 K17
 simp only [p3, p4]
 refine flo_eff rfl rfl (fun w19 g19 _ K19 k19 => ?_)
 replace hB := hB.trans g19
 have kq21 := g12.kp.trans (g13.kp.trans (kp14.trans (gd16.kp.trans (g17.kp.trans (g18.kp.trans g19.kp)))))
 replace hua1 := hua1.kp kq21
 replace hua2 := hua2.kp kq21
 replace hua3 := hua3.kp kq21
 refine ec 36 (dot_v hua1 hua2 hua3 hua1 hua2 hua3 (by omega)) ?_
 rintro e20 w20 ⟨⟨p20, q20, r20, s20, rfl, h20⟩, g20⟩
 refine ⟨_, rfl, ?_⟩
 replace hB := hB.trans g20
 replace L2 := L2.gr (g19.trans g20)
 refine k19 _ _ g20 L2 ?_
 try clear k19 K19
 simp only [p3, p4]
 refine flo_eff rfl rfl (fun w22 g22 _ K22 k22 => ?_)
 replace hB := hB.trans g22
 have kq24 := g19.kp.trans (g20.kp.trans g22.kp)
 replace h18 := h18.kp kq24
 replace h20 := h20.kp g22.kp
 refine ec 37 (div_r h18 h20 (by omega) hdv) ?_
 rintro e23 w23 ⟨⟨p23, q23, r23, s23, rfl, h23⟩, g23⟩
 refine ⟨_, rfl, ?_⟩
 replace hB := hB.trans g23
 replace L2 := L2.gr (g22.trans g23)
 refine k22 _ _ g23 L2 ?_
 try clear k22 K22
 simp only [p3, p4]
 refine fv 30 (.tuple #[(.agg #[p23, q23, r23, s23]), (.int .i64 0)]) ?_
 simp only [p3, p4]
 refine fv 38 (.agg #[p23, q23, r23, s23]) ?_
 simp only [p3, p4]
 refine fv 39 (.int .i64 0) ?_
 simp only [p3, p4]
 refine flo_nil (fun w25 g25 _ => ?_)
 replace hB := hB.trans g25
 refine floFin1 (fun b26 (L26 : Lc w25 b26 #[(.bool false), (.slice none 0 0), (.bool false), (.slice none 0 0)] 31) q26  => ?_)
 have ne2_26 : b2 ≠ b26 := Nat.ne_of_lt (Nat.lt_of_lt_of_le lt2_16 q26)
 have ne3_26 : b3 ≠ b26 := Nat.ne_of_lt (Nat.lt_of_lt_of_le lt3_16 q26)
 have ne13_26 : b13 ≠ b26 := Nat.ne_of_lt (Nat.lt_of_lt_of_le lt13_16 q26)
 replace q26 := Nat.le_trans hz16 q26
 simp only [putl, p3, p4]
 refine oe ?_
 refine es 31 0 (.agg #[p23, q23, r23, s23]) [p23, q23, r23, s23] #[p23, q23, r23, s23] L26 hB q26 ⟨h23.one0, h23.one1, h23.one2, h23.one3, trivial⟩ fun w28 st28 kp28 L26 hB => ?_
 replace L2 := st28.lc (L2.gr g25) ne2_26
 refine ⟨L2, ?_⟩
 refine ov 8 (.int .i64 0) ?_
 simp only [p3, p4]
 refine ord_nil ?_
 refine k15 _ _ ?_
 try clear k15 K15
 refine wp_seq_k (fun K29 k29 => ?_)
 have hz30 := Below.size hB
 have lt2_30 := L2.lt
 replace L3 := st28.lc (L3.gr (gd16.trans (g17.trans (g18.trans (g19.trans (g20.trans (g22.trans (g23.trans g25)))))))) ne3_26
 have lt3_30 := L3.lt
 replace L13 := st28.lc (L13.gr (gd16.trans (g17.trans (g18.trans (g19.trans (g20.trans (g22.trans (g23.trans g25)))))))) ne13_26
 have lt13_30 := L13.lt
 have lt26_30 := L26.lt
 have gd30 := Gr.drew w28
 replace hB := hB.trans gd30
 replace L2 := L2.gr gd30
 replace L13 := L13.gr gd30
 replace L26 := L26.gr gd30
 refine wp_region_flo (fun w' => Lc w' b2 #[uaa0, uaa1, uaa2, uaa3, uab0, uab1, uab2, uab3, uac0, uac1, uac2, uac3, uba0, uba1, uba2, uba3, ubb0, ubb1, ubb2, ubb3, ubc0, ubc1, ubc2, ubc3] 35 ∧ Lc w' b13 #[t12_0, t12_1, t12_2, t12_3, t12_4, t12_5, t12_6, t12_7, t12_8, t12_9, t12_10, t12_11] 33 ∧ Lc w' b26 #[p23, q23, r23, s23] 31) [(true, 0), (true, 1), (true, 2), (true, 3), (true, 4), (true, 6), (false, 5), (false, 7), (true, 8)] [⟨9, 9, 38, #[(.int .i64 0), (.bool false), (.slice none 0 0), (.bool false), (.slice none 0 0), (.bool false), (.slice none 0 0), (.bool false), (.slice none 0 0), (.bool false), (.slice none 0 0), (.bool false), (.slice none 0 0), (.bool false), (.slice none 0 0), (.bool false), (.slice none 0 0), (.bool false), (.slice none 0 0), (.bool false), (.slice none 0 0), (.bool false), (.slice none 0 0), (.bool false), (.slice none 0 0), (.bool false), (.slice none 0 0), (.bool false), (.slice none 0 0)]⟩] [(false, 10)] (by kernel_rfl) (by kernel_rfl) (by kernel_rfl) (by kernel_rfl) (by kernel_rfl) (by decide) (fun _ _ _ _ _ h => h) (fun _ _ _ _ _ h => h) (fun w' o h => ⟨Lc.gr h.1 (Gr.alloc w' o), Lc.gr h.2.1 (Gr.alloc w' o), Lc.gr h.2.2 (Gr.alloc w' o)⟩) ⟨L2, L13, L26⟩ (by intro f hf; simp only [List.mem_cons, List.not_mem_nil, or_false] at hf; rcases hf with rfl <;> first | exact alloc_zero (z := (.agg #[(.int .i64 0), (.bool false), (.slice none 0 0), (.bool false), (.slice none 0 0), (.bool false), (.slice none 0 0), (.bool false), (.slice none 0 0), (.bool false), (.slice none 0 0), (.bool false), (.slice none 0 0), (.bool false), (.slice none 0 0), (.bool false), (.slice none 0 0), (.bool false), (.slice none 0 0), (.bool false), (.slice none 0 0), (.bool false), (.slice none 0 0), (.bool false), (.slice none 0 0), (.bool false), (.slice none 0 0), (.bool false), (.slice none 0 0)])) (by kernel_rfl) rfl) ?_
 refine fw 40 (.agg #[t12_0, t12_1, t12_2, t12_3, t12_4, t12_5, t12_6, t12_7, t12_8, t12_9, t12_10, t12_11]) rfl (fun w' hS => (rl 33 0 [t12_0, t12_1, t12_2, t12_3, t12_4, t12_5, t12_6, t12_7, t12_8, t12_9, t12_10, t12_11] hS.2.1)) ?_
 simp only [p3, p4]
 refine fv 41 (.pointer (some ⟨b2, 0, none⟩)) ?_
 simp only [p3, p4]
 refine fw 42 (.agg #[uaa0, uaa1, uaa2, uaa3, uab0, uab1, uab2, uab3, uac0, uac1, uac2, uac3]) rfl (fun w' hS => (rl 33 0 [uaa0, uaa1, uaa2, uaa3, uab0, uab1, uab2, uab3, uac0, uac1, uac2, uac3] hS.1)) ?_
 simp only [p3, p4]
 refine fv 43 (.pointer (some ⟨b2, 12, none⟩)) ?_
 simp only [p3, p4]
 refine fw 44 (.agg #[uba0, uba1, uba2, uba3, ubb0, ubb1, ubb2, ubb3, ubc0, ubc1, ubc2, ubc3]) rfl (fun w' hS => (rl 33 12 [uba0, uba1, uba2, uba3, ubb0, ubb1, ubb2, ubb3, ubc0, ubc1, ubc2, ubc3] hS.1)) ?_
 simp only [p3, p4]
 refine fw 46 (.agg #[p23, q23, r23, s23]) rfl (fun w' hS => (rl 31 0 [p23, q23, r23, s23] hS.2.2)) ?_
 simp only [p3, p4]
 refine flo_eff rfl rfl (fun w31 g31 _ K31 k31 => ?_)
 replace hB := hB.trans g31
 have kq33 := g20.kp.trans (g22.kp.trans (g23.kp.trans (g25.kp.trans (kp28.trans (gd30.kp.trans g31.kp)))))
 replace hua1 := hua1.kp kq33
 replace hua2 := hua2.kp kq33
 replace hua3 := hua3.kp kq33
 have kq34 := g6.kp.trans (g10.kp.trans (g12.kp.trans (g13.kp.trans (kp14.trans (gd16.kp.trans (g17.kp.trans (g18.kp.trans (g19.kp.trans (g20.kp.trans (g22.kp.trans (g23.kp.trans (g25.kp.trans (kp28.trans (gd30.kp.trans g31.kp))))))))))))))
 replace hub1 := hub1.kp kq34
 replace hub2 := hub2.kp kq34
 replace hub3 := hub3.kp kq34
 refine ec 45 (cross_v hua1 hua2 hua3 hub1 hub2 hub3 (by omega)) ?_
 rintro e32 w32 ⟨⟨t32_0, t32_1, t32_2, t32_3, t32_4, t32_5, t32_6, t32_7, t32_8, t32_9, t32_10, t32_11, rfl, h32a, h32b, h32c⟩, g32⟩
 refine ⟨_, rfl, ?_⟩
 replace hB := hB.trans g32
 replace L2 := L2.gr (g31.trans g32)
 replace L13 := L13.gr (g31.trans g32)
 replace L26 := L26.gr (g31.trans g32)
 refine k31 _ _ g32 ⟨L2, L13, L26⟩ ?_
 try clear k31 K31
 simp only [p3, p4]
 refine flo_eff rfl rfl (fun w35 g35 _ K35 k35 => ?_)
 replace hB := hB.trans g35
 replace h32a := h32a.kp g35.kp
 replace h32b := h32b.kp g35.kp
 replace h32c := h32c.kp g35.kp
 have kq37 := g25.kp.trans (kp28.trans (gd30.kp.trans (g31.kp.trans (g32.kp.trans g35.kp))))
 replace h23 := h23.kp kq37
 refine ec 47 (vscale_v h32a h32b h32c h23 (by omega)) ?_
 rintro e36 w36 ⟨⟨t36_0, t36_1, t36_2, t36_3, t36_4, t36_5, t36_6, t36_7, t36_8, t36_9, t36_10, t36_11, rfl, h36a, h36b, h36c⟩, g36⟩
 refine ⟨_, rfl, ?_⟩
 replace hB := hB.trans g36
 replace L2 := L2.gr (g35.trans g36)
 replace L13 := L13.gr (g35.trans g36)
 replace L26 := L26.gr (g35.trans g36)
 refine k35 _ _ g36 ⟨L2, L13, L26⟩ ?_
 try clear k35 K35
 simp only [p3, p4]
 refine fv 48 (.agg #[(.int .i64 2), t12_0, t12_1, t12_2, t12_3, t12_4, t12_5, t12_6, t12_7, t12_8, t12_9, t12_10, t12_11, t36_0, t36_1, t36_2, t36_3, t36_4, t36_5, t36_6, t36_7, t36_8, t36_9, t36_10, t36_11, (.bool false), (.slice none 0 0), (.bool false), (.slice none 0 0)]) ?_
 simp only [p3, p4]
 refine flo_nil (fun w38 g38 _ => ?_)
 replace hB := hB.trans g38
 refine floFin1 (fun b39 (L39 : Lc w38 b39 #[(.int .i64 0), (.bool false), (.slice none 0 0), (.bool false), (.slice none 0 0), (.bool false), (.slice none 0 0), (.bool false), (.slice none 0 0), (.bool false), (.slice none 0 0), (.bool false), (.slice none 0 0), (.bool false), (.slice none 0 0), (.bool false), (.slice none 0 0), (.bool false), (.slice none 0 0), (.bool false), (.slice none 0 0), (.bool false), (.slice none 0 0), (.bool false), (.slice none 0 0), (.bool false), (.slice none 0 0), (.bool false), (.slice none 0 0)] 38) q39  => ?_)
 have ne2_39 : b2 ≠ b39 := Nat.ne_of_lt (Nat.lt_of_lt_of_le lt2_30 q39)
 have ne3_39 : b3 ≠ b39 := Nat.ne_of_lt (Nat.lt_of_lt_of_le lt3_30 q39)
 have ne13_39 : b13 ≠ b39 := Nat.ne_of_lt (Nat.lt_of_lt_of_le lt13_30 q39)
 have ne26_39 : b26 ≠ b39 := Nat.ne_of_lt (Nat.lt_of_lt_of_le lt26_30 q39)
 replace q39 := Nat.le_trans hz30 q39
 simp only [putl, p3, p4]
 refine oe ?_
 refine es 38 0 (.agg #[(.int .i64 2), t12_0, t12_1, t12_2, t12_3, t12_4, t12_5, t12_6, t12_7, t12_8, t12_9, t12_10, t12_11, t36_0, t36_1, t36_2, t36_3, t36_4, t36_5, t36_6, t36_7, t36_8, t36_9, t36_10, t36_11, (.bool false), (.slice none 0 0), (.bool false), (.slice none 0 0)]) [(.int .i64 2), t12_0, t12_1, t12_2, t12_3, t12_4, t12_5, t12_6, t12_7, t12_8, t12_9, t12_10, t12_11, t36_0, t36_1, t36_2, t36_3, t36_4, t36_5, t36_6, t36_7, t36_8, t36_9, t36_10, t36_11, (.bool false), (.slice none 0 0), (.bool false), (.slice none 0 0)] #[(.int .i64 2), t12_0, t12_1, t12_2, t12_3, t12_4, t12_5, t12_6, t12_7, t12_8, t12_9, t12_10, t12_11, t36_0, t36_1, t36_2, t36_3, t36_4, t36_5, t36_6, t36_7, t36_8, t36_9, t36_10, t36_11, (.bool false), (.slice none 0 0), (.bool false), (.slice none 0 0)] L39 hB q39 ⟨rfl, h12a.one0, h12a.one1, h12a.one2, h12a.one3, h12b.one0, h12b.one1, h12b.one2, h12b.one3, h12c.one0, h12c.one1, h12c.one2, h12c.one3, h36a.one0, h36a.one1, h36a.one2, h36a.one3, h36b.one0, h36b.one1, h36b.one2, h36b.one3, h36c.one0, h36c.one1, h36c.one2, h36c.one3, rfl, rfl, rfl, rfl, trivial⟩ fun w41 st41 kp41 L39 hB => ?_
 replace L2 := st41.lc (L2.gr g38) ne2_39
 replace L13 := st41.lc (L13.gr g38) ne13_39
 replace L26 := st41.lc (L26.gr g38) ne26_39
 refine ⟨⟨L2, L13, L26⟩, ?_⟩
 refine ord_nil ?_
 refine k29 _ _ ?_
 try clear k29 K29
 refine wp_seq_k (fun K42 k42 => ?_)
 have gd52 := Gr.drew w41
 replace hB := hB.trans gd52
 replace L2 := L2.gr gd52
 replace L26 := L26.gr gd52
 refine wp_region_ord (fun w' => Lc w' b2 #[uaa0, uaa1, uaa2, uaa3, uab0, uab1, uab2, uab3, uac0, uac1, uac2, uac3, uba0, uba1, uba2, uba3, ubb0, ubb1, ubb2, ubb3, ubc0, ubc1, ubc2, ubc3] 35 ∧ Lc w' b26 #[p23, q23, r23, s23] 31) [(true, 0), (true, 1), (true, 2), (true, 3), (true, 5), (false, 4), (false, 6), (true, 7), (false, 8)] (by kernel_rfl) (by kernel_rfl) (by kernel_rfl) (by decide) (fun _ _ _ _ _ h => h) ⟨L2, L26⟩ ?_
 refine ov 49 (.pointer (some ⟨b2, 0, none⟩)) ?_
 simp only [p3, p4]
 refine ow 50 (.agg #[uaa0, uaa1, uaa2, uaa3, uab0, uab1, uab2, uab3, uac0, uac1, uac2, uac3]) rfl (fun w' hS => (rl 33 0 [uaa0, uaa1, uaa2, uaa3, uab0, uab1, uab2, uab3, uac0, uac1, uac2, uac3] hS.1)) ?_
 simp only [p3, p4]
 refine ov 51 (.pointer (some ⟨b2, 12, none⟩)) ?_
 simp only [p3, p4]
 refine ow 52 (.agg #[uba0, uba1, uba2, uba3, ubb0, ubb1, ubb2, ubb3, ubc0, ubc1, ubc2, ubc3]) rfl (fun w' hS => (rl 33 12 [uba0, uba1, uba2, uba3, ubb0, ubb1, ubb2, ubb3, ubc0, ubc1, ubc2, ubc3] hS.1)) ?_
 simp only [p3, p4]
 refine ow 54 (.agg #[p23, q23, r23, s23]) rfl (fun w' hS => (rl 31 0 [p23, q23, r23, s23] hS.2)) ?_
 simp only [p3, p4]
 refine oe ?_
 have kq55 := g32.kp.trans (g35.kp.trans (g36.kp.trans (g38.kp.trans (kp41.trans gd52.kp))))
 replace hua1 := hua1.kp kq55
 replace hua2 := hua2.kp kq55
 replace hua3 := hua3.kp kq55
 replace hub1 := hub1.kp kq55
 replace hub2 := hub2.kp kq55
 replace hub3 := hub3.kp kq55
 refine ec 53 (dot_v hua1 hua2 hua3 hub1 hub2 hub3 (by omega)) ?_
 rintro e54 w54 ⟨⟨p54, q54, r54, s54, rfl, h54⟩, g54⟩
 refine ⟨_, rfl, ?_⟩
 replace hB := hB.trans g54
 replace L2 := L2.gr g54
 replace L26 := L26.gr g54
 refine ⟨⟨L2, L26⟩, ?_⟩
 simp only [p3, p4]
 refine oe ?_
 have kq58 := g36.kp.trans (g38.kp.trans (kp41.trans (gd52.kp.trans g54.kp)))
 replace h23 := h23.kp kq58
 refine ec 55 (mul_r h54 h23 (by omega)) ?_
 rintro e57 w57 ⟨⟨p57, q57, r57, s57, rfl, h57⟩, g57⟩
 refine ⟨_, rfl, ?_⟩
 replace hB := hB.trans g57
 replace L2 := L2.gr g57
 replace L26 := L26.gr g57
 refine ⟨⟨L2, L26⟩, ?_⟩
 simp only [p3, p4]
 refine ov 56 (.pointer (some ⟨b39, 25, none⟩)) ?_
 simp only [p3, p4]
 refine oe ?_
 replace L39 := L39.gr (gd52.trans (g54.trans g57))
 refine es 31 25 (.agg #[p57, q57, r57, s57]) [p57, q57, r57, s57] #[(.int .i64 2), t12_0, t12_1, t12_2, t12_3, t12_4, t12_5, t12_6, t12_7, t12_8, t12_9, t12_10, t12_11, t36_0, t36_1, t36_2, t36_3, t36_4, t36_5, t36_6, t36_7, t36_8, t36_9, t36_10, t36_11, p57, q57, r57, s57] L39 hB q39 ⟨h57.one0, h57.one1, h57.one2, h57.one3, trivial⟩ fun w60 st60 kp60 L39 hB => ?_
 replace L2 := st60.lc L2 ne2_39
 replace L26 := st60.lc L26 ne26_39
 refine ⟨⟨L2, L26⟩, ?_⟩
 refine ord_nil ?_
 refine k42 _ _ ?_
 try clear k42 K42
 refine wp_seq_k (fun K61 k61 => ?_)
 refine wp_seq_k (fun K62 k62 => ?_)
 refine rg [0, 1, 2, 3] ?_
 refine sv 57 (.pointer (some ⟨b39, 25, none⟩)) ?_
 simp only [p3, p4]
 refine sw 58 (.agg #[p57, q57, r57, s57]) rfl (rl 31 25 [p57, q57, r57, s57] L39) ?_
 simp only [p3, p4]
 refine se ?_
 replace h57 := h57.kp kp60
 refine ec 59 (sign_r h57) ?_
 rintro e63 w63 ⟨rfl, g63⟩
 refine ⟨_, rfl, ?_⟩
 replace hB := hB.trans g63
 simp only [p3, p4]
 refine sw 60 (.bool false) rfl (RunV.bool (x := (sgn (((0 + a1 * d1 + a2 * d2 + a3 * d3) * ((((1 : Int) : Rat)) / (0 + a1 * a1 + a2 * a2 + a3 * a3)))).num != (0 : Int))) (rvk (by kernel_rfl)) e3) ?_
 simp only [p3, p4]
 refine sq_nil ?_
 refine k62 _ _ ?_
 try clear k62 K62
 refine wp_cond_false rfl ?_
 refine wp_skip ?_
 refine k61 _ _ ?_
 try clear k61 K61
 refine wp_seq_k (fun K64 k64 => ?_)
 refine rg [0, 1] ?_
 replace L39 := L39.gr g63
 refine sw 62 (.agg #[(.int .i64 2), t12_0, t12_1, t12_2, t12_3, t12_4, t12_5, t12_6, t12_7, t12_8, t12_9, t12_10, t12_11, t36_0, t36_1, t36_2, t36_3, t36_4, t36_5, t36_6, t36_7, t36_8, t36_9, t36_10, t36_11, p57, q57, r57, s57]) rfl (rl 38 0 [(.int .i64 2), t12_0, t12_1, t12_2, t12_3, t12_4, t12_5, t12_6, t12_7, t12_8, t12_9, t12_10, t12_11, t36_0, t36_1, t36_2, t36_3, t36_4, t36_5, t36_6, t36_7, t36_8, t36_9, t36_10, t36_11, p57, q57, r57, s57] L39) ?_
 simp only [p3, p4]
 refine se ?_
 replace L3 := (st60.lc ((st41.lc (L3.gr (gd30.trans (g31.trans (g32.trans (g35.trans (g36.trans g38)))))) ne3_39).gr (gd52.trans (g54.trans g57))) ne3_39).gr g63
 refine es 38 0 (.agg #[(.int .i64 2), t12_0, t12_1, t12_2, t12_3, t12_4, t12_5, t12_6, t12_7, t12_8, t12_9, t12_10, t12_11, t36_0, t36_1, t36_2, t36_3, t36_4, t36_5, t36_6, t36_7, t36_8, t36_9, t36_10, t36_11, p57, q57, r57, s57]) [(.int .i64 2), t12_0, t12_1, t12_2, t12_3, t12_4, t12_5, t12_6, t12_7, t12_8, t12_9, t12_10, t12_11, t36_0, t36_1, t36_2, t36_3, t36_4, t36_5, t36_6, t36_7, t36_8, t36_9, t36_10, t36_11, p57, q57, r57, s57] #[(.int .i64 2), t12_0, t12_1, t12_2, t12_3, t12_4, t12_5, t12_6, t12_7, t12_8, t12_9, t12_10, t12_11, t36_0, t36_1, t36_2, t36_3, t36_4, t36_5, t36_6, t36_7, t36_8, t36_9, t36_10, t36_11, p57, q57, r57, s57] L3 hB q3 ⟨rfl, h12a.one0, h12a.one1, h12a.one2, h12a.one3, h12b.one0, h12b.one1, h12b.one2, h12b.one3, h12c.one0, h12c.one1, h12c.one2, h12c.one3, h36a.one0, h36a.one1, h36a.one2, h36a.one3, h36b.one0, h36b.one1, h36b.one2, h36b.one3, h36c.one0, h36c.one1, h36c.one2, h36c.one3, h57.one0, h57.one1, h57.one2, h57.one3, trivial⟩ fun w65 st65 kp65 L3 hB => ?_
 refine sq_nil ?_
 refine k64 _ _ ?_
 try clear k64 K64
 refine wp_ret ?_
 refine bodyPost_ret (v := (.agg #[(.int .i64 2), t12_0, t12_1, t12_2, t12_3, t12_4, t12_5, t12_6, t12_7, t12_8, t12_9, t12_10, t12_11, t36_0, t36_1, t36_2, t36_3, t36_4, t36_5, t36_6, t36_7, t36_8, t36_9, t36_10, t36_11, p57, q57, r57, s57])) (ret_cell _ _ _ rfl rfl L3 (by kernel_rfl)) rfl ⟨?_, hB⟩
 have kq66 := g13.kp.trans (kp14.trans (gd16.kp.trans (g17.kp.trans (g18.kp.trans (g19.kp.trans (g20.kp.trans (g22.kp.trans (g23.kp.trans (g25.kp.trans (kp28.trans (gd30.kp.trans (g31.kp.trans (g32.kp.trans (g35.kp.trans (g36.kp.trans (g38.kp.trans (kp41.trans (gd52.kp.trans (g54.kp.trans (g57.kp.trans (kp60.trans (g63.kp.trans kp65))))))))))))))))))))))
 replace h12a := h12a.kp kq66
 replace h12b := h12b.kp kq66
 replace h12c := h12c.kp kq66
 have kq67 := g38.kp.trans (kp41.trans (gd52.kp.trans (g54.kp.trans (g57.kp.trans (kp60.trans (g63.kp.trans kp65))))))
 replace h36a := h36a.kp kq67
 replace h36b := h36b.kp kq67
 replace h36c := h36c.kp kq67
 have kq68 := g63.kp.trans kp65
 replace h57 := h57.kp kq68
 exact ⟨_, _, _, _, _, _, _, _, _, _, _, _, _, _, _, _, _, _, _, _, _, _, _, _, _, _, _, _, rfl, h12a.mono (by omega), h12b.mono (by omega), h12c.mono (by omega), h36a.mono (by omega), h36b.mono (by omega), h36c.mono (by omega), h57.mono (by omega)⟩

set_option maxRecDepth 100000 in
set_option maxHeartbeats 8000000 in
theorem axis_s {k : Nat} {uaa0 uaa1 uaa2 uaa3 uab0 uab1 uab2 uab3 uac0 uac1 uac2 uac3 : Value} {a1 a2 a3 : Rat} {uba0 uba1 uba2 uba3 ubb0 ubb1 ubb2 ubb3 ubc0 ubc1 ubc2 ubc3 : Value} {d1 d2 d3 : Rat} {w : World} (hua1 : IsRat w k uaa0 uaa1 uaa2 uaa3 a1) (hua2 : IsRat w k uab0 uab1 uab2 uab3 a2) (hua3 : IsRat w k uac0 uac1 uac2 uac3 a3) (hub1 : IsRat w k uba0 uba1 uba2 uba3 d1) (hub2 : IsRat w k ubb0 ubb1 ubb2 ubb3 d2) (hub3 : IsRat w k ubc0 ubc1 ubc2 ubc3 d3) (_hk : k ≤ 2000) (ha : ¬(a1 = 0 ∧ a2 = 0 ∧ a3 = 0)) (hp : ((0 + a1 * d1 + a2 * d2 + a3 * d3) * (((1 : Int) : Rat) / (0 + a1 * a1 + a2 * a2 + a3 * a3))) ≠ 0) :
    Calls Tryd.prog 11 #[(.agg #[uaa0, uaa1, uaa2, uaa3, uab0, uab1, uab2, uab3, uac0, uac1, uac2, uac3, uba0, uba1, uba2, uba3, ubb0, ubb1, ubb2, ubb3, ubc0, ubc1, ubc2, ubc3])] w fun e w' => (∃ t0 t1 t2 t3 t4 t5 t6 t7 t8 t9 t10 t11 t12 t13 t14 t15 t16 t17 t18 t19 t20 t21 t22 t23 t24 t25 t26 t27, e = .returned (.agg #[.int .i64 3, t0, t1, t2, t3, t4, t5, t6, t7, t8, t9, t10, t11, t12, t13, t14, t15, t16, t17, t18, t19, t20, t21, t22, t23, t24, t25, t26, t27]) ∧ IsRat w' (20 * k + 1000) t0 t1 t2 t3 (prim a1 a2 a3 a1) ∧ IsRat w' (20 * k + 1000) t4 t5 t6 t7 (prim a1 a2 a3 a2) ∧ IsRat w' (20 * k + 1000) t8 t9 t10 t11 (prim a1 a2 a3 a3) ∧ IsRat w' (20 * k + 1000) t12 t13 t14 t15 ((((1 : Int) : Rat) / (0 + a1 * a1 + a2 * a2 + a3 * a3)) * (a2 * d3 - a3 * d2)) ∧ IsRat w' (20 * k + 1000) t16 t17 t18 t19 ((((1 : Int) : Rat) / (0 + a1 * a1 + a2 * a2 + a3 * a3)) * (a3 * d1 - a1 * d3)) ∧ IsRat w' (20 * k + 1000) t20 t21 t22 t23 ((((1 : Int) : Rat) / (0 + a1 * a1 + a2 * a2 + a3 * a3)) * (a1 * d2 - a2 * d1)) ∧ IsRat w' (20 * k + 1000) t24 t25 t26 t27 (((0 + a1 * d1 + a2 * d2 + a3 * d3) * (((1 : Int) : Rat) / (0 + a1 * a1 + a2 * a2 + a3 * a3))))) ∧ Gr w w' := by
 have e1 := vzero_false.2 ha
 have e3 := sgnz_t hp
 have hbig := hua1.big
 have hdv := num_pos (dot_pos ha)
 go_enter Tryd.func11, Tryd.ntmps11
 have hB := Gr.refl w
 refine wp_seq_k (fun K1 k1 => ?_)
 refine rg [0, 1] ?_
 refine se ?_
 refine eb 35 #[uaa0, uaa1, uaa2, uaa3, uab0, uab1, uab2, uab3, uac0, uac1, uac2, uac3, uba0, uba1, uba2, uba3, ubb0, ubb1, ubb2, ubb3, ubc0, ubc1, ubc2, ubc3] 1 hB fun b2 w2 g2 L2 o2 q2 hB => ?_
 simp only [p3, p4]
 refine se ?_
 refine ea 38 #[(.int .i64 0), (.bool false), (.slice none 0 0), (.bool false), (.slice none 0 0), (.bool false), (.slice none 0 0), (.bool false), (.slice none 0 0), (.bool false), (.slice none 0 0), (.bool false), (.slice none 0 0), (.bool false), (.slice none 0 0), (.bool false), (.slice none 0 0), (.bool false), (.slice none 0 0), (.bool false), (.slice none 0 0), (.bool false), (.slice none 0 0), (.bool false), (.slice none 0 0), (.bool false), (.slice none 0 0), (.bool false), (.slice none 0 0)] 2 hB fun b3 w3 g3 L3 o3 q3 hB => ?_
 simp only [p3, p4]
 refine sq_nil ?_
 refine k1 _ _ ?_
 try clear k1 K1
 refine wp_seq_k (fun K4 k4 => ?_)
 refine wp_seq_k (fun K5 k5 => ?_)
 refine rg [0, 1] ?_
 replace L2 := L2.gr g3
 refine sw 10 (.agg #[uaa0, uaa1, uaa2, uaa3, uab0, uab1, uab2, uab3, uac0, uac1, uac2, uac3, uba0, uba1, uba2, uba3, ubb0, ubb1, ubb2, ubb3, ubc0, ubc1, ubc2, ubc3]) rfl (rl 35 0 [uaa0, uaa1, uaa2, uaa3, uab0, uab1, uab2, uab3, uac0, uac1, uac2, uac3, uba0, uba1, uba2, uba3, ubb0, ubb1, ubb2, ubb3, ubc0, ubc1, ubc2, ubc3] L2) ?_
 simp only [p3, p4]
 refine se ?_
 have kq7 := g2.kp.trans g3.kp
 replace hua1 := hua1.kp kq7
 replace hua2 := hua2.kp kq7
 replace hua3 := hua3.kp kq7
 replace hub1 := hub1.kp kq7
 replace hub2 := hub2.kp kq7
 replace hub3 := hub3.kp kq7
 refine ec 11 (tzero_f hua1 hua2 hua3 hub1 hub2 hub3 (by omega) e1) ?_
 rintro e6 w6 ⟨rfl, g6⟩
 refine ⟨_, rfl, ?_⟩
 replace hB := hB.trans g6
 simp only [p3, p4]
 refine sq_nil ?_
 refine k5 _ _ ?_
 try clear k5 K5
 refine wp_cond_false rfl ?_
 refine wp_skip ?_
 refine k4 _ _ ?_
 try clear k4 K4
 refine wp_seq_k (fun K8 k8 => ?_)
 refine wp_seq_k (fun K9 k9 => ?_)
 refine rg [0, 1, 2] ?_
 refine sv 13 (.pointer (some ⟨b2, 0, none⟩)) ?_
 simp only [p3, p4]
 replace L2 := L2.gr g6
 refine sw 14 (.agg #[uaa0, uaa1, uaa2, uaa3, uab0, uab1, uab2, uab3, uac0, uac1, uac2, uac3]) rfl (rl 33 0 [uaa0, uaa1, uaa2, uaa3, uab0, uab1, uab2, uab3, uac0, uac1, uac2, uac3] L2) ?_
 simp only [p3, p4]
 refine se ?_
 replace hua1 := hua1.kp g6.kp
 replace hua2 := hua2.kp g6.kp
 replace hua3 := hua3.kp g6.kp
 refine ec 15 (vzero_b hua1 hua2 hua3 (by omega) false e1) ?_
 rintro e10 w10 ⟨rfl, g10⟩
 refine ⟨_, rfl, ?_⟩
 replace hB := hB.trans g10
 simp only [p3, p4]
 refine sq_nil ?_
 refine k9 _ _ ?_
 try clear k9 K9
 refine wp_cond_false rfl ?_
 refine wp_skip ?_
 refine k8 _ _ ?_
 try clear k8 K8
 refine wp_seq_k (fun K11 k11 => ?_)
 refine rg [0, 1, 2, 3, 4, 5, 6, 7, 8] ?_
 refine sv 25 (.pointer (some ⟨b2, 0, none⟩)) ?_
 simp only [p3, p4]
 replace L2 := L2.gr g10
 refine sw 26 (.agg #[uaa0, uaa1, uaa2, uaa3, uab0, uab1, uab2, uab3, uac0, uac1, uac2, uac3]) rfl (rl 33 0 [uaa0, uaa1, uaa2, uaa3, uab0, uab1, uab2, uab3, uac0, uac1, uac2, uac3] L2) ?_
 simp only [p3, p4]
 refine se ?_
 replace hua1 := hua1.kp g10.kp
 replace hua2 := hua2.kp g10.kp
 replace hua3 := hua3.kp g10.kp
 refine ec 27 (vprim_ok hua1 hua2 hua3 (by omega) ha) ?_
 rintro e12 w12 ⟨⟨t12_0, t12_1, t12_2, t12_3, t12_4, t12_5, t12_6, t12_7, t12_8, t12_9, t12_10, t12_11, rfl, h12a, h12b, h12c⟩, g12⟩
 refine ⟨_, rfl, ?_⟩
 replace hB := hB.trans g12
 simp only [p3, p4]
 refine sv 24 (.tuple #[(.agg #[t12_0, t12_1, t12_2, t12_3, t12_4, t12_5, t12_6, t12_7, t12_8, t12_9, t12_10, t12_11]), (.int .i64 0)]) ?_
 simp only [p3, p4]
 refine sv 28 (.agg #[t12_0, t12_1, t12_2, t12_3, t12_4, t12_5, t12_6, t12_7, t12_8, t12_9, t12_10, t12_11]) ?_
 simp only [p3, p4]
 refine sv 29 (.int .i64 0) ?_
 simp only [p3, p4]
 refine se ?_
 refine ea 33 #[(.bool false), (.slice none 0 0), (.bool false), (.slice none 0 0), (.bool false), (.slice none 0 0), (.bool false), (.slice none 0 0), (.bool false), (.slice none 0 0), (.bool false), (.slice none 0 0)] 5 hB fun b13 w13 g13 L13 o13 q13 hB => ?_
 replace L2 := L2.gr g12
 have ne2_13 := L2.ne o13
 replace L3 := L3.gr (g6.trans (g10.trans g12))
 have ne3_13 := L3.ne o13
 simp only [p3, p4]
 refine se ?_
 refine es 33 0 (.agg #[t12_0, t12_1, t12_2, t12_3, t12_4, t12_5, t12_6, t12_7, t12_8, t12_9, t12_10, t12_11]) [t12_0, t12_1, t12_2, t12_3, t12_4, t12_5, t12_6, t12_7, t12_8, t12_9, t12_10, t12_11] #[t12_0, t12_1, t12_2, t12_3, t12_4, t12_5, t12_6, t12_7, t12_8, t12_9, t12_10, t12_11] L13 hB q13 ⟨h12a.one0, h12a.one1, h12a.one2, h12a.one3, h12b.one0, h12b.one1, h12b.one2, h12b.one3, h12c.one0, h12c.one1, h12c.one2, h12c.one3, trivial⟩ fun w14 st14 kp14 L13 hB => ?_
 refine sv 6 (.int .i64 0) ?_
 simp only [p3, p4]
 refine sq_nil ?_
 refine k11 _ _ ?_
 try clear k11 K11
 refine wp_seq_k (fun K15 k15 => ?_)
 have hz16 := Below.size hB
 replace L2 := st14.lc (L2.gr g13) ne2_13
 have lt2_16 := L2.lt
 replace L3 := st14.lc (L3.gr g13) ne3_13
 have lt3_16 := L3.lt
 have lt13_16 := L13.lt
 have gd16 := Gr.drew w14
 replace hB := hB.trans gd16
 replace L2 := L2.gr gd16
 refine wp_region_flo (fun w' => Lc w' b2 #[uaa0, uaa1, uaa2, uaa3, uab0, uab1, uab2, uab3, uac0, uac1, uac2, uac3, uba0, uba1, uba2, uba3, ubb0, ubb1, ubb2, ubb3, ubc0, ubc1, ubc2, ubc3] 35) [(true, 1), (true, 2), (true, 3), (true, 4), (false, 0), (false, 5), (false, 6), (true, 7), (true, 8), (true, 9)] [⟨10, 7, 31, #[(.bool false), (.slice none 0 0), (.bool false), (.slice none 0 0)]⟩] [(false, 11), (true, 12)] (by kernel_rfl) (by kernel_rfl) (by kernel_rfl) (by kernel_rfl) (by kernel_rfl) (by decide) (fun _ _ _ _ _ h => h) (fun _ _ _ _ _ h => h) (fun w' o h => Lc.gr h (Gr.alloc w' o)) L2 (by intro f hf; simp only [List.mem_cons, List.not_mem_nil, or_false] at hf; rcases hf with rfl <;> first | exact alloc_zero (z := (.agg #[(.bool false), (.slice none 0 0), (.bool false), (.slice none 0 0)])) (by kernel_rfl) rfl) ?_
 refine fv 32 (.pointer (some ⟨b2, 0, none⟩)) ?_
 simp only [p3, p4]
 refine fw 33 (.agg #[uaa0, uaa1, uaa2, uaa3, uab0, uab1, uab2, uab3, uac0, uac1, uac2, uac3]) rfl (fun w' hS => (rl 33 0 [uaa0, uaa1, uaa2, uaa3, uab0, uab1, uab2, uab3, uac0, uac1, uac2, uac3] hS)) ?_
 simp only [p3, p4]
 refine fv 34 (.pointer (some ⟨b2, 0, none⟩)) ?_
 simp only [p3, p4]
 refine fw 35 (.agg #[uaa0, uaa1, uaa2, uaa3, uab0, uab1, uab2, uab3, uac0, uac1, uac2, uac3]) rfl (fun w' hS => (rl 33 0 [uaa0, uaa1, uaa2, uaa3, uab0, uab1, uab2, uab3, uac0, uac1, uac2, uac3] hS)) ?_
 simp only [p3, p4]
 refine flo_eff rfl rfl (fun w17 g17 _ K17 k17 => ?_)
 replace hB := hB.trans g17
 refine ec 31 (from_r (1) (by omega) (by omega) _) ?_
 rintro e18 w18 ⟨⟨p18, q18, r18, s18, rfl, h18⟩, g18⟩
 refine ⟨_, rfl, ?_⟩
 replace hB := hB.trans g18
 replace L2 := L2.gr (g17.trans g18)
 refine k17 _ _ g18 L2 ?_
 try clear k17 K17
 simp only [p3, p4]
 refine flo_eff rfl rfl (fun w19 g19 _ K19 k19 => ?_)
 replace hB := hB.trans g19
 have kq21 := g12.kp.trans (g13.kp.trans (kp14.trans (gd16.kp.trans (g17.kp.trans (g18.kp.trans g19.kp)))))
 replace hua1 := hua1.kp kq21
 replace hua2 := hua2.kp kq21
 replace hua3 := hua3.kp kq21
 refine ec 36 (dot_v hua1 hua2 hua3 hua1 hua2 hua3 (by omega)) ?_
 rintro e20 w20 ⟨⟨p20, q20, r20, s20, rfl, h20⟩, g20⟩
 refine ⟨_, rfl, ?_⟩
 replace hB := hB.trans g20
 replace L2 := L2.gr (g19.trans g20)
 refine k19 _ _ g20 L2 ?_
 try clear k19 K19
 simp only [p3, p4]
 refine flo_eff rfl rfl (fun w22 g22 _ K22 k22 => ?_)
 replace hB := hB.trans g22
 have kq24 := g19.kp.trans (g20.kp.trans g22.kp)
 replace h18 := h18.kp kq24
 replace h20 := h20.kp g22.kp
 refine ec 37 (div_r h18 h20 (by omega) hdv) ?_
 rintro e23 w23 ⟨⟨p23, q23, r23, s23, rfl, h23⟩, g23⟩
 refine ⟨_, rfl, ?_⟩
 replace hB := hB.trans g23
 replace L2 := L2.gr (g22.trans g23)
 refine k22 _ _ g23 L2 ?_
 try clear k22 K22
 simp only [p3, p4]
 refine fv 30 (.tuple #[(.agg #[p23, q23, r23, s23]), (.int .i64 0)]) ?_
 simp only [p3, p4]
 refine fv 38 (.agg #[p23, q23, r23, s23]) ?_
 simp only [p3, p4]
 refine fv 39 (.int .i64 0) ?_
 simp only [p3, p4]
 refine flo_nil (fun w25 g25 _ => ?_)
 replace hB := hB.trans g25
 refine floFin1 (fun b26 (L26 : Lc w25 b26 #[(.bool false), (.slice none 0 0), (.bool false), (.slice none 0 0)] 31) q26  => ?_)
 have ne2_26 : b2 ≠ b26 := Nat.ne_of_lt (Nat.lt_of_lt_of_le lt2_16 q26)
 have ne3_26 : b3 ≠ b26 := Nat.ne_of_lt (Nat.lt_of_lt_of_le lt3_16 q26)
 have ne13_26 : b13 ≠ b26 := Nat.ne_of_lt (Nat.lt_of_lt_of_le lt13_16 q26)
 replace q26 := Nat.le_trans hz16 q26
 simp only [putl, p3, p4]
 refine oe ?_
 refine es 31 0 (.agg #[p23, q23, r23, s23]) [p23, q23, r23, s23] #[p23, q23, r23, s23] L26 hB q26 ⟨h23.one0, h23.one1, h23.one2, h23.one3, trivial⟩ fun w28 st28 kp28 L26 hB => ?_
 replace L2 := st28.lc (L2.gr g25) ne2_26
 refine ⟨L2, ?_⟩
 refine ov 8 (.int .i64 0) ?_
 simp only [p3, p4]
 refine ord_nil ?_
 refine k15 _ _ ?_
 try clear k15 K15
 refine wp_seq_k (fun K29 k29 => ?_)
 have hz30 := Below.size hB
 have lt2_30 := L2.lt
 replace L3 := st28.lc (L3.gr (gd16.trans (g17.trans (g18.trans (g19.trans (g20.trans (g22.trans (g23.trans g25)))))))) ne3_26
 have lt3_30 := L3.lt
 replace L13 := st28.lc (L13.gr (gd16.trans (g17.trans (g18.trans (g19.trans (g20.trans (g22.trans (g23.trans g25)))))))) ne13_26
 have lt13_30 := L13.lt
 have lt26_30 := L26.lt
 have gd30 := Gr.drew w28
 replace hB := hB.trans gd30
 replace L2 := L2.gr gd30
 replace L13 := L13.gr gd30
 replace L26 := L26.gr gd30
 refine wp_region_flo (fun w' => Lc w' b2 #[uaa0, uaa1, uaa2, uaa3, uab0, uab1, uab2, uab3, uac0, uac1, uac2, uac3, uba0, uba1, uba2, uba3, ubb0, ubb1, ubb2, ubb3, ubc0, ubc1, ubc2, ubc3] 35 ∧ Lc w' b13 #[t12_0, t12_1, t12_2, t12_3, t12_4, t12_5, t12_6, t12_7, t12_8, t12_9, t12_10, t12_11] 33 ∧ Lc w' b26 #[p23, q23, r23, s23] 31) [(true, 0), (true, 1), (true, 2), (true, 3), (true, 4), (true, 6), (false, 5), (false, 7), (true, 8)] [⟨9, 9, 38, #[(.int .i64 0), (.bool false), (.slice none 0 0), (.bool false), (.slice none 0 0), (.bool false), (.slice none 0 0), (.bool false), (.slice none 0 0), (.bool false), (.slice none 0 0), (.bool false), (.slice none 0 0), (.bool false), (.slice none 0 0), (.bool false), (.slice none 0 0), (.bool false), (.slice none 0 0), (.bool false), (.slice none 0 0), (.bool false), (.slice none 0 0), (.bool false), (.slice none 0 0), (.bool false), (.slice none 0 0), (.bool false), (.slice none 0 0)]⟩] [(false, 10)] (by kernel_rfl) (by kernel_rfl) (by kernel_rfl) (by kernel_rfl) (by kernel_rfl) (by decide) (fun _ _ _ _ _ h => h) (fun _ _ _ _ _ h => h) (fun w' o h => ⟨Lc.gr h.1 (Gr.alloc w' o), Lc.gr h.2.1 (Gr.alloc w' o), Lc.gr h.2.2 (Gr.alloc w' o)⟩) ⟨L2, L13, L26⟩ (by intro f hf; simp only [List.mem_cons, List.not_mem_nil, or_false] at hf; rcases hf with rfl <;> first | exact alloc_zero (z := (.agg #[(.int .i64 0), (.bool false), (.slice none 0 0), (.bool false), (.slice none 0 0), (.bool false), (.slice none 0 0), (.bool false), (.slice none 0 0), (.bool false), (.slice none 0 0), (.bool false), (.slice none 0 0), (.bool false), (.slice none 0 0), (.bool false), (.slice none 0 0), (.bool false), (.slice none 0 0), (.bool false), (.slice none 0 0), (.bool false), (.slice none 0 0), (.bool false), (.slice none 0 0), (.bool false), (.slice none 0 0), (.bool false), (.slice none 0 0)])) (by kernel_rfl) rfl) ?_
 refine fw 40 (.agg #[t12_0, t12_1, t12_2, t12_3, t12_4, t12_5, t12_6, t12_7, t12_8, t12_9, t12_10, t12_11]) rfl (fun w' hS => (rl 33 0 [t12_0, t12_1, t12_2, t12_3, t12_4, t12_5, t12_6, t12_7, t12_8, t12_9, t12_10, t12_11] hS.2.1)) ?_
 simp only [p3, p4]
 refine fv 41 (.pointer (some ⟨b2, 0, none⟩)) ?_
 simp only [p3, p4]
 refine fw 42 (.agg #[uaa0, uaa1, uaa2, uaa3, uab0, uab1, uab2, uab3, uac0, uac1, uac2, uac3]) rfl (fun w' hS => (rl 33 0 [uaa0, uaa1, uaa2, uaa3, uab0, uab1, uab2, uab3, uac0, uac1, uac2, uac3] hS.1)) ?_
 simp only [p3, p4]
 refine fv 43 (.pointer (some ⟨b2, 12, none⟩)) ?_
 simp only [p3, p4]
 refine fw 44 (.agg #[uba0, uba1, uba2, uba3, ubb0, ubb1, ubb2, ubb3, ubc0, ubc1, ubc2, ubc3]) rfl (fun w' hS => (rl 33 12 [uba0, uba1, uba2, uba3, ubb0, ubb1, ubb2, ubb3, ubc0, ubc1, ubc2, ubc3] hS.1)) ?_
 simp only [p3, p4]
 refine fw 46 (.agg #[p23, q23, r23, s23]) rfl (fun w' hS => (rl 31 0 [p23, q23, r23, s23] hS.2.2)) ?_
 simp only [p3, p4]
 refine flo_eff rfl rfl (fun w31 g31 _ K31 k31 => ?_)
 replace hB := hB.trans g31
 have kq33 := g20.kp.trans (g22.kp.trans (g23.kp.trans (g25.kp.trans (kp28.trans (gd30.kp.trans g31.kp)))))
 replace hua1 := hua1.kp kq33
 replace hua2 := hua2.kp kq33
 replace hua3 := hua3.kp kq33
 have kq34 := g6.kp.trans (g10.kp.trans (g12.kp.trans (g13.kp.trans (kp14.trans (gd16.kp.trans (g17.kp.trans (g18.kp.trans (g19.kp.trans (g20.kp.trans (g22.kp.trans (g23.kp.trans (g25.kp.trans (kp28.trans (gd30.kp.trans g31.kp))))))))))))))
 replace hub1 := hub1.kp kq34
 replace hub2 := hub2.kp kq34
 replace hub3 := hub3.kp kq34
 refine ec 45 (cross_v hua1 hua2 hua3 hub1 hub2 hub3 (by omega)) ?_
 rintro e32 w32 ⟨⟨t32_0, t32_1, t32_2, t32_3, t32_4, t32_5, t32_6, t32_7, t32_8, t32_9, t32_10, t32_11, rfl, h32a, h32b, h32c⟩, g32⟩
 refine ⟨_, rfl, ?_⟩
 replace hB := hB.trans g32
 replace L2 := L2.gr (g31.trans g32)
 replace L13 := L13.gr (g31.trans g32)
 replace L26 := L26.gr (g31.trans g32)
 refine k31 _ _ g32 ⟨L2, L13, L26⟩ ?_
 try clear k31 K31
 simp only [p3, p4]
 refine flo_eff rfl rfl (fun w35 g35 _ K35 k35 => ?_)
 replace hB := hB.trans g35
 replace h32a := h32a.kp g35.kp
 replace h32b := h32b.kp g35.kp
 replace h32c := h32c.kp g35.kp
 have kq37 := g25.kp.trans (kp28.trans (gd30.kp.trans (g31.kp.trans (g32.kp.trans g35.kp))))
 replace h23 := h23.kp kq37
 refine ec 47 (vscale_v h32a h32b h32c h23 (by omega)) ?_
 rintro e36 w36 ⟨⟨t36_0, t36_1, t36_2, t36_3, t36_4, t36_5, t36_6, t36_7, t36_8, t36_9, t36_10, t36_11, rfl, h36a, h36b, h36c⟩, g36⟩
 refine ⟨_, rfl, ?_⟩
 replace hB := hB.trans g36
 replace L2 := L2.gr (g35.trans g36)
 replace L13 := L13.gr (g35.trans g36)
 replace L26 := L26.gr (g35.trans g36)
 refine k35 _ _ g36 ⟨L2, L13, L26⟩ ?_
 try clear k35 K35
 simp only [p3, p4]
 refine fv 48 (.agg #[(.int .i64 2), t12_0, t12_1, t12_2, t12_3, t12_4, t12_5, t12_6, t12_7, t12_8, t12_9, t12_10, t12_11, t36_0, t36_1, t36_2, t36_3, t36_4, t36_5, t36_6, t36_7, t36_8, t36_9, t36_10, t36_11, (.bool false), (.slice none 0 0), (.bool false), (.slice none 0 0)]) ?_
 simp only [p3, p4]
 refine flo_nil (fun w38 g38 _ => ?_)
 replace hB := hB.trans g38
 refine floFin1 (fun b39 (L39 : Lc w38 b39 #[(.int .i64 0), (.bool false), (.slice none 0 0), (.bool false), (.slice none 0 0), (.bool false), (.slice none 0 0), (.bool false), (.slice none 0 0), (.bool false), (.slice none 0 0), (.bool false), (.slice none 0 0), (.bool false), (.slice none 0 0), (.bool false), (.slice none 0 0), (.bool false), (.slice none 0 0), (.bool false), (.slice none 0 0), (.bool false), (.slice none 0 0), (.bool false), (.slice none 0 0), (.bool false), (.slice none 0 0), (.bool false), (.slice none 0 0)] 38) q39  => ?_)
 have ne2_39 : b2 ≠ b39 := Nat.ne_of_lt (Nat.lt_of_lt_of_le lt2_30 q39)
 have ne3_39 : b3 ≠ b39 := Nat.ne_of_lt (Nat.lt_of_lt_of_le lt3_30 q39)
 have ne13_39 : b13 ≠ b39 := Nat.ne_of_lt (Nat.lt_of_lt_of_le lt13_30 q39)
 have ne26_39 : b26 ≠ b39 := Nat.ne_of_lt (Nat.lt_of_lt_of_le lt26_30 q39)
 replace q39 := Nat.le_trans hz30 q39
 simp only [putl, p3, p4]
 refine oe ?_
 refine es 38 0 (.agg #[(.int .i64 2), t12_0, t12_1, t12_2, t12_3, t12_4, t12_5, t12_6, t12_7, t12_8, t12_9, t12_10, t12_11, t36_0, t36_1, t36_2, t36_3, t36_4, t36_5, t36_6, t36_7, t36_8, t36_9, t36_10, t36_11, (.bool false), (.slice none 0 0), (.bool false), (.slice none 0 0)]) [(.int .i64 2), t12_0, t12_1, t12_2, t12_3, t12_4, t12_5, t12_6, t12_7, t12_8, t12_9, t12_10, t12_11, t36_0, t36_1, t36_2, t36_3, t36_4, t36_5, t36_6, t36_7, t36_8, t36_9, t36_10, t36_11, (.bool false), (.slice none 0 0), (.bool false), (.slice none 0 0)] #[(.int .i64 2), t12_0, t12_1, t12_2, t12_3, t12_4, t12_5, t12_6, t12_7, t12_8, t12_9, t12_10, t12_11, t36_0, t36_1, t36_2, t36_3, t36_4, t36_5, t36_6, t36_7, t36_8, t36_9, t36_10, t36_11, (.bool false), (.slice none 0 0), (.bool false), (.slice none 0 0)] L39 hB q39 ⟨rfl, h12a.one0, h12a.one1, h12a.one2, h12a.one3, h12b.one0, h12b.one1, h12b.one2, h12b.one3, h12c.one0, h12c.one1, h12c.one2, h12c.one3, h36a.one0, h36a.one1, h36a.one2, h36a.one3, h36b.one0, h36b.one1, h36b.one2, h36b.one3, h36c.one0, h36c.one1, h36c.one2, h36c.one3, rfl, rfl, rfl, rfl, trivial⟩ fun w41 st41 kp41 L39 hB => ?_
 replace L2 := st41.lc (L2.gr g38) ne2_39
 replace L13 := st41.lc (L13.gr g38) ne13_39
 replace L26 := st41.lc (L26.gr g38) ne26_39
 refine ⟨⟨L2, L13, L26⟩, ?_⟩
 refine ord_nil ?_
 refine k29 _ _ ?_
 try clear k29 K29
 refine wp_seq_k (fun K42 k42 => ?_)
 have gd52 := Gr.drew w41
 replace hB := hB.trans gd52
 replace L2 := L2.gr gd52
 replace L26 := L26.gr gd52
 refine wp_region_ord (fun w' => Lc w' b2 #[uaa0, uaa1, uaa2, uaa3, uab0, uab1, uab2, uab3, uac0, uac1, uac2, uac3, uba0, uba1, uba2, uba3, ubb0, ubb1, ubb2, ubb3, ubc0, ubc1, ubc2, ubc3] 35 ∧ Lc w' b26 #[p23, q23, r23, s23] 31) [(true, 0), (true, 1), (true, 2), (true, 3), (true, 5), (false, 4), (false, 6), (true, 7), (false, 8)] (by kernel_rfl) (by kernel_rfl) (by kernel_rfl) (by decide) (fun _ _ _ _ _ h => h) ⟨L2, L26⟩ ?_
 refine ov 49 (.pointer (some ⟨b2, 0, none⟩)) ?_
 simp only [p3, p4]
 refine ow 50 (.agg #[uaa0, uaa1, uaa2, uaa3, uab0, uab1, uab2, uab3, uac0, uac1, uac2, uac3]) rfl (fun w' hS => (rl 33 0 [uaa0, uaa1, uaa2, uaa3, uab0, uab1, uab2, uab3, uac0, uac1, uac2, uac3] hS.1)) ?_
 simp only [p3, p4]
 refine ov 51 (.pointer (some ⟨b2, 12, none⟩)) ?_
 simp only [p3, p4]
 refine ow 52 (.agg #[uba0, uba1, uba2, uba3, ubb0, ubb1, ubb2, ubb3, ubc0, ubc1, ubc2, ubc3]) rfl (fun w' hS => (rl 33 12 [uba0, uba1, uba2, uba3, ubb0, ubb1, ubb2, ubb3, ubc0, ubc1, ubc2, ubc3] hS.1)) ?_
 simp only [p3, p4]
 refine ow 54 (.agg #[p23, q23, r23, s23]) rfl (fun w' hS => (rl 31 0 [p23, q23, r23, s23] hS.2)) ?_
 simp only [p3, p4]
 refine oe ?_
 have kq55 := g32.kp.trans (g35.kp.trans (g36.kp.trans (g38.kp.trans (kp41.trans gd52.kp))))
 replace hua1 := hua1.kp kq55
 replace hua2 := hua2.kp kq55
 replace hua3 := hua3.kp kq55
 replace hub1 := hub1.kp kq55
 replace hub2 := hub2.kp kq55
 replace hub3 := hub3.kp kq55
 refine ec 53 (dot_v hua1 hua2 hua3 hub1 hub2 hub3 (by omega)) ?_
 rintro e54 w54 ⟨⟨p54, q54, r54, s54, rfl, h54⟩, g54⟩
 refine ⟨_, rfl, ?_⟩
 replace hB := hB.trans g54
 replace L2 := L2.gr g54
 replace L26 := L26.gr g54
 refine ⟨⟨L2, L26⟩, ?_⟩
 simp only [p3, p4]
 refine oe ?_
 have kq58 := g36.kp.trans (g38.kp.trans (kp41.trans (gd52.kp.trans g54.kp)))
 replace h23 := h23.kp kq58
 refine ec 55 (mul_r h54 h23 (by omega)) ?_
 rintro e57 w57 ⟨⟨p57, q57, r57, s57, rfl, h57⟩, g57⟩
 refine ⟨_, rfl, ?_⟩
 replace hB := hB.trans g57
 replace L2 := L2.gr g57
 replace L26 := L26.gr g57
 refine ⟨⟨L2, L26⟩, ?_⟩
 simp only [p3, p4]
 refine ov 56 (.pointer (some ⟨b39, 25, none⟩)) ?_
 simp only [p3, p4]
 refine oe ?_
 replace L39 := L39.gr (gd52.trans (g54.trans g57))
 refine es 31 25 (.agg #[p57, q57, r57, s57]) [p57, q57, r57, s57] #[(.int .i64 2), t12_0, t12_1, t12_2, t12_3, t12_4, t12_5, t12_6, t12_7, t12_8, t12_9, t12_10, t12_11, t36_0, t36_1, t36_2, t36_3, t36_4, t36_5, t36_6, t36_7, t36_8, t36_9, t36_10, t36_11, p57, q57, r57, s57] L39 hB q39 ⟨h57.one0, h57.one1, h57.one2, h57.one3, trivial⟩ fun w60 st60 kp60 L39 hB => ?_
 replace L2 := st60.lc L2 ne2_39
 replace L26 := st60.lc L26 ne26_39
 refine ⟨⟨L2, L26⟩, ?_⟩
 refine ord_nil ?_
 refine k42 _ _ ?_
 try clear k42 K42
 refine wp_seq_k (fun K61 k61 => ?_)
 refine wp_seq_k (fun K62 k62 => ?_)
 refine rg [0, 1, 2, 3] ?_
 refine sv 57 (.pointer (some ⟨b39, 25, none⟩)) ?_
 simp only [p3, p4]
 refine sw 58 (.agg #[p57, q57, r57, s57]) rfl (rl 31 25 [p57, q57, r57, s57] L39) ?_
 simp only [p3, p4]
 refine se ?_
 replace h57 := h57.kp kp60
 refine ec 59 (sign_r h57) ?_
 rintro e63 w63 ⟨rfl, g63⟩
 refine ⟨_, rfl, ?_⟩
 replace hB := hB.trans g63
 simp only [p3, p4]
 refine sw 60 (.bool true) rfl (RunV.bool (x := (sgn (((0 + a1 * d1 + a2 * d2 + a3 * d3) * ((((1 : Int) : Rat)) / (0 + a1 * a1 + a2 * a2 + a3 * a3)))).num != (0 : Int))) (rvk (by kernel_rfl)) e3) ?_
 simp only [p3, p4]
 refine sq_nil ?_
 refine k62 _ _ ?_
 try clear k62 K62
 refine wp_cond_true rfl ?_
 refine rg [0, 1] ?_
 refine sv 61 (.pointer (some ⟨b39, 0, none⟩)) ?_
 simp only [p3, p4]
 refine se ?_
 replace L39 := L39.gr g63
 refine es 3 0 (.int .i64 3) [(.int .i64 3)] #[(.int .i64 3), t12_0, t12_1, t12_2, t12_3, t12_4, t12_5, t12_6, t12_7, t12_8, t12_9, t12_10, t12_11, t36_0, t36_1, t36_2, t36_3, t36_4, t36_5, t36_6, t36_7, t36_8, t36_9, t36_10, t36_11, p57, q57, r57, s57] L39 hB q39 ⟨rfl, trivial⟩ fun w64 st64 kp64 L39 hB => ?_
 refine sq_nil ?_
 refine k61 _ _ ?_
 try clear k61 K61
 refine wp_seq_k (fun K65 k65 => ?_)
 refine rg [0, 1] ?_
 refine sw 62 (.agg #[(.int .i64 3), t12_0, t12_1, t12_2, t12_3, t12_4, t12_5, t12_6, t12_7, t12_8, t12_9, t12_10, t12_11, t36_0, t36_1, t36_2, t36_3, t36_4, t36_5, t36_6, t36_7, t36_8, t36_9, t36_10, t36_11, p57, q57, r57, s57]) rfl (rl 38 0 [(.int .i64 3), t12_0, t12_1, t12_2, t12_3, t12_4, t12_5, t12_6, t12_7, t12_8, t12_9, t12_10, t12_11, t36_0, t36_1, t36_2, t36_3, t36_4, t36_5, t36_6, t36_7, t36_8, t36_9, t36_10, t36_11, p57, q57, r57, s57] L39) ?_
 simp only [p3, p4]
 refine se ?_
 replace L3 := st64.lc ((st60.lc ((st41.lc (L3.gr (gd30.trans (g31.trans (g32.trans (g35.trans (g36.trans g38)))))) ne3_39).gr (gd52.trans (g54.trans g57))) ne3_39).gr g63) ne3_39
 refine es 38 0 (.agg #[(.int .i64 3), t12_0, t12_1, t12_2, t12_3, t12_4, t12_5, t12_6, t12_7, t12_8, t12_9, t12_10, t12_11, t36_0, t36_1, t36_2, t36_3, t36_4, t36_5, t36_6, t36_7, t36_8, t36_9, t36_10, t36_11, p57, q57, r57, s57]) [(.int .i64 3), t12_0, t12_1, t12_2, t12_3, t12_4, t12_5, t12_6, t12_7, t12_8, t12_9, t12_10, t12_11, t36_0, t36_1, t36_2, t36_3, t36_4, t36_5, t36_6, t36_7, t36_8, t36_9, t36_10, t36_11, p57, q57, r57, s57] #[(.int .i64 3), t12_0, t12_1, t12_2, t12_3, t12_4, t12_5, t12_6, t12_7, t12_8, t12_9, t12_10, t12_11, t36_0, t36_1, t36_2, t36_3, t36_4, t36_5, t36_6, t36_7, t36_8, t36_9, t36_10, t36_11, p57, q57, r57, s57] L3 hB q3 ⟨rfl, h12a.one0, h12a.one1, h12a.one2, h12a.one3, h12b.one0, h12b.one1, h12b.one2, h12b.one3, h12c.one0, h12c.one1, h12c.one2, h12c.one3, h36a.one0, h36a.one1, h36a.one2, h36a.one3, h36b.one0, h36b.one1, h36b.one2, h36b.one3, h36c.one0, h36c.one1, h36c.one2, h36c.one3, h57.one0, h57.one1, h57.one2, h57.one3, trivial⟩ fun w66 st66 kp66 L3 hB => ?_
 refine sq_nil ?_
 refine k65 _ _ ?_
 try clear k65 K65
 refine wp_ret ?_
 refine bodyPost_ret (v := (.agg #[(.int .i64 3), t12_0, t12_1, t12_2, t12_3, t12_4, t12_5, t12_6, t12_7, t12_8, t12_9, t12_10, t12_11, t36_0, t36_1, t36_2, t36_3, t36_4, t36_5, t36_6, t36_7, t36_8, t36_9, t36_10, t36_11, p57, q57, r57, s57])) (ret_cell _ _ _ rfl rfl L3 (by kernel_rfl)) rfl ⟨?_, hB⟩
 have kq67 := g13.kp.trans (kp14.trans (gd16.kp.trans (g17.kp.trans (g18.kp.trans (g19.kp.trans (g20.kp.trans (g22.kp.trans (g23.kp.trans (g25.kp.trans (kp28.trans (gd30.kp.trans (g31.kp.trans (g32.kp.trans (g35.kp.trans (g36.kp.trans (g38.kp.trans (kp41.trans (gd52.kp.trans (g54.kp.trans (g57.kp.trans (kp60.trans (g63.kp.trans (kp64.trans kp66)))))))))))))))))))))))
 replace h12a := h12a.kp kq67
 replace h12b := h12b.kp kq67
 replace h12c := h12c.kp kq67
 have kq68 := g38.kp.trans (kp41.trans (gd52.kp.trans (g54.kp.trans (g57.kp.trans (kp60.trans (g63.kp.trans (kp64.trans kp66)))))))
 replace h36a := h36a.kp kq68
 replace h36b := h36b.kp kq68
 replace h36c := h36c.kp kq68
 have kq69 := g63.kp.trans (kp64.trans kp66)
 replace h57 := h57.kp kq69
 exact ⟨_, _, _, _, _, _, _, _, _, _, _, _, _, _, _, _, _, _, _, _, _, _, _, _, _, _, _, _, rfl, h12a.mono (by omega), h12b.mono (by omega), h12c.mono (by omega), h36a.mono (by omega), h36b.mono (by omega), h36c.mono (by omega), h57.mono (by omega)⟩

end Go.Proofs.YtgopfikljndklaaDoor
