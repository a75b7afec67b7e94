/- Printed by a program of the prover's: the comparisons of vectors. -/
import Derived.Test.YtgopfikljndklaaDoorGen5
namespace Go.Proofs.YtgopfikljndklaaDoor
open Go.RowKit

/-- the order of two vectors -/
def vcmp (a1 a2 a3 c1 c2 c3 : Rat) : Int := if rcmp a1 c1 = 0 then if rcmp a2 c2 = 0 then rcmp a3 c3 else rcmp a2 c2 else rcmp a1 c1
theorem vcmp_zero {a1 a2 a3 c1 c2 c3 : Rat} : vcmp a1 a2 a3 c1 c2 c3 = 0 ↔ a1 = c1 ∧ a2 = c2 ∧ a3 = c3 := by
  unfold vcmp
  rw [← rcmp_zero (a := a1), ← rcmp_zero (a := a2), ← rcmp_zero (a := a3)]
  split
  · split <;> simp_all
  · simp_all

set_option maxRecDepth 100000 in
set_option maxHeartbeats 1000000 in
theorem vcomp_1 {k m : Nat} {uaa0 uaa1 uaa2 uaa3 uab0 uab1 uab2 uab3 uac0 uac1 uac2 uac3 : Value} {a1 a2 a3 : Rat} {vaa0 vaa1 vaa2 vaa3 vab0 vab1 vab2 vab3 vac0 vac1 vac2 vac3 : Value} {c1 c2 c3 : Rat} {w : World} (hua1 : IsRat w k uaa0 uaa1 uaa2 uaa3 a1) (_hua2 : IsRat w k uab0 uab1 uab2 uab3 a2) (_hua3 : IsRat w k uac0 uac1 uac2 uac3 a3) (hva1 : IsRat w m vaa0 vaa1 vaa2 vaa3 c1) (_hva2 : IsRat w m vab0 vab1 vab2 vab3 c2) (_hva3 : IsRat w m vac0 vac1 vac2 vac3 c3) (_hk : k + m ≤ 100000) (e1 : (rcmp a1 c1 != (0 : Int)) = true) :
    Calls Tryd.prog 42 #[(.agg #[uaa0, uaa1, uaa2, uaa3, uab0, uab1, uab2, uab3, uac0, uac1, uac2, uac3]), (.agg #[vaa0, vaa1, vaa2, vaa3, vab0, vab1, vab2, vab3, vac0, vac1, vac2, vac3])] w fun e w' => e = .returned (.int .i64 (rcmp a1 c1)) ∧ Gr w w' := by
 go_enter Tryd.func42, Tryd.ntmps42
 have hB := Gr.refl w
 refine wp_seq_k (fun K1 k1 => ?_)
 refine rg [0, 1, 2] ?_
 refine se ?_
 refine eb 33 #[uaa0, uaa1, uaa2, uaa3, uab0, uab1, uab2, uab3, uac0, uac1, uac2, uac3] 2 hB fun b2 w2 g2 L2 o2 q2 hB => ?_
 simp only [p3, p4]
 refine se ?_
 refine eb 33 #[vaa0, vaa1, vaa2, vaa3, vab0, vab1, vab2, vab3, vac0, vac1, vac2, vac3] 3 hB fun b3 w3 g3 L3 o3 q3 hB => ?_
 simp only [p3, p4]
 refine sv 4 (.int .i64 0) ?_
 simp only [p3, p4]
 refine sq_nil ?_
 refine k1 _ _ ?_
 try clear k1 K1
 refine wp_seq_k (fun K4 k4 => ?_)
 refine wp_seq_k (fun K5 k5 => ?_)
 refine rg [0] ?_
 refine sv 7 (.int .i64 0) ?_
 simp only [p3, p4]
 refine sq_nil ?_
 refine k5 _ _ ?_
 try clear k5 K5
 refine wp_block ?_
 refine wp_loop_rounds 4 ?_
 show Code.wp _ _ _ _ _
 refine wp_seq_k (fun K6 k6 => ?_)
 refine rg [0] ?_
 refine sv 8 (.bool true) ?_
 simp only [p3, p4]
 refine sq_nil ?_
 refine k6 _ _ ?_
 try clear k6 K6
 refine wp_seq_k (fun K7 k7 => ?_)
 refine wp_cond_true rfl ?_
 refine wp_skip ?_
 refine k7 _ _ ?_
 try clear k7 K7
 refine wp_seq_k (fun K8 k8 => ?_)
 refine wp_block ?_
 refine wp_seq_k (fun K9 k9 => ?_)
 refine rg [0, 1] ?_
 refine sv 9 (.int .i64 0) ?_
 simp only [p3, p4]
 refine sv 5 (.int .i64 0) ?_
 simp only [p3, p4]
 refine sq_nil ?_
 refine k9 _ _ ?_
 try clear k9 K9
 refine wp_seq_k (fun K10 k10 => ?_)
 have gd15 := Gr.drew w3
 replace hB := hB.trans gd15
 replace L2 := L2.gr (g3.trans gd15)
 replace L3 := L3.gr gd15
 refine wp_region_ord (fun w' => Lc w' b2 #[uaa0, uaa1, uaa2, uaa3, uab0, uab1, uab2, uab3, uac0, uac1, uac2, uac3] 33 ∧ Lc w' b3 #[vaa0, vaa1, vaa2, vaa3, vab0, vab1, vab2, vab3, vac0, vac1, vac2, vac3] 33) [(true, 0), (true, 1), (true, 2), (true, 3), (true, 4), (true, 5), (false, 6), (true, 7)] (by kernel_rfl) (by kernel_rfl) (by kernel_rfl) (by decide) (fun _ _ _ _ _ h => h) ⟨L2, L3⟩ ?_
 refine ov 10 (.int .i64 0) ?_
 simp only [p3, p4]
 refine ov 11 (.pointer (some ⟨b2, 0, none⟩)) ?_
 simp only [p3, p4]
 refine ow 12 (.agg #[uaa0, uaa1, uaa2, uaa3]) rfl (fun w' hS => (rl 31 0 [uaa0, uaa1, uaa2, uaa3] hS.1)) ?_
 simp only [p3, p4]
 refine ov 13 (.int .i64 0) ?_
 simp only [p3, p4]
 refine ov 14 (.pointer (some ⟨b3, 0, none⟩)) ?_
 simp only [p3, p4]
 refine ow 15 (.agg #[vaa0, vaa1, vaa2, vaa3]) rfl (fun w' hS => (rl 31 0 [vaa0, vaa1, vaa2, vaa3] hS.2)) ?_
 simp only [p3, p4]
 refine oe ?_
 have kq18 := g2.kp.trans (g3.kp.trans gd15.kp)
 replace hua1 := hua1.kp kq18
 replace hva1 := hva1.kp kq18
 refine ec 16 (compare_r hua1 hva1 (by omega)) ?_
 rintro e17 w17 ⟨rfl, g17⟩
 refine ⟨_, rfl, ?_⟩
 replace hB := hB.trans g17
 replace L2 := L2.gr g17
 replace L3 := L3.gr g17
 refine ⟨⟨L2, L3⟩, ?_⟩
 simp only [p3, p4]
 refine ov 6 (.int .i64 (rcmp a1 c1)) ?_
 simp only [p3, p4]
 refine ord_nil ?_
 refine k10 _ _ ?_
 try clear k10 K10
 refine wp_seq_k (fun K19 k19 => ?_)
 refine rg [0, 1] ?_
 refine sv 17 (.int .i64 (rcmp a1 c1)) ?_
 simp only [p3, p4]
 refine sw 18 (.bool true) rfl (RunV.bool (x := (rcmp a1 c1 != (0 : Int))) (rvk (by kernel_rfl)) e1) ?_
 simp only [p3, p4]
 refine sq_nil ?_
 refine k19 _ _ ?_
 try clear k19 K19
 refine wp_cond_true rfl ?_
 refine wp_seq_k (fun K20 k20 => ?_)
 refine rg [0, 1] ?_
 refine sv 19 (.int .i64 (rcmp a1 c1)) ?_
 simp only [p3, p4]
 refine sv 4 (.int .i64 (rcmp a1 c1)) ?_
 simp only [p3, p4]
 refine sq_nil ?_
 refine k20 _ _ ?_
 try clear k20 K20
 refine wp_ret ?_
 simp only [Exit.then, Exit.inBlock]
 refine bodyPost_ret (v := (.int .i64 (rcmp a1 c1))) (ret_tmp rfl rfl) rfl ⟨?_, hB⟩
 exact rfl

set_option maxRecDepth 100000 in
set_option maxHeartbeats 1000000 in
theorem vcomp_2 {k m : Nat} {uaa0 uaa1 uaa2 uaa3 uab0 uab1 uab2 uab3 uac0 uac1 uac2 uac3 : Value} {a1 a2 a3 : Rat} {vaa0 vaa1 vaa2 vaa3 vab0 vab1 vab2 vab3 vac0 vac1 vac2 vac3 : Value} {c1 c2 c3 : Rat} {w : World} (hua1 : IsRat w k uaa0 uaa1 uaa2 uaa3 a1) (hua2 : IsRat w k uab0 uab1 uab2 uab3 a2) (_hua3 : IsRat w k uac0 uac1 uac2 uac3 a3) (hva1 : IsRat w m vaa0 vaa1 vaa2 vaa3 c1) (hva2 : IsRat w m vab0 vab1 vab2 vab3 c2) (_hva3 : IsRat w m vac0 vac1 vac2 vac3 c3) (_hk : k + m ≤ 100000) (e1 : (rcmp a1 c1 != (0 : Int)) = false) (e2 : (rcmp a2 c2 != (0 : Int)) = true) :
    Calls Tryd.prog 42 #[(.agg #[uaa0, uaa1, uaa2, uaa3, uab0, uab1, uab2, uab3, uac0, uac1, uac2, uac3]), (.agg #[vaa0, vaa1, vaa2, vaa3, vab0, vab1, vab2, vab3, vac0, vac1, vac2, vac3])] w fun e w' => e = .returned (.int .i64 (rcmp a2 c2)) ∧ Gr w w' := by
 go_enter Tryd.func42, Tryd.ntmps42
 have hB := Gr.refl w
 refine wp_seq_k (fun K1 k1 => ?_)
 refine rg [0, 1, 2] ?_
 refine se ?_
 refine eb 33 #[uaa0, uaa1, uaa2, uaa3, uab0, uab1, uab2, uab3, uac0, uac1, uac2, uac3] 2 hB fun b2 w2 g2 L2 o2 q2 hB => ?_
 simp only [p3, p4]
 refine se ?_
 refine eb 33 #[vaa0, vaa1, vaa2, vaa3, vab0, vab1, vab2, vab3, vac0, vac1, vac2, vac3] 3 hB fun b3 w3 g3 L3 o3 q3 hB => ?_
 simp only [p3, p4]
 refine sv 4 (.int .i64 0) ?_
 simp only [p3, p4]
 refine sq_nil ?_
 refine k1 _ _ ?_
 try clear k1 K1
 refine wp_seq_k (fun K4 k4 => ?_)
 refine wp_seq_k (fun K5 k5 => ?_)
 refine rg [0] ?_
 refine sv 7 (.int .i64 0) ?_
 simp only [p3, p4]
 refine sq_nil ?_
 refine k5 _ _ ?_
 try clear k5 K5
 refine wp_block ?_
 refine wp_loop_rounds 4 ?_
 show Code.wp _ _ _ _ _
 refine wp_seq_k (fun K6 k6 => ?_)
 refine rg [0] ?_
 refine sv 8 (.bool true) ?_
 simp only [p3, p4]
 refine sq_nil ?_
 refine k6 _ _ ?_
 try clear k6 K6
 refine wp_seq_k (fun K7 k7 => ?_)
 refine wp_cond_true rfl ?_
 refine wp_skip ?_
 refine k7 _ _ ?_
 try clear k7 K7
 refine wp_seq_k (fun K8 k8 => ?_)
 refine wp_block ?_
 refine wp_seq_k (fun K9 k9 => ?_)
 refine rg [0, 1] ?_
 refine sv 9 (.int .i64 0) ?_
 simp only [p3, p4]
 refine sv 5 (.int .i64 0) ?_
 simp only [p3, p4]
 refine sq_nil ?_
 refine k9 _ _ ?_
 try clear k9 K9
 refine wp_seq_k (fun K10 k10 => ?_)
 have gd15 := Gr.drew w3
 replace hB := hB.trans gd15
 replace L2 := L2.gr (g3.trans gd15)
 replace L3 := L3.gr gd15
 refine wp_region_ord (fun w' => Lc w' b2 #[uaa0, uaa1, uaa2, uaa3, uab0, uab1, uab2, uab3, uac0, uac1, uac2, uac3] 33 ∧ Lc w' b3 #[vaa0, vaa1, vaa2, vaa3, vab0, vab1, vab2, vab3, vac0, vac1, vac2, vac3] 33) [(true, 0), (true, 1), (true, 2), (true, 3), (true, 4), (true, 5), (false, 6), (true, 7)] (by kernel_rfl) (by kernel_rfl) (by kernel_rfl) (by decide) (fun _ _ _ _ _ h => h) ⟨L2, L3⟩ ?_
 refine ov 10 (.int .i64 0) ?_
 simp only [p3, p4]
 refine ov 11 (.pointer (some ⟨b2, 0, none⟩)) ?_
 simp only [p3, p4]
 refine ow 12 (.agg #[uaa0, uaa1, uaa2, uaa3]) rfl (fun w' hS => (rl 31 0 [uaa0, uaa1, uaa2, uaa3] hS.1)) ?_
 simp only [p3, p4]
 refine ov 13 (.int .i64 0) ?_
 simp only [p3, p4]
 refine ov 14 (.pointer (some ⟨b3, 0, none⟩)) ?_
 simp only [p3, p4]
 refine ow 15 (.agg #[vaa0, vaa1, vaa2, vaa3]) rfl (fun w' hS => (rl 31 0 [vaa0, vaa1, vaa2, vaa3] hS.2)) ?_
 simp only [p3, p4]
 refine oe ?_
 have kq18 := g2.kp.trans (g3.kp.trans gd15.kp)
 replace hua1 := hua1.kp kq18
 replace hva1 := hva1.kp kq18
 refine ec 16 (compare_r hua1 hva1 (by omega)) ?_
 rintro e17 w17 ⟨rfl, g17⟩
 refine ⟨_, rfl, ?_⟩
 replace hB := hB.trans g17
 replace L2 := L2.gr g17
 replace L3 := L3.gr g17
 refine ⟨⟨L2, L3⟩, ?_⟩
 simp only [p3, p4]
 refine ov 6 (.int .i64 (rcmp a1 c1)) ?_
 simp only [p3, p4]
 refine ord_nil ?_
 refine k10 _ _ ?_
 try clear k10 K10
 refine wp_seq_k (fun K19 k19 => ?_)
 refine rg [0, 1] ?_
 refine sv 17 (.int .i64 (rcmp a1 c1)) ?_
 simp only [p3, p4]
 refine sw 18 (.bool false) rfl (RunV.bool (x := (rcmp a1 c1 != (0 : Int))) (rvk (by kernel_rfl)) e1) ?_
 simp only [p3, p4]
 refine sq_nil ?_
 refine k19 _ _ ?_
 try clear k19 K19
 refine wp_cond_false rfl ?_
 refine wp_skip ?_
 refine k8 _ _ ?_
 try clear k8 K8
 refine rg [0, 1] ?_
 refine sv 20 (.int .i64 1) ?_
 simp only [p3, p4]
 refine sv 7 (.int .i64 1) ?_
 simp only [p3, p4]
 refine sq_nil ?_
 show Code.rounds _ _ _ _ _ _
 show Code.wp _ _ _ _ _
 refine wp_seq_k (fun K20 k20 => ?_)
 refine rg [0] ?_
 refine sv 8 (.bool true) ?_
 simp only [p3, p4]
 refine sq_nil ?_
 refine k20 _ _ ?_
 try clear k20 K20
 refine wp_seq_k (fun K21 k21 => ?_)
 refine wp_cond_true rfl ?_
 refine wp_skip ?_
 refine k21 _ _ ?_
 try clear k21 K21
 refine wp_seq_k (fun K22 k22 => ?_)
 refine wp_block ?_
 refine wp_seq_k (fun K23 k23 => ?_)
 refine rg [0, 1] ?_
 refine sv 9 (.int .i64 1) ?_
 simp only [p3, p4]
 refine sv 5 (.int .i64 1) ?_
 simp only [p3, p4]
 refine sq_nil ?_
 refine k23 _ _ ?_
 try clear k23 K23
 refine wp_seq_k (fun K24 k24 => ?_)
 have gd29 := Gr.drew w17
 replace hB := hB.trans gd29
 replace L2 := L2.gr gd29
 replace L3 := L3.gr gd29
 refine wp_region_ord (fun w' => Lc w' b2 #[uaa0, uaa1, uaa2, uaa3, uab0, uab1, uab2, uab3, uac0, uac1, uac2, uac3] 33 ∧ Lc w' b3 #[vaa0, vaa1, vaa2, vaa3, vab0, vab1, vab2, vab3, vac0, vac1, vac2, vac3] 33) [(true, 0), (true, 1), (true, 2), (true, 3), (true, 4), (true, 5), (false, 6), (true, 7)] (by kernel_rfl) (by kernel_rfl) (by kernel_rfl) (by decide) (fun _ _ _ _ _ h => h) ⟨L2, L3⟩ ?_
 refine ov 10 (.int .i64 1) ?_
 simp only [p3, p4]
 refine ov 11 (.pointer (some ⟨b2, 4, none⟩)) ?_
 simp only [p3, p4]
 refine ow 12 (.agg #[uab0, uab1, uab2, uab3]) rfl (fun w' hS => (rl 31 4 [uab0, uab1, uab2, uab3] hS.1)) ?_
 simp only [p3, p4]
 refine ov 13 (.int .i64 1) ?_
 simp only [p3, p4]
 refine ov 14 (.pointer (some ⟨b3, 4, none⟩)) ?_
 simp only [p3, p4]
 refine ow 15 (.agg #[vab0, vab1, vab2, vab3]) rfl (fun w' hS => (rl 31 4 [vab0, vab1, vab2, vab3] hS.2)) ?_
 simp only [p3, p4]
 refine oe ?_
 have kq32 := g2.kp.trans (g3.kp.trans (gd15.kp.trans (g17.kp.trans gd29.kp)))
 replace hua2 := hua2.kp kq32
 replace hva2 := hva2.kp kq32
 refine ec 16 (compare_r hua2 hva2 (by omega)) ?_
 rintro e31 w31 ⟨rfl, g31⟩
 refine ⟨_, rfl, ?_⟩
 replace hB := hB.trans g31
 replace L2 := L2.gr g31
 replace L3 := L3.gr g31
 refine ⟨⟨L2, L3⟩, ?_⟩
 simp only [p3, p4]
 refine ov 6 (.int .i64 (rcmp a2 c2)) ?_
 simp only [p3, p4]
 refine ord_nil ?_
 refine k24 _ _ ?_
 try clear k24 K24
 refine wp_seq_k (fun K33 k33 => ?_)
 refine rg [0, 1] ?_
 refine sv 17 (.int .i64 (rcmp a2 c2)) ?_
 simp only [p3, p4]
 refine sw 18 (.bool true) rfl (RunV.bool (x := (rcmp a2 c2 != (0 : Int))) (rvk (by kernel_rfl)) e2) ?_
 simp only [p3, p4]
 refine sq_nil ?_
 refine k33 _ _ ?_
 try clear k33 K33
 refine wp_cond_true rfl ?_
 refine wp_seq_k (fun K34 k34 => ?_)
 refine rg [0, 1] ?_
 refine sv 19 (.int .i64 (rcmp a2 c2)) ?_
 simp only [p3, p4]
 refine sv 4 (.int .i64 (rcmp a2 c2)) ?_
 simp only [p3, p4]
 refine sq_nil ?_
 refine k34 _ _ ?_
 try clear k34 K34
 refine wp_ret ?_
 simp only [Exit.then, Exit.inBlock]
 refine bodyPost_ret (v := (.int .i64 (rcmp a2 c2))) (ret_tmp rfl rfl) rfl ⟨?_, hB⟩
 exact rfl

set_option maxRecDepth 100000 in
set_option maxHeartbeats 1000000 in
theorem vcomp_3 {k m : Nat} {uaa0 uaa1 uaa2 uaa3 uab0 uab1 uab2 uab3 uac0 uac1 uac2 uac3 : Value} {a1 a2 a3 : Rat} {vaa0 vaa1 vaa2 vaa3 vab0 vab1 vab2 vab3 vac0 vac1 vac2 vac3 : Value} {c1 c2 c3 : Rat} {w : World} (hua1 : IsRat w k uaa0 uaa1 uaa2 uaa3 a1) (hua2 : IsRat w k uab0 uab1 uab2 uab3 a2) (hua3 : IsRat w k uac0 uac1 uac2 uac3 a3) (hva1 : IsRat w m vaa0 vaa1 vaa2 vaa3 c1) (hva2 : IsRat w m vab0 vab1 vab2 vab3 c2) (hva3 : IsRat w m vac0 vac1 vac2 vac3 c3) (_hk : k + m ≤ 100000) (e1 : (rcmp a1 c1 != (0 : Int)) = false) (e2 : (rcmp a2 c2 != (0 : Int)) = false) (e3 : (rcmp a3 c3 != (0 : Int)) = true) :
    Calls Tryd.prog 42 #[(.agg #[uaa0, uaa1, uaa2, uaa3, uab0, uab1, uab2, uab3, uac0, uac1, uac2, uac3]), (.agg #[vaa0, vaa1, vaa2, vaa3, vab0, vab1, vab2, vab3, vac0, vac1, vac2, vac3])] w fun e w' => e = .returned (.int .i64 (rcmp a3 c3)) ∧ Gr w w' := by
 go_enter Tryd.func42, Tryd.ntmps42
 have hB := Gr.refl w
 refine wp_seq_k (fun K1 k1 => ?_)
 refine rg [0, 1, 2] ?_
 refine se ?_
 refine eb 33 #[uaa0, uaa1, uaa2, uaa3, uab0, uab1, uab2, uab3, uac0, uac1, uac2, uac3] 2 hB fun b2 w2 g2 L2 o2 q2 hB => ?_
 simp only [p3, p4]
 refine se ?_
 refine eb 33 #[vaa0, vaa1, vaa2, vaa3, vab0, vab1, vab2, vab3, vac0, vac1, vac2, vac3] 3 hB fun b3 w3 g3 L3 o3 q3 hB => ?_
 simp only [p3, p4]
 refine sv 4 (.int .i64 0) ?_
 simp only [p3, p4]
 refine sq_nil ?_
 refine k1 _ _ ?_
 try clear k1 K1
 refine wp_seq_k (fun K4 k4 => ?_)
 refine wp_seq_k (fun K5 k5 => ?_)
 refine rg [0] ?_
 refine sv 7 (.int .i64 0) ?_
 simp only [p3, p4]
 refine sq_nil ?_
 refine k5 _ _ ?_
 try clear k5 K5
 refine wp_block ?_
 refine wp_loop_rounds 4 ?_
 show Code.wp _ _ _ _ _
 refine wp_seq_k (fun K6 k6 => ?_)
 refine rg [0] ?_
 refine sv 8 (.bool true) ?_
 simp only [p3, p4]
 refine sq_nil ?_
 refine k6 _ _ ?_
 try clear k6 K6
 refine wp_seq_k (fun K7 k7 => ?_)
 refine wp_cond_true rfl ?_
 refine wp_skip ?_
 refine k7 _ _ ?_
 try clear k7 K7
 refine wp_seq_k (fun K8 k8 => ?_)
 refine wp_block ?_
 refine wp_seq_k (fun K9 k9 => ?_)
 refine rg [0, 1] ?_
 refine sv 9 (.int .i64 0) ?_
 simp only [p3, p4]
 refine sv 5 (.int .i64 0) ?_
 simp only [p3, p4]
 refine sq_nil ?_
 refine k9 _ _ ?_
 try clear k9 K9
 refine wp_seq_k (fun K10 k10 => ?_)
 have gd15 := Gr.drew w3
 replace hB := hB.trans gd15
 replace L2 := L2.gr (g3.trans gd15)
 replace L3 := L3.gr gd15
 refine wp_region_ord (fun w' => Lc w' b2 #[uaa0, uaa1, uaa2, uaa3, uab0, uab1, uab2, uab3, uac0, uac1, uac2, uac3] 33 ∧ Lc w' b3 #[vaa0, vaa1, vaa2, vaa3, vab0, vab1, vab2, vab3, vac0, vac1, vac2, vac3] 33) [(true, 0), (true, 1), (true, 2), (true, 3), (true, 4), (true, 5), (false, 6), (true, 7)] (by kernel_rfl) (by kernel_rfl) (by kernel_rfl) (by decide) (fun _ _ _ _ _ h => h) ⟨L2, L3⟩ ?_
 refine ov 10 (.int .i64 0) ?_
 simp only [p3, p4]
 refine ov 11 (.pointer (some ⟨b2, 0, none⟩)) ?_
 simp only [p3, p4]
 refine ow 12 (.agg #[uaa0, uaa1, uaa2, uaa3]) rfl (fun w' hS => (rl 31 0 [uaa0, uaa1, uaa2, uaa3] hS.1)) ?_
 simp only [p3, p4]
 refine ov 13 (.int .i64 0) ?_
 simp only [p3, p4]
 refine ov 14 (.pointer (some ⟨b3, 0, none⟩)) ?_
 simp only [p3, p4]
 refine ow 15 (.agg #[vaa0, vaa1, vaa2, vaa3]) rfl (fun w' hS => (rl 31 0 [vaa0, vaa1, vaa2, vaa3] hS.2)) ?_
 simp only [p3, p4]
 refine oe ?_
 have kq18 := g2.kp.trans (g3.kp.trans gd15.kp)
 replace hua1 := hua1.kp kq18
 replace hva1 := hva1.kp kq18
 refine ec 16 (compare_r hua1 hva1 (by omega)) ?_
 rintro e17 w17 ⟨rfl, g17⟩
 refine ⟨_, rfl, ?_⟩
 replace hB := hB.trans g17
 replace L2 := L2.gr g17
 replace L3 := L3.gr g17
 refine ⟨⟨L2, L3⟩, ?_⟩
 simp only [p3, p4]
 refine ov 6 (.int .i64 (rcmp a1 c1)) ?_
 simp only [p3, p4]
 refine ord_nil ?_
 refine k10 _ _ ?_
 try clear k10 K10
 refine wp_seq_k (fun K19 k19 => ?_)
 refine rg [0, 1] ?_
 refine sv 17 (.int .i64 (rcmp a1 c1)) ?_
 simp only [p3, p4]
 refine sw 18 (.bool false) rfl (RunV.bool (x := (rcmp a1 c1 != (0 : Int))) (rvk (by kernel_rfl)) e1) ?_
 simp only [p3, p4]
 refine sq_nil ?_
 refine k19 _ _ ?_
 try clear k19 K19
 refine wp_cond_false rfl ?_
 refine wp_skip ?_
 refine k8 _ _ ?_
 try clear k8 K8
 refine rg [0, 1] ?_
 refine sv 20 (.int .i64 1) ?_
 simp only [p3, p4]
 refine sv 7 (.int .i64 1) ?_
 simp only [p3, p4]
 refine sq_nil ?_
 show Code.rounds _ _ _ _ _ _
 show Code.wp _ _ _ _ _
 refine wp_seq_k (fun K20 k20 => ?_)
 refine rg [0] ?_
 refine sv 8 (.bool true) ?_
 simp only [p3, p4]
 refine sq_nil ?_
 refine k20 _ _ ?_
 try clear k20 K20
 refine wp_seq_k (fun K21 k21 => ?_)
 refine wp_cond_true rfl ?_
 refine wp_skip ?_
 refine k21 _ _ ?_
 try clear k21 K21
 refine wp_seq_k (fun K22 k22 => ?_)
 refine wp_block ?_
 refine wp_seq_k (fun K23 k23 => ?_)
 refine rg [0, 1] ?_
 refine sv 9 (.int .i64 1) ?_
 simp only [p3, p4]
 refine sv 5 (.int .i64 1) ?_
 simp only [p3, p4]
 refine sq_nil ?_
 refine k23 _ _ ?_
 try clear k23 K23
 refine wp_seq_k (fun K24 k24 => ?_)
 have gd29 := Gr.drew w17
 replace hB := hB.trans gd29
 replace L2 := L2.gr gd29
 replace L3 := L3.gr gd29
 refine wp_region_ord (fun w' => Lc w' b2 #[uaa0, uaa1, uaa2, uaa3, uab0, uab1, uab2, uab3, uac0, uac1, uac2, uac3] 33 ∧ Lc w' b3 #[vaa0, vaa1, vaa2, vaa3, vab0, vab1, vab2, vab3, vac0, vac1, vac2, vac3] 33) [(true, 0), (true, 1), (true, 2), (true, 3), (true, 4), (true, 5), (false, 6), (true, 7)] (by kernel_rfl) (by kernel_rfl) (by kernel_rfl) (by decide) (fun _ _ _ _ _ h => h) ⟨L2, L3⟩ ?_
 refine ov 10 (.int .i64 1) ?_
 simp only [p3, p4]
 refine ov 11 (.pointer (some ⟨b2, 4, none⟩)) ?_
 simp only [p3, p4]
 refine ow 12 (.agg #[uab0, uab1, uab2, uab3]) rfl (fun w' hS => (rl 31 4 [uab0, uab1, uab2, uab3] hS.1)) ?_
 simp only [p3, p4]
 refine ov 13 (.int .i64 1) ?_
 simp only [p3, p4]
 refine ov 14 (.pointer (some ⟨b3, 4, none⟩)) ?_
 simp only [p3, p4]
 refine ow 15 (.agg #[vab0, vab1, vab2, vab3]) rfl (fun w' hS => (rl 31 4 [vab0, vab1, vab2, vab3] hS.2)) ?_
 simp only [p3, p4]
 refine oe ?_
 have kq32 := g2.kp.trans (g3.kp.trans (gd15.kp.trans (g17.kp.trans gd29.kp)))
 replace hua2 := hua2.kp kq32
 replace hva2 := hva2.kp kq32
 refine ec 16 (compare_r hua2 hva2 (by omega)) ?_
 rintro e31 w31 ⟨rfl, g31⟩
 refine ⟨_, rfl, ?_⟩
 replace hB := hB.trans g31
 replace L2 := L2.gr g31
 replace L3 := L3.gr g31
 refine ⟨⟨L2, L3⟩, ?_⟩
 simp only [p3, p4]
 refine ov 6 (.int .i64 (rcmp a2 c2)) ?_
 simp only [p3, p4]
 refine ord_nil ?_
 refine k24 _ _ ?_
 try clear k24 K24
 refine wp_seq_k (fun K33 k33 => ?_)
 refine rg [0, 1] ?_
 refine sv 17 (.int .i64 (rcmp a2 c2)) ?_
 simp only [p3, p4]
 refine sw 18 (.bool false) rfl (RunV.bool (x := (rcmp a2 c2 != (0 : Int))) (rvk (by kernel_rfl)) e2) ?_
 simp only [p3, p4]
 refine sq_nil ?_
 refine k33 _ _ ?_
 try clear k33 K33
 refine wp_cond_false rfl ?_
 refine wp_skip ?_
 refine k22 _ _ ?_
 try clear k22 K22
 refine rg [0, 1] ?_
 refine sv 20 (.int .i64 2) ?_
 simp only [p3, p4]
 refine sv 7 (.int .i64 2) ?_
 simp only [p3, p4]
 refine sq_nil ?_
 show Code.rounds _ _ _ _ _ _
 show Code.wp _ _ _ _ _
 refine wp_seq_k (fun K34 k34 => ?_)
 refine rg [0] ?_
 refine sv 8 (.bool true) ?_
 simp only [p3, p4]
 refine sq_nil ?_
 refine k34 _ _ ?_
 try clear k34 K34
 refine wp_seq_k (fun K35 k35 => ?_)
 refine wp_cond_true rfl ?_
 refine wp_skip ?_
 refine k35 _ _ ?_
 try clear k35 K35
 refine wp_seq_k (fun K36 k36 => ?_)
 refine wp_block ?_
 refine wp_seq_k (fun K37 k37 => ?_)
 refine rg [0, 1] ?_
 refine sv 9 (.int .i64 2) ?_
 simp only [p3, p4]
 refine sv 5 (.int .i64 2) ?_
 simp only [p3, p4]
 refine sq_nil ?_
 refine k37 _ _ ?_
 try clear k37 K37
 refine wp_seq_k (fun K38 k38 => ?_)
 have gd43 := Gr.drew w31
 replace hB := hB.trans gd43
 replace L2 := L2.gr gd43
 replace L3 := L3.gr gd43
 refine wp_region_ord (fun w' => Lc w' b2 #[uaa0, uaa1, uaa2, uaa3, uab0, uab1, uab2, uab3, uac0, uac1, uac2, uac3] 33 ∧ Lc w' b3 #[vaa0, vaa1, vaa2, vaa3, vab0, vab1, vab2, vab3, vac0, vac1, vac2, vac3] 33) [(true, 0), (true, 1), (true, 2), (true, 3), (true, 4), (true, 5), (false, 6), (true, 7)] (by kernel_rfl) (by kernel_rfl) (by kernel_rfl) (by decide) (fun _ _ _ _ _ h => h) ⟨L2, L3⟩ ?_
 refine ov 10 (.int .i64 2) ?_
 simp only [p3, p4]
 refine ov 11 (.pointer (some ⟨b2, 8, none⟩)) ?_
 simp only [p3, p4]
 refine ow 12 (.agg #[uac0, uac1, uac2, uac3]) rfl (fun w' hS => (rl 31 8 [uac0, uac1, uac2, uac3] hS.1)) ?_
 simp only [p3, p4]
 refine ov 13 (.int .i64 2) ?_
 simp only [p3, p4]
 refine ov 14 (.pointer (some ⟨b3, 8, none⟩)) ?_
 simp only [p3, p4]
 refine ow 15 (.agg #[vac0, vac1, vac2, vac3]) rfl (fun w' hS => (rl 31 8 [vac0, vac1, vac2, vac3] hS.2)) ?_
 simp only [p3, p4]
 refine oe ?_
 have kq46 := g2.kp.trans (g3.kp.trans (gd15.kp.trans (g17.kp.trans (gd29.kp.trans (g31.kp.trans gd43.kp)))))
 replace hua3 := hua3.kp kq46
 replace hva3 := hva3.kp kq46
 refine ec 16 (compare_r hua3 hva3 (by omega)) ?_
 rintro e45 w45 ⟨rfl, g45⟩
 refine ⟨_, rfl, ?_⟩
 replace hB := hB.trans g45
 replace L2 := L2.gr g45
 replace L3 := L3.gr g45
 refine ⟨⟨L2, L3⟩, ?_⟩
 simp only [p3, p4]
 refine ov 6 (.int .i64 (rcmp a3 c3)) ?_
 simp only [p3, p4]
 refine ord_nil ?_
 refine k38 _ _ ?_
 try clear k38 K38
 refine wp_seq_k (fun K47 k47 => ?_)
 refine rg [0, 1] ?_
 refine sv 17 (.int .i64 (rcmp a3 c3)) ?_
 simp only [p3, p4]
 refine sw 18 (.bool true) rfl (RunV.bool (x := (rcmp a3 c3 != (0 : Int))) (rvk (by kernel_rfl)) e3) ?_
 simp only [p3, p4]
 refine sq_nil ?_
 refine k47 _ _ ?_
 try clear k47 K47
 refine wp_cond_true rfl ?_
 refine wp_seq_k (fun K48 k48 => ?_)
 refine rg [0, 1] ?_
 refine sv 19 (.int .i64 (rcmp a3 c3)) ?_
 simp only [p3, p4]
 refine sv 4 (.int .i64 (rcmp a3 c3)) ?_
 simp only [p3, p4]
 refine sq_nil ?_
 refine k48 _ _ ?_
 try clear k48 K48
 refine wp_ret ?_
 simp only [Exit.then, Exit.inBlock]
 refine bodyPost_ret (v := (.int .i64 (rcmp a3 c3))) (ret_tmp rfl rfl) rfl ⟨?_, hB⟩
 exact rfl

set_option maxRecDepth 100000 in
set_option maxHeartbeats 1000000 in
theorem vcomp_4 {k m : Nat} {uaa0 uaa1 uaa2 uaa3 uab0 uab1 uab2 uab3 uac0 uac1 uac2 uac3 : Value} {a1 a2 a3 : Rat} {vaa0 vaa1 vaa2 vaa3 vab0 vab1 vab2 vab3 vac0 vac1 vac2 vac3 : Value} {c1 c2 c3 : Rat} {w : World} (hua1 : IsRat w k uaa0 uaa1 uaa2 uaa3 a1) (hua2 : IsRat w k uab0 uab1 uab2 uab3 a2) (hua3 : IsRat w k uac0 uac1 uac2 uac3 a3) (hva1 : IsRat w m vaa0 vaa1 vaa2 vaa3 c1) (hva2 : IsRat w m vab0 vab1 vab2 vab3 c2) (hva3 : IsRat w m vac0 vac1 vac2 vac3 c3) (_hk : k + m ≤ 100000) (e1 : (rcmp a1 c1 != (0 : Int)) = false) (e2 : (rcmp a2 c2 != (0 : Int)) = false) (e3 : (rcmp a3 c3 != (0 : Int)) = false) :
    Calls Tryd.prog 42 #[(.agg #[uaa0, uaa1, uaa2, uaa3, uab0, uab1, uab2, uab3, uac0, uac1, uac2, uac3]), (.agg #[vaa0, vaa1, vaa2, vaa3, vab0, vab1, vab2, vab3, vac0, vac1, vac2, vac3])] w fun e w' => e = .returned (.int .i64 0) ∧ Gr w w' := by
 go_enter Tryd.func42, Tryd.ntmps42
 have hB := Gr.refl w
 refine wp_seq_k (fun K1 k1 => ?_)
 refine rg [0, 1, 2] ?_
 refine se ?_
 refine eb 33 #[uaa0, uaa1, uaa2, uaa3, uab0, uab1, uab2, uab3, uac0, uac1, uac2, uac3] 2 hB fun b2 w2 g2 L2 o2 q2 hB => ?_
 simp only [p3, p4]
 refine se ?_
 refine eb 33 #[vaa0, vaa1, vaa2, vaa3, vab0, vab1, vab2, vab3, vac0, vac1, vac2, vac3] 3 hB fun b3 w3 g3 L3 o3 q3 hB => ?_
 simp only [p3, p4]
 refine sv 4 (.int .i64 0) ?_
 simp only [p3, p4]
 refine sq_nil ?_
 refine k1 _ _ ?_
 try clear k1 K1
 refine wp_seq_k (fun K4 k4 => ?_)
 refine wp_seq_k (fun K5 k5 => ?_)
 refine rg [0] ?_
 refine sv 7 (.int .i64 0) ?_
 simp only [p3, p4]
 refine sq_nil ?_
 refine k5 _ _ ?_
 try clear k5 K5
 refine wp_block ?_
 refine wp_loop_rounds 4 ?_
 show Code.wp _ _ _ _ _
 refine wp_seq_k (fun K6 k6 => ?_)
 refine rg [0] ?_
 refine sv 8 (.bool true) ?_
 simp only [p3, p4]
 refine sq_nil ?_
 refine k6 _ _ ?_
 try clear k6 K6
 refine wp_seq_k (fun K7 k7 => ?_)
 refine wp_cond_true rfl ?_
 refine wp_skip ?_
 refine k7 _ _ ?_
 try clear k7 K7
 refine wp_seq_k (fun K8 k8 => ?_)
 refine wp_block ?_
 refine wp_seq_k (fun K9 k9 => ?_)
 refine rg [0, 1] ?_
 refine sv 9 (.int .i64 0) ?_
 simp only [p3, p4]
 refine sv 5 (.int .i64 0) ?_
 simp only [p3, p4]
 refine sq_nil ?_
 refine k9 _ _ ?_
 try clear k9 K9
 refine wp_seq_k (fun K10 k10 => ?_)
 have gd15 := Gr.drew w3
 replace hB := hB.trans gd15
 replace L2 := L2.gr (g3.trans gd15)
 replace L3 := L3.gr gd15
 refine wp_region_ord (fun w' => Lc w' b2 #[uaa0, uaa1, uaa2, uaa3, uab0, uab1, uab2, uab3, uac0, uac1, uac2, uac3] 33 ∧ Lc w' b3 #[vaa0, vaa1, vaa2, vaa3, vab0, vab1, vab2, vab3, vac0, vac1, vac2, vac3] 33) [(true, 0), (true, 1), (true, 2), (true, 3), (true, 4), (true, 5), (false, 6), (true, 7)] (by kernel_rfl) (by kernel_rfl) (by kernel_rfl) (by decide) (fun _ _ _ _ _ h => h) ⟨L2, L3⟩ ?_
 refine ov 10 (.int .i64 0) ?_
 simp only [p3, p4]
 refine ov 11 (.pointer (some ⟨b2, 0, none⟩)) ?_
 simp only [p3, p4]
 refine ow 12 (.agg #[uaa0, uaa1, uaa2, uaa3]) rfl (fun w' hS => (rl 31 0 [uaa0, uaa1, uaa2, uaa3] hS.1)) ?_
 simp only [p3, p4]
 refine ov 13 (.int .i64 0) ?_
 simp only [p3, p4]
 refine ov 14 (.pointer (some ⟨b3, 0, none⟩)) ?_
 simp only [p3, p4]
 refine ow 15 (.agg #[vaa0, vaa1, vaa2, vaa3]) rfl (fun w' hS => (rl 31 0 [vaa0, vaa1, vaa2, vaa3] hS.2)) ?_
 simp only [p3, p4]
 refine oe ?_
 have kq18 := g2.kp.trans (g3.kp.trans gd15.kp)
 replace hua1 := hua1.kp kq18
 replace hva1 := hva1.kp kq18
 refine ec 16 (compare_r hua1 hva1 (by omega)) ?_
 rintro e17 w17 ⟨rfl, g17⟩
 refine ⟨_, rfl, ?_⟩
 replace hB := hB.trans g17
 replace L2 := L2.gr g17
 replace L3 := L3.gr g17
 refine ⟨⟨L2, L3⟩, ?_⟩
 simp only [p3, p4]
 refine ov 6 (.int .i64 (rcmp a1 c1)) ?_
 simp only [p3, p4]
 refine ord_nil ?_
 refine k10 _ _ ?_
 try clear k10 K10
 refine wp_seq_k (fun K19 k19 => ?_)
 refine rg [0, 1] ?_
 refine sv 17 (.int .i64 (rcmp a1 c1)) ?_
 simp only [p3, p4]
 refine sw 18 (.bool false) rfl (RunV.bool (x := (rcmp a1 c1 != (0 : Int))) (rvk (by kernel_rfl)) e1) ?_
 simp only [p3, p4]
 refine sq_nil ?_
 refine k19 _ _ ?_
 try clear k19 K19
 refine wp_cond_false rfl ?_
 refine wp_skip ?_
 refine k8 _ _ ?_
 try clear k8 K8
 refine rg [0, 1] ?_
 refine sv 20 (.int .i64 1) ?_
 simp only [p3, p4]
 refine sv 7 (.int .i64 1) ?_
 simp only [p3, p4]
 refine sq_nil ?_
 show Code.rounds _ _ _ _ _ _
 show Code.wp _ _ _ _ _
 refine wp_seq_k (fun K20 k20 => ?_)
 refine rg [0] ?_
 refine sv 8 (.bool true) ?_
 simp only [p3, p4]
 refine sq_nil ?_
 refine k20 _ _ ?_
 try clear k20 K20
 refine wp_seq_k (fun K21 k21 => ?_)
 refine wp_cond_true rfl ?_
 refine wp_skip ?_
 refine k21 _ _ ?_
 try clear k21 K21
 refine wp_seq_k (fun K22 k22 => ?_)
 refine wp_block ?_
 refine wp_seq_k (fun K23 k23 => ?_)
 refine rg [0, 1] ?_
 refine sv 9 (.int .i64 1) ?_
 simp only [p3, p4]
 refine sv 5 (.int .i64 1) ?_
 simp only [p3, p4]
 refine sq_nil ?_
 refine k23 _ _ ?_
 try clear k23 K23
 refine wp_seq_k (fun K24 k24 => ?_)
 have gd29 := Gr.drew w17
 replace hB := hB.trans gd29
 replace L2 := L2.gr gd29
 replace L3 := L3.gr gd29
 refine wp_region_ord (fun w' => Lc w' b2 #[uaa0, uaa1, uaa2, uaa3, uab0, uab1, uab2, uab3, uac0, uac1, uac2, uac3] 33 ∧ Lc w' b3 #[vaa0, vaa1, vaa2, vaa3, vab0, vab1, vab2, vab3, vac0, vac1, vac2, vac3] 33) [(true, 0), (true, 1), (true, 2), (true, 3), (true, 4), (true, 5), (false, 6), (true, 7)] (by kernel_rfl) (by kernel_rfl) (by kernel_rfl) (by decide) (fun _ _ _ _ _ h => h) ⟨L2, L3⟩ ?_
 refine ov 10 (.int .i64 1) ?_
 simp only [p3, p4]
 refine ov 11 (.pointer (some ⟨b2, 4, none⟩)) ?_
 simp only [p3, p4]
 refine ow 12 (.agg #[uab0, uab1, uab2, uab3]) rfl (fun w' hS => (rl 31 4 [uab0, uab1, uab2, uab3] hS.1)) ?_
 simp only [p3, p4]
 refine ov 13 (.int .i64 1) ?_
 simp only [p3, p4]
 refine ov 14 (.pointer (some ⟨b3, 4, none⟩)) ?_
 simp only [p3, p4]
 refine ow 15 (.agg #[vab0, vab1, vab2, vab3]) rfl (fun w' hS => (rl 31 4 [vab0, vab1, vab2, vab3] hS.2)) ?_
 simp only [p3, p4]
 refine oe ?_
 have kq32 := g2.kp.trans (g3.kp.trans (gd15.kp.trans (g17.kp.trans gd29.kp)))
 replace hua2 := hua2.kp kq32
 replace hva2 := hva2.kp kq32
 refine ec 16 (compare_r hua2 hva2 (by omega)) ?_
 rintro e31 w31 ⟨rfl, g31⟩
 refine ⟨_, rfl, ?_⟩
 replace hB := hB.trans g31
 replace L2 := L2.gr g31
 replace L3 := L3.gr g31
 refine ⟨⟨L2, L3⟩, ?_⟩
 simp only [p3, p4]
 refine ov 6 (.int .i64 (rcmp a2 c2)) ?_
 simp only [p3, p4]
 refine ord_nil ?_
 refine k24 _ _ ?_
 try clear k24 K24
 refine wp_seq_k (fun K33 k33 => ?_)
 refine rg [0, 1] ?_
 refine sv 17 (.int .i64 (rcmp a2 c2)) ?_
 simp only [p3, p4]
 refine sw 18 (.bool false) rfl (RunV.bool (x := (rcmp a2 c2 != (0 : Int))) (rvk (by kernel_rfl)) e2) ?_
 simp only [p3, p4]
 refine sq_nil ?_
 refine k33 _ _ ?_
 try clear k33 K33
 refine wp_cond_false rfl ?_
 refine wp_skip ?_
 refine k22 _ _ ?_
 try clear k22 K22
 refine rg [0, 1] ?_
 refine sv 20 (.int .i64 2) ?_
 simp only [p3, p4]
 refine sv 7 (.int .i64 2) ?_
 simp only [p3, p4]
 refine sq_nil ?_
 show Code.rounds _ _ _ _ _ _
 show Code.wp _ _ _ _ _
 refine wp_seq_k (fun K34 k34 => ?_)
 refine rg [0] ?_
 refine sv 8 (.bool true) ?_
 simp only [p3, p4]
 refine sq_nil ?_
 refine k34 _ _ ?_
 try clear k34 K34
 refine wp_seq_k (fun K35 k35 => ?_)
 refine wp_cond_true rfl ?_
 refine wp_skip ?_
 refine k35 _ _ ?_
 try clear k35 K35
 refine wp_seq_k (fun K36 k36 => ?_)
 refine wp_block ?_
 refine wp_seq_k (fun K37 k37 => ?_)
 refine rg [0, 1] ?_
 refine sv 9 (.int .i64 2) ?_
 simp only [p3, p4]
 refine sv 5 (.int .i64 2) ?_
 simp only [p3, p4]
 refine sq_nil ?_
 refine k37 _ _ ?_
 try clear k37 K37
 refine wp_seq_k (fun K38 k38 => ?_)
 have gd43 := Gr.drew w31
 replace hB := hB.trans gd43
 replace L2 := L2.gr gd43
 replace L3 := L3.gr gd43
 refine wp_region_ord (fun w' => Lc w' b2 #[uaa0, uaa1, uaa2, uaa3, uab0, uab1, uab2, uab3, uac0, uac1, uac2, uac3] 33 ∧ Lc w' b3 #[vaa0, vaa1, vaa2, vaa3, vab0, vab1, vab2, vab3, vac0, vac1, vac2, vac3] 33) [(true, 0), (true, 1), (true, 2), (true, 3), (true, 4), (true, 5), (false, 6), (true, 7)] (by kernel_rfl) (by kernel_rfl) (by kernel_rfl) (by decide) (fun _ _ _ _ _ h => h) ⟨L2, L3⟩ ?_
 refine ov 10 (.int .i64 2) ?_
 simp only [p3, p4]
 refine ov 11 (.pointer (some ⟨b2, 8, none⟩)) ?_
 simp only [p3, p4]
 refine ow 12 (.agg #[uac0, uac1, uac2, uac3]) rfl (fun w' hS => (rl 31 8 [uac0, uac1, uac2, uac3] hS.1)) ?_
 simp only [p3, p4]
 refine ov 13 (.int .i64 2) ?_
 simp only [p3, p4]
 refine ov 14 (.pointer (some ⟨b3, 8, none⟩)) ?_
 simp only [p3, p4]
 refine ow 15 (.agg #[vac0, vac1, vac2, vac3]) rfl (fun w' hS => (rl 31 8 [vac0, vac1, vac2, vac3] hS.2)) ?_
 simp only [p3, p4]
 refine oe ?_
 have kq46 := g2.kp.trans (g3.kp.trans (gd15.kp.trans (g17.kp.trans (gd29.kp.trans (g31.kp.trans gd43.kp)))))
 replace hua3 := hua3.kp kq46
 replace hva3 := hva3.kp kq46
 refine ec 16 (compare_r hua3 hva3 (by omega)) ?_
 rintro e45 w45 ⟨rfl, g45⟩
 refine ⟨_, rfl, ?_⟩
 replace hB := hB.trans g45
 replace L2 := L2.gr g45
 replace L3 := L3.gr g45
 refine ⟨⟨L2, L3⟩, ?_⟩
 simp only [p3, p4]
 refine ov 6 (.int .i64 (rcmp a3 c3)) ?_
 simp only [p3, p4]
 refine ord_nil ?_
 refine k38 _ _ ?_
 try clear k38 K38
 refine wp_seq_k (fun K47 k47 => ?_)
 refine rg [0, 1] ?_
 refine sv 17 (.int .i64 (rcmp a3 c3)) ?_
 simp only [p3, p4]
 refine sw 18 (.bool false) rfl (RunV.bool (x := (rcmp a3 c3 != (0 : Int))) (rvk (by kernel_rfl)) e3) ?_
 simp only [p3, p4]
 refine sq_nil ?_
 refine k47 _ _ ?_
 try clear k47 K47
 refine wp_cond_false rfl ?_
 refine wp_skip ?_
 refine k36 _ _ ?_
 try clear k36 K36
 refine rg [0, 1] ?_
 refine sv 20 (.int .i64 3) ?_
 simp only [p3, p4]
 refine sv 7 (.int .i64 3) ?_
 simp only [p3, p4]
 refine sq_nil ?_
 show Code.rounds _ _ _ _ _ _
 show Code.wp _ _ _ _ _
 refine wp_seq_k (fun K48 k48 => ?_)
 refine rg [0] ?_
 refine sv 8 (.bool false) ?_
 simp only [p3, p4]
 refine sq_nil ?_
 refine k48 _ _ ?_
 try clear k48 K48
 refine wp_seq_k (fun K49 k49 => ?_)
 refine wp_cond_false rfl ?_
 refine wp_exit ?_
 simp only [Exit.then, Exit.inBlock, ↓reduceIte]
 refine k4 _ _ ?_
 try clear k4 K4
 refine wp_seq_k (fun K50 k50 => ?_)
 refine rg [0] ?_
 refine sv 4 (.int .i64 0) ?_
 simp only [p3, p4]
 refine sq_nil ?_
 refine k50 _ _ ?_
 try clear k50 K50
 refine wp_ret ?_
 refine bodyPost_ret (v := (.int .i64 0)) (ret_tmp rfl rfl) rfl ⟨?_, hB⟩
 exact rfl

theorem vcomp_v {k m : Nat} {uaa0 uaa1 uaa2 uaa3 uab0 uab1 uab2 uab3 uac0 uac1 uac2 uac3 : Value} {a1 a2 a3 : Rat} {vaa0 vaa1 vaa2 vaa3 vab0 vab1 vab2 vab3 vac0 vac1 vac2 vac3 : Value} {c1 c2 c3 : Rat} {w : World} (hua1 : IsRat w k uaa0 uaa1 uaa2 uaa3 a1) (hua2 : IsRat w k uab0 uab1 uab2 uab3 a2) (hua3 : IsRat w k uac0 uac1 uac2 uac3 a3) (hva1 : IsRat w m vaa0 vaa1 vaa2 vaa3 c1) (hva2 : IsRat w m vab0 vab1 vab2 vab3 c2) (hva3 : IsRat w m vac0 vac1 vac2 vac3 c3) (hk : k + m ≤ 100000) :
    Calls Tryd.prog 42 #[(.agg #[uaa0, uaa1, uaa2, uaa3, uab0, uab1, uab2, uab3, uac0, uac1, uac2, uac3]), (.agg #[vaa0, vaa1, vaa2, vaa3, vab0, vab1, vab2, vab3, vac0, vac1, vac2, vac3])] w fun e w' => e = .returned (.int .i64 (vcmp a1 a2 a3 c1 c2 c3)) ∧ Gr w w' := by
  unfold vcmp
  by_cases e1 : rcmp a1 c1 = 0
  · rw [if_pos e1]
    have d1 : (rcmp a1 c1 != (0 : Int)) = false := by simp [e1]
    by_cases e2 : rcmp a2 c2 = 0
    · rw [if_pos e2]
      have d2 : (rcmp a2 c2 != (0 : Int)) = false := by simp [e2]
      by_cases e3 : rcmp a3 c3 = 0
      · rw [e3]; exact vcomp_4 hua1 hua2 hua3 hva1 hva2 hva3 hk d1 d2 (by simp [e3])
      · exact vcomp_3 hua1 hua2 hua3 hva1 hva2 hva3 hk d1 d2 (by simp [e3])
    · rw [if_neg e2]; exact vcomp_2 hua1 hua2 hua3 hva1 hva2 hva3 hk d1 (by simp [e2])
  · rw [if_neg e1]; exact vcomp_1 hua1 hua2 hua3 hva1 hva2 hva3 hk (by simp [e1])

set_option maxRecDepth 100000 in
set_option maxHeartbeats 1000000 in
theorem vequal_v {k m : Nat} {uaa0 uaa1 uaa2 uaa3 uab0 uab1 uab2 uab3 uac0 uac1 uac2 uac3 : Value} {a1 a2 a3 : Rat} {vaa0 vaa1 vaa2 vaa3 vab0 vab1 vab2 vab3 vac0 vac1 vac2 vac3 : Value} {c1 c2 c3 : Rat} {w : World} (hua1 : IsRat w k uaa0 uaa1 uaa2 uaa3 a1) (hua2 : IsRat w k uab0 uab1 uab2 uab3 a2) (hua3 : IsRat w k uac0 uac1 uac2 uac3 a3) (hva1 : IsRat w m vaa0 vaa1 vaa2 vaa3 c1) (hva2 : IsRat w m vab0 vab1 vab2 vab3 c2) (hva3 : IsRat w m vac0 vac1 vac2 vac3 c3) (_hk : k + m ≤ 100000) :
    Calls Tryd.prog 15 #[(.agg #[uaa0, uaa1, uaa2, uaa3, uab0, uab1, uab2, uab3, uac0, uac1, uac2, uac3]), (.agg #[vaa0, vaa1, vaa2, vaa3, vab0, vab1, vab2, vab3, vac0, vac1, vac2, vac3])] w fun e w' => e = .returned (.bool (vcmp a1 a2 a3 c1 c2 c3 == (0 : Int))) ∧ Gr w w' := by
 go_enter Tryd.func15, Tryd.ntmps15
 have hB := Gr.refl w
 refine wp_seq_k (fun K1 k1 => ?_)
 refine rg [0, 1, 2] ?_
 refine se ?_
 refine eb 33 #[uaa0, uaa1, uaa2, uaa3, uab0, uab1, uab2, uab3, uac0, uac1, uac2, uac3] 2 hB fun b2 w2 g2 L2 o2 q2 hB => ?_
 simp only [p3, p4]
 refine se ?_
 refine eb 33 #[vaa0, vaa1, vaa2, vaa3, vab0, vab1, vab2, vab3, vac0, vac1, vac2, vac3] 3 hB fun b3 w3 g3 L3 o3 q3 hB => ?_
 simp only [p3, p4]
 refine sv 4 (.bool false) ?_
 simp only [p3, p4]
 refine sq_nil ?_
 refine k1 _ _ ?_
 try clear k1 K1
 refine wp_seq_k (fun K4 k4 => ?_)
 refine rg [0, 1, 2, 3, 4] ?_
 replace L2 := L2.gr g3
 refine sw 5 (.agg #[uaa0, uaa1, uaa2, uaa3, uab0, uab1, uab2, uab3, uac0, uac1, uac2, uac3]) rfl (rl 33 0 [uaa0, uaa1, uaa2, uaa3, uab0, uab1, uab2, uab3, uac0, uac1, uac2, uac3] L2) ?_
 simp only [p3, p4]
 refine sw 6 (.agg #[vaa0, vaa1, vaa2, vaa3, vab0, vab1, vab2, vab3, vac0, vac1, vac2, vac3]) rfl (rl 33 0 [vaa0, vaa1, vaa2, vaa3, vab0, vab1, vab2, vab3, vac0, vac1, vac2, vac3] L3) ?_
 simp only [p3, p4]
 refine se ?_
 have kq6 := g2.kp.trans g3.kp
 replace hua1 := hua1.kp kq6
 replace hua2 := hua2.kp kq6
 replace hua3 := hua3.kp kq6
 replace hva1 := hva1.kp kq6
 replace hva2 := hva2.kp kq6
 replace hva3 := hva3.kp kq6
 refine ec 7 (vcomp_v hua1 hua2 hua3 hva1 hva2 hva3 (by omega)) ?_
 rintro e5 w5 ⟨rfl, g5⟩
 refine ⟨_, rfl, ?_⟩
 replace hB := hB.trans g5
 simp only [p3, p4]
 refine sv 8 (.bool ((vcmp a1 a2 a3 c1 c2 c3 == (0 : Int)))) ?_
 simp only [p3, p4]
 refine sv 4 (.bool ((vcmp a1 a2 a3 c1 c2 c3 == (0 : Int)))) ?_
 simp only [p3, p4]
 refine sq_nil ?_
 refine k4 _ _ ?_
 try clear k4 K4
 refine wp_ret ?_
 refine bodyPost_ret (v := (.bool ((vcmp a1 a2 a3 c1 c2 c3 == (0 : Int))))) (ret_tmp rfl rfl) rfl ⟨?_, hB⟩
 exact rfl

set_option maxRecDepth 100000 in
set_option maxHeartbeats 1000000 in
theorem vzero_v {k : Nat} {uaa0 uaa1 uaa2 uaa3 uab0 uab1 uab2 uab3 uac0 uac1 uac2 uac3 : Value} {a1 a2 a3 : Rat} {w : World} (hua1 : IsRat w k uaa0 uaa1 uaa2 uaa3 a1) (hua2 : IsRat w k uab0 uab1 uab2 uab3 a2) (hua3 : IsRat w k uac0 uac1 uac2 uac3 a3) (_hk : k ≤ 25000) :
    Calls Tryd.prog 12 #[(.agg #[uaa0, uaa1, uaa2, uaa3, uab0, uab1, uab2, uab3, uac0, uac1, uac2, uac3])] w fun e w' => e = .returned (.bool (vcmp a1 a2 a3 0 0 0 == (0 : Int))) ∧ Gr w w' := by
 go_enter Tryd.func12, Tryd.ntmps12
 have hB := Gr.refl w
 refine wp_seq_k (fun K1 k1 => ?_)
 refine rg [0, 1] ?_
 refine se ?_
 refine eb 33 #[uaa0, uaa1, uaa2, uaa3, uab0, uab1, uab2, uab3, uac0, uac1, uac2, uac3] 1 hB fun b2 w2 g2 L2 o2 q2 hB => ?_
 simp only [p3, p4]
 refine sv 2 (.bool false) ?_
 simp only [p3, p4]
 refine sq_nil ?_
 refine k1 _ _ ?_
 try clear k1 K1
 refine wp_seq_k (fun K3 k3 => ?_)
 refine rg [0, 1, 2, 3, 4] ?_
 refine sw 3 (.agg #[uaa0, uaa1, uaa2, uaa3, uab0, uab1, uab2, uab3, uac0, uac1, uac2, uac3]) rfl (rl 33 0 [uaa0, uaa1, uaa2, uaa3, uab0, uab1, uab2, uab3, uac0, uac1, uac2, uac3] L2) ?_
 simp only [p3, p4]
 refine sv 4 (.agg #[(.bool false), (.slice none 0 0), (.bool false), (.slice none 0 0), (.bool false), (.slice none 0 0), (.bool false), (.slice none 0 0), (.bool false), (.slice none 0 0), (.bool false), (.slice none 0 0)]) ?_
 simp only [p3, p4]
 refine se ?_
 replace hua1 := hua1.kp g2.kp
 replace hua2 := hua2.kp g2.kp
 replace hua3 := hua3.kp g2.kp
 refine ec 5 (vcomp_v hua1 hua2 hua3 (IsRat.zero _ (k := 64) (Nat.le_refl _)) (IsRat.zero _ (k := 64) (Nat.le_refl _)) (IsRat.zero _ (k := 64) (Nat.le_refl _)) (by omega)) ?_
 rintro e4 w4 ⟨rfl, g4⟩
 refine ⟨_, rfl, ?_⟩
 replace hB := hB.trans g4
 simp only [p3, p4]
 refine sv 6 (.bool ((vcmp a1 a2 a3 0 0 0 == (0 : Int)))) ?_
 simp only [p3, p4]
 refine sv 2 (.bool ((vcmp a1 a2 a3 0 0 0 == (0 : Int)))) ?_
 simp only [p3, p4]
 refine sq_nil ?_
 refine k3 _ _ ?_
 try clear k3 K3
 refine wp_ret ?_
 refine bodyPost_ret (v := (.bool ((vcmp a1 a2 a3 0 0 0 == (0 : Int))))) (ret_tmp rfl rfl) rfl ⟨?_, hB⟩
 exact rfl

end Go.Proofs.YtgopfikljndklaaDoor
