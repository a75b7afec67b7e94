/- Printed by a program of the prover's: whole, Den, reduced. -/
import Derived.Test.YtgopfikljndklaaDoorInt8
namespace Go.Proofs.YtgopfikljndklaaDoor
open Go.RowKit

set_option maxRecDepth 100000 in
set_option maxHeartbeats 1000000 in
theorem whole_z {k : Nat} {c0 c1 c2 c3 : Value} {w : World} (hd : IsInt w k c2 c3 0) :
    Calls Tryd.prog 59 #[(.agg #[c0, c1, c2, c3])] w fun e w' => e = .returned (.bool true) ∧ Gr w w' := by
 go_enter Tryd.func59, Tryd.ntmps59
 have hB := Gr.refl w
 refine wp_seq_k (fun K1 k1 => ?_)
 refine rg [0, 1] ?_
 refine se ?_
 refine eb 31 #[c0, c1, c2, c3] 1 hB fun b2 w2 g2 L2 o2 q2 hB => ?_
 simp only [p3, p4]
 refine sv 2 (.bool false) ?_
 simp only [p3, p4]
 refine sq_nil ?_
 refine k1 _ _ ?_
 try clear k1 K1
 refine wp_seq_k (fun K3 k3 => ?_)
 have gd8 := Gr.drew w2
 replace hB := hB.trans gd8
 replace L2 := L2.gr gd8
 refine wp_region_ord (fun w' => Lc w' b2 #[c0, c1, c2, c3] 31) [(true, 0), (true, 1), (false, 2), (true, 3), (true, 4), (true, 5), (true, 6), (false, 7), (false, 8), (true, 9), (true, 10), (true, 11)] (by kernel_rfl) (by kernel_rfl) (by kernel_rfl) (by decide) (fun _ _ _ _ _ h => h) L2 ?_
 refine ov 3 (.pointer (some ⟨b2, 2, none⟩)) ?_
 simp only [p3, p4]
 refine ow 4 (.agg #[c2, c3]) rfl (fun w' hS => (rl 29 2 [c2, c3] hS)) ?_
 simp only [p3, p4]
 refine oe ?_
 have kq11 := g2.kp.trans gd8.kp
 replace hd := hd.kp kq11
 refine ec 5 (sign_zero hd) ?_
 rintro e10 w10 ⟨rfl, g10⟩
 refine ⟨_, rfl, ?_⟩
 replace hB := hB.trans g10
 replace L2 := L2.gr g10
 refine ⟨L2, ?_⟩
 simp only [p3, p4]
 refine ov 6 (.bool true) ?_
 simp only [p3, p4]
 refine ov 7 (.bool true) ?_
 simp only [p3, p4]
 refine os 8 ?_
 simp only [p3, p4]
 refine os 9 ?_
 simp only [p3, p4]
 refine oz 10 L2 ?_
 simp only [p3, p4]
 refine oz 11 L2 ?_
 simp only [p3, p4]
 refine os 12 ?_
 simp only [p3, p4]
 refine ov 13 (.bool true) ?_
 simp only [p3, p4]
 refine ov 2 (.bool true) ?_
 simp only [p3, p4]
 refine ord_nil ?_
 refine k3 _ _ ?_
 try clear k3 K3
 refine wp_ret ?_
 refine bodyPost_ret (v := (.bool true)) (ret_tmp rfl rfl) rfl ⟨?_, hB⟩
 exact rfl

set_option maxRecDepth 100000 in
set_option maxHeartbeats 1000000 in
theorem whole_p {k : Nat} {c0 c1 c2 c3 : Value} {D : Int} {w : World} (hd : IsInt w k c2 c3 D) (_h0 : 0 < D) (_hk : k ≤ 1000000) :
    Calls Tryd.prog 59 #[(.agg #[c0, c1, c2, c3])] w fun e w' => e = .returned (.bool (sgn (D - 1) == 0)) ∧ Gr w w' := by
 go_enter Tryd.func59, Tryd.ntmps59
 have hB := Gr.refl w
 refine wp_seq_k (fun K1 k1 => ?_)
 refine rg [0, 1] ?_
 refine se ?_
 refine eb 31 #[c0, c1, c2, c3] 1 hB fun b2 w2 g2 L2 o2 q2 hB => ?_
 simp only [p3, p4]
 refine sv 2 (.bool false) ?_
 simp only [p3, p4]
 refine sq_nil ?_
 refine k1 _ _ ?_
 try clear k1 K1
 refine wp_seq_k (fun K3 k3 => ?_)
 have gd13 := Gr.drew w2
 replace hB := hB.trans gd13
 replace L2 := L2.gr gd13
 refine wp_region_ord (fun w' => Lc w' b2 #[c0, c1, c2, c3] 31) [(true, 0), (true, 1), (false, 2), (true, 3), (true, 4), (true, 5), (true, 6), (false, 7), (false, 8), (true, 9), (true, 10), (true, 11)] (by kernel_rfl) (by kernel_rfl) (by kernel_rfl) (by decide) (fun _ _ _ _ _ h => h) L2 ?_
 refine ov 3 (.pointer (some ⟨b2, 2, none⟩)) ?_
 simp only [p3, p4]
 refine ow 4 (.agg #[c2, c3]) rfl (fun w' hS => (rl 29 2 [c2, c3] hS)) ?_
 simp only [p3, p4]
 refine oe ?_
 have kq16 := g2.kp.trans gd13.kp
 replace hd := hd.kp kq16
 refine ec 5 (sign_pos hd (by omega)) ?_
 rintro e15 w15 ⟨rfl, g15⟩
 refine ⟨_, rfl, ?_⟩
 replace hB := hB.trans g15
 replace L2 := L2.gr g15
 refine ⟨L2, ?_⟩
 simp only [p3, p4]
 refine ov 6 (.bool false) ?_
 simp only [p3, p4]
 refine ov 7 (.bool false) ?_
 simp only [p3, p4]
 refine ov 8 (.pointer (some ⟨b2, 2, none⟩)) ?_
 simp only [p3, p4]
 refine ow 9 (.agg #[c2, c3]) rfl (fun w' hS => (rl 29 2 [c2, c3] hS)) ?_
 simp only [p3, p4]
 refine oe ?_
 refine ec 10 (one_i _) ?_
 rintro e18 w18 ⟨⟨x18, y18, rfl, h18⟩, g18⟩
 refine ⟨_, rfl, ?_⟩
 replace hB := hB.trans g18
 replace L2 := L2.gr g18
 refine ⟨L2, ?_⟩
 simp only [p3, p4]
 refine oe ?_
 have kq21 := g15.kp.trans g18.kp
 replace hd := hd.kp kq21
 refine ec 11 (compare_i hd h18 (by omega) (by omega)) ?_
 rintro e20 w20 ⟨rfl, g20⟩
 refine ⟨_, rfl, ?_⟩
 replace hB := hB.trans g20
 replace L2 := L2.gr g20
 refine ⟨L2, ?_⟩
 simp only [p3, p4]
 refine ov 12 (.bool ((sgn (D - 1) == (0 : Int)))) ?_
 simp only [p3, p4]
 refine ov 13 (.bool ((sgn (D - 1) == (0 : Int)))) ?_
 simp only [p3, p4]
 refine ov 2 (.bool ((sgn (D - 1) == (0 : Int)))) ?_
 simp only [p3, p4]
 refine ord_nil ?_
 refine k3 _ _ ?_
 try clear k3 K3
 refine wp_ret ?_
 refine bodyPost_ret (v := (.bool ((sgn (D - 1) == (0 : Int))))) (ret_tmp rfl rfl) rfl ⟨?_, hB⟩
 exact rfl

set_option maxRecDepth 100000 in
set_option maxHeartbeats 1000000 in
theorem den_z {k : Nat} {c0 c1 c2 c3 : Value} {w : World} (hd : IsInt w k c2 c3 0) :
    Calls Tryd.prog 47 #[(.agg #[c0, c1, c2, c3])] w fun e w' => (∃ x' y', e = .returned (.agg #[x', y']) ∧ IsInt w' 64 x' y' (1)) ∧ Gr w w' := by
 go_enter Tryd.func47, Tryd.ntmps47
 have hB := Gr.refl w
 refine wp_seq_k (fun K1 k1 => ?_)
 refine rg [0, 1] ?_
 refine se ?_
 refine eb 31 #[c0, c1, c2, c3] 1 hB fun b2 w2 g2 L2 o2 q2 hB => ?_
 simp only [p3, p4]
 refine se ?_
 refine ea 29 #[(.bool false), (.slice none 0 0)] 2 hB fun b3 w3 g3 L3 o3 q3 hB => ?_
 simp only [p3, p4]
 refine sq_nil ?_
 refine k1 _ _ ?_
 try clear k1 K1
 refine wp_seq_k (fun K4 k4 => ?_)
 refine wp_seq_k (fun K5 k5 => ?_)
 refine rg [0, 1, 2, 3] ?_
 refine sv 3 (.pointer (some ⟨b2, 2, none⟩)) ?_
 simp only [p3, p4]
 replace L2 := L2.gr g3
 refine sw 4 (.agg #[c2, c3]) rfl (rl 29 2 [c2, c3] L2) ?_
 simp only [p3, p4]
 refine se ?_
 have kq7 := g2.kp.trans g3.kp
 replace hd := hd.kp kq7
 refine ec 5 (sign_zero hd) ?_
 rintro e6 w6 ⟨rfl, g6⟩
 refine ⟨_, rfl, ?_⟩
 replace hB := hB.trans g6
 simp only [p3, p4]
 refine sv 6 (.bool true) ?_
 simp only [p3, p4]
 refine sq_nil ?_
 refine k5 _ _ ?_
 try clear k5 K5
 refine wp_cond_true rfl ?_
 refine wp_seq_k (fun K8 k8 => ?_)
 refine rg [0, 1] ?_
 refine se ?_
 refine ec 7 (one_i _) ?_
 rintro e9 w9 ⟨⟨x9, y9, rfl, h9⟩, g9⟩
 refine ⟨_, rfl, ?_⟩
 replace hB := hB.trans g9
 simp only [p3, p4]
 refine se ?_
 replace L3 := L3.gr (g6.trans g9)
 refine es 29 0 (.agg #[x9, y9]) [x9, y9] #[x9, y9] L3 hB q3 ⟨h9.one0, h9.one1, trivial⟩ fun w10 st10 kp10 L3 hB => ?_
 refine sq_nil ?_
 refine k8 _ _ ?_
 try clear k8 K8
 refine wp_ret ?_
 simp only [Exit.then]
 refine bodyPost_ret (v := (.agg #[x9, y9])) (ret_cell _ _ _ rfl rfl L3 (by kernel_rfl)) rfl ⟨?_, hB⟩
 replace h9 := h9.kp kp10
 exact ⟨_, _, rfl, h9⟩

set_option maxRecDepth 100000 in
set_option maxHeartbeats 1000000 in
theorem den_p {k : Nat} {c0 c1 c2 c3 : Value} {D : Int} {w : World} (hd : IsInt w k c2 c3 D) (_h0 : 0 < D) :
    Calls Tryd.prog 47 #[(.agg #[c0, c1, c2, c3])] w fun e w' => (∃ x' y', e = .returned (.agg #[x', y']) ∧ IsInt w' k x' y' (D)) ∧ Gr w w' := by
 go_enter Tryd.func47, Tryd.ntmps47
 have hB := Gr.refl w
 refine wp_seq_k (fun K1 k1 => ?_)
 refine rg [0, 1] ?_
 refine se ?_
 refine eb 31 #[c0, c1, c2, c3] 1 hB fun b2 w2 g2 L2 o2 q2 hB => ?_
 simp only [p3, p4]
 refine se ?_
 refine ea 29 #[(.bool false), (.slice none 0 0)] 2 hB fun b3 w3 g3 L3 o3 q3 hB => ?_
 simp only [p3, p4]
 refine sq_nil ?_
 refine k1 _ _ ?_
 try clear k1 K1
 refine wp_seq_k (fun K4 k4 => ?_)
 refine wp_seq_k (fun K5 k5 => ?_)
 refine rg [0, 1, 2, 3] ?_
 refine sv 3 (.pointer (some ⟨b2, 2, none⟩)) ?_
 simp only [p3, p4]
 replace L2 := L2.gr g3
 refine sw 4 (.agg #[c2, c3]) rfl (rl 29 2 [c2, c3] L2) ?_
 simp only [p3, p4]
 refine se ?_
 have kq7 := g2.kp.trans g3.kp
 replace hd := hd.kp kq7
 refine ec 5 (sign_pos hd (by omega)) ?_
 rintro e6 w6 ⟨rfl, g6⟩
 refine ⟨_, rfl, ?_⟩
 replace hB := hB.trans g6
 simp only [p3, p4]
 refine sv 6 (.bool false) ?_
 simp only [p3, p4]
 refine sq_nil ?_
 refine k5 _ _ ?_
 try clear k5 K5
 refine wp_cond_false rfl ?_
 refine wp_skip ?_
 refine k4 _ _ ?_
 try clear k4 K4
 refine wp_seq_k (fun K8 k8 => ?_)
 refine rg [0, 1, 2] ?_
 refine sv 8 (.pointer (some ⟨b2, 2, none⟩)) ?_
 simp only [p3, p4]
 replace L2 := L2.gr g6
 refine sw 9 (.agg #[c2, c3]) rfl (rl 29 2 [c2, c3] L2) ?_
 simp only [p3, p4]
 refine se ?_
 replace L3 := L3.gr g6
 refine es 29 0 (.agg #[c2, c3]) [c2, c3] #[c2, c3] L3 hB q3 ⟨hd.one0, hd.one1, trivial⟩ fun w9 st9 kp9 L3 hB => ?_
 refine sq_nil ?_
 refine k8 _ _ ?_
 try clear k8 K8
 refine wp_ret ?_
 refine bodyPost_ret (v := (.agg #[c2, c3])) (ret_cell _ _ _ rfl rfl L3 (by kernel_rfl)) rfl ⟨?_, hB⟩
 have kq10 := g6.kp.trans kp9
 replace hd := hd.kp kq10
 exact ⟨_, _, rfl, hd⟩

set_option maxRecDepth 100000 in
set_option maxHeartbeats 1000000 in
theorem reduced_p1 {k : Nat} {n0 n1 d0 d1 : Value} {N D : Int} {w : World} (hn : IsInt w k n0 n1 N) (hd : IsInt w k d0 d1 D) (_hk : k + k + k + k + k + k + 66 ≤ 1000000) (_h0 : 0 < D) (hg : (sgn ((Int.gcd (N) (D) : Int) - 1) != 0) = false) :
    Calls Tryd.prog 52 #[(.agg #[n0, n1]), (.agg #[d0, d1])] w fun e w' => (∃ x y x2 y2, e = .returned (.agg #[x, y, x2, y2]) ∧ IsInt w' k x y (N) ∧ IsInt w' k x2 y2 (D)) ∧ Gr w w' := by
 go_enter Tryd.func52, Tryd.ntmps52
 have hB := Gr.refl w
 refine wp_seq_k (fun K1 k1 => ?_)
 refine rg [0, 1, 2] ?_
 refine se ?_
 refine eb 29 #[n0, n1] 2 hB fun b2 w2 g2 L2 o2 q2 hB => ?_
 simp only [p3, p4]
 refine se ?_
 refine eb 29 #[d0, d1] 3 hB fun b3 w3 g3 L3 o3 q3 hB => ?_
 simp only [p3, p4]
 refine se ?_
 refine ea 31 #[(.bool false), (.slice none 0 0), (.bool false), (.slice none 0 0)] 4 hB fun b4 w4 g4 L4 o4 q4 hB => ?_
 replace L2 := L2.gr g3
 simp only [p3, p4]
 refine sq_nil ?_
 refine k1 _ _ ?_
 try clear k1 K1
 refine wp_seq_k (fun K5 k5 => ?_)
 refine wp_seq_k (fun K6 k6 => ?_)
 refine rg [0, 1, 2] ?_
 replace L3 := L3.gr g4
 refine sw 6 (.agg #[d0, d1]) rfl (rl 29 0 [d0, d1] L3) ?_
 simp only [p3, p4]
 refine se ?_
 have kq8 := g2.kp.trans (g3.kp.trans g4.kp)
 replace hd := hd.kp kq8
 refine ec 7 (sign_pos hd (by omega)) ?_
 rintro e7 w7 ⟨rfl, g7⟩
 refine ⟨_, rfl, ?_⟩
 replace hB := hB.trans g7
 simp only [p3, p4]
 refine sv 8 (.bool false) ?_
 simp only [p3, p4]
 refine sq_nil ?_
 refine k6 _ _ ?_
 try clear k6 K6
 refine wp_cond_false rfl ?_
 refine wp_skip ?_
 refine k5 _ _ ?_
 try clear k5 K5
 refine wp_seq_k (fun K9 k9 => ?_)
 refine rg [0, 1, 2, 3, 4] ?_
 replace L2 := L2.gr (g4.trans g7)
 refine sw 13 (.agg #[n0, n1]) rfl (rl 29 0 [n0, n1] L2) ?_
 simp only [p3, p4]
 replace L3 := L3.gr g7
 refine sw 14 (.agg #[d0, d1]) rfl (rl 29 0 [d0, d1] L3) ?_
 simp only [p3, p4]
 refine se ?_
 have kq11 := g2.kp.trans (g3.kp.trans (g4.kp.trans g7.kp))
 replace hn := hn.kp kq11
 replace hd := hd.kp g7.kp
 refine ec 15 (gcd_i hn hd (by omega)) ?_
 rintro e10 w10 ⟨⟨x10, y10, rfl, h10⟩, g10⟩
 refine ⟨_, rfl, ?_⟩
 replace hB := hB.trans g10
 simp only [p3, p4]
 refine se ?_
 refine ea 29 #[(.bool false), (.slice none 0 0)] 5 hB fun b12 w12 g12 L12 o12 q12 hB => ?_
 replace L2 := L2.gr g10
 have ne2_12 := L2.ne o12
 replace L3 := L3.gr g10
 have ne3_12 := L3.ne o12
 replace L4 := L4.gr (g7.trans g10)
 have ne4_12 := L4.ne o12
 simp only [p3, p4]
 refine se ?_
 refine es 29 0 (.agg #[x10, y10]) [x10, y10] #[x10, y10] L12 hB q12 ⟨h10.one0, h10.one1, trivial⟩ fun w13 st13 kp13 L12 hB => ?_
 refine sq_nil ?_
 refine k9 _ _ ?_
 try clear k9 K9
 refine wp_seq_k (fun K14 k14 => ?_)
 refine wp_seq_k (fun K15 k15 => ?_)
 have gd22 := Gr.drew w13
 replace hB := hB.trans gd22
 replace L12 := L12.gr gd22
 refine wp_region_ord (fun w' => Lc w' b12 #[x10, y10] 29) [(true, 0), (false, 1), (false, 2), (true, 3)] (by kernel_rfl) (by kernel_rfl) (by kernel_rfl) (by decide) (fun _ _ _ _ _ h => h) L12 ?_
 refine ow 16 (.agg #[x10, y10]) rfl (fun w' hS => (rl 29 0 [x10, y10] hS)) ?_
 simp only [p3, p4]
 refine oe ?_
 refine ec 17 (one_i _) ?_
 rintro e24 w24 ⟨⟨x24, y24, rfl, h24⟩, g24⟩
 refine ⟨_, rfl, ?_⟩
 replace hB := hB.trans g24
 replace L12 := L12.gr g24
 refine ⟨L12, ?_⟩
 simp only [p3, p4]
 refine oe ?_
 have kq27 := g12.kp.trans (kp13.trans (gd22.kp.trans g24.kp))
 replace h10 := h10.kp kq27
 refine ec 18 (compare_i h10 h24 (by omega) (by omega)) ?_
 rintro e26 w26 ⟨rfl, g26⟩
 refine ⟨_, rfl, ?_⟩
 replace hB := hB.trans g26
 replace L12 := L12.gr g26
 refine ⟨L12, ?_⟩
 simp only [p3, p4]
 refine ow 19 (.bool false) rfl (fun w' hS => (RunV.bool (x := (sgn ((Int.gcd (N) (D) : Int) - 1) != (0 : Int))) (rvk (by kernel_rfl)) hg)) ?_
 simp only [p3, p4]
 refine ord_nil ?_
 refine k15 _ _ ?_
 try clear k15 K15
 refine wp_cond_false rfl ?_
 refine wp_skip ?_
 refine k14 _ _ ?_
 try clear k14 K14
 refine wp_seq_k (fun K28 k28 => ?_)
 refine rg [0, 1, 2, 3] ?_
 replace L2 := (st13.lc (L2.gr g12) ne2_12).gr (gd22.trans (g24.trans g26))
 refine sw 34 (.agg #[n0, n1]) rfl (rl 29 0 [n0, n1] L2) ?_
 simp only [p3, p4]
 replace L3 := (st13.lc (L3.gr g12) ne3_12).gr (gd22.trans (g24.trans g26))
 refine sw 35 (.agg #[d0, d1]) rfl (rl 29 0 [d0, d1] L3) ?_
 simp only [p3, p4]
 refine sv 36 (.agg #[n0, n1, d0, d1]) ?_
 simp only [p3, p4]
 refine se ?_
 replace L4 := (st13.lc (L4.gr g12) ne4_12).gr (gd22.trans (g24.trans g26))
 refine es 31 0 (.agg #[n0, n1, d0, d1]) [n0, n1, d0, d1] #[n0, n1, d0, d1] L4 hB q4 ⟨hn.one0, hn.one1, hd.one0, hd.one1, trivial⟩ fun w29 st29 kp29 L4 hB => ?_
 refine sq_nil ?_
 refine k28 _ _ ?_
 try clear k28 K28
 refine wp_ret ?_
 refine bodyPost_ret (v := (.agg #[n0, n1, d0, d1])) (ret_cell _ _ _ rfl rfl L4 (by kernel_rfl)) rfl ⟨?_, hB⟩
 have kq30 := g10.kp.trans (g12.kp.trans (kp13.trans (gd22.kp.trans (g24.kp.trans (g26.kp.trans kp29)))))
 replace hn := hn.kp kq30
 replace hd := hd.kp kq30
 exact ⟨_, _, _, _, rfl, hn, hd⟩

set_option maxRecDepth 100000 in
set_option maxHeartbeats 1000000 in
theorem reduced_pg {k : Nat} {n0 n1 d0 d1 : Value} {N D : Int} {w : World} (hn : IsInt w k n0 n1 N) (hd : IsInt w k d0 d1 D) (_hk : k + k + k + k + k + k + 66 ≤ 1000000) (_h0 : 0 < D) (hg : (sgn ((Int.gcd (N) (D) : Int) - 1) != 0) = true) (hxn : 0 < (Int.gcd (N) (D) : Int) ∧ (Int.gcd (N) (D) : Int) ∣ N) (_hxd : 0 < (Int.gcd (N) (D) : Int) ∧ (Int.gcd (N) (D) : Int) ∣ D) :
    Calls Tryd.prog 52 #[(.agg #[n0, n1]), (.agg #[d0, d1])] w fun e w' => (∃ x y x2 y2, e = .returned (.agg #[x, y, x2, y2]) ∧ IsInt w' k x y (N / (Int.gcd (N) (D) : Int)) ∧ IsInt w' k x2 y2 (D / (Int.gcd (N) (D) : Int))) ∧ Gr w w' := by
 go_enter Tryd.func52, Tryd.ntmps52
 have hB := Gr.refl w
 refine wp_seq_k (fun K1 k1 => ?_)
 refine rg [0, 1, 2] ?_
 refine se ?_
 refine eb 29 #[n0, n1] 2 hB fun b2 w2 g2 L2 o2 q2 hB => ?_
 simp only [p3, p4]
 refine se ?_
 refine eb 29 #[d0, d1] 3 hB fun b3 w3 g3 L3 o3 q3 hB => ?_
 have ne2_3 := L2.ne o3
 simp only [p3, p4]
 refine se ?_
 refine ea 31 #[(.bool false), (.slice none 0 0), (.bool false), (.slice none 0 0)] 4 hB fun b4 w4 g4 L4 o4 q4 hB => ?_
 replace L2 := L2.gr g3
 have ne2_4 := L2.ne o4
 have ne3_4 := L3.ne o4
 simp only [p3, p4]
 refine sq_nil ?_
 refine k1 _ _ ?_
 try clear k1 K1
 refine wp_seq_k (fun K5 k5 => ?_)
 refine wp_seq_k (fun K6 k6 => ?_)
 refine rg [0, 1, 2] ?_
 replace L3 := L3.gr g4
 refine sw 6 (.agg #[d0, d1]) rfl (rl 29 0 [d0, d1] L3) ?_
 simp only [p3, p4]
 refine se ?_
 have kq8 := g2.kp.trans (g3.kp.trans g4.kp)
 replace hd := hd.kp kq8
 refine ec 7 (sign_pos hd (by omega)) ?_
 rintro e7 w7 ⟨rfl, g7⟩
 refine ⟨_, rfl, ?_⟩
 replace hB := hB.trans g7
 simp only [p3, p4]
 refine sv 8 (.bool false) ?_
 simp only [p3, p4]
 refine sq_nil ?_
 refine k6 _ _ ?_
 try clear k6 K6
 refine wp_cond_false rfl ?_
 refine wp_skip ?_
 refine k5 _ _ ?_
 try clear k5 K5
 refine wp_seq_k (fun K9 k9 => ?_)
 refine rg [0, 1, 2, 3, 4] ?_
 replace L2 := L2.gr (g4.trans g7)
 refine sw 13 (.agg #[n0, n1]) rfl (rl 29 0 [n0, n1] L2) ?_
 simp only [p3, p4]
 replace L3 := L3.gr g7
 refine sw 14 (.agg #[d0, d1]) rfl (rl 29 0 [d0, d1] L3) ?_
 simp only [p3, p4]
 refine se ?_
 have kq11 := g2.kp.trans (g3.kp.trans (g4.kp.trans g7.kp))
 replace hn := hn.kp kq11
 replace hd := hd.kp g7.kp
 refine ec 15 (gcd_i hn hd (by omega)) ?_
 rintro e10 w10 ⟨⟨x10, y10, rfl, h10⟩, g10⟩
 refine ⟨_, rfl, ?_⟩
 replace hB := hB.trans g10
 simp only [p3, p4]
 refine se ?_
 refine ea 29 #[(.bool false), (.slice none 0 0)] 5 hB fun b12 w12 g12 L12 o12 q12 hB => ?_
 replace L2 := L2.gr g10
 have ne2_12 := L2.ne o12
 replace L3 := L3.gr g10
 have ne3_12 := L3.ne o12
 replace L4 := L4.gr (g7.trans g10)
 have ne4_12 := L4.ne o12
 simp only [p3, p4]
 refine se ?_
 refine es 29 0 (.agg #[x10, y10]) [x10, y10] #[x10, y10] L12 hB q12 ⟨h10.one0, h10.one1, trivial⟩ fun w13 st13 kp13 L12 hB => ?_
 refine sq_nil ?_
 refine k9 _ _ ?_
 try clear k9 K9
 refine wp_seq_k (fun K14 k14 => ?_)
 refine wp_seq_k (fun K15 k15 => ?_)
 have gd22 := Gr.drew w13
 replace hB := hB.trans gd22
 replace L12 := L12.gr gd22
 refine wp_region_ord (fun w' => Lc w' b12 #[x10, y10] 29) [(true, 0), (false, 1), (false, 2), (true, 3)] (by kernel_rfl) (by kernel_rfl) (by kernel_rfl) (by decide) (fun _ _ _ _ _ h => h) L12 ?_
 refine ow 16 (.agg #[x10, y10]) rfl (fun w' hS => (rl 29 0 [x10, y10] hS)) ?_
 simp only [p3, p4]
 refine oe ?_
 refine ec 17 (one_i _) ?_
 rintro e24 w24 ⟨⟨x24, y24, rfl, h24⟩, g24⟩
 refine ⟨_, rfl, ?_⟩
 replace hB := hB.trans g24
 replace L12 := L12.gr g24
 refine ⟨L12, ?_⟩
 simp only [p3, p4]
 refine oe ?_
 have kq27 := g12.kp.trans (kp13.trans (gd22.kp.trans g24.kp))
 replace h10 := h10.kp kq27
 refine ec 18 (compare_i h10 h24 (by omega) (by omega)) ?_
 rintro e26 w26 ⟨rfl, g26⟩
 refine ⟨_, rfl, ?_⟩
 replace hB := hB.trans g26
 replace L12 := L12.gr g26
 refine ⟨L12, ?_⟩
 simp only [p3, p4]
 refine ow 19 (.bool true) rfl (fun w' hS => (RunV.bool (x := (sgn ((Int.gcd (N) (D) : Int) - 1) != (0 : Int))) (rvk (by kernel_rfl)) hg)) ?_
 simp only [p3, p4]
 refine ord_nil ?_
 refine k15 _ _ ?_
 try clear k15 K15
 refine wp_cond_true rfl ?_
 refine wp_seq_k (fun K28 k28 => ?_)
 refine rg [0, 1, 2, 3, 4, 5, 6, 7] ?_
 replace L2 := (st13.lc (L2.gr g12) ne2_12).gr (gd22.trans (g24.trans g26))
 refine sw 21 (.agg #[n0, n1]) rfl (rl 29 0 [n0, n1] L2) ?_
 simp only [p3, p4]
 refine sw 22 (.agg #[x10, y10]) rfl (rl 29 0 [x10, y10] L12) ?_
 simp only [p3, p4]
 refine se ?_
 have kq30 := g10.kp.trans (g12.kp.trans (kp13.trans (gd22.kp.trans (g24.kp.trans g26.kp))))
 replace hn := hn.kp kq30
 replace h10 := h10.kp g26.kp
 refine ec 23 (divmod_i hn h10 hxn.1 (by omega)) ?_
 rintro e29 w29 ⟨⟨x29, y29, xr29, yr29, rfl, h29, hr29⟩, g29⟩
 refine ⟨_, rfl, ?_⟩
 replace hB := hB.trans g29
 simp only [p3, p4]
 refine sv 20 (.tuple #[(.agg #[x29, y29]), (.agg #[xr29, yr29]), (.int .i64 0)]) ?_
 simp only [p3, p4]
 refine sv 24 (.agg #[x29, y29]) ?_
 simp only [p3, p4]
 refine sv 25 (.agg #[xr29, yr29]) ?_
 simp only [p3, p4]
 refine sv 26 (.int .i64 0) ?_
 simp only [p3, p4]
 refine se ?_
 replace L2 := L2.gr g29
 refine es 29 0 (.agg #[x29, y29]) [x29, y29] #[x29, y29] L2 hB q2 ⟨h29.one0, h29.one1, trivial⟩ fun w31 st31 kp31 L2 hB => ?_
 refine sq_nil ?_
 refine k28 _ _ ?_
 try clear k28 K28
 refine rg [0, 1, 2, 3, 4, 5, 6, 7] ?_
 replace L3 := st31.lc ((st13.lc (L3.gr g12) ne3_12).gr (gd22.trans (g24.trans (g26.trans g29)))) (Ne.symm ne2_3)
 refine sw 28 (.agg #[d0, d1]) rfl (rl 29 0 [d0, d1] L3) ?_
 simp only [p3, p4]
 replace L12 := st31.lc (L12.gr g29) (Ne.symm ne2_12)
 refine sw 29 (.agg #[x10, y10]) rfl (rl 29 0 [x10, y10] L12) ?_
 simp only [p3, p4]
 refine se ?_
 have kq33 := g10.kp.trans (g12.kp.trans (kp13.trans (gd22.kp.trans (g24.kp.trans (g26.kp.trans (g29.kp.trans kp31))))))
 replace hd := hd.kp kq33
 have kq34 := g29.kp.trans kp31
 replace h10 := h10.kp kq34
 refine ec 30 (divmod_i hd h10 hxn.1 (by omega)) ?_
 rintro e32 w32 ⟨⟨x32, y32, xr32, yr32, rfl, h32, hr32⟩, g32⟩
 refine ⟨_, rfl, ?_⟩
 replace hB := hB.trans g32
 simp only [p3, p4]
 refine sv 27 (.tuple #[(.agg #[x32, y32]), (.agg #[xr32, yr32]), (.int .i64 0)]) ?_
 simp only [p3, p4]
 refine sv 31 (.agg #[x32, y32]) ?_
 simp only [p3, p4]
 refine sv 32 (.agg #[xr32, yr32]) ?_
 simp only [p3, p4]
 refine sv 33 (.int .i64 0) ?_
 simp only [p3, p4]
 refine se ?_
 replace L3 := L3.gr g32
 refine es 29 0 (.agg #[x32, y32]) [x32, y32] #[x32, y32] L3 hB q3 ⟨h32.one0, h32.one1, trivial⟩ fun w35 st35 kp35 L3 hB => ?_
 refine sq_nil ?_
 refine k14 _ _ ?_
 try clear k14 K14
 refine wp_seq_k (fun K36 k36 => ?_)
 refine rg [0, 1, 2, 3] ?_
 replace L2 := st35.lc (L2.gr g32) ne2_3
 refine sw 34 (.agg #[x29, y29]) rfl (rl 29 0 [x29, y29] L2) ?_
 simp only [p3, p4]
 refine sw 35 (.agg #[x32, y32]) rfl (rl 29 0 [x32, y32] L3) ?_
 simp only [p3, p4]
 refine sv 36 (.agg #[x29, y29, x32, y32]) ?_
 simp only [p3, p4]
 refine se ?_
 replace L4 := st35.lc ((st31.lc ((st13.lc (L4.gr g12) ne4_12).gr (gd22.trans (g24.trans (g26.trans g29)))) (Ne.symm ne2_4)).gr g32) (Ne.symm ne3_4)
 refine es 31 0 (.agg #[x29, y29, x32, y32]) [x29, y29, x32, y32] #[x29, y29, x32, y32] L4 hB q4 ⟨h29.one0, h29.one1, h32.one0, h32.one1, trivial⟩ fun w37 st37 kp37 L4 hB => ?_
 refine sq_nil ?_
 refine k36 _ _ ?_
 try clear k36 K36
 refine wp_ret ?_
 refine bodyPost_ret (v := (.agg #[x29, y29, x32, y32])) (ret_cell _ _ _ rfl rfl L4 (by kernel_rfl)) rfl ⟨?_, hB⟩
 have kq38 := kp31.trans (g32.kp.trans (kp35.trans kp37))
 replace h29 := h29.kp kq38
 have kq39 := kp35.trans kp37
 replace h32 := h32.kp kq39
 exact ⟨_, _, _, _, rfl, h29, h32⟩

end Go.Proofs.YtgopfikljndklaaDoor
