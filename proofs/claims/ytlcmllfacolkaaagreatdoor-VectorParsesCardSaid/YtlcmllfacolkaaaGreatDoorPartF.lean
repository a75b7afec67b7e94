/- Joined of: Gen60, Vec, Gen61, Gen62. -/
import Derived.Test.YtlcmllfacolkaaaGreatDoorPartE
import Derived.Test.YtlcmllfacolkaaaGreatDoorPartD
import Derived.Test.YtlcmllfacolkaaaGreatDoorPartC
/- Printed by a program of the prover's: the reference of layer 3. -/
namespace Go.Proofs.YtlcmllfacolkaaaGreatDoor
open Go.RowKit

set_option maxRecDepth 100000 in
set_option maxHeartbeats 1000000 in
theorem r3_scale {k m : Nat} (a1 : Rat) (a2 : Rat) (a3 : Rat) (ha1 : RS k a1) (ha2 : RS k a2) (ha3 : RS k a3) (sq : Rat) (hs : RS m sq) (_hk : k + m ≤ 2900) (w : World) :
    Calls Tryz.prog 54 #[(.agg #[(.string ⟨(ratL (a1) : List UInt8).toArray⟩), (.string ⟨(ratL (a2) : List UInt8).toArray⟩), (.string ⟨(ratL (a3) : List UInt8).toArray⟩)]), (.string ⟨(ratL (sq) : List UInt8).toArray⟩)] w fun e w' => e = .returned (.agg #[.string ⟨(ratL (a1 * sq)).toArray⟩, .string ⟨(ratL (a2 * sq)).toArray⟩, .string ⟨(ratL (a3 * sq)).toArray⟩]) ∧ Gr w w' := by
 go_enter Tryz.func54, Tryz.ntmps54
 have hB := Gr.refl w
 refine wp_seq_k (fun K1 k1 => ?_)
 refine rg [0, 1] ?_
 refine se ?_
 refine eb 49 #[(.string ⟨(ratL (a1) : List UInt8).toArray⟩), (.string ⟨(ratL (a2) : List UInt8).toArray⟩), (.string ⟨(ratL (a3) : List UInt8).toArray⟩)] 2 hB fun b2 w2 g2 L2 o2 q2 hB => ?_
 simp only [p3, p4]
 refine se ?_
 refine ea 49 #[(.string ⟨([] : List UInt8).toArray⟩), (.string ⟨([] : List UInt8).toArray⟩), (.string ⟨([] : List UInt8).toArray⟩)] 4 hB fun b3 w3 g3 L3 o3 q3 hB => ?_
 have ne2_3 := L2.ne o3
 simp only [p3, p4]
 refine sq_nil ?_
 refine k1 _ _ ?_
 try clear k1 K1
 refine wp_seq_k (fun K4 k4 => ?_)
 have gd14 := Gr.drew w3
 replace hB := hB.trans gd14
 replace L2 := L2.gr (g3.trans gd14)
 refine wp_region_ord (fun w' => Lc w' b2 #[(.string ⟨(ratL (a1) : List UInt8).toArray⟩), (.string ⟨(ratL (a2) : List UInt8).toArray⟩), (.string ⟨(ratL (a3) : List UInt8).toArray⟩)] 49) [(true, 0), (true, 1), (true, 2), (true, 4), (true, 5), (true, 6), (true, 8), (true, 9), (true, 10), (false, 3), (false, 7), (false, 11), (true, 12), (false, 13)] (by kernel_rfl) (by kernel_rfl) (by kernel_rfl) (by decide) (fun _ _ _ _ _ h => h) L2 ?_
 refine ov 5 (.pointer (some ⟨b2, 0, none⟩)) ?_
 simp only [p3, p4]
 refine ow 6 (.string ⟨(ratL (a1) : List UInt8).toArray⟩) rfl (fun w' hS => (rk 9 0 hS)) ?_
 simp only [p3, p4]
 refine ov 7 (.string ⟨(ratL (sq) : List UInt8).toArray⟩) ?_
 simp only [p3, p4]
 refine ov 9 (.pointer (some ⟨b2, 1, none⟩)) ?_
 simp only [p3, p4]
 refine ow 10 (.string ⟨(ratL (a2) : List UInt8).toArray⟩) rfl (fun w' hS => (rk 9 1 hS)) ?_
 simp only [p3, p4]
 refine ov 11 (.string ⟨(ratL (sq) : List UInt8).toArray⟩) ?_
 simp only [p3, p4]
 refine ov 13 (.pointer (some ⟨b2, 2, none⟩)) ?_
 simp only [p3, p4]
 refine ow 14 (.string ⟨(ratL (a3) : List UInt8).toArray⟩) rfl (fun w' hS => (rk 9 2 hS)) ?_
 simp only [p3, p4]
 refine ov 15 (.string ⟨(ratL (sq) : List UInt8).toArray⟩) ?_
 simp only [p3, p4]
 refine oe ?_
 refine ec 8 (r2_mul (a1) (sq) ha1 hs (by omega) _) ?_
 rintro e16 w16 ⟨rfl, g16⟩
 refine ⟨_, rfl, ?_⟩
 replace hB := hB.trans g16
 replace L2 := L2.gr g16
 refine ⟨L2, ?_⟩
 simp only [p3, p4]
 refine oe ?_
 refine ec 12 (r2_mul (a2) (sq) ha2 hs (by omega) _) ?_
 rintro e18 w18 ⟨rfl, g18⟩
 refine ⟨_, rfl, ?_⟩
 replace hB := hB.trans g18
 replace L2 := L2.gr g18
 refine ⟨L2, ?_⟩
 simp only [p3, p4]
 refine oe ?_
 refine ec 16 (r2_mul (a3) (sq) ha3 hs (by omega) _) ?_
 rintro e20 w20 ⟨rfl, g20⟩
 refine ⟨_, rfl, ?_⟩
 replace hB := hB.trans g20
 replace L2 := L2.gr g20
 refine ⟨L2, ?_⟩
 simp only [p3, p4]
 refine ov 17 (.agg #[(.string ⟨(ratL (a1 * sq) : List UInt8).toArray⟩), (.string ⟨(ratL (a2 * sq) : List UInt8).toArray⟩), (.string ⟨(ratL (a3 * sq) : List UInt8).toArray⟩)]) ?_
 simp only [p3, p4]
 refine oe ?_
 replace L3 := L3.gr (gd14.trans (g16.trans (g18.trans g20)))
 refine es 49 0 (.agg #[(.string ⟨(ratL (a1 * sq) : List UInt8).toArray⟩), (.string ⟨(ratL (a2 * sq) : List UInt8).toArray⟩), (.string ⟨(ratL (a3 * sq) : List UInt8).toArray⟩)]) [(.string ⟨(ratL (a1 * sq) : List UInt8).toArray⟩), (.string ⟨(ratL (a2 * sq) : List UInt8).toArray⟩), (.string ⟨(ratL (a3 * sq) : List UInt8).toArray⟩)] #[(.string ⟨(ratL (a1 * sq) : List UInt8).toArray⟩), (.string ⟨(ratL (a2 * sq) : List UInt8).toArray⟩), (.string ⟨(ratL (a3 * sq) : List UInt8).toArray⟩)] L3 hB q3 ⟨rfl, rfl, rfl, trivial⟩ fun w22 st22 kp22 L3 hB => ?_
 replace L2 := st22.lc L2 ne2_3
 refine ⟨L2, ?_⟩
 refine ord_nil ?_
 refine k4 _ _ ?_
 try clear k4 K4
 refine wp_ret ?_
 refine bodyPost_ret (v := (.agg #[(.string ⟨(ratL (a1 * sq) : List UInt8).toArray⟩), (.string ⟨(ratL (a2 * sq) : List UInt8).toArray⟩), (.string ⟨(ratL (a3 * sq) : List UInt8).toArray⟩)])) (ret_cell _ _ _ rfl rfl L3 (by kernel_rfl)) rfl ⟨?_, hB⟩
 exact rfl

set_option maxRecDepth 100000 in
set_option maxHeartbeats 4000000 in
theorem r3_cross {k m : Nat} (a1 : Rat) (a2 : Rat) (a3 : Rat) (ha1 : RS k a1) (ha2 : RS k a2) (ha3 : RS k a3) (c1 : Rat) (c2 : Rat) (c3 : Rat) (hc1 : RS m c1) (hc2 : RS m c2) (hc3 : RS m c3) (_hk : k + m ≤ 900) (w : World) :
    Calls Tryz.prog 26 #[(.agg #[(.string ⟨(ratL (a1) : List UInt8).toArray⟩), (.string ⟨(ratL (a2) : List UInt8).toArray⟩), (.string ⟨(ratL (a3) : List UInt8).toArray⟩)]), (.agg #[(.string ⟨(ratL (c1) : List UInt8).toArray⟩), (.string ⟨(ratL (c2) : List UInt8).toArray⟩), (.string ⟨(ratL (c3) : List UInt8).toArray⟩)])] w fun e w' => e = .returned (.agg #[.string ⟨(ratL (a2 * c3 - a3 * c2)).toArray⟩, .string ⟨(ratL (a3 * c1 - a1 * c3)).toArray⟩, .string ⟨(ratL (a1 * c2 - a2 * c1)).toArray⟩]) ∧ Gr w w' := by
 go_enter Tryz.func26, Tryz.ntmps26
 have hB := Gr.refl w
 refine wp_seq_k (fun K1 k1 => ?_)
 refine rg [0, 1, 2] ?_
 refine se ?_
 refine eb 49 #[(.string ⟨(ratL (a1) : List UInt8).toArray⟩), (.string ⟨(ratL (a2) : List UInt8).toArray⟩), (.string ⟨(ratL (a3) : List UInt8).toArray⟩)] 2 hB fun b2 w2 g2 L2 o2 q2 hB => ?_
 simp only [p3, p4]
 refine se ?_
 refine eb 49 #[(.string ⟨(ratL (c1) : List UInt8).toArray⟩), (.string ⟨(ratL (c2) : List UInt8).toArray⟩), (.string ⟨(ratL (c3) : List UInt8).toArray⟩)] 3 hB fun b3 w3 g3 L3 o3 q3 hB => ?_
 simp only [p3, p4]
 refine se ?_
 refine ea 49 #[(.string ⟨([] : List UInt8).toArray⟩), (.string ⟨([] : List UInt8).toArray⟩), (.string ⟨([] : List UInt8).toArray⟩)] 4 hB fun b4 w4 g4 L4 o4 q4 hB => ?_
 replace L2 := L2.gr g3
 simp only [p3, p4]
 refine sq_nil ?_
 refine k1 _ _ ?_
 try clear k1 K1
 refine wp_seq_k (fun K5 k5 => ?_)
 refine rg [0] ?_
 refine se ?_
 refine ea 49 #[(.string ⟨([] : List UInt8).toArray⟩), (.string ⟨([] : List UInt8).toArray⟩), (.string ⟨([] : List UInt8).toArray⟩)] 5 hB fun b6 w6 g6 L6 o6 q6 hB => ?_
 replace L2 := L2.gr g4
 have ne2_6 := L2.ne o6
 replace L3 := L3.gr g4
 have ne3_6 := L3.ne o6
 have ne4_6 := L4.ne o6
 simp only [p3, p4]
 refine sq_nil ?_
 refine k5 _ _ ?_
 try clear k5 K5
 refine wp_seq_k (fun K7 k7 => ?_)
 refine wp_seq_k (fun K8 k8 => ?_)
 refine rg [0] ?_
 refine sv 6 (.int .i64 0) ?_
 simp only [p3, p4]
 refine sq_nil ?_
 refine k8 _ _ ?_
 try clear k8 K8
 refine wp_block ?_
 refine wp_loop_rounds 4 ?_
 show Code.wp _ _ _ _ _
 refine wp_seq_k (fun K9 k9 => ?_)
 refine wp_seq_k (fun K10 k10 => ?_)
 refine rg [0, 1] ?_
 refine sv 9 (.int .i64 0) ?_
 simp only [p3, p4]
 refine sv 10 (.bool true) ?_
 simp only [p3, p4]
 refine sq_nil ?_
 refine k10 _ _ ?_
 try clear k10 K10
 refine wp_cond_true rfl ?_
 refine wp_skip ?_
 refine k9 _ _ ?_
 try clear k9 K9
 refine wp_seq_k (fun K11 k11 => ?_)
 refine wp_block ?_
 refine wp_seq_k (fun K12 k12 => ?_)
 refine rg [0, 1, 2, 3, 4, 5, 6, 7] ?_
 refine sv 13 (.int .i64 0) ?_
 simp only [p3, p4]
 refine sv 14 (.int .i64 1) ?_
 simp only [p3, p4]
 refine sv 15 (.int .i64 1) ?_
 simp only [p3, p4]
 refine sv 16 (.int .i64 0) ?_
 simp only [p3, p4]
 refine sv 17 (.int .i64 2) ?_
 simp only [p3, p4]
 refine sv 18 (.int .i64 2) ?_
 simp only [p3, p4]
 refine sv 7 (.int .i64 1) ?_
 simp only [p3, p4]
 refine sv 8 (.int .i64 2) ?_
 simp only [p3, p4]
 refine sq_nil ?_
 refine k12 _ _ ?_
 try clear k12 K12
 have gd22 := Gr.drew w6
 replace hB := hB.trans gd22
 replace L2 := L2.gr (g6.trans gd22)
 replace L3 := L3.gr (g6.trans gd22)
 refine wp_region_ord (fun w' => Lc w' b2 #[(.string ⟨(ratL (a1) : List UInt8).toArray⟩), (.string ⟨(ratL (a2) : List UInt8).toArray⟩), (.string ⟨(ratL (a3) : List UInt8).toArray⟩)] 49 ∧ Lc w' b3 #[(.string ⟨(ratL (c1) : List UInt8).toArray⟩), (.string ⟨(ratL (c2) : List UInt8).toArray⟩), (.string ⟨(ratL (c3) : List UInt8).toArray⟩)] 49) [(true, 0), (true, 1), (true, 2), (true, 3), (true, 4), (true, 5), (true, 6), (true, 8), (true, 9), (true, 10), (true, 11), (true, 12), (true, 13), (false, 7), (false, 14), (false, 15), (true, 16), (false, 17)] (by kernel_rfl) (by kernel_rfl) (by kernel_rfl) (by decide) (fun _ _ _ _ _ h => h) ⟨L2, L3⟩ ?_
 refine ov 19 (.int .i64 0) ?_
 simp only [p3, p4]
 refine ov 20 (.int .i64 1) ?_
 simp only [p3, p4]
 refine ov 21 (.pointer (some ⟨b2, 1, none⟩)) ?_
 simp only [p3, p4]
 refine ow 22 (.string ⟨(ratL (a2) : List UInt8).toArray⟩) rfl (fun w' hS => (rk 9 1 hS.1)) ?_
 simp only [p3, p4]
 refine ov 23 (.int .i64 2) ?_
 simp only [p3, p4]
 refine ov 24 (.pointer (some ⟨b3, 2, none⟩)) ?_
 simp only [p3, p4]
 refine ow 25 (.string ⟨(ratL (c3) : List UInt8).toArray⟩) rfl (fun w' hS => (rk 9 2 hS.2)) ?_
 simp only [p3, p4]
 refine ov 27 (.int .i64 2) ?_
 simp only [p3, p4]
 refine ov 28 (.pointer (some ⟨b2, 2, none⟩)) ?_
 simp only [p3, p4]
 refine ow 29 (.string ⟨(ratL (a3) : List UInt8).toArray⟩) rfl (fun w' hS => (rk 9 2 hS.1)) ?_
 simp only [p3, p4]
 refine ov 30 (.int .i64 1) ?_
 simp only [p3, p4]
 refine ov 31 (.pointer (some ⟨b3, 1, none⟩)) ?_
 simp only [p3, p4]
 refine ow 32 (.string ⟨(ratL (c2) : List UInt8).toArray⟩) rfl (fun w' hS => (rk 9 1 hS.2)) ?_
 simp only [p3, p4]
 refine oe ?_
 refine ec 26 (r2_mul (a2) (c3) ha2 hc3 (by omega) _) ?_
 rintro e24 w24 ⟨rfl, g24⟩
 refine ⟨_, rfl, ?_⟩
 replace hB := hB.trans g24
 replace L2 := L2.gr g24
 replace L3 := L3.gr g24
 refine ⟨⟨L2, L3⟩, ?_⟩
 simp only [p3, p4]
 refine oe ?_
 refine ec 33 (r2_mul (a3) (c2) ha3 hc2 (by omega) _) ?_
 rintro e26 w26 ⟨rfl, g26⟩
 refine ⟨_, rfl, ?_⟩
 replace hB := hB.trans g26
 replace L2 := L2.gr g26
 replace L3 := L3.gr g26
 refine ⟨⟨L2, L3⟩, ?_⟩
 simp only [p3, p4]
 refine oe ?_
 refine ec 34 (r2_sub (a2 * c3) (a3 * c2) (ha2.mul hc3) (ha3.mul hc2) (by omega) _) ?_
 rintro e28 w28 ⟨rfl, g28⟩
 refine ⟨_, rfl, ?_⟩
 replace hB := hB.trans g28
 replace L2 := L2.gr g28
 replace L3 := L3.gr g28
 refine ⟨⟨L2, L3⟩, ?_⟩
 simp only [p3, p4]
 refine ov 35 (.pointer (some ⟨b6, 0, none⟩)) ?_
 simp only [p3, p4]
 refine oe ?_
 replace L6 := L6.gr (gd22.trans (g24.trans (g26.trans g28)))
 refine es 9 0 (.string ⟨(ratL ((a2 * c3) - (a3 * c2)) : List UInt8).toArray⟩) [(.string ⟨(ratL ((a2 * c3) - (a3 * c2)) : List UInt8).toArray⟩)] #[(.string ⟨(ratL ((a2 * c3) - (a3 * c2)) : List UInt8).toArray⟩), (.string ⟨([] : List UInt8).toArray⟩), (.string ⟨([] : List UInt8).toArray⟩)] L6 hB q6 ⟨rfl, trivial⟩ fun w30 st30 kp30 L6 hB => ?_
 replace L2 := st30.lc L2 ne2_6
 replace L3 := st30.lc L3 ne3_6
 refine ⟨⟨L2, L3⟩, ?_⟩
 refine ord_nil ?_
 refine k11 _ _ ?_
 try clear k11 K11
 refine rg [0, 1, 2] ?_
 refine sv 11 (.int .i64 0) ?_
 simp only [p3, p4]
 refine sv 12 (.int .i64 1) ?_
 simp only [p3, p4]
 refine sv 6 (.int .i64 1) ?_
 simp only [p3, p4]
 refine sq_nil ?_
 show Code.rounds _ _ _ _ _ _
 show Code.wp _ _ _ _ _
 refine wp_seq_k (fun K31 k31 => ?_)
 refine wp_seq_k (fun K32 k32 => ?_)
 refine rg [0, 1] ?_
 refine sv 9 (.int .i64 1) ?_
 simp only [p3, p4]
 refine sv 10 (.bool true) ?_
 simp only [p3, p4]
 refine sq_nil ?_
 refine k32 _ _ ?_
 try clear k32 K32
 refine wp_cond_true rfl ?_
 refine wp_skip ?_
 refine k31 _ _ ?_
 try clear k31 K31
 refine wp_seq_k (fun K33 k33 => ?_)
 refine wp_block ?_
 refine wp_seq_k (fun K34 k34 => ?_)
 refine rg [0, 1, 2, 3, 4, 5, 6, 7] ?_
 refine sv 13 (.int .i64 1) ?_
 simp only [p3, p4]
 refine sv 14 (.int .i64 2) ?_
 simp only [p3, p4]
 refine sv 15 (.int .i64 2) ?_
 simp only [p3, p4]
 refine sv 16 (.int .i64 1) ?_
 simp only [p3, p4]
 refine sv 17 (.int .i64 3) ?_
 simp only [p3, p4]
 refine sv 18 (.int .i64 0) ?_
 simp only [p3, p4]
 refine sv 7 (.int .i64 2) ?_
 simp only [p3, p4]
 refine sv 8 (.int .i64 0) ?_
 simp only [p3, p4]
 refine sq_nil ?_
 refine k34 _ _ ?_
 try clear k34 K34
 have gd44 := Gr.drew w30
 replace hB := hB.trans gd44
 replace L2 := L2.gr gd44
 replace L3 := L3.gr gd44
 refine wp_region_ord (fun w' => Lc w' b2 #[(.string ⟨(ratL (a1) : List UInt8).toArray⟩), (.string ⟨(ratL (a2) : List UInt8).toArray⟩), (.string ⟨(ratL (a3) : List UInt8).toArray⟩)] 49 ∧ Lc w' b3 #[(.string ⟨(ratL (c1) : List UInt8).toArray⟩), (.string ⟨(ratL (c2) : List UInt8).toArray⟩), (.string ⟨(ratL (c3) : List UInt8).toArray⟩)] 49) [(true, 0), (true, 1), (true, 2), (true, 3), (true, 4), (true, 5), (true, 6), (true, 8), (true, 9), (true, 10), (true, 11), (true, 12), (true, 13), (false, 7), (false, 14), (false, 15), (true, 16), (false, 17)] (by kernel_rfl) (by kernel_rfl) (by kernel_rfl) (by decide) (fun _ _ _ _ _ h => h) ⟨L2, L3⟩ ?_
 refine ov 19 (.int .i64 1) ?_
 simp only [p3, p4]
 refine ov 20 (.int .i64 2) ?_
 simp only [p3, p4]
 refine ov 21 (.pointer (some ⟨b2, 2, none⟩)) ?_
 simp only [p3, p4]
 refine ow 22 (.string ⟨(ratL (a3) : List UInt8).toArray⟩) rfl (fun w' hS => (rk 9 2 hS.1)) ?_
 simp only [p3, p4]
 refine ov 23 (.int .i64 0) ?_
 simp only [p3, p4]
 refine ov 24 (.pointer (some ⟨b3, 0, none⟩)) ?_
 simp only [p3, p4]
 refine ow 25 (.string ⟨(ratL (c1) : List UInt8).toArray⟩) rfl (fun w' hS => (rk 9 0 hS.2)) ?_
 simp only [p3, p4]
 refine ov 27 (.int .i64 0) ?_
 simp only [p3, p4]
 refine ov 28 (.pointer (some ⟨b2, 0, none⟩)) ?_
 simp only [p3, p4]
 refine ow 29 (.string ⟨(ratL (a1) : List UInt8).toArray⟩) rfl (fun w' hS => (rk 9 0 hS.1)) ?_
 simp only [p3, p4]
 refine ov 30 (.int .i64 2) ?_
 simp only [p3, p4]
 refine ov 31 (.pointer (some ⟨b3, 2, none⟩)) ?_
 simp only [p3, p4]
 refine ow 32 (.string ⟨(ratL (c3) : List UInt8).toArray⟩) rfl (fun w' hS => (rk 9 2 hS.2)) ?_
 simp only [p3, p4]
 refine oe ?_
 refine ec 26 (r2_mul (a3) (c1) ha3 hc1 (by omega) _) ?_
 rintro e46 w46 ⟨rfl, g46⟩
 refine ⟨_, rfl, ?_⟩
 replace hB := hB.trans g46
 replace L2 := L2.gr g46
 replace L3 := L3.gr g46
 refine ⟨⟨L2, L3⟩, ?_⟩
 simp only [p3, p4]
 refine oe ?_
 refine ec 33 (r2_mul (a1) (c3) ha1 hc3 (by omega) _) ?_
 rintro e48 w48 ⟨rfl, g48⟩
 refine ⟨_, rfl, ?_⟩
 replace hB := hB.trans g48
 replace L2 := L2.gr g48
 replace L3 := L3.gr g48
 refine ⟨⟨L2, L3⟩, ?_⟩
 simp only [p3, p4]
 refine oe ?_
 refine ec 34 (r2_sub (a3 * c1) (a1 * c3) (ha3.mul hc1) (ha1.mul hc3) (by omega) _) ?_
 rintro e50 w50 ⟨rfl, g50⟩
 refine ⟨_, rfl, ?_⟩
 replace hB := hB.trans g50
 replace L2 := L2.gr g50
 replace L3 := L3.gr g50
 refine ⟨⟨L2, L3⟩, ?_⟩
 simp only [p3, p4]
 refine ov 35 (.pointer (some ⟨b6, 1, none⟩)) ?_
 simp only [p3, p4]
 refine oe ?_
 replace L6 := L6.gr (gd44.trans (g46.trans (g48.trans g50)))
 refine es 9 1 (.string ⟨(ratL ((a3 * c1) - (a1 * c3)) : List UInt8).toArray⟩) [(.string ⟨(ratL ((a3 * c1) - (a1 * c3)) : List UInt8).toArray⟩)] #[(.string ⟨(ratL ((a2 * c3) - (a3 * c2)) : List UInt8).toArray⟩), (.string ⟨(ratL ((a3 * c1) - (a1 * c3)) : List UInt8).toArray⟩), (.string ⟨([] : List UInt8).toArray⟩)] L6 hB q6 ⟨rfl, trivial⟩ fun w52 st52 kp52 L6 hB => ?_
 replace L2 := st52.lc L2 ne2_6
 replace L3 := st52.lc L3 ne3_6
 refine ⟨⟨L2, L3⟩, ?_⟩
 refine ord_nil ?_
 refine k33 _ _ ?_
 try clear k33 K33
 refine rg [0, 1, 2] ?_
 refine sv 11 (.int .i64 1) ?_
 simp only [p3, p4]
 refine sv 12 (.int .i64 2) ?_
 simp only [p3, p4]
 refine sv 6 (.int .i64 2) ?_
 simp only [p3, p4]
 refine sq_nil ?_
 show Code.rounds _ _ _ _ _ _
 show Code.wp _ _ _ _ _
 refine wp_seq_k (fun K53 k53 => ?_)
 refine wp_seq_k (fun K54 k54 => ?_)
 refine rg [0, 1] ?_
 refine sv 9 (.int .i64 2) ?_
 simp only [p3, p4]
 refine sv 10 (.bool true) ?_
 simp only [p3, p4]
 refine sq_nil ?_
 refine k54 _ _ ?_
 try clear k54 K54
 refine wp_cond_true rfl ?_
 refine wp_skip ?_
 refine k53 _ _ ?_
 try clear k53 K53
 refine wp_seq_k (fun K55 k55 => ?_)
 refine wp_block ?_
 refine wp_seq_k (fun K56 k56 => ?_)
 refine rg [0, 1, 2, 3, 4, 5, 6, 7] ?_
 refine sv 13 (.int .i64 2) ?_
 simp only [p3, p4]
 refine sv 14 (.int .i64 3) ?_
 simp only [p3, p4]
 refine sv 15 (.int .i64 0) ?_
 simp only [p3, p4]
 refine sv 16 (.int .i64 2) ?_
 simp only [p3, p4]
 refine sv 17 (.int .i64 4) ?_
 simp only [p3, p4]
 refine sv 18 (.int .i64 1) ?_
 simp only [p3, p4]
 refine sv 7 (.int .i64 0) ?_
 simp only [p3, p4]
 refine sv 8 (.int .i64 1) ?_
 simp only [p3, p4]
 refine sq_nil ?_
 refine k56 _ _ ?_
 try clear k56 K56
 have gd66 := Gr.drew w52
 replace hB := hB.trans gd66
 replace L2 := L2.gr gd66
 replace L3 := L3.gr gd66
 refine wp_region_ord (fun w' => Lc w' b2 #[(.string ⟨(ratL (a1) : List UInt8).toArray⟩), (.string ⟨(ratL (a2) : List UInt8).toArray⟩), (.string ⟨(ratL (a3) : List UInt8).toArray⟩)] 49 ∧ Lc w' b3 #[(.string ⟨(ratL (c1) : List UInt8).toArray⟩), (.string ⟨(ratL (c2) : List UInt8).toArray⟩), (.string ⟨(ratL (c3) : List UInt8).toArray⟩)] 49) [(true, 0), (true, 1), (true, 2), (true, 3), (true, 4), (true, 5), (true, 6), (true, 8), (true, 9), (true, 10), (true, 11), (true, 12), (true, 13), (false, 7), (false, 14), (false, 15), (true, 16), (false, 17)] (by kernel_rfl) (by kernel_rfl) (by kernel_rfl) (by decide) (fun _ _ _ _ _ h => h) ⟨L2, L3⟩ ?_
 refine ov 19 (.int .i64 2) ?_
 simp only [p3, p4]
 refine ov 20 (.int .i64 0) ?_
 simp only [p3, p4]
 refine ov 21 (.pointer (some ⟨b2, 0, none⟩)) ?_
 simp only [p3, p4]
 refine ow 22 (.string ⟨(ratL (a1) : List UInt8).toArray⟩) rfl (fun w' hS => (rk 9 0 hS.1)) ?_
 simp only [p3, p4]
 refine ov 23 (.int .i64 1) ?_
 simp only [p3, p4]
 refine ov 24 (.pointer (some ⟨b3, 1, none⟩)) ?_
 simp only [p3, p4]
 refine ow 25 (.string ⟨(ratL (c2) : List UInt8).toArray⟩) rfl (fun w' hS => (rk 9 1 hS.2)) ?_
 simp only [p3, p4]
 refine ov 27 (.int .i64 1) ?_
 simp only [p3, p4]
 refine ov 28 (.pointer (some ⟨b2, 1, none⟩)) ?_
 simp only [p3, p4]
 refine ow 29 (.string ⟨(ratL (a2) : List UInt8).toArray⟩) rfl (fun w' hS => (rk 9 1 hS.1)) ?_
 simp only [p3, p4]
 refine ov 30 (.int .i64 0) ?_
 simp only [p3, p4]
 refine ov 31 (.pointer (some ⟨b3, 0, none⟩)) ?_
 simp only [p3, p4]
 refine ow 32 (.string ⟨(ratL (c1) : List UInt8).toArray⟩) rfl (fun w' hS => (rk 9 0 hS.2)) ?_
 simp only [p3, p4]
 refine oe ?_
 refine ec 26 (r2_mul (a1) (c2) ha1 hc2 (by omega) _) ?_
 rintro e68 w68 ⟨rfl, g68⟩
 refine ⟨_, rfl, ?_⟩
 replace hB := hB.trans g68
 replace L2 := L2.gr g68
 replace L3 := L3.gr g68
 refine ⟨⟨L2, L3⟩, ?_⟩
 simp only [p3, p4]
 refine oe ?_
 refine ec 33 (r2_mul (a2) (c1) ha2 hc1 (by omega) _) ?_
 rintro e70 w70 ⟨rfl, g70⟩
 refine ⟨_, rfl, ?_⟩
 replace hB := hB.trans g70
 replace L2 := L2.gr g70
 replace L3 := L3.gr g70
 refine ⟨⟨L2, L3⟩, ?_⟩
 simp only [p3, p4]
 refine oe ?_
 refine ec 34 (r2_sub (a1 * c2) (a2 * c1) (ha1.mul hc2) (ha2.mul hc1) (by omega) _) ?_
 rintro e72 w72 ⟨rfl, g72⟩
 refine ⟨_, rfl, ?_⟩
 replace hB := hB.trans g72
 replace L2 := L2.gr g72
 replace L3 := L3.gr g72
 refine ⟨⟨L2, L3⟩, ?_⟩
 simp only [p3, p4]
 refine ov 35 (.pointer (some ⟨b6, 2, none⟩)) ?_
 simp only [p3, p4]
 refine oe ?_
 replace L6 := L6.gr (gd66.trans (g68.trans (g70.trans g72)))
 refine es 9 2 (.string ⟨(ratL ((a1 * c2) - (a2 * c1)) : List UInt8).toArray⟩) [(.string ⟨(ratL ((a1 * c2) - (a2 * c1)) : List UInt8).toArray⟩)] #[(.string ⟨(ratL ((a2 * c3) - (a3 * c2)) : List UInt8).toArray⟩), (.string ⟨(ratL ((a3 * c1) - (a1 * c3)) : List UInt8).toArray⟩), (.string ⟨(ratL ((a1 * c2) - (a2 * c1)) : List UInt8).toArray⟩)] L6 hB q6 ⟨rfl, trivial⟩ fun w74 st74 kp74 L6 hB => ?_
 replace L2 := st74.lc L2 ne2_6
 replace L3 := st74.lc L3 ne3_6
 refine ⟨⟨L2, L3⟩, ?_⟩
 refine ord_nil ?_
 refine k55 _ _ ?_
 try clear k55 K55
 refine rg [0, 1, 2] ?_
 refine sv 11 (.int .i64 2) ?_
 simp only [p3, p4]
 refine sv 12 (.int .i64 3) ?_
 simp only [p3, p4]
 refine sv 6 (.int .i64 3) ?_
 simp only [p3, p4]
 refine sq_nil ?_
 show Code.rounds _ _ _ _ _ _
 show Code.wp _ _ _ _ _
 refine wp_seq_k (fun K75 k75 => ?_)
 refine wp_seq_k (fun K76 k76 => ?_)
 refine rg [0, 1] ?_
 refine sv 9 (.int .i64 3) ?_
 simp only [p3, p4]
 refine sv 10 (.bool false) ?_
 simp only [p3, p4]
 refine sq_nil ?_
 refine k76 _ _ ?_
 try clear k76 K76
 refine wp_cond_false rfl ?_
 refine wp_exit ?_
 simp only [Exit.then, Exit.inBlock, ↓reduceIte]
 refine k7 _ _ ?_
 try clear k7 K7
 refine wp_seq_k (fun K77 k77 => ?_)
 refine rg [0, 1] ?_
 refine sw 36 (.agg #[(.string ⟨(ratL ((a2 * c3) - (a3 * c2)) : List UInt8).toArray⟩), (.string ⟨(ratL ((a3 * c1) - (a1 * c3)) : List UInt8).toArray⟩), (.string ⟨(ratL ((a1 * c2) - (a2 * c1)) : List UInt8).toArray⟩)]) rfl (rl 49 0 [(.string ⟨(ratL ((a2 * c3) - (a3 * c2)) : List UInt8).toArray⟩), (.string ⟨(ratL ((a3 * c1) - (a1 * c3)) : List UInt8).toArray⟩), (.string ⟨(ratL ((a1 * c2) - (a2 * c1)) : List UInt8).toArray⟩)] L6) ?_
 simp only [p3, p4]
 refine se ?_
 replace L4 := st74.lc ((st52.lc ((st30.lc (L4.gr (g6.trans (gd22.trans (g24.trans (g26.trans g28))))) ne4_6).gr (gd44.trans (g46.trans (g48.trans g50)))) ne4_6).gr (gd66.trans (g68.trans (g70.trans g72)))) ne4_6
 refine es 49 0 (.agg #[(.string ⟨(ratL ((a2 * c3) - (a3 * c2)) : List UInt8).toArray⟩), (.string ⟨(ratL ((a3 * c1) - (a1 * c3)) : List UInt8).toArray⟩), (.string ⟨(ratL ((a1 * c2) - (a2 * c1)) : List UInt8).toArray⟩)]) [(.string ⟨(ratL ((a2 * c3) - (a3 * c2)) : List UInt8).toArray⟩), (.string ⟨(ratL ((a3 * c1) - (a1 * c3)) : List UInt8).toArray⟩), (.string ⟨(ratL ((a1 * c2) - (a2 * c1)) : List UInt8).toArray⟩)] #[(.string ⟨(ratL ((a2 * c3) - (a3 * c2)) : List UInt8).toArray⟩), (.string ⟨(ratL ((a3 * c1) - (a1 * c3)) : List UInt8).toArray⟩), (.string ⟨(ratL ((a1 * c2) - (a2 * c1)) : List UInt8).toArray⟩)] L4 hB q4 ⟨rfl, rfl, rfl, trivial⟩ fun w78 st78 kp78 L4 hB => ?_
 refine sq_nil ?_
 refine k77 _ _ ?_
 try clear k77 K77
 refine wp_ret ?_
 refine bodyPost_ret (v := (.agg #[(.string ⟨(ratL ((a2 * c3) - (a3 * c2)) : List UInt8).toArray⟩), (.string ⟨(ratL ((a3 * c1) - (a1 * c3)) : List UInt8).toArray⟩), (.string ⟨(ratL ((a1 * c2) - (a2 * c1)) : List UInt8).toArray⟩)])) (ret_cell _ _ _ rfl rfl L4 (by kernel_rfl)) rfl ⟨?_, hB⟩
 exact rfl

theorem zero_sEq (a1 a2 a3 : Rat) : sEq [ratL a1, ratL a2, ratL a3] [[48], [48], [48]] = (vcmp a1 a2 a3 0 0 0 == (0 : Int)) := by
  have e : ([48] : List UInt8) = ratL 0 := (eq_of_beq (ratL_litw (by kernel_rfl) (itoa_litp 0 (by kernel_rfl) (by decide)))).symm
  rw [e]
  simp only [sEq, ratL_beq]
  rw [Bool.eq_iff_iff, beq_iff_eq, vcmp_zero]
  simp

set_option maxRecDepth 100000 in
set_option maxHeartbeats 1000000 in
theorem r3_zero (a1 a2 a3 : Rat) (w : World) :
    Calls Tryz.prog 30 #[(.agg #[(.string ⟨(ratL (a1) : List UInt8).toArray⟩), (.string ⟨(ratL (a2) : List UInt8).toArray⟩), (.string ⟨(ratL (a3) : List UInt8).toArray⟩)])] w fun e w' => e = .returned (.bool (vcmp a1 a2 a3 0 0 0 == (0 : Int))) ∧ Gr w w' := by
 go_enter Tryz.func30, Tryz.ntmps30
 have hB := Gr.refl w
 refine wp_seq_k (fun K1 k1 => ?_)
 refine rg [0, 1] ?_
 refine se ?_
 refine eb 49 #[(.string ⟨(ratL (a1) : List UInt8).toArray⟩), (.string ⟨(ratL (a2) : List UInt8).toArray⟩), (.string ⟨(ratL (a3) : List UInt8).toArray⟩)] 1 hB fun b2 w2 g2 L2 o2 q2 hB => ?_
 simp only [p3, p4]
 refine sv 2 (.bool false) ?_
 simp only [p3, p4]
 refine sq_nil ?_
 refine k1 _ _ ?_
 try clear k1 K1
 refine wp_seq_k (fun K3 k3 => ?_)
 refine rg [0, 1, 2, 3] ?_
 refine sw 3 (.agg #[(.string ⟨(ratL (a1) : List UInt8).toArray⟩), (.string ⟨(ratL (a2) : List UInt8).toArray⟩), (.string ⟨(ratL (a3) : List UInt8).toArray⟩)]) rfl (rl 49 0 [(.string ⟨(ratL (a1) : List UInt8).toArray⟩), (.string ⟨(ratL (a2) : List UInt8).toArray⟩), (.string ⟨(ratL (a3) : List UInt8).toArray⟩)] L2) ?_
 simp only [p3, p4]
 refine sv 4 (.agg #[(.string ⟨([48] : List UInt8).toArray⟩), (.string ⟨([48] : List UInt8).toArray⟩), (.string ⟨([48] : List UInt8).toArray⟩)]) ?_
 simp only [p3, p4]
 refine sw 5 (.bool (sEq [(ratL (a1)), (ratL (a2)), (ratL (a3))] [([48] : List UInt8), ([48] : List UInt8), ([48] : List UInt8)])) rfl (rv_ssq 49 49 9 _ _ [(ratL (a1)), (ratL (a2)), (ratL (a3))] [([48] : List UInt8), ([48] : List UInt8), ([48] : List UInt8)] rfl rfl rfl (by kernel_rfl) (by kernel_rfl) (by kernel_rfl)) ?_
 simp only [p3, p4]
 refine sv 2 (.bool (sEq [(ratL (a1)), (ratL (a2)), (ratL (a3))] [([48] : List UInt8), ([48] : List UInt8), ([48] : List UInt8)])) ?_
 simp only [p3, p4]
 refine sq_nil ?_
 refine k3 _ _ ?_
 try clear k3 K3
 refine wp_ret ?_
 refine bodyPost_ret (v := (.bool (sEq [(ratL (a1)), (ratL (a2)), (ratL (a3))] [([48] : List UInt8), ([48] : List UInt8), ([48] : List UInt8)]))) (ret_tmp rfl rfl) rfl ⟨?_, hB⟩
 exact (by rw [← zero_sEq])

set_option maxRecDepth 100000 in
set_option maxHeartbeats 1000000 in
theorem r3_point (X Y Z : List UInt8) (w : World) :
    Calls Tryz.prog 63 #[(.agg #[(.string ⟨(X : List UInt8).toArray⟩), (.string ⟨(Y : List UInt8).toArray⟩), (.string ⟨(Z : List UInt8).toArray⟩)])] w fun e w' => e = .returned (.agg #[.string ⟨X.toArray⟩, .string ⟨Y.toArray⟩, .string ⟨Z.toArray⟩]) ∧ Gr w w' := by
 go_enter Tryz.func63, Tryz.ntmps63
 have hB := Gr.refl w
 refine wp_seq_k (fun K1 k1 => ?_)
 refine rg [0, 1] ?_
 refine se ?_
 refine eb 49 #[(.string ⟨(X : List UInt8).toArray⟩), (.string ⟨(Y : List UInt8).toArray⟩), (.string ⟨(Z : List UInt8).toArray⟩)] 1 hB fun b2 w2 g2 L2 o2 q2 hB => ?_
 simp only [p3, p4]
 refine se ?_
 refine ea 24 #[(.string ⟨([] : List UInt8).toArray⟩), (.string ⟨([] : List UInt8).toArray⟩), (.string ⟨([] : List UInt8).toArray⟩)] 2 hB fun b3 w3 g3 L3 o3 q3 hB => ?_
 simp only [p3, p4]
 refine sq_nil ?_
 refine k1 _ _ ?_
 try clear k1 K1
 refine wp_seq_k (fun K4 k4 => ?_)
 refine rg [0, 1, 2, 3, 4, 5, 6, 7] ?_
 refine sv 3 (.pointer (some ⟨b2, 0, none⟩)) ?_
 simp only [p3, p4]
 replace L2 := L2.gr g3
 refine sw 4 (.string ⟨(X : List UInt8).toArray⟩) rfl (rk 9 0 L2) ?_
 simp only [p3, p4]
 refine sv 5 (.pointer (some ⟨b2, 1, none⟩)) ?_
 simp only [p3, p4]
 refine sw 6 (.string ⟨(Y : List UInt8).toArray⟩) rfl (rk 9 1 L2) ?_
 simp only [p3, p4]
 refine sv 7 (.pointer (some ⟨b2, 2, none⟩)) ?_
 simp only [p3, p4]
 refine sw 8 (.string ⟨(Z : List UInt8).toArray⟩) rfl (rk 9 2 L2) ?_
 simp only [p3, p4]
 refine sv 9 (.agg #[(.string ⟨(X : List UInt8).toArray⟩), (.string ⟨(Y : List UInt8).toArray⟩), (.string ⟨(Z : List UInt8).toArray⟩)]) ?_
 simp only [p3, p4]
 refine se ?_
 refine es 24 0 (.agg #[(.string ⟨(X : List UInt8).toArray⟩), (.string ⟨(Y : List UInt8).toArray⟩), (.string ⟨(Z : List UInt8).toArray⟩)]) [(.string ⟨(X : List UInt8).toArray⟩), (.string ⟨(Y : List UInt8).toArray⟩), (.string ⟨(Z : List UInt8).toArray⟩)] #[(.string ⟨(X : List UInt8).toArray⟩), (.string ⟨(Y : List UInt8).toArray⟩), (.string ⟨(Z : List UInt8).toArray⟩)] L3 hB q3 ⟨rfl, rfl, rfl, trivial⟩ fun w5 st5 kp5 L3 hB => ?_
 refine sq_nil ?_
 refine k4 _ _ ?_
 try clear k4 K4
 refine wp_ret ?_
 refine bodyPost_ret (v := (.agg #[(.string ⟨(X : List UInt8).toArray⟩), (.string ⟨(Y : List UInt8).toArray⟩), (.string ⟨(Z : List UInt8).toArray⟩)])) (ret_cell _ _ _ rfl rfl L3 (by kernel_rfl)) rfl ⟨?_, hB⟩
 exact rfl

set_option maxRecDepth 100000 in
set_option maxHeartbeats 1000000 in
theorem r3_parallel {k m : Nat} (a1 : Rat) (a2 : Rat) (a3 : Rat) (ha1 : RS k a1) (ha2 : RS k a2) (ha3 : RS k a3) (c1 : Rat) (c2 : Rat) (c3 : Rat) (hc1 : RS m c1) (hc2 : RS m c2) (hc3 : RS m c3) (_hk : k + m ≤ 900) (w : World) :
    Calls Tryz.prog 37 #[(.agg #[(.string ⟨(ratL (a1) : List UInt8).toArray⟩), (.string ⟨(ratL (a2) : List UInt8).toArray⟩), (.string ⟨(ratL (a3) : List UInt8).toArray⟩)]), (.agg #[(.string ⟨(ratL (c1) : List UInt8).toArray⟩), (.string ⟨(ratL (c2) : List UInt8).toArray⟩), (.string ⟨(ratL (c3) : List UInt8).toArray⟩)])] w fun e w' => e = .returned (.bool ((!(vcmp a1 a2 a3 0 0 0 == (0 : Int)) && !(vcmp c1 c2 c3 0 0 0 == (0 : Int))) && (vcmp (a2 * c3 - a3 * c2) (a3 * c1 - a1 * c3) (a1 * c2 - a2 * c1) 0 0 0 == (0 : Int)))) ∧ Gr w w' := by
 go_enter Tryz.func37, Tryz.ntmps37
 have hB := Gr.refl w
 refine wp_seq_k (fun K1 k1 => ?_)
 refine rg [0, 1, 2] ?_
 refine se ?_
 refine eb 49 #[(.string ⟨(ratL (a1) : List UInt8).toArray⟩), (.string ⟨(ratL (a2) : List UInt8).toArray⟩), (.string ⟨(ratL (a3) : List UInt8).toArray⟩)] 2 hB fun b2 w2 g2 L2 o2 q2 hB => ?_
 simp only [p3, p4]
 refine se ?_
 refine eb 49 #[(.string ⟨(ratL (c1) : List UInt8).toArray⟩), (.string ⟨(ratL (c2) : List UInt8).toArray⟩), (.string ⟨(ratL (c3) : List UInt8).toArray⟩)] 3 hB fun b3 w3 g3 L3 o3 q3 hB => ?_
 simp only [p3, p4]
 refine sv 4 (.bool false) ?_
 simp only [p3, p4]
 refine sq_nil ?_
 refine k1 _ _ ?_
 try clear k1 K1
 refine wp_seq_k (fun K4 k4 => ?_)
 refine rg [0, 1, 2, 3, 4, 5, 6, 7, 8, 9, 10, 11, 12, 13, 14] ?_
 replace L2 := L2.gr g3
 refine sw 5 (.agg #[(.string ⟨(ratL (a1) : List UInt8).toArray⟩), (.string ⟨(ratL (a2) : List UInt8).toArray⟩), (.string ⟨(ratL (a3) : List UInt8).toArray⟩)]) rfl (rl 49 0 [(.string ⟨(ratL (a1) : List UInt8).toArray⟩), (.string ⟨(ratL (a2) : List UInt8).toArray⟩), (.string ⟨(ratL (a3) : List UInt8).toArray⟩)] L2) ?_
 simp only [p3, p4]
 refine se ?_
 refine ec 6 (r3_zero (a1) (a2) (a3) _) ?_
 rintro e5 w5 ⟨rfl, g5⟩
 refine ⟨_, rfl, ?_⟩
 replace hB := hB.trans g5
 simp only [p3, p4]
 refine sv 7 (.bool (!(vcmp (a1) (a2) (a3) 0 0 0 == (0 : Int)))) ?_
 simp only [p3, p4]
 rcases Bool.eq_false_or_eq_true (!(vcmp (a1) (a2) (a3) 0 0 0 == (0 : Int))) with hb6 | hb6
 ·refine sw 8 (.bool true) rfl (RunV.bool (x := !(vcmp (a1) (a2) (a3) 0 0 0 == (0 : Int))) (rvk (by kernel_rfl)) hb6) ?_
  simp only [p3, p4]
  replace L3 := L3.gr g5
  refine sw 9 (.agg #[(.string ⟨(ratL (c1) : List UInt8).toArray⟩), (.string ⟨(ratL (c2) : List UInt8).toArray⟩), (.string ⟨(ratL (c3) : List UInt8).toArray⟩)]) rfl (rl 49 0 [(.string ⟨(ratL (c1) : List UInt8).toArray⟩), (.string ⟨(ratL (c2) : List UInt8).toArray⟩), (.string ⟨(ratL (c3) : List UInt8).toArray⟩)] L3) ?_
  simp only [p3, p4]
  refine se ?_
  refine ec 10 (r3_zero (c1) (c2) (c3) _) ?_
  rintro e7 w7 ⟨rfl, g7⟩
  refine ⟨_, rfl, ?_⟩
  replace hB := hB.trans g7
  simp only [p3, p4]
  refine sv 11 (.bool (!(vcmp (c1) (c2) (c3) 0 0 0 == (0 : Int)))) ?_
  simp only [p3, p4]
  refine sv 12 (.bool (!(vcmp (c1) (c2) (c3) 0 0 0 == (0 : Int)))) ?_
  simp only [p3, p4]
  rcases Bool.eq_false_or_eq_true (!(vcmp (c1) (c2) (c3) 0 0 0 == (0 : Int))) with hb8 | hb8
  ·refine sw 13 (.bool true) rfl (RunV.bool (x := !(vcmp (c1) (c2) (c3) 0 0 0 == (0 : Int))) (rvk (by kernel_rfl)) hb8) ?_
   simp only [p3, p4]
   replace L2 := L2.gr (g5.trans g7)
   refine sw 14 (.agg #[(.string ⟨(ratL (a1) : List UInt8).toArray⟩), (.string ⟨(ratL (a2) : List UInt8).toArray⟩), (.string ⟨(ratL (a3) : List UInt8).toArray⟩)]) rfl (rl 49 0 [(.string ⟨(ratL (a1) : List UInt8).toArray⟩), (.string ⟨(ratL (a2) : List UInt8).toArray⟩), (.string ⟨(ratL (a3) : List UInt8).toArray⟩)] L2) ?_
   simp only [p3, p4]
   replace L3 := L3.gr g7
   refine sw 15 (.agg #[(.string ⟨(ratL (c1) : List UInt8).toArray⟩), (.string ⟨(ratL (c2) : List UInt8).toArray⟩), (.string ⟨(ratL (c3) : List UInt8).toArray⟩)]) rfl (rl 49 0 [(.string ⟨(ratL (c1) : List UInt8).toArray⟩), (.string ⟨(ratL (c2) : List UInt8).toArray⟩), (.string ⟨(ratL (c3) : List UInt8).toArray⟩)] L3) ?_
   simp only [p3, p4]
   refine se ?_
   refine ec 16 (r3_cross (a1) (a2) (a3) ha1 ha2 ha3 (c1) (c2) (c3) hc1 hc2 hc3 (by omega) _) ?_
   rintro e9 w9 ⟨rfl, g9⟩
   refine ⟨_, rfl, ?_⟩
   replace hB := hB.trans g9
   simp only [p3, p4]
   refine se ?_
   refine ec 17 (r3_zero (a2 * c3 - a3 * c2) (a3 * c1 - a1 * c3) (a1 * c2 - a2 * c1) _) ?_
   rintro e10 w10 ⟨rfl, g10⟩
   refine ⟨_, rfl, ?_⟩
   replace hB := hB.trans g10
   simp only [p3, p4]
   refine sv 18 (.bool (vcmp (a2 * c3 - a3 * c2) (a3 * c1 - a1 * c3) (a1 * c2 - a2 * c1) 0 0 0 == (0 : Int))) ?_
   simp only [p3, p4]
   refine sv 4 (.bool (vcmp (a2 * c3 - a3 * c2) (a3 * c1 - a1 * c3) (a1 * c2 - a2 * c1) 0 0 0 == (0 : Int))) ?_
   simp only [p3, p4]
   refine sq_nil ?_
   refine k4 _ _ ?_
   try clear k4 K4
   refine wp_ret ?_
   refine bodyPost_ret (v := (.bool (vcmp (a2 * c3 - a3 * c2) (a3 * c1 - a1 * c3) (a1 * c2 - a2 * c1) 0 0 0 == (0 : Int)))) (ret_tmp rfl rfl) rfl ⟨?_, hB⟩
   exact (by rw [hb6, hb8]; rfl)
  ·refine sw 13 (.bool false) rfl (RunV.bool (x := !(vcmp (c1) (c2) (c3) 0 0 0 == (0 : Int))) (rvk (by kernel_rfl)) hb8) ?_
   simp only [p3, p4]
   refine ss 14 ?_
   simp only [p3, p4]
   refine ss 15 ?_
   simp only [p3, p4]
   refine ss 16 ?_
   simp only [p3, p4]
   refine ss 17 ?_
   simp only [p3, p4]
   refine sv 18 (.bool false) ?_
   simp only [p3, p4]
   refine sv 4 (.bool false) ?_
   simp only [p3, p4]
   refine sq_nil ?_
   refine k4 _ _ ?_
   try clear k4 K4
   refine wp_ret ?_
   refine bodyPost_ret (v := (.bool false)) (ret_tmp rfl rfl) rfl ⟨?_, hB⟩
   exact (by rw [hb6, hb8]; rfl)
 ·refine sw 8 (.bool false) rfl (RunV.bool (x := !(vcmp (a1) (a2) (a3) 0 0 0 == (0 : Int))) (rvk (by kernel_rfl)) hb6) ?_
  simp only [p3, p4]
  refine ss 9 ?_
  simp only [p3, p4]
  refine ss 10 ?_
  simp only [p3, p4]
  refine ss 11 ?_
  simp only [p3, p4]
  refine sv 12 (.bool false) ?_
  simp only [p3, p4]
  refine sv 13 (.bool false) ?_
  simp only [p3, p4]
  refine ss 14 ?_
  simp only [p3, p4]
  refine ss 15 ?_
  simp only [p3, p4]
  refine ss 16 ?_
  simp only [p3, p4]
  refine ss 17 ?_
  simp only [p3, p4]
  refine sv 18 (.bool false) ?_
  simp only [p3, p4]
  refine sv 4 (.bool false) ?_
  simp only [p3, p4]
  refine sq_nil ?_
  refine k4 _ _ ?_
  try clear k4 K4
  refine wp_ret ?_
  refine bodyPost_ret (v := (.bool false)) (ret_tmp rfl rfl) rfl ⟨?_, hB⟩
  exact (by rw [hb6]; rfl)

end Go.Proofs.YtlcmllfacolkaaaGreatDoor
/- The order of vectors; texts of vectors compared; small vectors. -/
namespace Go.Proofs.YtlcmllfacolkaaaGreatDoor
open Go.RowKit

theorem sEq_q {a1 a2 a3 c1 c2 c3 : Rat} (h1 : a1 = c1) (h2 : a2 = c2) (h3 : a3 = c3) : sEq [ratL a1, ratL a2, ratL a3] [ratL c1, ratL c2, ratL c3] = true := by
  subst h1 h2 h3; exact sEq_same _
/-- the coordinate of a small vector -/
theorem small_rs {n D : Int} {a : Rat} (hn : -128 ≤ n ∧ n ≤ 127) (_hD : 0 ≤ D ∧ D ≤ 255) (h : a = (n : Rat) / ((1 + D % 6 : Int) : Rat)) : RS 16 a := by
  have h1 : RS 8 (n : Rat) := RS.int (show n.natAbs < 2 ^ 8 by omega) (by omega)
  have h2 : RS 8 ((1 + D % 6 : Int) : Rat) := RS.int (show (1 + D % 6).natAbs < 2 ^ 8 by omega) (by omega)
  rw [h]
  exact h1.div h2 (by rw [Rat.num_intCast]; omega)
theorem small_den {D : Int} (_hD : 0 ≤ D ∧ D ≤ 255) : ((1 + D % 6 : Int) : Rat).num ≠ 0 := by rw [Rat.num_intCast]; omega
theorem rs_i64 {n : Int} (hn : -9223372036854775808 ≤ n ∧ n ≤ 9223372036854775807) : RS 64 ((n : Int) : Rat) := RS.int (Sz.i64 hn.1 hn.2) (by omega)
/-- the first error of three -/
def first3 (x y z : Int) : Int := if x = 0 then if y = 0 then z else y else x
theorem ratL_of_ck2 {X : List UInt8} {m : Nat} (h : ck2 X m = 0) (hx : X.length ≤ 500) : ∃ a : Rat, X = ratL a ∧ RS 2000 a ∧ ((ratL a).length : Int) ≤ m := by
  obtain ⟨⟨q, rfl⟩, hl⟩ := ck2_ratL h
  have h2 := ratL_sz q hx
  rw [show 4 * 500 = 2000 from rfl] at h2
  exact ⟨q, rfl, h2, by omega⟩
end Go.Proofs.YtlcmllfacolkaaaGreatDoor
/- Printed by a program of the prover's: the rest of package vector. -/
namespace Go.Proofs.YtlcmllfacolkaaaGreatDoor
open Go.RowKit

set_option maxRecDepth 100000 in
set_option maxHeartbeats 1000000 in
theorem vpoint_v {k : Nat} {uaa0 uaa1 uaa2 uaa3 uab0 uab1 uab2 uab3 uac0 uac1 uac2 uac3 : Value} {a1 a2 a3 : Rat} {w : World} (hua1 : IsRat w k uaa0 uaa1 uaa2 uaa3 a1) (hua2 : IsRat w k uab0 uab1 uab2 uab3 a2) (hua3 : IsRat w k uac0 uac1 uac2 uac3 a3) (_hk : k ≤ 25000) (ht : Tab w) :
    Calls Tryz.prog 16 #[(.agg #[uaa0, uaa1, uaa2, uaa3, uab0, uab1, uab2, uab3, uac0, uac1, uac2, uac3])] w fun e w' => e = .returned (.agg #[.string ⟨(ratL (a1)).toArray⟩, .string ⟨(ratL (a2)).toArray⟩, .string ⟨(ratL (a3)).toArray⟩]) ∧ Gr w w' := by
 go_enter Tryz.func16, Tryz.ntmps16
 have hB := Gr.refl w
 refine wp_seq_k (fun K1 k1 => ?_)
 refine rg [0, 1] ?_
 refine se ?_
 refine eb 32 #[uaa0, uaa1, uaa2, uaa3, uab0, uab1, uab2, uab3, uac0, uac1, uac2, uac3] 1 hB fun b2 w2 g2 L2 o2 q2 hB => ?_
 simp only [p3, p4]
 refine se ?_
 refine ea 24 #[(.string ⟨([] : List UInt8).toArray⟩), (.string ⟨([] : List UInt8).toArray⟩), (.string ⟨([] : List UInt8).toArray⟩)] 2 hB fun b3 w3 g3 L3 o3 q3 hB => ?_
 simp only [p3, p4]
 refine sq_nil ?_
 refine k1 _ _ ?_
 try clear k1 K1
 refine wp_seq_k (fun K4 k4 => ?_)
 refine rg [0] ?_
 refine se ?_
 refine ea 24 #[(.string ⟨([] : List UInt8).toArray⟩), (.string ⟨([] : List UInt8).toArray⟩), (.string ⟨([] : List UInt8).toArray⟩)] 3 hB fun b5 w5 g5 L5 o5 q5 hB => ?_
 replace L2 := L2.gr g3
 have ne3_5 := L3.ne o5
 simp only [p3, p4]
 refine sq_nil ?_
 refine k4 _ _ ?_
 try clear k4 K4
 refine wp_seq_k (fun K6 k6 => ?_)
 refine wp_seq_k (fun K7 k7 => ?_)
 refine rg [0, 1] ?_
 replace L2 := L2.gr g5
 refine sw 6 (.agg #[uaa0, uaa1, uaa2, uaa3, uab0, uab1, uab2, uab3, uac0, uac1, uac2, uac3]) rfl (rl 32 0 [uaa0, uaa1, uaa2, uaa3, uab0, uab1, uab2, uab3, uac0, uac1, uac2, uac3] L2) ?_
 simp only [p3, p4]
 refine sv 7 (.int .i64 0) ?_
 simp only [p3, p4]
 refine sq_nil ?_
 refine k7 _ _ ?_
 try clear k7 K7
 refine wp_block ?_
 refine wp_loop_rounds 4 ?_
 show Code.wp _ _ _ _ _
 refine wp_seq_k (fun K8 k8 => ?_)
 refine rg [0] ?_
 refine sv 8 (.bool true) ?_
 simp only [p3, p4]
 refine sq_nil ?_
 refine k8 _ _ ?_
 try clear k8 K8
 refine wp_seq_k (fun K9 k9 => ?_)
 refine wp_cond_true rfl ?_
 refine wp_skip ?_
 refine k9 _ _ ?_
 try clear k9 K9
 refine wp_seq_k (fun K10 k10 => ?_)
 refine wp_block ?_
 refine wp_seq_k (fun K11 k11 => ?_)
 refine rg [0, 1, 2, 3, 4] ?_
 refine sv 9 (.int .i64 0) ?_
 simp only [p3, p4]
 refine sv 10 (.agg #[uaa0, uaa1, uaa2, uaa3]) ?_
 simp only [p3, p4]
 refine se ?_
 refine ea 30 #[(.bool false), (.slice none 0 0), (.bool false), (.slice none 0 0)] 5 hB fun b12 w12 g12 L12 o12 q12 hB => ?_
 replace L3 := L3.gr g5
 have ne3_12 := L3.ne o12
 have ne5_12 := L5.ne o12
 simp only [p3, p4]
 refine sv 4 (.int .i64 0) ?_
 simp only [p3, p4]
 refine se ?_
 refine es 30 0 (.agg #[uaa0, uaa1, uaa2, uaa3]) [uaa0, uaa1, uaa2, uaa3] #[uaa0, uaa1, uaa2, uaa3] L12 hB q12 ⟨hua1.one0, hua1.one1, hua1.one2, hua1.one3, trivial⟩ fun w13 st13 kp13 L12 hB => ?_
 refine sq_nil ?_
 refine k11 _ _ ?_
 try clear k11 K11
 refine rg [0, 1, 2, 3, 4] ?_
 refine sv 11 (.int .i64 0) ?_
 simp only [p3, p4]
 refine sw 12 (.agg #[uaa0, uaa1, uaa2, uaa3]) rfl (rl 30 0 [uaa0, uaa1, uaa2, uaa3] L12) ?_
 simp only [p3, p4]
 refine se ?_
 have kq15 := g2.kp.trans (g3.kp.trans (g5.kp.trans (g12.kp.trans kp13)))
 replace hua1 := hua1.kp kq15
 refine ec 13 (number_r hua1 (by omega) (ht.gr hB)) ?_
 rintro e14 w14 ⟨rfl, g14⟩
 refine ⟨_, rfl, ?_⟩
 replace hB := hB.trans g14
 simp only [p3, p4]
 refine sv 14 (.pointer (some ⟨b5, 0, none⟩)) ?_
 simp only [p3, p4]
 refine se ?_
 replace L5 := (st13.lc (L5.gr g12) ne5_12).gr g14
 refine es 22 0 (.string ⟨(ratL (a1) : List UInt8).toArray⟩) [(.string ⟨(ratL (a1) : List UInt8).toArray⟩)] #[(.string ⟨(ratL (a1) : List UInt8).toArray⟩), (.string ⟨([] : List UInt8).toArray⟩), (.string ⟨([] : List UInt8).toArray⟩)] L5 hB q5 ⟨rfl, trivial⟩ fun w16 st16 kp16 L5 hB => ?_
 refine sq_nil ?_
 refine k10 _ _ ?_
 try clear k10 K10
 refine rg [0, 1] ?_
 refine sv 15 (.int .i64 1) ?_
 simp only [p3, p4]
 refine sv 7 (.int .i64 1) ?_
 simp only [p3, p4]
 refine sq_nil ?_
 show Code.rounds _ _ _ _ _ _
 show Code.wp _ _ _ _ _
 refine wp_seq_k (fun K17 k17 => ?_)
 refine rg [0] ?_
 refine sv 8 (.bool true) ?_
 simp only [p3, p4]
 refine sq_nil ?_
 refine k17 _ _ ?_
 try clear k17 K17
 refine wp_seq_k (fun K18 k18 => ?_)
 refine wp_cond_true rfl ?_
 refine wp_skip ?_
 refine k18 _ _ ?_
 try clear k18 K18
 refine wp_seq_k (fun K19 k19 => ?_)
 refine wp_block ?_
 refine wp_seq_k (fun K20 k20 => ?_)
 refine rg [0, 1, 2, 3, 4] ?_
 refine sv 9 (.int .i64 1) ?_
 simp only [p3, p4]
 refine sv 10 (.agg #[uab0, uab1, uab2, uab3]) ?_
 simp only [p3, p4]
 refine se ?_
 refine ea 30 #[(.bool false), (.slice none 0 0), (.bool false), (.slice none 0 0)] 5 hB fun b21 w21 g21 L21 o21 q21 hB => ?_
 replace L3 := st16.lc ((st13.lc (L3.gr g12) ne3_12).gr g14) ne3_5
 have ne3_21 := L3.ne o21
 have ne5_21 := L5.ne o21
 simp only [p3, p4]
 refine sv 4 (.int .i64 1) ?_
 simp only [p3, p4]
 refine se ?_
 refine es 30 0 (.agg #[uab0, uab1, uab2, uab3]) [uab0, uab1, uab2, uab3] #[uab0, uab1, uab2, uab3] L21 hB q21 ⟨hua2.one0, hua2.one1, hua2.one2, hua2.one3, trivial⟩ fun w22 st22 kp22 L21 hB => ?_
 refine sq_nil ?_
 refine k20 _ _ ?_
 try clear k20 K20
 refine rg [0, 1, 2, 3, 4] ?_
 refine sv 11 (.int .i64 1) ?_
 simp only [p3, p4]
 refine sw 12 (.agg #[uab0, uab1, uab2, uab3]) rfl (rl 30 0 [uab0, uab1, uab2, uab3] L21) ?_
 simp only [p3, p4]
 refine se ?_
 have kq24 := g2.kp.trans (g3.kp.trans (g5.kp.trans (g12.kp.trans (kp13.trans (g14.kp.trans (kp16.trans (g21.kp.trans kp22)))))))
 replace hua2 := hua2.kp kq24
 refine ec 13 (number_r hua2 (by omega) (ht.gr hB)) ?_
 rintro e23 w23 ⟨rfl, g23⟩
 refine ⟨_, rfl, ?_⟩
 replace hB := hB.trans g23
 simp only [p3, p4]
 refine sv 14 (.pointer (some ⟨b5, 1, none⟩)) ?_
 simp only [p3, p4]
 refine se ?_
 replace L5 := (st22.lc (L5.gr g21) ne5_21).gr g23
 refine es 22 1 (.string ⟨(ratL (a2) : List UInt8).toArray⟩) [(.string ⟨(ratL (a2) : List UInt8).toArray⟩)] #[(.string ⟨(ratL (a1) : List UInt8).toArray⟩), (.string ⟨(ratL (a2) : List UInt8).toArray⟩), (.string ⟨([] : List UInt8).toArray⟩)] L5 hB q5 ⟨rfl, trivial⟩ fun w25 st25 kp25 L5 hB => ?_
 refine sq_nil ?_
 refine k19 _ _ ?_
 try clear k19 K19
 refine rg [0, 1] ?_
 refine sv 15 (.int .i64 2) ?_
 simp only [p3, p4]
 refine sv 7 (.int .i64 2) ?_
 simp only [p3, p4]
 refine sq_nil ?_
 show Code.rounds _ _ _ _ _ _
 show Code.wp _ _ _ _ _
 refine wp_seq_k (fun K26 k26 => ?_)
 refine rg [0] ?_
 refine sv 8 (.bool true) ?_
 simp only [p3, p4]
 refine sq_nil ?_
 refine k26 _ _ ?_
 try clear k26 K26
 refine wp_seq_k (fun K27 k27 => ?_)
 refine wp_cond_true rfl ?_
 refine wp_skip ?_
 refine k27 _ _ ?_
 try clear k27 K27
 refine wp_seq_k (fun K28 k28 => ?_)
 refine wp_block ?_
 refine wp_seq_k (fun K29 k29 => ?_)
 refine rg [0, 1, 2, 3, 4] ?_
 refine sv 9 (.int .i64 2) ?_
 simp only [p3, p4]
 refine sv 10 (.agg #[uac0, uac1, uac2, uac3]) ?_
 simp only [p3, p4]
 refine se ?_
 refine ea 30 #[(.bool false), (.slice none 0 0), (.bool false), (.slice none 0 0)] 5 hB fun b30 w30 g30 L30 o30 q30 hB => ?_
 replace L3 := st25.lc ((st22.lc (L3.gr g21) ne3_21).gr g23) ne3_5
 have ne3_30 := L3.ne o30
 have ne5_30 := L5.ne o30
 simp only [p3, p4]
 refine sv 4 (.int .i64 2) ?_
 simp only [p3, p4]
 refine se ?_
 refine es 30 0 (.agg #[uac0, uac1, uac2, uac3]) [uac0, uac1, uac2, uac3] #[uac0, uac1, uac2, uac3] L30 hB q30 ⟨hua3.one0, hua3.one1, hua3.one2, hua3.one3, trivial⟩ fun w31 st31 kp31 L30 hB => ?_
 refine sq_nil ?_
 refine k29 _ _ ?_
 try clear k29 K29
 refine rg [0, 1, 2, 3, 4] ?_
 refine sv 11 (.int .i64 2) ?_
 simp only [p3, p4]
 refine sw 12 (.agg #[uac0, uac1, uac2, uac3]) rfl (rl 30 0 [uac0, uac1, uac2, uac3] L30) ?_
 simp only [p3, p4]
 refine se ?_
 have kq33 := g2.kp.trans (g3.kp.trans (g5.kp.trans (g12.kp.trans (kp13.trans (g14.kp.trans (kp16.trans (g21.kp.trans (kp22.trans (g23.kp.trans (kp25.trans (g30.kp.trans kp31)))))))))))
 replace hua3 := hua3.kp kq33
 refine ec 13 (number_r hua3 (by omega) (ht.gr hB)) ?_
 rintro e32 w32 ⟨rfl, g32⟩
 refine ⟨_, rfl, ?_⟩
 replace hB := hB.trans g32
 simp only [p3, p4]
 refine sv 14 (.pointer (some ⟨b5, 2, none⟩)) ?_
 simp only [p3, p4]
 refine se ?_
 replace L5 := (st31.lc (L5.gr g30) ne5_30).gr g32
 refine es 22 2 (.string ⟨(ratL (a3) : List UInt8).toArray⟩) [(.string ⟨(ratL (a3) : List UInt8).toArray⟩)] #[(.string ⟨(ratL (a1) : List UInt8).toArray⟩), (.string ⟨(ratL (a2) : List UInt8).toArray⟩), (.string ⟨(ratL (a3) : List UInt8).toArray⟩)] L5 hB q5 ⟨rfl, trivial⟩ fun w34 st34 kp34 L5 hB => ?_
 refine sq_nil ?_
 refine k28 _ _ ?_
 try clear k28 K28
 refine rg [0, 1] ?_
 refine sv 15 (.int .i64 3) ?_
 simp only [p3, p4]
 refine sv 7 (.int .i64 3) ?_
 simp only [p3, p4]
 refine sq_nil ?_
 show Code.rounds _ _ _ _ _ _
 show Code.wp _ _ _ _ _
 refine wp_seq_k (fun K35 k35 => ?_)
 refine rg [0] ?_
 refine sv 8 (.bool false) ?_
 simp only [p3, p4]
 refine sq_nil ?_
 refine k35 _ _ ?_
 try clear k35 K35
 refine wp_seq_k (fun K36 k36 => ?_)
 refine wp_cond_false rfl ?_
 refine wp_exit ?_
 simp only [Exit.then, Exit.inBlock, ↓reduceIte]
 refine k6 _ _ ?_
 try clear k6 K6
 refine wp_seq_k (fun K37 k37 => ?_)
 refine rg [0, 1] ?_
 refine sw 16 (.agg #[(.string ⟨(ratL (a1) : List UInt8).toArray⟩), (.string ⟨(ratL (a2) : List UInt8).toArray⟩), (.string ⟨(ratL (a3) : List UInt8).toArray⟩)]) rfl (rl 24 0 [(.string ⟨(ratL (a1) : List UInt8).toArray⟩), (.string ⟨(ratL (a2) : List UInt8).toArray⟩), (.string ⟨(ratL (a3) : List UInt8).toArray⟩)] L5) ?_
 simp only [p3, p4]
 refine se ?_
 replace L3 := st34.lc ((st31.lc (L3.gr g30) ne3_30).gr g32) ne3_5
 refine es 24 0 (.agg #[(.string ⟨(ratL (a1) : List UInt8).toArray⟩), (.string ⟨(ratL (a2) : List UInt8).toArray⟩), (.string ⟨(ratL (a3) : List UInt8).toArray⟩)]) [(.string ⟨(ratL (a1) : List UInt8).toArray⟩), (.string ⟨(ratL (a2) : List UInt8).toArray⟩), (.string ⟨(ratL (a3) : List UInt8).toArray⟩)] #[(.string ⟨(ratL (a1) : List UInt8).toArray⟩), (.string ⟨(ratL (a2) : List UInt8).toArray⟩), (.string ⟨(ratL (a3) : List UInt8).toArray⟩)] L3 hB q3 ⟨rfl, rfl, rfl, trivial⟩ fun w38 st38 kp38 L3 hB => ?_
 refine sq_nil ?_
 refine k37 _ _ ?_
 try clear k37 K37
 refine wp_ret ?_
 refine bodyPost_ret (v := (.agg #[(.string ⟨(ratL (a1) : List UInt8).toArray⟩), (.string ⟨(ratL (a2) : List UInt8).toArray⟩), (.string ⟨(ratL (a3) : List UInt8).toArray⟩)])) (ret_cell _ _ _ rfl rfl L3 (by kernel_rfl)) rfl ⟨?_, hB⟩
 exact rfl

set_option maxRecDepth 100000 in
set_option maxHeartbeats 1000000 in
theorem vneg_v {k : Nat} {uaa0 uaa1 uaa2 uaa3 uab0 uab1 uab2 uab3 uac0 uac1 uac2 uac3 : Value} {a1 a2 a3 : Rat} {w : World} (hua1 : IsRat w k uaa0 uaa1 uaa2 uaa3 a1) (hua2 : IsRat w k uab0 uab1 uab2 uab3 a2) (hua3 : IsRat w k uac0 uac1 uac2 uac3 a3) (_hk : k ≤ 100000 - 64) :
    Calls Tryz.prog 46 #[(.agg #[uaa0, uaa1, uaa2, uaa3, uab0, uab1, uab2, uab3, uac0, uac1, uac2, uac3])] w fun e w' => (∃ t0 t1 t2 t3 t4 t5 t6 t7 t8 t9 t10 t11, e = .returned (.agg #[t0, t1, t2, t3, t4, t5, t6, t7, t8, t9, t10, t11]) ∧ IsRat w' (64 + k + 1) t0 t1 t2 t3 (0 - a1) ∧ IsRat w' (64 + k + 1) t4 t5 t6 t7 (0 - a2) ∧ IsRat w' (64 + k + 1) t8 t9 t10 t11 (0 - a3)) ∧ Gr w w' := by
 go_enter Tryz.func46, Tryz.ntmps46
 have hB := Gr.refl w
 refine wp_seq_k (fun K1 k1 => ?_)
 refine rg [0, 1] ?_
 refine se ?_
 refine eb 32 #[uaa0, uaa1, uaa2, uaa3, uab0, uab1, uab2, uab3, uac0, uac1, uac2, uac3] 1 hB fun b2 w2 g2 L2 o2 q2 hB => ?_
 simp only [p3, p4]
 refine se ?_
 refine ea 32 #[(.bool false), (.slice none 0 0), (.bool false), (.slice none 0 0), (.bool false), (.slice none 0 0), (.bool false), (.slice none 0 0), (.bool false), (.slice none 0 0), (.bool false), (.slice none 0 0)] 2 hB fun b3 w3 g3 L3 o3 q3 hB => ?_
 simp only [p3, p4]
 refine sq_nil ?_
 refine k1 _ _ ?_
 try clear k1 K1
 refine wp_seq_k (fun K4 k4 => ?_)
 refine rg [0, 1, 2, 3] ?_
 refine sv 3 (.agg #[(.bool false), (.slice none 0 0), (.bool false), (.slice none 0 0), (.bool false), (.slice none 0 0), (.bool false), (.slice none 0 0), (.bool false), (.slice none 0 0), (.bool false), (.slice none 0 0)]) ?_
 simp only [p3, p4]
 replace L2 := L2.gr g3
 refine sw 4 (.agg #[uaa0, uaa1, uaa2, uaa3, uab0, uab1, uab2, uab3, uac0, uac1, uac2, uac3]) rfl (rl 32 0 [uaa0, uaa1, uaa2, uaa3, uab0, uab1, uab2, uab3, uac0, uac1, uac2, uac3] L2) ?_
 simp only [p3, p4]
 refine se ?_
 have kq6 := g2.kp.trans g3.kp
 replace hua1 := hua1.kp kq6
 replace hua2 := hua2.kp kq6
 replace hua3 := hua3.kp kq6
 refine ec 5 (each_sub (IsRat.zero _ (k := 64) (Nat.le_refl _)) (IsRat.zero _ (k := 64) (Nat.le_refl _)) (IsRat.zero _ (k := 64) (Nat.le_refl _)) hua1 hua2 hua3 (by omega)) ?_
 rintro e5 w5 ⟨⟨t5_0, t5_1, t5_2, t5_3, t5_4, t5_5, t5_6, t5_7, t5_8, t5_9, t5_10, t5_11, rfl, h5a, h5b, h5c⟩, g5⟩
 refine ⟨_, rfl, ?_⟩
 replace hB := hB.trans g5
 simp only [p3, p4]
 refine se ?_
 replace L3 := L3.gr g5
 refine es 32 0 (.agg #[t5_0, t5_1, t5_2, t5_3, t5_4, t5_5, t5_6, t5_7, t5_8, t5_9, t5_10, t5_11]) [t5_0, t5_1, t5_2, t5_3, t5_4, t5_5, t5_6, t5_7, t5_8, t5_9, t5_10, t5_11] #[t5_0, t5_1, t5_2, t5_3, t5_4, t5_5, t5_6, t5_7, t5_8, t5_9, t5_10, t5_11] L3 hB q3 ⟨h5a.one0, h5a.one1, h5a.one2, h5a.one3, h5b.one0, h5b.one1, h5b.one2, h5b.one3, h5c.one0, h5c.one1, h5c.one2, h5c.one3, trivial⟩ fun w7 st7 kp7 L3 hB => ?_
 refine sq_nil ?_
 refine k4 _ _ ?_
 try clear k4 K4
 refine wp_ret ?_
 refine bodyPost_ret (v := (.agg #[t5_0, t5_1, t5_2, t5_3, t5_4, t5_5, t5_6, t5_7, t5_8, t5_9, t5_10, t5_11])) (ret_cell _ _ _ rfl rfl L3 (by kernel_rfl)) rfl ⟨?_, hB⟩
 replace h5a := h5a.kp kp7
 replace h5b := h5b.kp kp7
 replace h5c := h5c.kp kp7
 exact ⟨_, _, _, _, _, _, _, _, _, _, _, _, rfl, h5a, h5b, h5c⟩

set_option maxRecDepth 100000 in
set_option maxHeartbeats 1000000 in
theorem vparallel_v {k m : Nat} {uaa0 uaa1 uaa2 uaa3 uab0 uab1 uab2 uab3 uac0 uac1 uac2 uac3 : Value} {a1 a2 a3 : Rat} {vaa0 vaa1 vaa2 vaa3 vab0 vab1 vab2 vab3 vac0 vac1 vac2 vac3 : Value} {c1 c2 c3 : Rat} {w : World} (hua1 : IsRat w k uaa0 uaa1 uaa2 uaa3 a1) (hua2 : IsRat w k uab0 uab1 uab2 uab3 a2) (hua3 : IsRat w k uac0 uac1 uac2 uac3 a3) (hva1 : IsRat w m vaa0 vaa1 vaa2 vaa3 c1) (hva2 : IsRat w m vab0 vab1 vab2 vab3 c2) (hva3 : IsRat w m vac0 vac1 vac2 vac3 c3) (_hk : k + m ≤ 5000) :
    Calls Tryz.prog 36 #[(.agg #[uaa0, uaa1, uaa2, uaa3, uab0, uab1, uab2, uab3, uac0, uac1, uac2, uac3]), (.agg #[vaa0, vaa1, vaa2, vaa3, vab0, vab1, vab2, vab3, vac0, vac1, vac2, vac3])] w fun e w' => e = .returned (.bool ((!(vcmp a1 a2 a3 0 0 0 == (0 : Int)) && !(vcmp c1 c2 c3 0 0 0 == (0 : Int))) && (vcmp (a2 * c3 - a3 * c2) (a3 * c1 - a1 * c3) (a1 * c2 - a2 * c1) 0 0 0 == (0 : Int)))) ∧ Gr w w' := by
 go_enter Tryz.func36, Tryz.ntmps36
 have hB := Gr.refl w
 refine wp_seq_k (fun K1 k1 => ?_)
 refine rg [0, 1, 2] ?_
 refine se ?_
 refine eb 32 #[uaa0, uaa1, uaa2, uaa3, uab0, uab1, uab2, uab3, uac0, uac1, uac2, uac3] 2 hB fun b2 w2 g2 L2 o2 q2 hB => ?_
 simp only [p3, p4]
 refine se ?_
 refine eb 32 #[vaa0, vaa1, vaa2, vaa3, vab0, vab1, vab2, vab3, vac0, vac1, vac2, vac3] 3 hB fun b3 w3 g3 L3 o3 q3 hB => ?_
 simp only [p3, p4]
 refine sv 4 (.bool false) ?_
 simp only [p3, p4]
 refine sq_nil ?_
 refine k1 _ _ ?_
 try clear k1 K1
 refine wp_seq_k (fun K4 k4 => ?_)
 refine rg [0, 1, 2, 3, 4, 5, 6, 7, 8, 9, 10, 11, 12, 13, 14] ?_
 replace L2 := L2.gr g3
 refine sw 5 (.agg #[uaa0, uaa1, uaa2, uaa3, uab0, uab1, uab2, uab3, uac0, uac1, uac2, uac3]) rfl (rl 32 0 [uaa0, uaa1, uaa2, uaa3, uab0, uab1, uab2, uab3, uac0, uac1, uac2, uac3] L2) ?_
 simp only [p3, p4]
 refine se ?_
 have kq6 := g2.kp.trans g3.kp
 replace hua1 := hua1.kp kq6
 replace hua2 := hua2.kp kq6
 replace hua3 := hua3.kp kq6
 refine ec 6 (vzero_v hua1 hua2 hua3 (by omega)) ?_
 rintro e5 w5 ⟨rfl, g5⟩
 refine ⟨_, rfl, ?_⟩
 replace hB := hB.trans g5
 simp only [p3, p4]
 refine sv 7 (.bool (!(vcmp a1 a2 a3 0 0 0 == (0 : Int)))) ?_
 simp only [p3, p4]
 rcases Bool.eq_false_or_eq_true (!(vcmp a1 a2 a3 0 0 0 == (0 : Int))) with hb7 | hb7
 ·refine sw 8 (.bool true) rfl (RunV.bool (x := !(vcmp a1 a2 a3 0 0 0 == (0 : Int))) (rvk (by kernel_rfl)) hb7) ?_
  simp only [p3, p4]
  replace L3 := L3.gr g5
  refine sw 9 (.agg #[vaa0, vaa1, vaa2, vaa3, vab0, vab1, vab2, vab3, vac0, vac1, vac2, vac3]) rfl (rl 32 0 [vaa0, vaa1, vaa2, vaa3, vab0, vab1, vab2, vab3, vac0, vac1, vac2, vac3] L3) ?_
  simp only [p3, p4]
  refine se ?_
  have kq9 := g2.kp.trans (g3.kp.trans g5.kp)
  replace hva1 := hva1.kp kq9
  replace hva2 := hva2.kp kq9
  replace hva3 := hva3.kp kq9
  refine ec 10 (vzero_v hva1 hva2 hva3 (by omega)) ?_
  rintro e8 w8 ⟨rfl, g8⟩
  refine ⟨_, rfl, ?_⟩
  replace hB := hB.trans g8
  simp only [p3, p4]
  refine sv 11 (.bool (!(vcmp c1 c2 c3 0 0 0 == (0 : Int)))) ?_
  simp only [p3, p4]
  refine sv 12 (.bool (!(vcmp c1 c2 c3 0 0 0 == (0 : Int)))) ?_
  simp only [p3, p4]
  rcases Bool.eq_false_or_eq_true (!(vcmp c1 c2 c3 0 0 0 == (0 : Int))) with hb10 | hb10
  ·refine sw 13 (.bool true) rfl (RunV.bool (x := !(vcmp c1 c2 c3 0 0 0 == (0 : Int))) (rvk (by kernel_rfl)) hb10) ?_
   simp only [p3, p4]
   replace L2 := L2.gr (g5.trans g8)
   refine sw 14 (.agg #[uaa0, uaa1, uaa2, uaa3, uab0, uab1, uab2, uab3, uac0, uac1, uac2, uac3]) rfl (rl 32 0 [uaa0, uaa1, uaa2, uaa3, uab0, uab1, uab2, uab3, uac0, uac1, uac2, uac3] L2) ?_
   simp only [p3, p4]
   replace L3 := L3.gr g8
   refine sw 15 (.agg #[vaa0, vaa1, vaa2, vaa3, vab0, vab1, vab2, vab3, vac0, vac1, vac2, vac3]) rfl (rl 32 0 [vaa0, vaa1, vaa2, vaa3, vab0, vab1, vab2, vab3, vac0, vac1, vac2, vac3] L3) ?_
   simp only [p3, p4]
   refine se ?_
   have kq12 := g5.kp.trans g8.kp
   replace hua1 := hua1.kp kq12
   replace hua2 := hua2.kp kq12
   replace hua3 := hua3.kp kq12
   replace hva1 := hva1.kp g8.kp
   replace hva2 := hva2.kp g8.kp
   replace hva3 := hva3.kp g8.kp
   refine ec 16 (cross_v hua1 hua2 hua3 hva1 hva2 hva3 (by omega)) ?_
   rintro e11 w11 ⟨⟨t11_0, t11_1, t11_2, t11_3, t11_4, t11_5, t11_6, t11_7, t11_8, t11_9, t11_10, t11_11, rfl, h11a, h11b, h11c⟩, g11⟩
   refine ⟨_, rfl, ?_⟩
   replace hB := hB.trans g11
   simp only [p3, p4]
   refine se ?_
   refine ec 17 (vzero_v h11a h11b h11c (by omega)) ?_
   rintro e13 w13 ⟨rfl, g13⟩
   refine ⟨_, rfl, ?_⟩
   replace hB := hB.trans g13
   simp only [p3, p4]
   refine sv 18 (.bool (vcmp (a2 * c3 - a3 * c2) (a3 * c1 - a1 * c3) (a1 * c2 - a2 * c1) 0 0 0 == (0 : Int))) ?_
   simp only [p3, p4]
   refine sv 4 (.bool (vcmp (a2 * c3 - a3 * c2) (a3 * c1 - a1 * c3) (a1 * c2 - a2 * c1) 0 0 0 == (0 : Int))) ?_
   simp only [p3, p4]
   refine sq_nil ?_
   refine k4 _ _ ?_
   try clear k4 K4
   refine wp_ret ?_
   refine bodyPost_ret (v := (.bool (vcmp (a2 * c3 - a3 * c2) (a3 * c1 - a1 * c3) (a1 * c2 - a2 * c1) 0 0 0 == (0 : Int)))) (ret_tmp rfl rfl) rfl ⟨?_, hB⟩
   exact (by rw [hb7, hb10]; rfl)
  ·refine sw 13 (.bool false) rfl (RunV.bool (x := !(vcmp c1 c2 c3 0 0 0 == (0 : Int))) (rvk (by kernel_rfl)) hb10) ?_
   simp only [p3, p4]
   refine ss 14 ?_
   simp only [p3, p4]
   refine ss 15 ?_
   simp only [p3, p4]
   refine ss 16 ?_
   simp only [p3, p4]
   refine ss 17 ?_
   simp only [p3, p4]
   refine sv 18 (.bool false) ?_
   simp only [p3, p4]
   refine sv 4 (.bool false) ?_
   simp only [p3, p4]
   refine sq_nil ?_
   refine k4 _ _ ?_
   try clear k4 K4
   refine wp_ret ?_
   refine bodyPost_ret (v := (.bool false)) (ret_tmp rfl rfl) rfl ⟨?_, hB⟩
   exact (by rw [hb7, hb10]; rfl)
 ·refine sw 8 (.bool false) rfl (RunV.bool (x := !(vcmp a1 a2 a3 0 0 0 == (0 : Int))) (rvk (by kernel_rfl)) hb7) ?_
  simp only [p3, p4]
  refine ss 9 ?_
  simp only [p3, p4]
  refine ss 10 ?_
  simp only [p3, p4]
  refine ss 11 ?_
  simp only [p3, p4]
  refine sv 12 (.bool false) ?_
  simp only [p3, p4]
  refine sv 13 (.bool false) ?_
  simp only [p3, p4]
  refine ss 14 ?_
  simp only [p3, p4]
  refine ss 15 ?_
  simp only [p3, p4]
  refine ss 16 ?_
  simp only [p3, p4]
  refine ss 17 ?_
  simp only [p3, p4]
  refine sv 18 (.bool false) ?_
  simp only [p3, p4]
  refine sv 4 (.bool false) ?_
  simp only [p3, p4]
  refine sq_nil ?_
  refine k4 _ _ ?_
  try clear k4 K4
  refine wp_ret ?_
  refine bodyPost_ret (v := (.bool false)) (ret_tmp rfl rfl) rfl ⟨?_, hB⟩
  exact (by rw [hb7]; rfl)

end Go.Proofs.YtlcmllfacolkaaaGreatDoor
/- Printed by a program of the prover's: what the laws of chapter 03 take. -/
namespace Go.Proofs.YtlcmllfacolkaaaGreatDoor
open Go.RowKit

set_option maxRecDepth 100000 in
set_option maxHeartbeats 1000000 in
theorem r2_from (z : Int) (_h0 : -9223372036854775808 ≤ z) (_h1 : z ≤ 9223372036854775807) (w : World) :
    Calls Tryz.prog 56 #[(.int .i64 (z))] w fun e w' => e = .returned (.string ⟨(ratL (((z : Int) : Rat))).toArray⟩) ∧ Gr w w' := by
 go_enter Tryz.func56, Tryz.ntmps56
 have hB := Gr.refl w
 refine wp_seq_k (fun K1 k1 => ?_)
 refine rg [0] ?_
 refine sv 2 (.string ⟨([] : List UInt8).toArray⟩) ?_
 simp only [p3, p4]
 refine sq_nil ?_
 refine k1 _ _ ?_
 try clear k1 K1
 refine wp_seq_k (fun K2 k2 => ?_)
 refine rg [0, 1, 2] ?_
 refine sv 3 (.int .i64 (z)) ?_
 simp only [p3, p4]
 refine se ?_
 refine ec 4 (r1_from (z) (by omega) (by omega) _) ?_
 rintro e3 w3 ⟨rfl, g3⟩
 refine ⟨_, rfl, ?_⟩
 replace hB := hB.trans g3
 simp only [p3, p4]
 refine sv 2 (.string ⟨(Lib.itoa ((z)) : List UInt8).toArray⟩) ?_
 simp only [p3, p4]
 refine sq_nil ?_
 refine k2 _ _ ?_
 try clear k2 K2
 refine wp_ret ?_
 refine bodyPost_ret (v := (.string ⟨(Lib.itoa ((z)) : List UInt8).toArray⟩)) (ret_tmp rfl rfl) rfl ⟨?_, hB⟩
 exact (by rw [ratL_iz])

set_option maxRecDepth 100000 in
set_option maxHeartbeats 1000000 in
theorem r3_of (n1 n2 n3 : Int) (_j1 : -9223372036854775808 ≤ n1 ∧ n1 ≤ 9223372036854775807) (_j2 : -9223372036854775808 ≤ n2 ∧ n2 ≤ 9223372036854775807) (_j3 : -9223372036854775808 ≤ n3 ∧ n3 ≤ 9223372036854775807) (w : World) :
    Calls Tryz.prog 20 #[(.agg #[(.int .i64 (n1)), (.int .i64 (n2)), (.int .i64 (n3))])] w fun e w' => e = .returned (.agg #[.string ⟨(ratL (((n1 : Int) : Rat))).toArray⟩, .string ⟨(ratL (((n2 : Int) : Rat))).toArray⟩, .string ⟨(ratL (((n3 : Int) : Rat))).toArray⟩]) ∧ Gr w w' := by
 go_enter Tryz.func20, Tryz.ntmps20
 have hB := Gr.refl w
 refine wp_seq_k (fun K1 k1 => ?_)
 refine rg [0, 1] ?_
 refine se ?_
 refine eb 45 #[(.int .i64 (n1)), (.int .i64 (n2)), (.int .i64 (n3))] 1 hB fun b2 w2 g2 L2 o2 q2 hB => ?_
 simp only [p3, p4]
 refine se ?_
 refine ea 49 #[(.string ⟨([] : List UInt8).toArray⟩), (.string ⟨([] : List UInt8).toArray⟩), (.string ⟨([] : List UInt8).toArray⟩)] 2 hB fun b3 w3 g3 L3 o3 q3 hB => ?_
 have ne2_3 := L2.ne o3
 simp only [p3, p4]
 refine sq_nil ?_
 refine k1 _ _ ?_
 try clear k1 K1
 refine wp_seq_k (fun K4 k4 => ?_)
 have gd14 := Gr.drew w3
 replace hB := hB.trans gd14
 replace L2 := L2.gr (g3.trans gd14)
 refine wp_region_ord (fun w' => Lc w' b2 #[(.int .i64 (n1)), (.int .i64 (n2)), (.int .i64 (n3))] 45) [(true, 0), (true, 1), (true, 3), (true, 4), (true, 6), (true, 7), (false, 2), (false, 5), (false, 8), (true, 9), (false, 10)] (by kernel_rfl) (by kernel_rfl) (by kernel_rfl) (by decide) (fun _ _ _ _ _ h => h) L2 ?_
 refine ov 3 (.pointer (some ⟨b2, 0, none⟩)) ?_
 simp only [p3, p4]
 refine ow 4 (.int .i64 (n1)) rfl (fun w' hS => (rk 3 0 hS)) ?_
 simp only [p3, p4]
 refine ov 6 (.pointer (some ⟨b2, 1, none⟩)) ?_
 simp only [p3, p4]
 refine ow 7 (.int .i64 (n2)) rfl (fun w' hS => (rk 3 1 hS)) ?_
 simp only [p3, p4]
 refine ov 9 (.pointer (some ⟨b2, 2, none⟩)) ?_
 simp only [p3, p4]
 refine ow 10 (.int .i64 (n3)) rfl (fun w' hS => (rk 3 2 hS)) ?_
 simp only [p3, p4]
 refine oe ?_
 refine ec 5 (r1_from (n1) (by omega) (by omega) _) ?_
 rintro e16 w16 ⟨rfl, g16⟩
 refine ⟨_, rfl, ?_⟩
 replace hB := hB.trans g16
 replace L2 := L2.gr g16
 refine ⟨L2, ?_⟩
 simp only [p3, p4]
 refine oe ?_
 refine ec 8 (r1_from (n2) (by omega) (by omega) _) ?_
 rintro e18 w18 ⟨rfl, g18⟩
 refine ⟨_, rfl, ?_⟩
 replace hB := hB.trans g18
 replace L2 := L2.gr g18
 refine ⟨L2, ?_⟩
 simp only [p3, p4]
 refine oe ?_
 refine ec 11 (r1_from (n3) (by omega) (by omega) _) ?_
 rintro e20 w20 ⟨rfl, g20⟩
 refine ⟨_, rfl, ?_⟩
 replace hB := hB.trans g20
 replace L2 := L2.gr g20
 refine ⟨L2, ?_⟩
 simp only [p3, p4]
 refine ov 12 (.agg #[(.string ⟨(Lib.itoa ((n1)) : List UInt8).toArray⟩), (.string ⟨(Lib.itoa ((n2)) : List UInt8).toArray⟩), (.string ⟨(Lib.itoa ((n3)) : List UInt8).toArray⟩)]) ?_
 simp only [p3, p4]
 refine oe ?_
 replace L3 := L3.gr (gd14.trans (g16.trans (g18.trans g20)))
 refine es 49 0 (.agg #[(.string ⟨(Lib.itoa ((n1)) : List UInt8).toArray⟩), (.string ⟨(Lib.itoa ((n2)) : List UInt8).toArray⟩), (.string ⟨(Lib.itoa ((n3)) : List UInt8).toArray⟩)]) [(.string ⟨(Lib.itoa ((n1)) : List UInt8).toArray⟩), (.string ⟨(Lib.itoa ((n2)) : List UInt8).toArray⟩), (.string ⟨(Lib.itoa ((n3)) : List UInt8).toArray⟩)] #[(.string ⟨(Lib.itoa ((n1)) : List UInt8).toArray⟩), (.string ⟨(Lib.itoa ((n2)) : List UInt8).toArray⟩), (.string ⟨(Lib.itoa ((n3)) : List UInt8).toArray⟩)] L3 hB q3 ⟨rfl, rfl, rfl, trivial⟩ fun w22 st22 kp22 L3 hB => ?_
 replace L2 := st22.lc L2 ne2_3
 refine ⟨L2, ?_⟩
 refine ord_nil ?_
 refine k4 _ _ ?_
 try clear k4 K4
 refine wp_ret ?_
 refine bodyPost_ret (v := (.agg #[(.string ⟨(Lib.itoa ((n1)) : List UInt8).toArray⟩), (.string ⟨(Lib.itoa ((n2)) : List UInt8).toArray⟩), (.string ⟨(Lib.itoa ((n3)) : List UInt8).toArray⟩)])) (ret_cell _ _ _ rfl rfl L3 (by kernel_rfl)) rfl ⟨?_, hB⟩
 exact (by rw [ratL_iz, ratL_iz, ratL_iz])

set_option maxRecDepth 100000 in
set_option maxHeartbeats 1000000 in
theorem texts_v (ia1 ia2 ia3 da : Int) (_ja1 : -128 ≤ ia1 ∧ ia1 ≤ 127) (_ja2 : -128 ≤ ia2 ∧ ia2 ≤ 127) (_ja3 : -128 ≤ ia3 ∧ ia3 ≤ 127) (jda : 0 ≤ da ∧ da ≤ 255) (a1 a2 a3 : Rat) (ea1 : a1 = ((ia1 : Int) : Rat) / ((1 + da % 6 : Int) : Rat)) (ea2 : a2 = ((ia2 : Int) : Rat) / ((1 + da % 6 : Int) : Rat)) (ea3 : a3 = ((ia3 : Int) : Rat) / ((1 + da % 6 : Int) : Rat)) (w : World) :
    Calls Tryz.prog 18 #[(.agg #[(.int .i8 (ia1)), (.int .i8 (ia2)), (.int .i8 (ia3)), (.int .u8 (da))])] w fun e w' => e = .returned (.agg #[.string ⟨(ratL (a1)).toArray⟩, .string ⟨(ratL (a2)).toArray⟩, .string ⟨(ratL (a3)).toArray⟩]) ∧ Gr w w' := by
 go_enter Tryz.func18, Tryz.ntmps18
 have hB := Gr.refl w
 refine wp_seq_k (fun K1 k1 => ?_)
 refine rg [0, 1] ?_
 refine se ?_
 refine eb 42 #[(.int .i8 (ia1)), (.int .i8 (ia2)), (.int .i8 (ia3)), (.int .u8 (da))] 1 hB fun b2 w2 g2 L2 o2 q2 hB => ?_
 simp only [p3, p4]
 refine se ?_
 refine ea 49 #[(.string ⟨([] : List UInt8).toArray⟩), (.string ⟨([] : List UInt8).toArray⟩), (.string ⟨([] : List UInt8).toArray⟩)] 2 hB fun b3 w3 g3 L3 o3 q3 hB => ?_
 simp only [p3, p4]
 refine sq_nil ?_
 refine k1 _ _ ?_
 try clear k1 K1
 refine wp_seq_k (fun K4 k4 => ?_)
 refine rg [0] ?_
 refine se ?_
 refine ea 49 #[(.string ⟨([] : List UInt8).toArray⟩), (.string ⟨([] : List UInt8).toArray⟩), (.string ⟨([] : List UInt8).toArray⟩)] 3 hB fun b5 w5 g5 L5 o5 q5 hB => ?_
 replace L2 := L2.gr g3
 have ne2_5 := L2.ne o5
 have ne3_5 := L3.ne o5
 simp only [p3, p4]
 refine sq_nil ?_
 refine k4 _ _ ?_
 try clear k4 K4
 refine wp_seq_k (fun K6 k6 => ?_)
 refine wp_seq_k (fun K7 k7 => ?_)
 refine rg [0] ?_
 refine sv 4 (.int .i64 0) ?_
 simp only [p3, p4]
 refine sq_nil ?_
 refine k7 _ _ ?_
 try clear k7 K7
 refine wp_block ?_
 refine wp_loop_rounds 4 ?_
 show Code.wp _ _ _ _ _
 refine wp_seq_k (fun K8 k8 => ?_)
 refine wp_seq_k (fun K9 k9 => ?_)
 refine rg [0, 1] ?_
 refine sv 5 (.int .i64 0) ?_
 simp only [p3, p4]
 refine sv 6 (.bool true) ?_
 simp only [p3, p4]
 refine sq_nil ?_
 refine k9 _ _ ?_
 try clear k9 K9
 refine wp_cond_true rfl ?_
 refine wp_skip ?_
 refine k8 _ _ ?_
 try clear k8 K8
 refine wp_seq_k (fun K10 k10 => ?_)
 refine wp_block ?_
 have gd20 := Gr.drew w5
 replace hB := hB.trans gd20
 replace L2 := L2.gr (g5.trans gd20)
 refine wp_region_ord (fun w' => Lc w' b2 #[(.int .i8 (ia1)), (.int .i8 (ia2)), (.int .i8 (ia3)), (.int .u8 (da))] 42) [(true, 0), (true, 1), (true, 2), (true, 3), (true, 4), (true, 5), (true, 7), (true, 8), (true, 9), (true, 10), (true, 11), (false, 6), (false, 12), (false, 13), (true, 14), (false, 15)] (by kernel_rfl) (by kernel_rfl) (by kernel_rfl) (by decide) (fun _ _ _ _ _ h => h) L2 ?_
 refine ov 9 (.int .i64 0) ?_
 simp only [p3, p4]
 refine ov 10 (.int .i64 0) ?_
 simp only [p3, p4]
 refine ov 11 (.pointer (some ⟨b2, 0, none⟩)) ?_
 simp only [p3, p4]
 refine ov 12 (.pointer (some ⟨b2, 0, none⟩)) ?_
 simp only [p3, p4]
 refine ow 13 (.int .i8 (ia1)) rfl (fun w' hS => (rk 39 0 hS)) ?_
 simp only [p3, p4]
 refine ow 14 (.int .i64 (ia1)) rfl (fun w' hS => (RunV.int (x := IntKind.i64.wrap (ia1)) (y := ia1) (rvk (by kernel_rfl)) (by first | rfl | (rw [IntKind.wrap_i64]; omega)))) ?_
 simp only [p3, p4]
 refine ov 16 (.pointer (some ⟨b2, 3, none⟩)) ?_
 simp only [p3, p4]
 refine ow 17 (.int .u8 (da)) rfl (fun w' hS => (rk 5 3 hS)) ?_
 simp only [p3, p4]
 refine ow 18 (.int .u8 ((da % 6))) rfl (fun w' hS => (RunV.int (x := Int.tmod (da) 6) (y := da % 6) (rvk (by kernel_rfl)) (by rw [Int.tmod_eq_emod_of_nonneg (by first | omega | exact Int.natCast_nonneg _)]))) ?_
 simp only [p3, p4]
 refine ow 19 (.int .i64 ((da % 6))) rfl (fun w' hS => (RunV.int (x := IntKind.i64.wrap ((da % 6))) (y := (da % 6)) (rvk (by kernel_rfl)) (by first | rfl | (rw [IntKind.wrap_i64]; omega)))) ?_
 simp only [p3, p4]
 refine ow 20 (.int .i64 ((1 + (da % 6)))) rfl (fun w' hS => (RunV.int (x := IntKind.i64.wrap ((1 + (da % 6)))) (y := (1 + (da % 6))) (rvk (by kernel_rfl)) (by first | rfl | (rw [IntKind.wrap_i64]; omega)))) ?_
 simp only [p3, p4]
 refine oe ?_
 refine ec 15 (r2_from (ia1) (by omega) (by omega) _) ?_
 rintro e22 w22 ⟨rfl, g22⟩
 refine ⟨_, rfl, ?_⟩
 replace hB := hB.trans g22
 replace L2 := L2.gr g22
 refine ⟨L2, ?_⟩
 simp only [p3, p4]
 refine oe ?_
 refine ec 21 (r2_from ((1 + (da % 6))) (by omega) (by omega) _) ?_
 rintro e24 w24 ⟨rfl, g24⟩
 refine ⟨_, rfl, ?_⟩
 replace hB := hB.trans g24
 replace L2 := L2.gr g24
 refine ⟨L2, ?_⟩
 simp only [p3, p4]
 refine oe ?_
 refine ec 22 (r2_div (((ia1 : Int) : Rat)) ((((1 + (da % 6)) : Int) : Rat)) (rs_i64 (n := ia1) (by omega)) (rs_i64 (n := (1 + (da % 6))) (by omega)) (small_den jda) (by omega) _) ?_
 rintro e26 w26 ⟨rfl, g26⟩
 refine ⟨_, rfl, ?_⟩
 replace hB := hB.trans g26
 replace L2 := L2.gr g26
 refine ⟨L2, ?_⟩
 simp only [p3, p4]
 refine ov 23 (.pointer (some ⟨b5, 0, none⟩)) ?_
 simp only [p3, p4]
 refine oe ?_
 replace L5 := L5.gr (gd20.trans (g22.trans (g24.trans g26)))
 refine es 9 0 (.string ⟨(ratL (((ia1 : Int) : Rat) / (((1 + (da % 6)) : Int) : Rat)) : List UInt8).toArray⟩) [(.string ⟨(ratL (((ia1 : Int) : Rat) / (((1 + (da % 6)) : Int) : Rat)) : List UInt8).toArray⟩)] #[(.string ⟨(ratL (((ia1 : Int) : Rat) / (((1 + (da % 6)) : Int) : Rat)) : List UInt8).toArray⟩), (.string ⟨([] : List UInt8).toArray⟩), (.string ⟨([] : List UInt8).toArray⟩)] L5 hB q5 ⟨rfl, trivial⟩ fun w28 st28 kp28 L5 hB => ?_
 replace L2 := st28.lc L2 ne2_5
 refine ⟨L2, ?_⟩
 refine ord_nil ?_
 refine k10 _ _ ?_
 try clear k10 K10
 refine rg [0, 1, 2] ?_
 refine sv 7 (.int .i64 0) ?_
 simp only [p3, p4]
 refine sv 8 (.int .i64 1) ?_
 simp only [p3, p4]
 refine sv 4 (.int .i64 1) ?_
 simp only [p3, p4]
 refine sq_nil ?_
 show Code.rounds _ _ _ _ _ _
 show Code.wp _ _ _ _ _
 refine wp_seq_k (fun K29 k29 => ?_)
 refine wp_seq_k (fun K30 k30 => ?_)
 refine rg [0, 1] ?_
 refine sv 5 (.int .i64 1) ?_
 simp only [p3, p4]
 refine sv 6 (.bool true) ?_
 simp only [p3, p4]
 refine sq_nil ?_
 refine k30 _ _ ?_
 try clear k30 K30
 refine wp_cond_true rfl ?_
 refine wp_skip ?_
 refine k29 _ _ ?_
 try clear k29 K29
 refine wp_seq_k (fun K31 k31 => ?_)
 refine wp_block ?_
 have gd41 := Gr.drew w28
 replace hB := hB.trans gd41
 replace L2 := L2.gr gd41
 refine wp_region_ord (fun w' => Lc w' b2 #[(.int .i8 (ia1)), (.int .i8 (ia2)), (.int .i8 (ia3)), (.int .u8 (da))] 42) [(true, 0), (true, 1), (true, 2), (true, 3), (true, 4), (true, 5), (true, 7), (true, 8), (true, 9), (true, 10), (true, 11), (false, 6), (false, 12), (false, 13), (true, 14), (false, 15)] (by kernel_rfl) (by kernel_rfl) (by kernel_rfl) (by decide) (fun _ _ _ _ _ h => h) L2 ?_
 refine ov 9 (.int .i64 1) ?_
 simp only [p3, p4]
 refine ov 10 (.int .i64 1) ?_
 simp only [p3, p4]
 refine ov 11 (.pointer (some ⟨b2, 0, none⟩)) ?_
 simp only [p3, p4]
 refine ov 12 (.pointer (some ⟨b2, 1, none⟩)) ?_
 simp only [p3, p4]
 refine ow 13 (.int .i8 (ia2)) rfl (fun w' hS => (rk 39 1 hS)) ?_
 simp only [p3, p4]
 refine ow 14 (.int .i64 (ia2)) rfl (fun w' hS => (RunV.int (x := IntKind.i64.wrap (ia2)) (y := ia2) (rvk (by kernel_rfl)) (by first | rfl | (rw [IntKind.wrap_i64]; omega)))) ?_
 simp only [p3, p4]
 refine ov 16 (.pointer (some ⟨b2, 3, none⟩)) ?_
 simp only [p3, p4]
 refine ow 17 (.int .u8 (da)) rfl (fun w' hS => (rk 5 3 hS)) ?_
 simp only [p3, p4]
 refine ow 18 (.int .u8 ((da % 6))) rfl (fun w' hS => (RunV.int (x := Int.tmod (da) 6) (y := da % 6) (rvk (by kernel_rfl)) (by rw [Int.tmod_eq_emod_of_nonneg (by first | omega | exact Int.natCast_nonneg _)]))) ?_
 simp only [p3, p4]
 refine ow 19 (.int .i64 ((da % 6))) rfl (fun w' hS => (RunV.int (x := IntKind.i64.wrap ((da % 6))) (y := (da % 6)) (rvk (by kernel_rfl)) (by first | rfl | (rw [IntKind.wrap_i64]; omega)))) ?_
 simp only [p3, p4]
 refine ow 20 (.int .i64 ((1 + (da % 6)))) rfl (fun w' hS => (RunV.int (x := IntKind.i64.wrap ((1 + (da % 6)))) (y := (1 + (da % 6))) (rvk (by kernel_rfl)) (by first | rfl | (rw [IntKind.wrap_i64]; omega)))) ?_
 simp only [p3, p4]
 refine oe ?_
 refine ec 15 (r2_from (ia2) (by omega) (by omega) _) ?_
 rintro e43 w43 ⟨rfl, g43⟩
 refine ⟨_, rfl, ?_⟩
 replace hB := hB.trans g43
 replace L2 := L2.gr g43
 refine ⟨L2, ?_⟩
 simp only [p3, p4]
 refine oe ?_
 refine ec 21 (r2_from ((1 + (da % 6))) (by omega) (by omega) _) ?_
 rintro e45 w45 ⟨rfl, g45⟩
 refine ⟨_, rfl, ?_⟩
 replace hB := hB.trans g45
 replace L2 := L2.gr g45
 refine ⟨L2, ?_⟩
 simp only [p3, p4]
 refine oe ?_
 refine ec 22 (r2_div (((ia2 : Int) : Rat)) ((((1 + (da % 6)) : Int) : Rat)) (rs_i64 (n := ia2) (by omega)) (rs_i64 (n := (1 + (da % 6))) (by omega)) (small_den jda) (by omega) _) ?_
 rintro e47 w47 ⟨rfl, g47⟩
 refine ⟨_, rfl, ?_⟩
 replace hB := hB.trans g47
 replace L2 := L2.gr g47
 refine ⟨L2, ?_⟩
 simp only [p3, p4]
 refine ov 23 (.pointer (some ⟨b5, 1, none⟩)) ?_
 simp only [p3, p4]
 refine oe ?_
 replace L5 := L5.gr (gd41.trans (g43.trans (g45.trans g47)))
 refine es 9 1 (.string ⟨(ratL (((ia2 : Int) : Rat) / (((1 + (da % 6)) : Int) : Rat)) : List UInt8).toArray⟩) [(.string ⟨(ratL (((ia2 : Int) : Rat) / (((1 + (da % 6)) : Int) : Rat)) : List UInt8).toArray⟩)] #[(.string ⟨(ratL (((ia1 : Int) : Rat) / (((1 + (da % 6)) : Int) : Rat)) : List UInt8).toArray⟩), (.string ⟨(ratL (((ia2 : Int) : Rat) / (((1 + (da % 6)) : Int) : Rat)) : List UInt8).toArray⟩), (.string ⟨([] : List UInt8).toArray⟩)] L5 hB q5 ⟨rfl, trivial⟩ fun w49 st49 kp49 L5 hB => ?_
 replace L2 := st49.lc L2 ne2_5
 refine ⟨L2, ?_⟩
 refine ord_nil ?_
 refine k31 _ _ ?_
 try clear k31 K31
 refine rg [0, 1, 2] ?_
 refine sv 7 (.int .i64 1) ?_
 simp only [p3, p4]
 refine sv 8 (.int .i64 2) ?_
 simp only [p3, p4]
 refine sv 4 (.int .i64 2) ?_
 simp only [p3, p4]
 refine sq_nil ?_
 show Code.rounds _ _ _ _ _ _
 show Code.wp _ _ _ _ _
 refine wp_seq_k (fun K50 k50 => ?_)
 refine wp_seq_k (fun K51 k51 => ?_)
 refine rg [0, 1] ?_
 refine sv 5 (.int .i64 2) ?_
 simp only [p3, p4]
 refine sv 6 (.bool true) ?_
 simp only [p3, p4]
 refine sq_nil ?_
 refine k51 _ _ ?_
 try clear k51 K51
 refine wp_cond_true rfl ?_
 refine wp_skip ?_
 refine k50 _ _ ?_
 try clear k50 K50
 refine wp_seq_k (fun K52 k52 => ?_)
 refine wp_block ?_
 have gd62 := Gr.drew w49
 replace hB := hB.trans gd62
 replace L2 := L2.gr gd62
 refine wp_region_ord (fun w' => Lc w' b2 #[(.int .i8 (ia1)), (.int .i8 (ia2)), (.int .i8 (ia3)), (.int .u8 (da))] 42) [(true, 0), (true, 1), (true, 2), (true, 3), (true, 4), (true, 5), (true, 7), (true, 8), (true, 9), (true, 10), (true, 11), (false, 6), (false, 12), (false, 13), (true, 14), (false, 15)] (by kernel_rfl) (by kernel_rfl) (by kernel_rfl) (by decide) (fun _ _ _ _ _ h => h) L2 ?_
 refine ov 9 (.int .i64 2) ?_
 simp only [p3, p4]
 refine ov 10 (.int .i64 2) ?_
 simp only [p3, p4]
 refine ov 11 (.pointer (some ⟨b2, 0, none⟩)) ?_
 simp only [p3, p4]
 refine ov 12 (.pointer (some ⟨b2, 2, none⟩)) ?_
 simp only [p3, p4]
 refine ow 13 (.int .i8 (ia3)) rfl (fun w' hS => (rk 39 2 hS)) ?_
 simp only [p3, p4]
 refine ow 14 (.int .i64 (ia3)) rfl (fun w' hS => (RunV.int (x := IntKind.i64.wrap (ia3)) (y := ia3) (rvk (by kernel_rfl)) (by first | rfl | (rw [IntKind.wrap_i64]; omega)))) ?_
 simp only [p3, p4]
 refine ov 16 (.pointer (some ⟨b2, 3, none⟩)) ?_
 simp only [p3, p4]
 refine ow 17 (.int .u8 (da)) rfl (fun w' hS => (rk 5 3 hS)) ?_
 simp only [p3, p4]
 refine ow 18 (.int .u8 ((da % 6))) rfl (fun w' hS => (RunV.int (x := Int.tmod (da) 6) (y := da % 6) (rvk (by kernel_rfl)) (by rw [Int.tmod_eq_emod_of_nonneg (by first | omega | exact Int.natCast_nonneg _)]))) ?_
 simp only [p3, p4]
 refine ow 19 (.int .i64 ((da % 6))) rfl (fun w' hS => (RunV.int (x := IntKind.i64.wrap ((da % 6))) (y := (da % 6)) (rvk (by kernel_rfl)) (by first | rfl | (rw [IntKind.wrap_i64]; omega)))) ?_
 simp only [p3, p4]
 refine ow 20 (.int .i64 ((1 + (da % 6)))) rfl (fun w' hS => (RunV.int (x := IntKind.i64.wrap ((1 + (da % 6)))) (y := (1 + (da % 6))) (rvk (by kernel_rfl)) (by first | rfl | (rw [IntKind.wrap_i64]; omega)))) ?_
 simp only [p3, p4]
 refine oe ?_
 refine ec 15 (r2_from (ia3) (by omega) (by omega) _) ?_
 rintro e64 w64 ⟨rfl, g64⟩
 refine ⟨_, rfl, ?_⟩
 replace hB := hB.trans g64
 replace L2 := L2.gr g64
 refine ⟨L2, ?_⟩
 simp only [p3, p4]
 refine oe ?_
 refine ec 21 (r2_from ((1 + (da % 6))) (by omega) (by omega) _) ?_
 rintro e66 w66 ⟨rfl, g66⟩
 refine ⟨_, rfl, ?_⟩
 replace hB := hB.trans g66
 replace L2 := L2.gr g66
 refine ⟨L2, ?_⟩
 simp only [p3, p4]
 refine oe ?_
 refine ec 22 (r2_div (((ia3 : Int) : Rat)) ((((1 + (da % 6)) : Int) : Rat)) (rs_i64 (n := ia3) (by omega)) (rs_i64 (n := (1 + (da % 6))) (by omega)) (small_den jda) (by omega) _) ?_
 rintro e68 w68 ⟨rfl, g68⟩
 refine ⟨_, rfl, ?_⟩
 replace hB := hB.trans g68
 replace L2 := L2.gr g68
 refine ⟨L2, ?_⟩
 simp only [p3, p4]
 refine ov 23 (.pointer (some ⟨b5, 2, none⟩)) ?_
 simp only [p3, p4]
 refine oe ?_
 replace L5 := L5.gr (gd62.trans (g64.trans (g66.trans g68)))
 refine es 9 2 (.string ⟨(ratL (((ia3 : Int) : Rat) / (((1 + (da % 6)) : Int) : Rat)) : List UInt8).toArray⟩) [(.string ⟨(ratL (((ia3 : Int) : Rat) / (((1 + (da % 6)) : Int) : Rat)) : List UInt8).toArray⟩)] #[(.string ⟨(ratL (((ia1 : Int) : Rat) / (((1 + (da % 6)) : Int) : Rat)) : List UInt8).toArray⟩), (.string ⟨(ratL (((ia2 : Int) : Rat) / (((1 + (da % 6)) : Int) : Rat)) : List UInt8).toArray⟩), (.string ⟨(ratL (((ia3 : Int) : Rat) / (((1 + (da % 6)) : Int) : Rat)) : List UInt8).toArray⟩)] L5 hB q5 ⟨rfl, trivial⟩ fun w70 st70 kp70 L5 hB => ?_
 replace L2 := st70.lc L2 ne2_5
 refine ⟨L2, ?_⟩
 refine ord_nil ?_
 refine k52 _ _ ?_
 try clear k52 K52
 refine rg [0, 1, 2] ?_
 refine sv 7 (.int .i64 2) ?_
 simp only [p3, p4]
 refine sv 8 (.int .i64 3) ?_
 simp only [p3, p4]
 refine sv 4 (.int .i64 3) ?_
 simp only [p3, p4]
 refine sq_nil ?_
 show Code.rounds _ _ _ _ _ _
 show Code.wp _ _ _ _ _
 refine wp_seq_k (fun K71 k71 => ?_)
 refine wp_seq_k (fun K72 k72 => ?_)
 refine rg [0, 1] ?_
 refine sv 5 (.int .i64 3) ?_
 simp only [p3, p4]
 refine sv 6 (.bool false) ?_
 simp only [p3, p4]
 refine sq_nil ?_
 refine k72 _ _ ?_
 try clear k72 K72
 refine wp_cond_false rfl ?_
 refine wp_exit ?_
 simp only [Exit.then, Exit.inBlock, ↓reduceIte]
 refine k6 _ _ ?_
 try clear k6 K6
 refine wp_seq_k (fun K73 k73 => ?_)
 refine rg [0, 1] ?_
 refine sw 24 (.agg #[(.string ⟨(ratL (((ia1 : Int) : Rat) / (((1 + (da % 6)) : Int) : Rat)) : List UInt8).toArray⟩), (.string ⟨(ratL (((ia2 : Int) : Rat) / (((1 + (da % 6)) : Int) : Rat)) : List UInt8).toArray⟩), (.string ⟨(ratL (((ia3 : Int) : Rat) / (((1 + (da % 6)) : Int) : Rat)) : List UInt8).toArray⟩)]) rfl (rl 49 0 [(.string ⟨(ratL (((ia1 : Int) : Rat) / (((1 + (da % 6)) : Int) : Rat)) : List UInt8).toArray⟩), (.string ⟨(ratL (((ia2 : Int) : Rat) / (((1 + (da % 6)) : Int) : Rat)) : List UInt8).toArray⟩), (.string ⟨(ratL (((ia3 : Int) : Rat) / (((1 + (da % 6)) : Int) : Rat)) : List UInt8).toArray⟩)] L5) ?_
 simp only [p3, p4]
 refine se ?_
 replace L3 := st70.lc ((st49.lc ((st28.lc (L3.gr (g5.trans (gd20.trans (g22.trans (g24.trans g26))))) ne3_5).gr (gd41.trans (g43.trans (g45.trans g47)))) ne3_5).gr (gd62.trans (g64.trans (g66.trans g68)))) ne3_5
 refine es 49 0 (.agg #[(.string ⟨(ratL (((ia1 : Int) : Rat) / (((1 + (da % 6)) : Int) : Rat)) : List UInt8).toArray⟩), (.string ⟨(ratL (((ia2 : Int) : Rat) / (((1 + (da % 6)) : Int) : Rat)) : List UInt8).toArray⟩), (.string ⟨(ratL (((ia3 : Int) : Rat) / (((1 + (da % 6)) : Int) : Rat)) : List UInt8).toArray⟩)]) [(.string ⟨(ratL (((ia1 : Int) : Rat) / (((1 + (da % 6)) : Int) : Rat)) : List UInt8).toArray⟩), (.string ⟨(ratL (((ia2 : Int) : Rat) / (((1 + (da % 6)) : Int) : Rat)) : List UInt8).toArray⟩), (.string ⟨(ratL (((ia3 : Int) : Rat) / (((1 + (da % 6)) : Int) : Rat)) : List UInt8).toArray⟩)] #[(.string ⟨(ratL (((ia1 : Int) : Rat) / (((1 + (da % 6)) : Int) : Rat)) : List UInt8).toArray⟩), (.string ⟨(ratL (((ia2 : Int) : Rat) / (((1 + (da % 6)) : Int) : Rat)) : List UInt8).toArray⟩), (.string ⟨(ratL (((ia3 : Int) : Rat) / (((1 + (da % 6)) : Int) : Rat)) : List UInt8).toArray⟩)] L3 hB q3 ⟨rfl, rfl, rfl, trivial⟩ fun w74 st74 kp74 L3 hB => ?_
 refine sq_nil ?_
 refine k73 _ _ ?_
 try clear k73 K73
 refine wp_ret ?_
 refine bodyPost_ret (v := (.agg #[(.string ⟨(ratL (((ia1 : Int) : Rat) / (((1 + (da % 6)) : Int) : Rat)) : List UInt8).toArray⟩), (.string ⟨(ratL (((ia2 : Int) : Rat) / (((1 + (da % 6)) : Int) : Rat)) : List UInt8).toArray⟩), (.string ⟨(ratL (((ia3 : Int) : Rat) / (((1 + (da % 6)) : Int) : Rat)) : List UInt8).toArray⟩)])) (ret_cell _ _ _ rfl rfl L3 (by kernel_rfl)) rfl ⟨?_, hB⟩
 exact (by rw [ea1, ea2, ea3])

set_option maxRecDepth 100000 in
set_option maxHeartbeats 4000000 in
theorem vreadr0 {k : Nat} (a1 : Rat) (a2 : Rat) (a3 : Rat) (ha1 : RS k a1) (ha2 : RS k a2) (ha3 : RS k a3) (_hk : k ≤ 20000) (_h64 : 64 ≤ k) (w : World) (hm : Mx w) :
    Calls Tryz.prog 59 #[(.agg #[(.string ⟨(ratL (a1) : List UInt8).toArray⟩), (.string ⟨(ratL (a2) : List UInt8).toArray⟩), (.string ⟨(ratL (a3) : List UInt8).toArray⟩)]), (.func (.func 61) #[] #[])] w fun e w' => (∃ t0 t1 t2 t3 t4 t5 t6 t7 t8 t9 t10 t11, e = .returned (.tuple #[.agg #[t0, t1, t2, t3, t4, t5, t6, t7, t8, t9, t10, t11], .int .i64 0]) ∧ IsRat w' k t0 t1 t2 t3 (a1) ∧ IsRat w' k t4 t5 t6 t7 (a2) ∧ IsRat w' k t8 t9 t10 t11 (a3)) ∧ Gr w w' := by
 go_enter Tryz.func59, Tryz.ntmps59
 have hB := Gr.refl w
 refine wp_seq_k (fun K1 k1 => ?_)
 refine rg [0, 1, 2] ?_
 refine se ?_
 refine eb 24 #[(.string ⟨(ratL (a1) : List UInt8).toArray⟩), (.string ⟨(ratL (a2) : List UInt8).toArray⟩), (.string ⟨(ratL (a3) : List UInt8).toArray⟩)] 2 hB fun b2 w2 g2 L2 o2 q2 hB => ?_
 simp only [p3, p4]
 refine se ?_
 refine ea 32 #[(.bool false), (.slice none 0 0), (.bool false), (.slice none 0 0), (.bool false), (.slice none 0 0), (.bool false), (.slice none 0 0), (.bool false), (.slice none 0 0), (.bool false), (.slice none 0 0)] 4 hB fun b3 w3 g3 L3 o3 q3 hB => ?_
 simp only [p3, p4]
 refine sv 5 (.int .i64 0) ?_
 simp only [p3, p4]
 refine sq_nil ?_
 refine k1 _ _ ?_
 try clear k1 K1
 refine wp_seq_k (fun K4 k4 => ?_)
 refine rg [0] ?_
 refine se ?_
 refine ea 32 #[(.bool false), (.slice none 0 0), (.bool false), (.slice none 0 0), (.bool false), (.slice none 0 0), (.bool false), (.slice none 0 0), (.bool false), (.slice none 0 0), (.bool false), (.slice none 0 0)] 6 hB fun b5 w5 g5 L5 o5 q5 hB => ?_
 replace L2 := L2.gr g3
 have ne3_5 := L3.ne o5
 simp only [p3, p4]
 refine sq_nil ?_
 refine k4 _ _ ?_
 try clear k4 K4
 refine wp_seq_k (fun K6 k6 => ?_)
 refine wp_seq_k (fun K7 k7 => ?_)
 refine rg [0, 1] ?_
 replace L2 := L2.gr g5
 refine sw 11 (.agg #[(.string ⟨(ratL (a1) : List UInt8).toArray⟩), (.string ⟨(ratL (a2) : List UInt8).toArray⟩), (.string ⟨(ratL (a3) : List UInt8).toArray⟩)]) rfl (rl 24 0 [(.string ⟨(ratL (a1) : List UInt8).toArray⟩), (.string ⟨(ratL (a2) : List UInt8).toArray⟩), (.string ⟨(ratL (a3) : List UInt8).toArray⟩)] L2) ?_
 simp only [p3, p4]
 refine sv 12 (.int .i64 0) ?_
 simp only [p3, p4]
 refine sq_nil ?_
 refine k7 _ _ ?_
 try clear k7 K7
 refine wp_block ?_
 refine wp_loop_rounds 4 ?_
 show Code.wp _ _ _ _ _
 refine wp_seq_k (fun K8 k8 => ?_)
 refine rg [0] ?_
 refine sv 13 (.bool true) ?_
 simp only [p3, p4]
 refine sq_nil ?_
 refine k8 _ _ ?_
 try clear k8 K8
 refine wp_seq_k (fun K9 k9 => ?_)
 refine wp_cond_true rfl ?_
 refine wp_skip ?_
 refine k9 _ _ ?_
 try clear k9 K9
 refine wp_seq_k (fun K10 k10 => ?_)
 refine wp_block ?_
 refine wp_seq_k (fun K11 k11 => ?_)
 refine rg [0, 1, 2, 3] ?_
 refine sv 14 (.int .i64 0) ?_
 simp only [p3, p4]
 refine sv 15 (.string ⟨(ratL (a1) : List UInt8).toArray⟩) ?_
 simp only [p3, p4]
 refine sv 7 (.int .i64 0) ?_
 simp only [p3, p4]
 refine sv 8 (.string ⟨(ratL (a1) : List UInt8).toArray⟩) ?_
 simp only [p3, p4]
 refine sq_nil ?_
 refine k11 _ _ ?_
 try clear k11 K11
 refine wp_seq_k (fun K12 k12 => ?_)
 refine rg [0, 1, 2, 3, 4, 5, 6, 7, 8] ?_
 refine sv 17 (.func (.func 61) #[] #[]) ?_
 simp only [p3, p4]
 refine sv 18 (.string ⟨(ratL (a1) : List UInt8).toArray⟩) ?_
 simp only [p3, p4]
 refine se ?_
 refine ec 19 (readr_q (a1) ha1 (by omega) (by omega) (by have := ratL_len ha1.1 ha1.2; omega) _ (hm.gr hB)) ?_
 rintro e13 w13 ⟨⟨cc13_0, cc13_1, cc13_2, cc13_3, rfl, h13⟩, g13⟩
 refine ⟨_, rfl, ?_⟩
 replace hB := hB.trans g13
 simp only [p3, p4]
 refine sv 16 (.tuple #[(.agg #[cc13_0, cc13_1, cc13_2, cc13_3]), (.int .i64 0)]) ?_
 simp only [p3, p4]
 refine sv 20 (.agg #[cc13_0, cc13_1, cc13_2, cc13_3]) ?_
 simp only [p3, p4]
 refine sv 21 (.int .i64 0) ?_
 simp only [p3, p4]
 refine se ?_
 refine ea 30 #[(.bool false), (.slice none 0 0), (.bool false), (.slice none 0 0)] 9 hB fun b14 w14 g14 L14 o14 q14 hB => ?_
 replace L3 := L3.gr (g5.trans g13)
 have ne3_14 := L3.ne o14
 replace L5 := L5.gr g13
 have ne5_14 := L5.ne o14
 simp only [p3, p4]
 refine se ?_
 refine es 30 0 (.agg #[cc13_0, cc13_1, cc13_2, cc13_3]) [cc13_0, cc13_1, cc13_2, cc13_3] #[cc13_0, cc13_1, cc13_2, cc13_3] L14 hB q14 ⟨h13.one0, h13.one1, h13.one2, h13.one3, trivial⟩ fun w15 st15 kp15 L14 hB => ?_
 refine sv 10 (.int .i64 0) ?_
 simp only [p3, p4]
 refine sq_nil ?_
 refine k12 _ _ ?_
 try clear k12 K12
 refine wp_seq_k (fun K16 k16 => ?_)
 refine wp_seq_k (fun K17 k17 => ?_)
 refine rg [0, 1] ?_
 refine sv 22 (.int .i64 0) ?_
 simp only [p3, p4]
 refine sv 23 (.bool false) ?_
 simp only [p3, p4]
 refine sq_nil ?_
 refine k17 _ _ ?_
 try clear k17 K17
 refine wp_cond_false rfl ?_
 refine wp_skip ?_
 refine k16 _ _ ?_
 try clear k16 K16
 refine rg [0, 1, 2, 3] ?_
 refine sv 26 (.int .i64 0) ?_
 simp only [p3, p4]
 refine sw 27 (.agg #[cc13_0, cc13_1, cc13_2, cc13_3]) rfl (rl 30 0 [cc13_0, cc13_1, cc13_2, cc13_3] L14) ?_
 simp only [p3, p4]
 refine sv 28 (.pointer (some ⟨b5, 0, none⟩)) ?_
 simp only [p3, p4]
 refine se ?_
 replace L5 := st15.lc (L5.gr g14) ne5_14
 refine es 30 0 (.agg #[cc13_0, cc13_1, cc13_2, cc13_3]) [cc13_0, cc13_1, cc13_2, cc13_3] #[cc13_0, cc13_1, cc13_2, cc13_3, (.bool false), (.slice none 0 0), (.bool false), (.slice none 0 0), (.bool false), (.slice none 0 0), (.bool false), (.slice none 0 0)] L5 hB q5 ⟨h13.one0, h13.one1, h13.one2, h13.one3, trivial⟩ fun w18 st18 kp18 L5 hB => ?_
 refine sq_nil ?_
 refine k10 _ _ ?_
 try clear k10 K10
 refine rg [0, 1] ?_
 refine sv 29 (.int .i64 1) ?_
 simp only [p3, p4]
 refine sv 12 (.int .i64 1) ?_
 simp only [p3, p4]
 refine sq_nil ?_
 show Code.rounds _ _ _ _ _ _
 show Code.wp _ _ _ _ _
 refine wp_seq_k (fun K19 k19 => ?_)
 refine rg [0] ?_
 refine sv 13 (.bool true) ?_
 simp only [p3, p4]
 refine sq_nil ?_
 refine k19 _ _ ?_
 try clear k19 K19
 refine wp_seq_k (fun K20 k20 => ?_)
 refine wp_cond_true rfl ?_
 refine wp_skip ?_
 refine k20 _ _ ?_
 try clear k20 K20
 refine wp_seq_k (fun K21 k21 => ?_)
 refine wp_block ?_
 refine wp_seq_k (fun K22 k22 => ?_)
 refine rg [0, 1, 2, 3] ?_
 refine sv 14 (.int .i64 1) ?_
 simp only [p3, p4]
 refine sv 15 (.string ⟨(ratL (a2) : List UInt8).toArray⟩) ?_
 simp only [p3, p4]
 refine sv 7 (.int .i64 1) ?_
 simp only [p3, p4]
 refine sv 8 (.string ⟨(ratL (a2) : List UInt8).toArray⟩) ?_
 simp only [p3, p4]
 refine sq_nil ?_
 refine k22 _ _ ?_
 try clear k22 K22
 refine wp_seq_k (fun K23 k23 => ?_)
 refine rg [0, 1, 2, 3, 4, 5, 6, 7, 8] ?_
 refine sv 17 (.func (.func 61) #[] #[]) ?_
 simp only [p3, p4]
 refine sv 18 (.string ⟨(ratL (a2) : List UInt8).toArray⟩) ?_
 simp only [p3, p4]
 refine se ?_
 refine ec 19 (readr_q (a2) ha2 (by omega) (by omega) (by have := ratL_len ha2.1 ha2.2; omega) _ (hm.gr hB)) ?_
 rintro e24 w24 ⟨⟨cc24_0, cc24_1, cc24_2, cc24_3, rfl, h24⟩, g24⟩
 refine ⟨_, rfl, ?_⟩
 replace hB := hB.trans g24
 simp only [p3, p4]
 refine sv 16 (.tuple #[(.agg #[cc24_0, cc24_1, cc24_2, cc24_3]), (.int .i64 0)]) ?_
 simp only [p3, p4]
 refine sv 20 (.agg #[cc24_0, cc24_1, cc24_2, cc24_3]) ?_
 simp only [p3, p4]
 refine sv 21 (.int .i64 0) ?_
 simp only [p3, p4]
 refine se ?_
 refine ea 30 #[(.bool false), (.slice none 0 0), (.bool false), (.slice none 0 0)] 9 hB fun b25 w25 g25 L25 o25 q25 hB => ?_
 replace L3 := (st18.lc (st15.lc (L3.gr g14) ne3_14) ne3_5).gr g24
 have ne3_25 := L3.ne o25
 replace L5 := L5.gr g24
 have ne5_25 := L5.ne o25
 simp only [p3, p4]
 refine se ?_
 refine es 30 0 (.agg #[cc24_0, cc24_1, cc24_2, cc24_3]) [cc24_0, cc24_1, cc24_2, cc24_3] #[cc24_0, cc24_1, cc24_2, cc24_3] L25 hB q25 ⟨h24.one0, h24.one1, h24.one2, h24.one3, trivial⟩ fun w26 st26 kp26 L25 hB => ?_
 refine sv 10 (.int .i64 0) ?_
 simp only [p3, p4]
 refine sq_nil ?_
 refine k23 _ _ ?_
 try clear k23 K23
 refine wp_seq_k (fun K27 k27 => ?_)
 refine wp_seq_k (fun K28 k28 => ?_)
 refine rg [0, 1] ?_
 refine sv 22 (.int .i64 0) ?_
 simp only [p3, p4]
 refine sv 23 (.bool false) ?_
 simp only [p3, p4]
 refine sq_nil ?_
 refine k28 _ _ ?_
 try clear k28 K28
 refine wp_cond_false rfl ?_
 refine wp_skip ?_
 refine k27 _ _ ?_
 try clear k27 K27
 refine rg [0, 1, 2, 3] ?_
 refine sv 26 (.int .i64 1) ?_
 simp only [p3, p4]
 refine sw 27 (.agg #[cc24_0, cc24_1, cc24_2, cc24_3]) rfl (rl 30 0 [cc24_0, cc24_1, cc24_2, cc24_3] L25) ?_
 simp only [p3, p4]
 refine sv 28 (.pointer (some ⟨b5, 4, none⟩)) ?_
 simp only [p3, p4]
 refine se ?_
 replace L5 := st26.lc (L5.gr g25) ne5_25
 refine es 30 4 (.agg #[cc24_0, cc24_1, cc24_2, cc24_3]) [cc24_0, cc24_1, cc24_2, cc24_3] #[cc13_0, cc13_1, cc13_2, cc13_3, cc24_0, cc24_1, cc24_2, cc24_3, (.bool false), (.slice none 0 0), (.bool false), (.slice none 0 0)] L5 hB q5 ⟨h24.one0, h24.one1, h24.one2, h24.one3, trivial⟩ fun w29 st29 kp29 L5 hB => ?_
 refine sq_nil ?_
 refine k21 _ _ ?_
 try clear k21 K21
 refine rg [0, 1] ?_
 refine sv 29 (.int .i64 2) ?_
 simp only [p3, p4]
 refine sv 12 (.int .i64 2) ?_
 simp only [p3, p4]
 refine sq_nil ?_
 show Code.rounds _ _ _ _ _ _
 show Code.wp _ _ _ _ _
 refine wp_seq_k (fun K30 k30 => ?_)
 refine rg [0] ?_
 refine sv 13 (.bool true) ?_
 simp only [p3, p4]
 refine sq_nil ?_
 refine k30 _ _ ?_
 try clear k30 K30
 refine wp_seq_k (fun K31 k31 => ?_)
 refine wp_cond_true rfl ?_
 refine wp_skip ?_
 refine k31 _ _ ?_
 try clear k31 K31
 refine wp_seq_k (fun K32 k32 => ?_)
 refine wp_block ?_
 refine wp_seq_k (fun K33 k33 => ?_)
 refine rg [0, 1, 2, 3] ?_
 refine sv 14 (.int .i64 2) ?_
 simp only [p3, p4]
 refine sv 15 (.string ⟨(ratL (a3) : List UInt8).toArray⟩) ?_
 simp only [p3, p4]
 refine sv 7 (.int .i64 2) ?_
 simp only [p3, p4]
 refine sv 8 (.string ⟨(ratL (a3) : List UInt8).toArray⟩) ?_
 simp only [p3, p4]
 refine sq_nil ?_
 refine k33 _ _ ?_
 try clear k33 K33
 refine wp_seq_k (fun K34 k34 => ?_)
 refine rg [0, 1, 2, 3, 4, 5, 6, 7, 8] ?_
 refine sv 17 (.func (.func 61) #[] #[]) ?_
 simp only [p3, p4]
 refine sv 18 (.string ⟨(ratL (a3) : List UInt8).toArray⟩) ?_
 simp only [p3, p4]
 refine se ?_
 refine ec 19 (readr_q (a3) ha3 (by omega) (by omega) (by have := ratL_len ha3.1 ha3.2; omega) _ (hm.gr hB)) ?_
 rintro e35 w35 ⟨⟨cc35_0, cc35_1, cc35_2, cc35_3, rfl, h35⟩, g35⟩
 refine ⟨_, rfl, ?_⟩
 replace hB := hB.trans g35
 simp only [p3, p4]
 refine sv 16 (.tuple #[(.agg #[cc35_0, cc35_1, cc35_2, cc35_3]), (.int .i64 0)]) ?_
 simp only [p3, p4]
 refine sv 20 (.agg #[cc35_0, cc35_1, cc35_2, cc35_3]) ?_
 simp only [p3, p4]
 refine sv 21 (.int .i64 0) ?_
 simp only [p3, p4]
 refine se ?_
 refine ea 30 #[(.bool false), (.slice none 0 0), (.bool false), (.slice none 0 0)] 9 hB fun b36 w36 g36 L36 o36 q36 hB => ?_
 replace L3 := (st29.lc (st26.lc (L3.gr g25) ne3_25) ne3_5).gr g35
 have ne3_36 := L3.ne o36
 replace L5 := L5.gr g35
 have ne5_36 := L5.ne o36
 simp only [p3, p4]
 refine se ?_
 refine es 30 0 (.agg #[cc35_0, cc35_1, cc35_2, cc35_3]) [cc35_0, cc35_1, cc35_2, cc35_3] #[cc35_0, cc35_1, cc35_2, cc35_3] L36 hB q36 ⟨h35.one0, h35.one1, h35.one2, h35.one3, trivial⟩ fun w37 st37 kp37 L36 hB => ?_
 refine sv 10 (.int .i64 0) ?_
 simp only [p3, p4]
 refine sq_nil ?_
 refine k34 _ _ ?_
 try clear k34 K34
 refine wp_seq_k (fun K38 k38 => ?_)
 refine wp_seq_k (fun K39 k39 => ?_)
 refine rg [0, 1] ?_
 refine sv 22 (.int .i64 0) ?_
 simp only [p3, p4]
 refine sv 23 (.bool false) ?_
 simp only [p3, p4]
 refine sq_nil ?_
 refine k39 _ _ ?_
 try clear k39 K39
 refine wp_cond_false rfl ?_
 refine wp_skip ?_
 refine k38 _ _ ?_
 try clear k38 K38
 refine rg [0, 1, 2, 3] ?_
 refine sv 26 (.int .i64 2) ?_
 simp only [p3, p4]
 refine sw 27 (.agg #[cc35_0, cc35_1, cc35_2, cc35_3]) rfl (rl 30 0 [cc35_0, cc35_1, cc35_2, cc35_3] L36) ?_
 simp only [p3, p4]
 refine sv 28 (.pointer (some ⟨b5, 8, none⟩)) ?_
 simp only [p3, p4]
 refine se ?_
 replace L5 := st37.lc (L5.gr g36) ne5_36
 refine es 30 8 (.agg #[cc35_0, cc35_1, cc35_2, cc35_3]) [cc35_0, cc35_1, cc35_2, cc35_3] #[cc13_0, cc13_1, cc13_2, cc13_3, cc24_0, cc24_1, cc24_2, cc24_3, cc35_0, cc35_1, cc35_2, cc35_3] L5 hB q5 ⟨h35.one0, h35.one1, h35.one2, h35.one3, trivial⟩ fun w40 st40 kp40 L5 hB => ?_
 refine sq_nil ?_
 refine k32 _ _ ?_
 try clear k32 K32
 refine rg [0, 1] ?_
 refine sv 29 (.int .i64 3) ?_
 simp only [p3, p4]
 refine sv 12 (.int .i64 3) ?_
 simp only [p3, p4]
 refine sq_nil ?_
 show Code.rounds _ _ _ _ _ _
 show Code.wp _ _ _ _ _
 refine wp_seq_k (fun K41 k41 => ?_)
 refine rg [0] ?_
 refine sv 13 (.bool false) ?_
 simp only [p3, p4]
 refine sq_nil ?_
 refine k41 _ _ ?_
 try clear k41 K41
 refine wp_seq_k (fun K42 k42 => ?_)
 refine wp_cond_false rfl ?_
 refine wp_exit ?_
 simp only [Exit.then, Exit.inBlock, ↓reduceIte]
 refine k6 _ _ ?_
 try clear k6 K6
 refine wp_seq_k (fun K43 k43 => ?_)
 refine rg [0, 1, 2] ?_
 refine sw 30 (.agg #[cc13_0, cc13_1, cc13_2, cc13_3, cc24_0, cc24_1, cc24_2, cc24_3, cc35_0, cc35_1, cc35_2, cc35_3]) rfl (rl 32 0 [cc13_0, cc13_1, cc13_2, cc13_3, cc24_0, cc24_1, cc24_2, cc24_3, cc35_0, cc35_1, cc35_2, cc35_3] L5) ?_
 simp only [p3, p4]
 refine se ?_
 replace L3 := st40.lc (st37.lc (L3.gr g36) ne3_36) ne3_5
 refine es 32 0 (.agg #[cc13_0, cc13_1, cc13_2, cc13_3, cc24_0, cc24_1, cc24_2, cc24_3, cc35_0, cc35_1, cc35_2, cc35_3]) [cc13_0, cc13_1, cc13_2, cc13_3, cc24_0, cc24_1, cc24_2, cc24_3, cc35_0, cc35_1, cc35_2, cc35_3] #[cc13_0, cc13_1, cc13_2, cc13_3, cc24_0, cc24_1, cc24_2, cc24_3, cc35_0, cc35_1, cc35_2, cc35_3] L3 hB q3 ⟨h13.one0, h13.one1, h13.one2, h13.one3, h24.one0, h24.one1, h24.one2, h24.one3, h35.one0, h35.one1, h35.one2, h35.one3, trivial⟩ fun w44 st44 kp44 L3 hB => ?_
 refine sv 5 (.int .i64 0) ?_
 simp only [p3, p4]
 refine sq_nil ?_
 refine k43 _ _ ?_
 try clear k43 K43
 refine wp_ret ?_
 refine bodyPost_ret (v := (.tuple #[(.agg #[cc13_0, cc13_1, cc13_2, cc13_3, cc24_0, cc24_1, cc24_2, cc24_3, cc35_0, cc35_1, cc35_2, cc35_3]), (.int .i64 0)])) (ret_cell_tmp' _ _ _ rfl rfl L3 (by kernel_rfl) rfl) rfl ⟨?_, hB⟩
 have kq45 := g14.kp.trans (kp15.trans (kp18.trans (g24.kp.trans (g25.kp.trans (kp26.trans (kp29.trans (g35.kp.trans (g36.kp.trans (kp37.trans (kp40.trans kp44))))))))))
 replace h13 := h13.kp kq45
 have kq46 := g25.kp.trans (kp26.trans (kp29.trans (g35.kp.trans (g36.kp.trans (kp37.trans (kp40.trans kp44))))))
 replace h24 := h24.kp kq46
 have kq47 := g36.kp.trans (kp37.trans (kp40.trans kp44))
 replace h35 := h35.kp kq47
 exact ⟨_, _, _, _, _, _, _, _, _, _, _, _, rfl, h13, h24, h35⟩

set_option maxRecDepth 100000 in
set_option maxHeartbeats 1000000 in
theorem vreadr_v {k : Nat} (a1 : Rat) (a2 : Rat) (a3 : Rat) (ha1 : RS k a1) (ha2 : RS k a2) (ha3 : RS k a3) (_hk : k ≤ 20000) (_h64 : 64 ≤ k) (w : World) (hm : Mx w) :
    Calls Tryz.prog 14 #[(.agg #[(.string ⟨(ratL (a1) : List UInt8).toArray⟩), (.string ⟨(ratL (a2) : List UInt8).toArray⟩), (.string ⟨(ratL (a3) : List UInt8).toArray⟩)])] w fun e w' => (∃ t0 t1 t2 t3 t4 t5 t6 t7 t8 t9 t10 t11, e = .returned (.tuple #[.agg #[t0, t1, t2, t3, t4, t5, t6, t7, t8, t9, t10, t11], .int .i64 0]) ∧ IsRat w' k t0 t1 t2 t3 (a1) ∧ IsRat w' k t4 t5 t6 t7 (a2) ∧ IsRat w' k t8 t9 t10 t11 (a3)) ∧ Gr w w' := by
 go_enter Tryz.func14, Tryz.ntmps14
 have hB := Gr.refl w
 refine wp_seq_k (fun K1 k1 => ?_)
 refine rg [0, 1, 2] ?_
 refine se ?_
 refine eb 24 #[(.string ⟨(ratL (a1) : List UInt8).toArray⟩), (.string ⟨(ratL (a2) : List UInt8).toArray⟩), (.string ⟨(ratL (a3) : List UInt8).toArray⟩)] 1 hB fun b2 w2 g2 L2 o2 q2 hB => ?_
 simp only [p3, p4]
 refine se ?_
 refine ea 32 #[(.bool false), (.slice none 0 0), (.bool false), (.slice none 0 0), (.bool false), (.slice none 0 0), (.bool false), (.slice none 0 0), (.bool false), (.slice none 0 0), (.bool false), (.slice none 0 0)] 2 hB fun b3 w3 g3 L3 o3 q3 hB => ?_
 simp only [p3, p4]
 refine sv 3 (.int .i64 0) ?_
 simp only [p3, p4]
 refine sq_nil ?_
 refine k1 _ _ ?_
 try clear k1 K1
 refine wp_seq_k (fun K4 k4 => ?_)
 refine rg [0, 1, 2, 3, 4, 5] ?_
 replace L2 := L2.gr g3
 refine sw 4 (.agg #[(.string ⟨(ratL (a1) : List UInt8).toArray⟩), (.string ⟨(ratL (a2) : List UInt8).toArray⟩), (.string ⟨(ratL (a3) : List UInt8).toArray⟩)]) rfl (rl 24 0 [(.string ⟨(ratL (a1) : List UInt8).toArray⟩), (.string ⟨(ratL (a2) : List UInt8).toArray⟩), (.string ⟨(ratL (a3) : List UInt8).toArray⟩)] L2) ?_
 simp only [p3, p4]
 refine se ?_
 refine ec 5 (vreadr0 (a1) (a2) (a3) ha1 ha2 ha3 (by omega) (by omega) _ (hm.gr hB)) ?_
 rintro e5 w5 ⟨⟨t5_0, t5_1, t5_2, t5_3, t5_4, t5_5, t5_6, t5_7, t5_8, t5_9, t5_10, t5_11, rfl, h5a, h5b, h5c⟩, g5⟩
 refine ⟨_, rfl, ?_⟩
 replace hB := hB.trans g5
 simp only [p3, p4]
 refine sv 6 (.agg #[t5_0, t5_1, t5_2, t5_3, t5_4, t5_5, t5_6, t5_7, t5_8, t5_9, t5_10, t5_11]) ?_
 simp only [p3, p4]
 refine sv 7 (.int .i64 0) ?_
 simp only [p3, p4]
 refine se ?_
 replace L3 := L3.gr g5
 refine es 32 0 (.agg #[t5_0, t5_1, t5_2, t5_3, t5_4, t5_5, t5_6, t5_7, t5_8, t5_9, t5_10, t5_11]) [t5_0, t5_1, t5_2, t5_3, t5_4, t5_5, t5_6, t5_7, t5_8, t5_9, t5_10, t5_11] #[t5_0, t5_1, t5_2, t5_3, t5_4, t5_5, t5_6, t5_7, t5_8, t5_9, t5_10, t5_11] L3 hB q3 ⟨h5a.one0, h5a.one1, h5a.one2, h5a.one3, h5b.one0, h5b.one1, h5b.one2, h5b.one3, h5c.one0, h5c.one1, h5c.one2, h5c.one3, trivial⟩ fun w6 st6 kp6 L3 hB => ?_
 refine sv 3 (.int .i64 0) ?_
 simp only [p3, p4]
 refine sq_nil ?_
 refine k4 _ _ ?_
 try clear k4 K4
 refine wp_ret ?_
 refine bodyPost_ret (v := (.tuple #[(.agg #[t5_0, t5_1, t5_2, t5_3, t5_4, t5_5, t5_6, t5_7, t5_8, t5_9, t5_10, t5_11]), (.int .i64 0)])) (ret_cell_tmp' _ _ _ rfl rfl L3 (by kernel_rfl) rfl) rfl ⟨?_, hB⟩
 replace h5a := h5a.kp kp6
 replace h5b := h5b.kp kp6
 replace h5c := h5c.kp kp6
 exact ⟨_, _, _, _, _, _, _, _, _, _, _, _, rfl, h5a, h5b, h5c⟩

set_option maxRecDepth 100000 in
set_option maxHeartbeats 4000000 in
theorem vparse0 {k : Nat} (a1 : Rat) (a2 : Rat) (a3 : Rat) (ha1 : RS k a1) (ha2 : RS k a2) (ha3 : RS k a3) (_hk : k ≤ 20000) (_h64 : 64 ≤ k) (l1 : ((ratL a1).length : Int) ≤ 400) (l2 : ((ratL a2).length : Int) ≤ 400) (l3 : ((ratL a3).length : Int) ≤ 400) (w : World) (hm : Mx w) :
    Calls Tryz.prog 59 #[(.agg #[(.string ⟨(ratL (a1) : List UInt8).toArray⟩), (.string ⟨(ratL (a2) : List UInt8).toArray⟩), (.string ⟨(ratL (a3) : List UInt8).toArray⟩)]), (.func (.func 60) #[] #[])] w fun e w' => (∃ t0 t1 t2 t3 t4 t5 t6 t7 t8 t9 t10 t11, e = .returned (.tuple #[.agg #[t0, t1, t2, t3, t4, t5, t6, t7, t8, t9, t10, t11], .int .i64 0]) ∧ IsRat w' k t0 t1 t2 t3 (a1) ∧ IsRat w' k t4 t5 t6 t7 (a2) ∧ IsRat w' k t8 t9 t10 t11 (a3)) ∧ Gr w w' := by
 go_enter Tryz.func59, Tryz.ntmps59
 have hB := Gr.refl w
 refine wp_seq_k (fun K1 k1 => ?_)
 refine rg [0, 1, 2] ?_
 refine se ?_
 refine eb 24 #[(.string ⟨(ratL (a1) : List UInt8).toArray⟩), (.string ⟨(ratL (a2) : List UInt8).toArray⟩), (.string ⟨(ratL (a3) : List UInt8).toArray⟩)] 2 hB fun b2 w2 g2 L2 o2 q2 hB => ?_
 simp only [p3, p4]
 refine se ?_
 refine ea 32 #[(.bool false), (.slice none 0 0), (.bool false), (.slice none 0 0), (.bool false), (.slice none 0 0), (.bool false), (.slice none 0 0), (.bool false), (.slice none 0 0), (.bool false), (.slice none 0 0)] 4 hB fun b3 w3 g3 L3 o3 q3 hB => ?_
 simp only [p3, p4]
 refine sv 5 (.int .i64 0) ?_
 simp only [p3, p4]
 refine sq_nil ?_
 refine k1 _ _ ?_
 try clear k1 K1
 refine wp_seq_k (fun K4 k4 => ?_)
 refine rg [0] ?_
 refine se ?_
 refine ea 32 #[(.bool false), (.slice none 0 0), (.bool false), (.slice none 0 0), (.bool false), (.slice none 0 0), (.bool false), (.slice none 0 0), (.bool false), (.slice none 0 0), (.bool false), (.slice none 0 0)] 6 hB fun b5 w5 g5 L5 o5 q5 hB => ?_
 replace L2 := L2.gr g3
 have ne3_5 := L3.ne o5
 simp only [p3, p4]
 refine sq_nil ?_
 refine k4 _ _ ?_
 try clear k4 K4
 refine wp_seq_k (fun K6 k6 => ?_)
 refine wp_seq_k (fun K7 k7 => ?_)
 refine rg [0, 1] ?_
 replace L2 := L2.gr g5
 refine sw 11 (.agg #[(.string ⟨(ratL (a1) : List UInt8).toArray⟩), (.string ⟨(ratL (a2) : List UInt8).toArray⟩), (.string ⟨(ratL (a3) : List UInt8).toArray⟩)]) rfl (rl 24 0 [(.string ⟨(ratL (a1) : List UInt8).toArray⟩), (.string ⟨(ratL (a2) : List UInt8).toArray⟩), (.string ⟨(ratL (a3) : List UInt8).toArray⟩)] L2) ?_
 simp only [p3, p4]
 refine sv 12 (.int .i64 0) ?_
 simp only [p3, p4]
 refine sq_nil ?_
 refine k7 _ _ ?_
 try clear k7 K7
 refine wp_block ?_
 refine wp_loop_rounds 4 ?_
 show Code.wp _ _ _ _ _
 refine wp_seq_k (fun K8 k8 => ?_)
 refine rg [0] ?_
 refine sv 13 (.bool true) ?_
 simp only [p3, p4]
 refine sq_nil ?_
 refine k8 _ _ ?_
 try clear k8 K8
 refine wp_seq_k (fun K9 k9 => ?_)
 refine wp_cond_true rfl ?_
 refine wp_skip ?_
 refine k9 _ _ ?_
 try clear k9 K9
 refine wp_seq_k (fun K10 k10 => ?_)
 refine wp_block ?_
 refine wp_seq_k (fun K11 k11 => ?_)
 refine rg [0, 1, 2, 3] ?_
 refine sv 14 (.int .i64 0) ?_
 simp only [p3, p4]
 refine sv 15 (.string ⟨(ratL (a1) : List UInt8).toArray⟩) ?_
 simp only [p3, p4]
 refine sv 7 (.int .i64 0) ?_
 simp only [p3, p4]
 refine sv 8 (.string ⟨(ratL (a1) : List UInt8).toArray⟩) ?_
 simp only [p3, p4]
 refine sq_nil ?_
 refine k11 _ _ ?_
 try clear k11 K11
 refine wp_seq_k (fun K12 k12 => ?_)
 refine rg [0, 1, 2, 3, 4, 5, 6, 7, 8] ?_
 refine sv 17 (.func (.func 60) #[] #[]) ?_
 simp only [p3, p4]
 refine sv 18 (.string ⟨(ratL (a1) : List UInt8).toArray⟩) ?_
 simp only [p3, p4]
 refine se ?_
 refine ec 19 (parse_q (a1) ha1 (by omega) (by omega) l1 _ (hm.gr hB)) ?_
 rintro e13 w13 ⟨⟨cc13_0, cc13_1, cc13_2, cc13_3, rfl, h13⟩, g13⟩
 refine ⟨_, rfl, ?_⟩
 replace hB := hB.trans g13
 simp only [p3, p4]
 refine sv 16 (.tuple #[(.agg #[cc13_0, cc13_1, cc13_2, cc13_3]), (.int .i64 0)]) ?_
 simp only [p3, p4]
 refine sv 20 (.agg #[cc13_0, cc13_1, cc13_2, cc13_3]) ?_
 simp only [p3, p4]
 refine sv 21 (.int .i64 0) ?_
 simp only [p3, p4]
 refine se ?_
 refine ea 30 #[(.bool false), (.slice none 0 0), (.bool false), (.slice none 0 0)] 9 hB fun b14 w14 g14 L14 o14 q14 hB => ?_
 replace L3 := L3.gr (g5.trans g13)
 have ne3_14 := L3.ne o14
 replace L5 := L5.gr g13
 have ne5_14 := L5.ne o14
 simp only [p3, p4]
 refine se ?_
 refine es 30 0 (.agg #[cc13_0, cc13_1, cc13_2, cc13_3]) [cc13_0, cc13_1, cc13_2, cc13_3] #[cc13_0, cc13_1, cc13_2, cc13_3] L14 hB q14 ⟨h13.one0, h13.one1, h13.one2, h13.one3, trivial⟩ fun w15 st15 kp15 L14 hB => ?_
 refine sv 10 (.int .i64 0) ?_
 simp only [p3, p4]
 refine sq_nil ?_
 refine k12 _ _ ?_
 try clear k12 K12
 refine wp_seq_k (fun K16 k16 => ?_)
 refine wp_seq_k (fun K17 k17 => ?_)
 refine rg [0, 1] ?_
 refine sv 22 (.int .i64 0) ?_
 simp only [p3, p4]
 refine sv 23 (.bool false) ?_
 simp only [p3, p4]
 refine sq_nil ?_
 refine k17 _ _ ?_
 try clear k17 K17
 refine wp_cond_false rfl ?_
 refine wp_skip ?_
 refine k16 _ _ ?_
 try clear k16 K16
 refine rg [0, 1, 2, 3] ?_
 refine sv 26 (.int .i64 0) ?_
 simp only [p3, p4]
 refine sw 27 (.agg #[cc13_0, cc13_1, cc13_2, cc13_3]) rfl (rl 30 0 [cc13_0, cc13_1, cc13_2, cc13_3] L14) ?_
 simp only [p3, p4]
 refine sv 28 (.pointer (some ⟨b5, 0, none⟩)) ?_
 simp only [p3, p4]
 refine se ?_
 replace L5 := st15.lc (L5.gr g14) ne5_14
 refine es 30 0 (.agg #[cc13_0, cc13_1, cc13_2, cc13_3]) [cc13_0, cc13_1, cc13_2, cc13_3] #[cc13_0, cc13_1, cc13_2, cc13_3, (.bool false), (.slice none 0 0), (.bool false), (.slice none 0 0), (.bool false), (.slice none 0 0), (.bool false), (.slice none 0 0)] L5 hB q5 ⟨h13.one0, h13.one1, h13.one2, h13.one3, trivial⟩ fun w18 st18 kp18 L5 hB => ?_
 refine sq_nil ?_
 refine k10 _ _ ?_
 try clear k10 K10
 refine rg [0, 1] ?_
 refine sv 29 (.int .i64 1) ?_
 simp only [p3, p4]
 refine sv 12 (.int .i64 1) ?_
 simp only [p3, p4]
 refine sq_nil ?_
 show Code.rounds _ _ _ _ _ _
 show Code.wp _ _ _ _ _
 refine wp_seq_k (fun K19 k19 => ?_)
 refine rg [0] ?_
 refine sv 13 (.bool true) ?_
 simp only [p3, p4]
 refine sq_nil ?_
 refine k19 _ _ ?_
 try clear k19 K19
 refine wp_seq_k (fun K20 k20 => ?_)
 refine wp_cond_true rfl ?_
 refine wp_skip ?_
 refine k20 _ _ ?_
 try clear k20 K20
 refine wp_seq_k (fun K21 k21 => ?_)
 refine wp_block ?_
 refine wp_seq_k (fun K22 k22 => ?_)
 refine rg [0, 1, 2, 3] ?_
 refine sv 14 (.int .i64 1) ?_
 simp only [p3, p4]
 refine sv 15 (.string ⟨(ratL (a2) : List UInt8).toArray⟩) ?_
 simp only [p3, p4]
 refine sv 7 (.int .i64 1) ?_
 simp only [p3, p4]
 refine sv 8 (.string ⟨(ratL (a2) : List UInt8).toArray⟩) ?_
 simp only [p3, p4]
 refine sq_nil ?_
 refine k22 _ _ ?_
 try clear k22 K22
 refine wp_seq_k (fun K23 k23 => ?_)
 refine rg [0, 1, 2, 3, 4, 5, 6, 7, 8] ?_
 refine sv 17 (.func (.func 60) #[] #[]) ?_
 simp only [p3, p4]
 refine sv 18 (.string ⟨(ratL (a2) : List UInt8).toArray⟩) ?_
 simp only [p3, p4]
 refine se ?_
 refine ec 19 (parse_q (a2) ha2 (by omega) (by omega) l2 _ (hm.gr hB)) ?_
 rintro e24 w24 ⟨⟨cc24_0, cc24_1, cc24_2, cc24_3, rfl, h24⟩, g24⟩
 refine ⟨_, rfl, ?_⟩
 replace hB := hB.trans g24
 simp only [p3, p4]
 refine sv 16 (.tuple #[(.agg #[cc24_0, cc24_1, cc24_2, cc24_3]), (.int .i64 0)]) ?_
 simp only [p3, p4]
 refine sv 20 (.agg #[cc24_0, cc24_1, cc24_2, cc24_3]) ?_
 simp only [p3, p4]
 refine sv 21 (.int .i64 0) ?_
 simp only [p3, p4]
 refine se ?_
 refine ea 30 #[(.bool false), (.slice none 0 0), (.bool false), (.slice none 0 0)] 9 hB fun b25 w25 g25 L25 o25 q25 hB => ?_
 replace L3 := (st18.lc (st15.lc (L3.gr g14) ne3_14) ne3_5).gr g24
 have ne3_25 := L3.ne o25
 replace L5 := L5.gr g24
 have ne5_25 := L5.ne o25
 simp only [p3, p4]
 refine se ?_
 refine es 30 0 (.agg #[cc24_0, cc24_1, cc24_2, cc24_3]) [cc24_0, cc24_1, cc24_2, cc24_3] #[cc24_0, cc24_1, cc24_2, cc24_3] L25 hB q25 ⟨h24.one0, h24.one1, h24.one2, h24.one3, trivial⟩ fun w26 st26 kp26 L25 hB => ?_
 refine sv 10 (.int .i64 0) ?_
 simp only [p3, p4]
 refine sq_nil ?_
 refine k23 _ _ ?_
 try clear k23 K23
 refine wp_seq_k (fun K27 k27 => ?_)
 refine wp_seq_k (fun K28 k28 => ?_)
 refine rg [0, 1] ?_
 refine sv 22 (.int .i64 0) ?_
 simp only [p3, p4]
 refine sv 23 (.bool false) ?_
 simp only [p3, p4]
 refine sq_nil ?_
 refine k28 _ _ ?_
 try clear k28 K28
 refine wp_cond_false rfl ?_
 refine wp_skip ?_
 refine k27 _ _ ?_
 try clear k27 K27
 refine rg [0, 1, 2, 3] ?_
 refine sv 26 (.int .i64 1) ?_
 simp only [p3, p4]
 refine sw 27 (.agg #[cc24_0, cc24_1, cc24_2, cc24_3]) rfl (rl 30 0 [cc24_0, cc24_1, cc24_2, cc24_3] L25) ?_
 simp only [p3, p4]
 refine sv 28 (.pointer (some ⟨b5, 4, none⟩)) ?_
 simp only [p3, p4]
 refine se ?_
 replace L5 := st26.lc (L5.gr g25) ne5_25
 refine es 30 4 (.agg #[cc24_0, cc24_1, cc24_2, cc24_3]) [cc24_0, cc24_1, cc24_2, cc24_3] #[cc13_0, cc13_1, cc13_2, cc13_3, cc24_0, cc24_1, cc24_2, cc24_3, (.bool false), (.slice none 0 0), (.bool false), (.slice none 0 0)] L5 hB q5 ⟨h24.one0, h24.one1, h24.one2, h24.one3, trivial⟩ fun w29 st29 kp29 L5 hB => ?_
 refine sq_nil ?_
 refine k21 _ _ ?_
 try clear k21 K21
 refine rg [0, 1] ?_
 refine sv 29 (.int .i64 2) ?_
 simp only [p3, p4]
 refine sv 12 (.int .i64 2) ?_
 simp only [p3, p4]
 refine sq_nil ?_
 show Code.rounds _ _ _ _ _ _
 show Code.wp _ _ _ _ _
 refine wp_seq_k (fun K30 k30 => ?_)
 refine rg [0] ?_
 refine sv 13 (.bool true) ?_
 simp only [p3, p4]
 refine sq_nil ?_
 refine k30 _ _ ?_
 try clear k30 K30
 refine wp_seq_k (fun K31 k31 => ?_)
 refine wp_cond_true rfl ?_
 refine wp_skip ?_
 refine k31 _ _ ?_
 try clear k31 K31
 refine wp_seq_k (fun K32 k32 => ?_)
 refine wp_block ?_
 refine wp_seq_k (fun K33 k33 => ?_)
 refine rg [0, 1, 2, 3] ?_
 refine sv 14 (.int .i64 2) ?_
 simp only [p3, p4]
 refine sv 15 (.string ⟨(ratL (a3) : List UInt8).toArray⟩) ?_
 simp only [p3, p4]
 refine sv 7 (.int .i64 2) ?_
 simp only [p3, p4]
 refine sv 8 (.string ⟨(ratL (a3) : List UInt8).toArray⟩) ?_
 simp only [p3, p4]
 refine sq_nil ?_
 refine k33 _ _ ?_
 try clear k33 K33
 refine wp_seq_k (fun K34 k34 => ?_)
 refine rg [0, 1, 2, 3, 4, 5, 6, 7, 8] ?_
 refine sv 17 (.func (.func 60) #[] #[]) ?_
 simp only [p3, p4]
 refine sv 18 (.string ⟨(ratL (a3) : List UInt8).toArray⟩) ?_
 simp only [p3, p4]
 refine se ?_
 refine ec 19 (parse_q (a3) ha3 (by omega) (by omega) l3 _ (hm.gr hB)) ?_
 rintro e35 w35 ⟨⟨cc35_0, cc35_1, cc35_2, cc35_3, rfl, h35⟩, g35⟩
 refine ⟨_, rfl, ?_⟩
 replace hB := hB.trans g35
 simp only [p3, p4]
 refine sv 16 (.tuple #[(.agg #[cc35_0, cc35_1, cc35_2, cc35_3]), (.int .i64 0)]) ?_
 simp only [p3, p4]
 refine sv 20 (.agg #[cc35_0, cc35_1, cc35_2, cc35_3]) ?_
 simp only [p3, p4]
 refine sv 21 (.int .i64 0) ?_
 simp only [p3, p4]
 refine se ?_
 refine ea 30 #[(.bool false), (.slice none 0 0), (.bool false), (.slice none 0 0)] 9 hB fun b36 w36 g36 L36 o36 q36 hB => ?_
 replace L3 := (st29.lc (st26.lc (L3.gr g25) ne3_25) ne3_5).gr g35
 have ne3_36 := L3.ne o36
 replace L5 := L5.gr g35
 have ne5_36 := L5.ne o36
 simp only [p3, p4]
 refine se ?_
 refine es 30 0 (.agg #[cc35_0, cc35_1, cc35_2, cc35_3]) [cc35_0, cc35_1, cc35_2, cc35_3] #[cc35_0, cc35_1, cc35_2, cc35_3] L36 hB q36 ⟨h35.one0, h35.one1, h35.one2, h35.one3, trivial⟩ fun w37 st37 kp37 L36 hB => ?_
 refine sv 10 (.int .i64 0) ?_
 simp only [p3, p4]
 refine sq_nil ?_
 refine k34 _ _ ?_
 try clear k34 K34
 refine wp_seq_k (fun K38 k38 => ?_)
 refine wp_seq_k (fun K39 k39 => ?_)
 refine rg [0, 1] ?_
 refine sv 22 (.int .i64 0) ?_
 simp only [p3, p4]
 refine sv 23 (.bool false) ?_
 simp only [p3, p4]
 refine sq_nil ?_
 refine k39 _ _ ?_
 try clear k39 K39
 refine wp_cond_false rfl ?_
 refine wp_skip ?_
 refine k38 _ _ ?_
 try clear k38 K38
 refine rg [0, 1, 2, 3] ?_
 refine sv 26 (.int .i64 2) ?_
 simp only [p3, p4]
 refine sw 27 (.agg #[cc35_0, cc35_1, cc35_2, cc35_3]) rfl (rl 30 0 [cc35_0, cc35_1, cc35_2, cc35_3] L36) ?_
 simp only [p3, p4]
 refine sv 28 (.pointer (some ⟨b5, 8, none⟩)) ?_
 simp only [p3, p4]
 refine se ?_
 replace L5 := st37.lc (L5.gr g36) ne5_36
 refine es 30 8 (.agg #[cc35_0, cc35_1, cc35_2, cc35_3]) [cc35_0, cc35_1, cc35_2, cc35_3] #[cc13_0, cc13_1, cc13_2, cc13_3, cc24_0, cc24_1, cc24_2, cc24_3, cc35_0, cc35_1, cc35_2, cc35_3] L5 hB q5 ⟨h35.one0, h35.one1, h35.one2, h35.one3, trivial⟩ fun w40 st40 kp40 L5 hB => ?_
 refine sq_nil ?_
 refine k32 _ _ ?_
 try clear k32 K32
 refine rg [0, 1] ?_
 refine sv 29 (.int .i64 3) ?_
 simp only [p3, p4]
 refine sv 12 (.int .i64 3) ?_
 simp only [p3, p4]
 refine sq_nil ?_
 show Code.rounds _ _ _ _ _ _
 show Code.wp _ _ _ _ _
 refine wp_seq_k (fun K41 k41 => ?_)
 refine rg [0] ?_
 refine sv 13 (.bool false) ?_
 simp only [p3, p4]
 refine sq_nil ?_
 refine k41 _ _ ?_
 try clear k41 K41
 refine wp_seq_k (fun K42 k42 => ?_)
 refine wp_cond_false rfl ?_
 refine wp_exit ?_
 simp only [Exit.then, Exit.inBlock, ↓reduceIte]
 refine k6 _ _ ?_
 try clear k6 K6
 refine wp_seq_k (fun K43 k43 => ?_)
 refine rg [0, 1, 2] ?_
 refine sw 30 (.agg #[cc13_0, cc13_1, cc13_2, cc13_3, cc24_0, cc24_1, cc24_2, cc24_3, cc35_0, cc35_1, cc35_2, cc35_3]) rfl (rl 32 0 [cc13_0, cc13_1, cc13_2, cc13_3, cc24_0, cc24_1, cc24_2, cc24_3, cc35_0, cc35_1, cc35_2, cc35_3] L5) ?_
 simp only [p3, p4]
 refine se ?_
 replace L3 := st40.lc (st37.lc (L3.gr g36) ne3_36) ne3_5
 refine es 32 0 (.agg #[cc13_0, cc13_1, cc13_2, cc13_3, cc24_0, cc24_1, cc24_2, cc24_3, cc35_0, cc35_1, cc35_2, cc35_3]) [cc13_0, cc13_1, cc13_2, cc13_3, cc24_0, cc24_1, cc24_2, cc24_3, cc35_0, cc35_1, cc35_2, cc35_3] #[cc13_0, cc13_1, cc13_2, cc13_3, cc24_0, cc24_1, cc24_2, cc24_3, cc35_0, cc35_1, cc35_2, cc35_3] L3 hB q3 ⟨h13.one0, h13.one1, h13.one2, h13.one3, h24.one0, h24.one1, h24.one2, h24.one3, h35.one0, h35.one1, h35.one2, h35.one3, trivial⟩ fun w44 st44 kp44 L3 hB => ?_
 refine sv 5 (.int .i64 0) ?_
 simp only [p3, p4]
 refine sq_nil ?_
 refine k43 _ _ ?_
 try clear k43 K43
 refine wp_ret ?_
 refine bodyPost_ret (v := (.tuple #[(.agg #[cc13_0, cc13_1, cc13_2, cc13_3, cc24_0, cc24_1, cc24_2, cc24_3, cc35_0, cc35_1, cc35_2, cc35_3]), (.int .i64 0)])) (ret_cell_tmp' _ _ _ rfl rfl L3 (by kernel_rfl) rfl) rfl ⟨?_, hB⟩
 have kq45 := g14.kp.trans (kp15.trans (kp18.trans (g24.kp.trans (g25.kp.trans (kp26.trans (kp29.trans (g35.kp.trans (g36.kp.trans (kp37.trans (kp40.trans kp44))))))))))
 replace h13 := h13.kp kq45
 have kq46 := g25.kp.trans (kp26.trans (kp29.trans (g35.kp.trans (g36.kp.trans (kp37.trans (kp40.trans kp44))))))
 replace h24 := h24.kp kq46
 have kq47 := g36.kp.trans (kp37.trans (kp40.trans kp44))
 replace h35 := h35.kp kq47
 exact ⟨_, _, _, _, _, _, _, _, _, _, _, _, rfl, h13, h24, h35⟩

set_option maxRecDepth 100000 in
set_option maxHeartbeats 1000000 in
theorem vparse_v {k : Nat} (a1 : Rat) (a2 : Rat) (a3 : Rat) (ha1 : RS k a1) (ha2 : RS k a2) (ha3 : RS k a3) (_hk : k ≤ 20000) (_h64 : 64 ≤ k) (l1 : ((ratL a1).length : Int) ≤ 400) (l2 : ((ratL a2).length : Int) ≤ 400) (l3 : ((ratL a3).length : Int) ≤ 400) (w : World) (hm : Mx w) :
    Calls Tryz.prog 13 #[(.agg #[(.string ⟨(ratL (a1) : List UInt8).toArray⟩), (.string ⟨(ratL (a2) : List UInt8).toArray⟩), (.string ⟨(ratL (a3) : List UInt8).toArray⟩)])] w fun e w' => (∃ t0 t1 t2 t3 t4 t5 t6 t7 t8 t9 t10 t11, e = .returned (.tuple #[.agg #[t0, t1, t2, t3, t4, t5, t6, t7, t8, t9, t10, t11], .int .i64 0]) ∧ IsRat w' k t0 t1 t2 t3 (a1) ∧ IsRat w' k t4 t5 t6 t7 (a2) ∧ IsRat w' k t8 t9 t10 t11 (a3)) ∧ Gr w w' := by
 go_enter Tryz.func13, Tryz.ntmps13
 have hB := Gr.refl w
 refine wp_seq_k (fun K1 k1 => ?_)
 refine rg [0, 1, 2] ?_
 refine se ?_
 refine eb 24 #[(.string ⟨(ratL (a1) : List UInt8).toArray⟩), (.string ⟨(ratL (a2) : List UInt8).toArray⟩), (.string ⟨(ratL (a3) : List UInt8).toArray⟩)] 1 hB fun b2 w2 g2 L2 o2 q2 hB => ?_
 simp only [p3, p4]
 refine se ?_
 refine ea 32 #[(.bool false), (.slice none 0 0), (.bool false), (.slice none 0 0), (.bool false), (.slice none 0 0), (.bool false), (.slice none 0 0), (.bool false), (.slice none 0 0), (.bool false), (.slice none 0 0)] 2 hB fun b3 w3 g3 L3 o3 q3 hB => ?_
 simp only [p3, p4]
 refine sv 3 (.int .i64 0) ?_
 simp only [p3, p4]
 refine sq_nil ?_
 refine k1 _ _ ?_
 try clear k1 K1
 refine wp_seq_k (fun K4 k4 => ?_)
 refine rg [0, 1, 2, 3, 4, 5] ?_
 replace L2 := L2.gr g3
 refine sw 4 (.agg #[(.string ⟨(ratL (a1) : List UInt8).toArray⟩), (.string ⟨(ratL (a2) : List UInt8).toArray⟩), (.string ⟨(ratL (a3) : List UInt8).toArray⟩)]) rfl (rl 24 0 [(.string ⟨(ratL (a1) : List UInt8).toArray⟩), (.string ⟨(ratL (a2) : List UInt8).toArray⟩), (.string ⟨(ratL (a3) : List UInt8).toArray⟩)] L2) ?_
 simp only [p3, p4]
 refine se ?_
 refine ec 5 (vparse0 (a1) (a2) (a3) ha1 ha2 ha3 (by omega) (by omega) l1 l2 l3 _ (hm.gr hB)) ?_
 rintro e5 w5 ⟨⟨t5_0, t5_1, t5_2, t5_3, t5_4, t5_5, t5_6, t5_7, t5_8, t5_9, t5_10, t5_11, rfl, h5a, h5b, h5c⟩, g5⟩
 refine ⟨_, rfl, ?_⟩
 replace hB := hB.trans g5
 simp only [p3, p4]
 refine sv 6 (.agg #[t5_0, t5_1, t5_2, t5_3, t5_4, t5_5, t5_6, t5_7, t5_8, t5_9, t5_10, t5_11]) ?_
 simp only [p3, p4]
 refine sv 7 (.int .i64 0) ?_
 simp only [p3, p4]
 refine se ?_
 replace L3 := L3.gr g5
 refine es 32 0 (.agg #[t5_0, t5_1, t5_2, t5_3, t5_4, t5_5, t5_6, t5_7, t5_8, t5_9, t5_10, t5_11]) [t5_0, t5_1, t5_2, t5_3, t5_4, t5_5, t5_6, t5_7, t5_8, t5_9, t5_10, t5_11] #[t5_0, t5_1, t5_2, t5_3, t5_4, t5_5, t5_6, t5_7, t5_8, t5_9, t5_10, t5_11] L3 hB q3 ⟨h5a.one0, h5a.one1, h5a.one2, h5a.one3, h5b.one0, h5b.one1, h5b.one2, h5b.one3, h5c.one0, h5c.one1, h5c.one2, h5c.one3, trivial⟩ fun w6 st6 kp6 L3 hB => ?_
 refine sv 3 (.int .i64 0) ?_
 simp only [p3, p4]
 refine sq_nil ?_
 refine k4 _ _ ?_
 try clear k4 K4
 refine wp_ret ?_
 refine bodyPost_ret (v := (.tuple #[(.agg #[t5_0, t5_1, t5_2, t5_3, t5_4, t5_5, t5_6, t5_7, t5_8, t5_9, t5_10, t5_11]), (.int .i64 0)])) (ret_cell_tmp' _ _ _ rfl rfl L3 (by kernel_rfl) rfl) rfl ⟨?_, hB⟩
 replace h5a := h5a.kp kp6
 replace h5b := h5b.kp kp6
 replace h5c := h5c.kp kp6
 exact ⟨_, _, _, _, _, _, _, _, _, _, _, _, rfl, h5a, h5b, h5c⟩

set_option maxRecDepth 100000 in
set_option maxHeartbeats 1000000 in
theorem made_v (ia1 ia2 ia3 da : Int) (ja1 : -128 ≤ ia1 ∧ ia1 ≤ 127) (ja2 : -128 ≤ ia2 ∧ ia2 ≤ 127) (ja3 : -128 ≤ ia3 ∧ ia3 ≤ 127) (jda : 0 ≤ da ∧ da ≤ 255) (a1 a2 a3 : Rat) (ea1 : a1 = ((ia1 : Int) : Rat) / ((1 + da % 6 : Int) : Rat)) (ea2 : a2 = ((ia2 : Int) : Rat) / ((1 + da % 6 : Int) : Rat)) (ea3 : a3 = ((ia3 : Int) : Rat) / ((1 + da % 6 : Int) : Rat)) (w : World) (hm : Mx w) :
    Calls Tryz.prog 17 #[(.agg #[(.int .i8 (ia1)), (.int .i8 (ia2)), (.int .i8 (ia3)), (.int .u8 (da))])] w fun e w' => (∃ t0 t1 t2 t3 t4 t5 t6 t7 t8 t9 t10 t11, e = .returned (.agg #[t0, t1, t2, t3, t4, t5, t6, t7, t8, t9, t10, t11]) ∧ IsRat w' 64 t0 t1 t2 t3 (a1) ∧ IsRat w' 64 t4 t5 t6 t7 (a2) ∧ IsRat w' 64 t8 t9 t10 t11 (a3)) ∧ Gr w w' := by
 have ha1 : RS 16 a1 := small_rs ja1 jda ea1
 have ha2 : RS 16 a2 := small_rs ja2 jda ea2
 have ha3 : RS 16 a3 := small_rs ja3 jda ea3
 go_enter Tryz.func17, Tryz.ntmps17
 have hB := Gr.refl w
 refine wp_seq_k (fun K1 k1 => ?_)
 refine rg [0, 1] ?_
 refine se ?_
 refine eb 42 #[(.int .i8 (ia1)), (.int .i8 (ia2)), (.int .i8 (ia3)), (.int .u8 (da))] 1 hB fun b2 w2 g2 L2 o2 q2 hB => ?_
 simp only [p3, p4]
 refine se ?_
 refine ea 32 #[(.bool false), (.slice none 0 0), (.bool false), (.slice none 0 0), (.bool false), (.slice none 0 0), (.bool false), (.slice none 0 0), (.bool false), (.slice none 0 0), (.bool false), (.slice none 0 0)] 2 hB fun b3 w3 g3 L3 o3 q3 hB => ?_
 simp only [p3, p4]
 refine sq_nil ?_
 refine k1 _ _ ?_
 try clear k1 K1
 refine wp_seq_k (fun K4 k4 => ?_)
 refine rg [0, 1, 2, 3, 4, 5, 6, 7, 8, 9] ?_
 replace L2 := L2.gr g3
 refine sw 6 (.agg #[(.int .i8 (ia1)), (.int .i8 (ia2)), (.int .i8 (ia3)), (.int .u8 (da))]) rfl (rl 42 0 [(.int .i8 (ia1)), (.int .i8 (ia2)), (.int .i8 (ia3)), (.int .u8 (da))] L2) ?_
 simp only [p3, p4]
 refine se ?_
 refine ec 7 (texts_v ia1 ia2 ia3 da ja1 ja2 ja3 jda a1 a2 a3 ea1 ea2 ea3 _) ?_
 rintro e5 w5 ⟨rfl, g5⟩
 refine ⟨_, rfl, ?_⟩
 replace hB := hB.trans g5
 simp only [p3, p4]
 refine se ?_
 refine ec 8 (r3_point (ratL (a1)) (ratL (a2)) (ratL (a3)) _) ?_
 rintro e6 w6 ⟨rfl, g6⟩
 refine ⟨_, rfl, ?_⟩
 replace hB := hB.trans g6
 simp only [p3, p4]
 refine se ?_
 refine ec 9 (vreadr_v (k := 64) (a1) (a2) (a3) (ha1.mono (by omega)) (ha2.mono (by omega)) (ha3.mono (by omega)) (by omega) (by omega) _ (hm.gr hB)) ?_
 rintro e7 w7 ⟨⟨t7_0, t7_1, t7_2, t7_3, t7_4, t7_5, t7_6, t7_7, t7_8, t7_9, t7_10, t7_11, rfl, h7a, h7b, h7c⟩, g7⟩
 refine ⟨_, rfl, ?_⟩
 replace hB := hB.trans g7
 simp only [p3, p4]
 refine sv 5 (.tuple #[(.agg #[t7_0, t7_1, t7_2, t7_3, t7_4, t7_5, t7_6, t7_7, t7_8, t7_9, t7_10, t7_11]), (.int .i64 0)]) ?_
 simp only [p3, p4]
 refine sv 10 (.agg #[t7_0, t7_1, t7_2, t7_3, t7_4, t7_5, t7_6, t7_7, t7_8, t7_9, t7_10, t7_11]) ?_
 simp only [p3, p4]
 refine sv 11 (.int .i64 0) ?_
 simp only [p3, p4]
 refine se ?_
 refine ea 32 #[(.bool false), (.slice none 0 0), (.bool false), (.slice none 0 0), (.bool false), (.slice none 0 0), (.bool false), (.slice none 0 0), (.bool false), (.slice none 0 0), (.bool false), (.slice none 0 0)] 3 hB fun b8 w8 g8 L8 o8 q8 hB => ?_
 replace L3 := L3.gr (g5.trans (g6.trans g7))
 have ne3_8 := L3.ne o8
 simp only [p3, p4]
 refine se ?_
 refine es 32 0 (.agg #[t7_0, t7_1, t7_2, t7_3, t7_4, t7_5, t7_6, t7_7, t7_8, t7_9, t7_10, t7_11]) [t7_0, t7_1, t7_2, t7_3, t7_4, t7_5, t7_6, t7_7, t7_8, t7_9, t7_10, t7_11] #[t7_0, t7_1, t7_2, t7_3, t7_4, t7_5, t7_6, t7_7, t7_8, t7_9, t7_10, t7_11] L8 hB q8 ⟨h7a.one0, h7a.one1, h7a.one2, h7a.one3, h7b.one0, h7b.one1, h7b.one2, h7b.one3, h7c.one0, h7c.one1, h7c.one2, h7c.one3, trivial⟩ fun w9 st9 kp9 L8 hB => ?_
 refine sv 4 (.int .i64 0) ?_
 simp only [p3, p4]
 refine sq_nil ?_
 refine k4 _ _ ?_
 try clear k4 K4
 refine wp_seq_k (fun K10 k10 => ?_)
 refine rg [0, 1] ?_
 refine sw 12 (.agg #[t7_0, t7_1, t7_2, t7_3, t7_4, t7_5, t7_6, t7_7, t7_8, t7_9, t7_10, t7_11]) rfl (rl 32 0 [t7_0, t7_1, t7_2, t7_3, t7_4, t7_5, t7_6, t7_7, t7_8, t7_9, t7_10, t7_11] L8) ?_
 simp only [p3, p4]
 refine se ?_
 replace L3 := st9.lc (L3.gr g8) ne3_8
 refine es 32 0 (.agg #[t7_0, t7_1, t7_2, t7_3, t7_4, t7_5, t7_6, t7_7, t7_8, t7_9, t7_10, t7_11]) [t7_0, t7_1, t7_2, t7_3, t7_4, t7_5, t7_6, t7_7, t7_8, t7_9, t7_10, t7_11] #[t7_0, t7_1, t7_2, t7_3, t7_4, t7_5, t7_6, t7_7, t7_8, t7_9, t7_10, t7_11] L3 hB q3 ⟨h7a.one0, h7a.one1, h7a.one2, h7a.one3, h7b.one0, h7b.one1, h7b.one2, h7b.one3, h7c.one0, h7c.one1, h7c.one2, h7c.one3, trivial⟩ fun w11 st11 kp11 L3 hB => ?_
 refine sq_nil ?_
 refine k10 _ _ ?_
 try clear k10 K10
 refine wp_ret ?_
 refine bodyPost_ret (v := (.agg #[t7_0, t7_1, t7_2, t7_3, t7_4, t7_5, t7_6, t7_7, t7_8, t7_9, t7_10, t7_11])) (ret_cell _ _ _ rfl rfl L3 (by kernel_rfl)) rfl ⟨?_, hB⟩
 have kq12 := g8.kp.trans (kp9.trans kp11)
 replace h7a := h7a.kp kq12
 replace h7b := h7b.kp kq12
 replace h7c := h7c.kp kq12
 exact ⟨_, _, _, _, _, _, _, _, _, _, _, _, rfl, h7a, h7b, h7c⟩

set_option maxRecDepth 100000 in
set_option maxHeartbeats 1000000 in
theorem is_v (X Y Z : List UInt8) {k : Nat} {uaa0 uaa1 uaa2 uaa3 uab0 uab1 uab2 uab3 uac0 uac1 uac2 uac3 : Value} {a1 a2 a3 : Rat} {w : World} (hua1 : IsRat w k uaa0 uaa1 uaa2 uaa3 a1) (hua2 : IsRat w k uab0 uab1 uab2 uab3 a2) (hua3 : IsRat w k uac0 uac1 uac2 uac3 a3) (_hk : k ≤ 25000) (ht : Tab w) :
    Calls Tryz.prog 24 #[(.agg #[uaa0, uaa1, uaa2, uaa3, uab0, uab1, uab2, uab3, uac0, uac1, uac2, uac3]), (.agg #[(.string ⟨(X : List UInt8).toArray⟩), (.string ⟨(Y : List UInt8).toArray⟩), (.string ⟨(Z : List UInt8).toArray⟩)])] w fun e w' => e = .returned (.bool (sEq [ratL a1, ratL a2, ratL a3] [X, Y, Z])) ∧ Gr w w' := by
 go_enter Tryz.func24, Tryz.ntmps24
 have hB := Gr.refl w
 refine wp_seq_k (fun K1 k1 => ?_)
 refine rg [0, 1, 2] ?_
 refine se ?_
 refine eb 32 #[uaa0, uaa1, uaa2, uaa3, uab0, uab1, uab2, uab3, uac0, uac1, uac2, uac3] 2 hB fun b2 w2 g2 L2 o2 q2 hB => ?_
 simp only [p3, p4]
 refine se ?_
 refine eb 49 #[(.string ⟨(X : List UInt8).toArray⟩), (.string ⟨(Y : List UInt8).toArray⟩), (.string ⟨(Z : List UInt8).toArray⟩)] 3 hB fun b3 w3 g3 L3 o3 q3 hB => ?_
 simp only [p3, p4]
 refine sv 4 (.bool false) ?_
 simp only [p3, p4]
 refine sq_nil ?_
 refine k1 _ _ ?_
 try clear k1 K1
 refine wp_seq_k (fun K4 k4 => ?_)
 have gd11 := Gr.drew w3
 replace hB := hB.trans gd11
 replace L2 := L2.gr (g3.trans gd11)
 replace L3 := L3.gr gd11
 refine wp_region_ord (fun w' => Lc w' b2 #[uaa0, uaa1, uaa2, uaa3, uab0, uab1, uab2, uab3, uac0, uac1, uac2, uac3] 32 ∧ Lc w' b3 #[(.string ⟨(X : List UInt8).toArray⟩), (.string ⟨(Y : List UInt8).toArray⟩), (.string ⟨(Z : List UInt8).toArray⟩)] 49) [(true, 0), (true, 2), (false, 1), (false, 3), (true, 4), (true, 5)] (by kernel_rfl) (by kernel_rfl) (by kernel_rfl) (by decide) (fun _ _ _ _ _ h => h) ⟨L2, L3⟩ ?_
 refine ow 5 (.agg #[uaa0, uaa1, uaa2, uaa3, uab0, uab1, uab2, uab3, uac0, uac1, uac2, uac3]) rfl (fun w' hS => (rl 32 0 [uaa0, uaa1, uaa2, uaa3, uab0, uab1, uab2, uab3, uac0, uac1, uac2, uac3] hS.1)) ?_
 simp only [p3, p4]
 refine ow 7 (.agg #[(.string ⟨(X : List UInt8).toArray⟩), (.string ⟨(Y : List UInt8).toArray⟩), (.string ⟨(Z : List UInt8).toArray⟩)]) rfl (fun w' hS => (rl 49 0 [(.string ⟨(X : List UInt8).toArray⟩), (.string ⟨(Y : List UInt8).toArray⟩), (.string ⟨(Z : List UInt8).toArray⟩)] hS.2)) ?_
 simp only [p3, p4]
 refine oe ?_
 have kq14 := g2.kp.trans (g3.kp.trans gd11.kp)
 replace hua1 := hua1.kp kq14
 replace hua2 := hua2.kp kq14
 replace hua3 := hua3.kp kq14
 refine ec 6 (vpoint_v hua1 hua2 hua3 (by omega) (ht.gr hB)) ?_
 rintro e13 w13 ⟨rfl, g13⟩
 refine ⟨_, rfl, ?_⟩
 replace hB := hB.trans g13
 replace L2 := L2.gr g13
 replace L3 := L3.gr g13
 refine ⟨⟨L2, L3⟩, ?_⟩
 simp only [p3, p4]
 refine oe ?_
 refine ec 8 (r3_point (X) (Y) (Z) _) ?_
 rintro e16 w16 ⟨rfl, g16⟩
 refine ⟨_, rfl, ?_⟩
 replace hB := hB.trans g16
 replace L2 := L2.gr g16
 replace L3 := L3.gr g16
 refine ⟨⟨L2, L3⟩, ?_⟩
 simp only [p3, p4]
 refine ow 9 (.bool (sEq [(ratL (a1)), (ratL (a2)), (ratL (a3))] [(X), (Y), (Z)])) rfl (fun w' hS => (rv_ssq 24 24 22 _ _ [(ratL (a1)), (ratL (a2)), (ratL (a3))] [(X), (Y), (Z)] rfl rfl rfl (by kernel_rfl) (by kernel_rfl) (by kernel_rfl))) ?_
 simp only [p3, p4]
 refine ov 4 (.bool (sEq [(ratL (a1)), (ratL (a2)), (ratL (a3))] [(X), (Y), (Z)])) ?_
 simp only [p3, p4]
 refine ord_nil ?_
 refine k4 _ _ ?_
 try clear k4 K4
 refine wp_ret ?_
 refine bodyPost_ret (v := (.bool (sEq [(ratL (a1)), (ratL (a2)), (ratL (a3))] [(X), (Y), (Z)]))) (ret_tmp rfl rfl) rfl ⟨?_, hB⟩
 exact rfl

theorem sEq_lit {a1 a2 a3 : Rat} {X Y Z : List UInt8} (h1 : (ratL a1 == X) = true) (h2 : (ratL a2 == Y) = true) (h3 : (ratL a3 == Z) = true) : sEq [ratL a1, ratL a2, ratL a3] [X, Y, Z] = true := by
  simp only [sEq, h1, h2, h3]; rfl
theorem vparse_lit {X Y Z : List UInt8} (a1 a2 a3 : Rat) (h1 : (ratL a1 == X) = true) (h2 : (ratL a2 == Y) = true) (h3 : (ratL a3 == Z) = true) (s1 : RS 64 a1) (s2 : RS 64 a2) (s3 : RS 64 a3) (w : World) (hm : Mx w) :
    Calls Tryz.prog 13 #[.agg #[.string ⟨X.toArray⟩, .string ⟨Y.toArray⟩, .string ⟨Z.toArray⟩]] w fun e w' => (∃ t0 t1 t2 t3 t4 t5 t6 t7 t8 t9 t10 t11, e = .returned (.tuple #[.agg #[t0, t1, t2, t3, t4, t5, t6, t7, t8, t9, t10, t11], .int .i64 0]) ∧ IsRat w' 64 t0 t1 t2 t3 (a1) ∧ IsRat w' 64 t4 t5 t6 t7 (a2) ∧ IsRat w' 64 t8 t9 t10 t11 (a3)) ∧ Gr w w' := by
  obtain rfl := eq_of_beq h1
  obtain rfl := eq_of_beq h2
  obtain rfl := eq_of_beq h3
  have l1 := ratL_len s1.1 s1.2
  have l2 := ratL_len s2.1 s2.2
  have l3 := ratL_len s3.1 s3.2
  exact vparse_v a1 a2 a3 s1 s2 s3 (by omega) (by omega) (by omega) (by omega) (by omega) w hm

theorem lawK30  : (fitsQ ((32 : Rat))) = true := by decide +kernel
theorem lawK31  : sEq [(ratL ((-3 : Rat))), (ratL ((6 : Rat))), (ratL ((-3 : Rat)))] [([45, 51] : List UInt8), ([54] : List UInt8), ([45, 51] : List UInt8)] = true := sEq_lit (ratL_litw (by kernel_rfl) (itoa_litn 3 (by kernel_rfl) (by decide) (by decide))) (ratL_litw (by kernel_rfl) (itoa_litp 6 (by kernel_rfl) (by decide))) (ratL_litw (by kernel_rfl) (itoa_litn 3 (by kernel_rfl) (by decide) (by decide)))
theorem lawK32  : sEq [(ratL ((-1 : Rat))), (ratL ((2 : Rat))), (ratL ((-1 : Rat)))] [([45, 49] : List UInt8), ([50] : List UInt8), ([45, 49] : List UInt8)] = true := sEq_lit (ratL_litw (by kernel_rfl) (itoa_litn 1 (by kernel_rfl) (by decide) (by decide))) (ratL_litw (by kernel_rfl) (itoa_litp 2 (by kernel_rfl) (by decide))) (ratL_litw (by kernel_rfl) (itoa_litn 1 (by kernel_rfl) (by decide) (by decide)))
theorem lawK33  : sEq [(ratL ((3 : Rat))), (ratL ((-2 : Rat))), (ratL ((0 : Rat)))] [([51] : List UInt8), ([45, 50] : List UInt8), ([48] : List UInt8)] = true := sEq_lit (ratL_litw (by kernel_rfl) (itoa_litp 3 (by kernel_rfl) (by decide))) (ratL_litw (by kernel_rfl) (itoa_litn 2 (by kernel_rfl) (by decide) (by decide))) (ratL_litw (by kernel_rfl) (itoa_litp 0 (by kernel_rfl) (by decide)))
theorem lawK34  : ((valQ ((32 : Rat)) == (32 : Int))) = true := by decide +kernel
set_option maxRecDepth 100000 in
set_option maxHeartbeats 4000000 in
theorem known3 (w : World) (ht : Tab w) (hm : Mx w) :
    Calls Tryz.prog 12 #[] w fun e w' => e = .returned (.bool true) ∧ Gr w w' := by
 go_enter Tryz.func12, Tryz.ntmps12
 have hB := Gr.refl w
 refine wp_seq_k (fun K1 k1 => ?_)
 refine rg [0] ?_
 refine sv 0 (.bool false) ?_
 simp only [p3]
 refine sq_nil ?_
 refine k1 _ _ ?_
 try clear k1 K1
 refine wp_seq_k (fun K2 k2 => ?_)
 refine rg [0, 1, 2, 3, 4, 5, 6, 7] ?_
 refine sv 12 (.agg #[(.int .i64 1), (.int .i64 2), (.int .i64 3)]) ?_
 simp only [p3, p4]
 refine se ?_
 refine ec 13 (vof_v (1) (2) (3) (by omega) (by omega) (by omega) _) ?_
 rintro e3 w3 ⟨⟨t3_0, t3_1, t3_2, t3_3, t3_4, t3_5, t3_6, t3_7, t3_8, t3_9, t3_10, t3_11, rfl, h3a, h3b, h3c⟩, g3⟩
 refine ⟨_, rfl, ?_⟩
 replace hB := hB.trans g3
 rw [show ((((1 : Int) : Rat)) : Rat) = (1 : Rat) from by kernel_rfl] at h3a
 rw [show ((((2 : Int) : Rat)) : Rat) = (2 : Rat) from by kernel_rfl] at h3b
 rw [show ((((3 : Int) : Rat)) : Rat) = (3 : Rat) from by kernel_rfl] at h3c
 simp only [p3, p4]
 refine sv 14 (.agg #[(.int .i64 4), (.int .i64 5), (.int .i64 6)]) ?_
 simp only [p3, p4]
 refine se ?_
 refine ec 15 (vof_v (4) (5) (6) (by omega) (by omega) (by omega) _) ?_
 rintro e4 w4 ⟨⟨t4_0, t4_1, t4_2, t4_3, t4_4, t4_5, t4_6, t4_7, t4_8, t4_9, t4_10, t4_11, rfl, h4a, h4b, h4c⟩, g4⟩
 refine ⟨_, rfl, ?_⟩
 replace hB := hB.trans g4
 rw [show ((((4 : Int) : Rat)) : Rat) = (4 : Rat) from by kernel_rfl] at h4a
 rw [show ((((5 : Int) : Rat)) : Rat) = (5 : Rat) from by kernel_rfl] at h4b
 rw [show ((((6 : Int) : Rat)) : Rat) = (6 : Rat) from by kernel_rfl] at h4c
 simp only [p3, p4]
 refine se ?_
 refine ea 32 #[(.bool false), (.slice none 0 0), (.bool false), (.slice none 0 0), (.bool false), (.slice none 0 0), (.bool false), (.slice none 0 0), (.bool false), (.slice none 0 0), (.bool false), (.slice none 0 0)] 1 hB fun b5 w5 g5 L5 o5 q5 hB => ?_
 simp only [p3, p4]
 refine se ?_
 refine ea 32 #[(.bool false), (.slice none 0 0), (.bool false), (.slice none 0 0), (.bool false), (.slice none 0 0), (.bool false), (.slice none 0 0), (.bool false), (.slice none 0 0), (.bool false), (.slice none 0 0)] 2 hB fun b6 w6 g6 L6 o6 q6 hB => ?_
 have ne5_6 := L5.ne o6
 simp only [p3, p4]
 refine se ?_
 replace L5 := L5.gr g6
 refine es 32 0 (.agg #[t3_0, t3_1, t3_2, t3_3, t3_4, t3_5, t3_6, t3_7, t3_8, t3_9, t3_10, t3_11]) [t3_0, t3_1, t3_2, t3_3, t3_4, t3_5, t3_6, t3_7, t3_8, t3_9, t3_10, t3_11] #[t3_0, t3_1, t3_2, t3_3, t3_4, t3_5, t3_6, t3_7, t3_8, t3_9, t3_10, t3_11] L5 hB q5 ⟨h3a.one0, h3a.one1, h3a.one2, h3a.one3, h3b.one0, h3b.one1, h3b.one2, h3b.one3, h3c.one0, h3c.one1, h3c.one2, h3c.one3, trivial⟩ fun w7 st7 kp7 L5 hB => ?_
 refine se ?_
 replace L6 := st7.lc L6 (Ne.symm ne5_6)
 refine es 32 0 (.agg #[t4_0, t4_1, t4_2, t4_3, t4_4, t4_5, t4_6, t4_7, t4_8, t4_9, t4_10, t4_11]) [t4_0, t4_1, t4_2, t4_3, t4_4, t4_5, t4_6, t4_7, t4_8, t4_9, t4_10, t4_11] #[t4_0, t4_1, t4_2, t4_3, t4_4, t4_5, t4_6, t4_7, t4_8, t4_9, t4_10, t4_11] L6 hB q6 ⟨h4a.one0, h4a.one1, h4a.one2, h4a.one3, h4b.one0, h4b.one1, h4b.one2, h4b.one3, h4c.one0, h4c.one1, h4c.one2, h4c.one3, trivial⟩ fun w8 st8 kp8 L6 hB => ?_
 refine sq_nil ?_
 refine k2 _ _ ?_
 try clear k2 K2
 refine wp_seq_k (fun K9 k9 => ?_)
 refine rg [0, 1, 2, 3, 4] ?_
 replace L5 := st8.lc L5 ne5_6
 refine sw 16 (.agg #[t3_0, t3_1, t3_2, t3_3, t3_4, t3_5, t3_6, t3_7, t3_8, t3_9, t3_10, t3_11]) rfl (rl 32 0 [t3_0, t3_1, t3_2, t3_3, t3_4, t3_5, t3_6, t3_7, t3_8, t3_9, t3_10, t3_11] L5) ?_
 simp only [p3, p4]
 refine sw 17 (.agg #[t4_0, t4_1, t4_2, t4_3, t4_4, t4_5, t4_6, t4_7, t4_8, t4_9, t4_10, t4_11]) rfl (rl 32 0 [t4_0, t4_1, t4_2, t4_3, t4_4, t4_5, t4_6, t4_7, t4_8, t4_9, t4_10, t4_11] L6) ?_
 simp only [p3, p4]
 refine se ?_
 have kq11 := g4.kp.trans (g5.kp.trans (g6.kp.trans (kp7.trans kp8)))
 replace h3a := h3a.kp kq11
 replace h3b := h3b.kp kq11
 replace h3c := h3c.kp kq11
 have kq12 := g5.kp.trans (g6.kp.trans (kp7.trans kp8))
 replace h4a := h4a.kp kq12
 replace h4b := h4b.kp kq12
 replace h4c := h4c.kp kq12
 refine ec 18 (cross_v h3a h3b h3c h4a h4b h4c (by omega)) ?_
 rintro e10 w10 ⟨⟨t10_0, t10_1, t10_2, t10_3, t10_4, t10_5, t10_6, t10_7, t10_8, t10_9, t10_10, t10_11, rfl, h10a, h10b, h10c⟩, g10⟩
 refine ⟨_, rfl, ?_⟩
 replace hB := hB.trans g10
 rw [show (((2 : Rat) * (6 : Rat) - (3 : Rat) * (5 : Rat)) : Rat) = (-3 : Rat) from by kernel_rfl] at h10a
 rw [show (((3 : Rat) * (4 : Rat) - (1 : Rat) * (6 : Rat)) : Rat) = (6 : Rat) from by kernel_rfl] at h10b
 rw [show (((1 : Rat) * (5 : Rat) - (2 : Rat) * (4 : Rat)) : Rat) = (-3 : Rat) from by kernel_rfl] at h10c
 simp only [p3, p4]
 refine se ?_
 refine ea 32 #[(.bool false), (.slice none 0 0), (.bool false), (.slice none 0 0), (.bool false), (.slice none 0 0), (.bool false), (.slice none 0 0), (.bool false), (.slice none 0 0), (.bool false), (.slice none 0 0)] 3 hB fun b13 w13 g13 L13 o13 q13 hB => ?_
 replace L5 := L5.gr g10
 have ne5_13 := L5.ne o13
 replace L6 := L6.gr g10
 have ne6_13 := L6.ne o13
 simp only [p3, p4]
 refine se ?_
 refine es 32 0 (.agg #[t10_0, t10_1, t10_2, t10_3, t10_4, t10_5, t10_6, t10_7, t10_8, t10_9, t10_10, t10_11]) [t10_0, t10_1, t10_2, t10_3, t10_4, t10_5, t10_6, t10_7, t10_8, t10_9, t10_10, t10_11] #[t10_0, t10_1, t10_2, t10_3, t10_4, t10_5, t10_6, t10_7, t10_8, t10_9, t10_10, t10_11] L13 hB q13 ⟨h10a.one0, h10a.one1, h10a.one2, h10a.one3, h10b.one0, h10b.one1, h10b.one2, h10b.one3, h10c.one0, h10c.one1, h10c.one2, h10c.one3, trivial⟩ fun w14 st14 kp14 L13 hB => ?_
 refine sq_nil ?_
 refine k9 _ _ ?_
 try clear k9 K9
 refine wp_seq_k (fun K15 k15 => ?_)
 refine rg [0, 1, 2, 3, 4, 5, 6, 7] ?_
 refine sw 20 (.agg #[t10_0, t10_1, t10_2, t10_3, t10_4, t10_5, t10_6, t10_7, t10_8, t10_9, t10_10, t10_11]) rfl (rl 32 0 [t10_0, t10_1, t10_2, t10_3, t10_4, t10_5, t10_6, t10_7, t10_8, t10_9, t10_10, t10_11] L13) ?_
 simp only [p3, p4]
 refine se ?_
 have kq17 := g13.kp.trans kp14
 replace h10a := h10a.kp kq17
 replace h10b := h10b.kp kq17
 replace h10c := h10c.kp kq17
 refine ec 21 (vprim_ok h10a h10b h10c (by omega) (by decide +kernel)) ?_
 rintro e16 w16 ⟨⟨t16_0, t16_1, t16_2, t16_3, t16_4, t16_5, t16_6, t16_7, t16_8, t16_9, t16_10, t16_11, rfl, h16a, h16b, h16c⟩, g16⟩
 refine ⟨_, rfl, ?_⟩
 replace hB := hB.trans g16
 rw [show ((prim ((-3 : Rat)) ((6 : Rat)) ((-3 : Rat)) ((-3 : Rat))) : Rat) = (-1 : Rat) from by kernel_rfl] at h16a
 rw [show ((prim ((-3 : Rat)) ((6 : Rat)) ((-3 : Rat)) ((6 : Rat))) : Rat) = (2 : Rat) from by kernel_rfl] at h16b
 rw [show ((prim ((-3 : Rat)) ((6 : Rat)) ((-3 : Rat)) ((-3 : Rat))) : Rat) = (-1 : Rat) from by kernel_rfl] at h16c
 simp only [p3, p4]
 refine sv 19 (.tuple #[(.agg #[t16_0, t16_1, t16_2, t16_3, t16_4, t16_5, t16_6, t16_7, t16_8, t16_9, t16_10, t16_11]), (.int .i64 0)]) ?_
 simp only [p3, p4]
 refine sv 22 (.agg #[t16_0, t16_1, t16_2, t16_3, t16_4, t16_5, t16_6, t16_7, t16_8, t16_9, t16_10, t16_11]) ?_
 simp only [p3, p4]
 refine sv 23 (.int .i64 0) ?_
 simp only [p3, p4]
 refine se ?_
 refine ea 32 #[(.bool false), (.slice none 0 0), (.bool false), (.slice none 0 0), (.bool false), (.slice none 0 0), (.bool false), (.slice none 0 0), (.bool false), (.slice none 0 0), (.bool false), (.slice none 0 0)] 4 hB fun b18 w18 g18 L18 o18 q18 hB => ?_
 replace L5 := (st14.lc (L5.gr g13) ne5_13).gr g16
 have ne5_18 := L5.ne o18
 replace L6 := (st14.lc (L6.gr g13) ne6_13).gr g16
 have ne6_18 := L6.ne o18
 replace L13 := L13.gr g16
 have ne13_18 := L13.ne o18
 simp only [p3, p4]
 refine se ?_
 refine es 32 0 (.agg #[t16_0, t16_1, t16_2, t16_3, t16_4, t16_5, t16_6, t16_7, t16_8, t16_9, t16_10, t16_11]) [t16_0, t16_1, t16_2, t16_3, t16_4, t16_5, t16_6, t16_7, t16_8, t16_9, t16_10, t16_11] #[t16_0, t16_1, t16_2, t16_3, t16_4, t16_5, t16_6, t16_7, t16_8, t16_9, t16_10, t16_11] L18 hB q18 ⟨h16a.one0, h16a.one1, h16a.one2, h16a.one3, h16b.one0, h16b.one1, h16b.one2, h16b.one3, h16c.one0, h16c.one1, h16c.one2, h16c.one3, trivial⟩ fun w19 st19 kp19 L18 hB => ?_
 refine sv 5 (.int .i64 0) ?_
 simp only [p3, p4]
 refine sq_nil ?_
 refine k15 _ _ ?_
 try clear k15 K15
 refine wp_seq_k (fun K20 k20 => ?_)
 refine rg [0, 1, 2, 3, 4, 5, 6, 7] ?_
 refine sv 25 (.agg #[(.string ⟨([49, 47, 50] : List UInt8).toArray⟩), (.string ⟨([45, 49, 47, 51] : List UInt8).toArray⟩), (.string ⟨([48] : List UInt8).toArray⟩)]) ?_
 simp only [p3, p4]
 refine se ?_
 refine ec 26 (vparse_lit (1 / 2 : Rat) (-1 / 3 : Rat) (0 : Rat) (ratL_litf (by kernel_rfl) (itoa_litp 1 (by kernel_rfl) (by decide)) (itoa_litp 2 (by kernel_rfl) (by decide)) rfl) (ratL_litf (by kernel_rfl) (itoa_litn 1 (by kernel_rfl) (by decide) (by decide)) (itoa_litp 3 (by kernel_rfl) (by decide)) rfl) (ratL_litw (by kernel_rfl) (itoa_litp 0 (by kernel_rfl) (by decide))) ⟨by unfold Sz; decide +kernel, by unfold Sz; decide +kernel⟩ ⟨by unfold Sz; decide +kernel, by unfold Sz; decide +kernel⟩ ⟨by unfold Sz; decide +kernel, by unfold Sz; decide +kernel⟩ _ (hm.gr hB)) ?_
 rintro e21 w21 ⟨⟨t21_0, t21_1, t21_2, t21_3, t21_4, t21_5, t21_6, t21_7, t21_8, t21_9, t21_10, t21_11, rfl, h21a, h21b, h21c⟩, g21⟩
 refine ⟨_, rfl, ?_⟩
 replace hB := hB.trans g21
 simp only [p3, p4]
 refine sv 24 (.tuple #[(.agg #[t21_0, t21_1, t21_2, t21_3, t21_4, t21_5, t21_6, t21_7, t21_8, t21_9, t21_10, t21_11]), (.int .i64 0)]) ?_
 simp only [p3, p4]
 refine sv 27 (.agg #[t21_0, t21_1, t21_2, t21_3, t21_4, t21_5, t21_6, t21_7, t21_8, t21_9, t21_10, t21_11]) ?_
 simp only [p3, p4]
 refine sv 28 (.int .i64 0) ?_
 simp only [p3, p4]
 refine se ?_
 refine ea 32 #[(.bool false), (.slice none 0 0), (.bool false), (.slice none 0 0), (.bool false), (.slice none 0 0), (.bool false), (.slice none 0 0), (.bool false), (.slice none 0 0), (.bool false), (.slice none 0 0)] 6 hB fun b22 w22 g22 L22 o22 q22 hB => ?_
 replace L5 := (st19.lc (L5.gr g18) ne5_18).gr g21
 have ne5_22 := L5.ne o22
 replace L6 := (st19.lc (L6.gr g18) ne6_18).gr g21
 have ne6_22 := L6.ne o22
 replace L13 := (st19.lc (L13.gr g18) ne13_18).gr g21
 have ne13_22 := L13.ne o22
 replace L18 := L18.gr g21
 have ne18_22 := L18.ne o22
 simp only [p3, p4]
 refine se ?_
 refine es 32 0 (.agg #[t21_0, t21_1, t21_2, t21_3, t21_4, t21_5, t21_6, t21_7, t21_8, t21_9, t21_10, t21_11]) [t21_0, t21_1, t21_2, t21_3, t21_4, t21_5, t21_6, t21_7, t21_8, t21_9, t21_10, t21_11] #[t21_0, t21_1, t21_2, t21_3, t21_4, t21_5, t21_6, t21_7, t21_8, t21_9, t21_10, t21_11] L22 hB q22 ⟨h21a.one0, h21a.one1, h21a.one2, h21a.one3, h21b.one0, h21b.one1, h21b.one2, h21b.one3, h21c.one0, h21c.one1, h21c.one2, h21c.one3, trivial⟩ fun w23 st23 kp23 L22 hB => ?_
 refine sv 7 (.int .i64 0) ?_
 simp only [p3, p4]
 refine sq_nil ?_
 refine k20 _ _ ?_
 try clear k20 K20
 refine wp_seq_k (fun K24 k24 => ?_)
 refine rg [0, 1, 2, 3, 4, 5, 6, 7] ?_
 refine sw 30 (.agg #[t21_0, t21_1, t21_2, t21_3, t21_4, t21_5, t21_6, t21_7, t21_8, t21_9, t21_10, t21_11]) rfl (rl 32 0 [t21_0, t21_1, t21_2, t21_3, t21_4, t21_5, t21_6, t21_7, t21_8, t21_9, t21_10, t21_11] L22) ?_
 simp only [p3, p4]
 refine se ?_
 have kq26 := g22.kp.trans kp23
 replace h21a := h21a.kp kq26
 replace h21b := h21b.kp kq26
 replace h21c := h21c.kp kq26
 refine ec 31 (vprim_ok h21a h21b h21c (by omega) (by decide +kernel)) ?_
 rintro e25 w25 ⟨⟨t25_0, t25_1, t25_2, t25_3, t25_4, t25_5, t25_6, t25_7, t25_8, t25_9, t25_10, t25_11, rfl, h25a, h25b, h25c⟩, g25⟩
 refine ⟨_, rfl, ?_⟩
 replace hB := hB.trans g25
 rw [show ((prim ((1 / 2 : Rat)) ((-1 / 3 : Rat)) ((0 : Rat)) ((1 / 2 : Rat))) : Rat) = (3 : Rat) from by kernel_rfl] at h25a
 rw [show ((prim ((1 / 2 : Rat)) ((-1 / 3 : Rat)) ((0 : Rat)) ((-1 / 3 : Rat))) : Rat) = (-2 : Rat) from by kernel_rfl] at h25b
 rw [show ((prim ((1 / 2 : Rat)) ((-1 / 3 : Rat)) ((0 : Rat)) ((0 : Rat))) : Rat) = (0 : Rat) from by kernel_rfl] at h25c
 simp only [p3, p4]
 refine sv 29 (.tuple #[(.agg #[t25_0, t25_1, t25_2, t25_3, t25_4, t25_5, t25_6, t25_7, t25_8, t25_9, t25_10, t25_11]), (.int .i64 0)]) ?_
 simp only [p3, p4]
 refine sv 32 (.agg #[t25_0, t25_1, t25_2, t25_3, t25_4, t25_5, t25_6, t25_7, t25_8, t25_9, t25_10, t25_11]) ?_
 simp only [p3, p4]
 refine sv 33 (.int .i64 0) ?_
 simp only [p3, p4]
 refine se ?_
 refine ea 32 #[(.bool false), (.slice none 0 0), (.bool false), (.slice none 0 0), (.bool false), (.slice none 0 0), (.bool false), (.slice none 0 0), (.bool false), (.slice none 0 0), (.bool false), (.slice none 0 0)] 8 hB fun b27 w27 g27 L27 o27 q27 hB => ?_
 replace L5 := (st23.lc (L5.gr g22) ne5_22).gr g25
 have ne5_27 := L5.ne o27
 replace L6 := (st23.lc (L6.gr g22) ne6_22).gr g25
 have ne6_27 := L6.ne o27
 replace L13 := (st23.lc (L13.gr g22) ne13_22).gr g25
 have ne13_27 := L13.ne o27
 replace L18 := (st23.lc (L18.gr g22) ne18_22).gr g25
 have ne18_27 := L18.ne o27
 simp only [p3, p4]
 refine se ?_
 refine es 32 0 (.agg #[t25_0, t25_1, t25_2, t25_3, t25_4, t25_5, t25_6, t25_7, t25_8, t25_9, t25_10, t25_11]) [t25_0, t25_1, t25_2, t25_3, t25_4, t25_5, t25_6, t25_7, t25_8, t25_9, t25_10, t25_11] #[t25_0, t25_1, t25_2, t25_3, t25_4, t25_5, t25_6, t25_7, t25_8, t25_9, t25_10, t25_11] L27 hB q27 ⟨h25a.one0, h25a.one1, h25a.one2, h25a.one3, h25b.one0, h25b.one1, h25b.one2, h25b.one3, h25c.one0, h25c.one1, h25c.one2, h25c.one3, trivial⟩ fun w28 st28 kp28 L27 hB => ?_
 refine sv 9 (.int .i64 0) ?_
 simp only [p3, p4]
 refine sq_nil ?_
 refine k24 _ _ ?_
 try clear k24 K24
 refine wp_seq_k (fun K29 k29 => ?_)
 refine rg [0, 1, 2, 3, 4, 5, 6, 7, 8] ?_
 replace L5 := st28.lc (L5.gr g27) ne5_27
 refine sw 35 (.agg #[t3_0, t3_1, t3_2, t3_3, t3_4, t3_5, t3_6, t3_7, t3_8, t3_9, t3_10, t3_11]) rfl (rl 32 0 [t3_0, t3_1, t3_2, t3_3, t3_4, t3_5, t3_6, t3_7, t3_8, t3_9, t3_10, t3_11] L5) ?_
 simp only [p3, p4]
 replace L6 := st28.lc (L6.gr g27) ne6_27
 refine sw 36 (.agg #[t4_0, t4_1, t4_2, t4_3, t4_4, t4_5, t4_6, t4_7, t4_8, t4_9, t4_10, t4_11]) rfl (rl 32 0 [t4_0, t4_1, t4_2, t4_3, t4_4, t4_5, t4_6, t4_7, t4_8, t4_9, t4_10, t4_11] L6) ?_
 simp only [p3, p4]
 refine se ?_
 have kq31 := g10.kp.trans (g13.kp.trans (kp14.trans (g16.kp.trans (g18.kp.trans (kp19.trans (g21.kp.trans (g22.kp.trans (kp23.trans (g25.kp.trans (g27.kp.trans kp28))))))))))
 replace h3a := h3a.kp kq31
 replace h3b := h3b.kp kq31
 replace h3c := h3c.kp kq31
 replace h4a := h4a.kp kq31
 replace h4b := h4b.kp kq31
 replace h4c := h4c.kp kq31
 refine ec 37 (dot_v h3a h3b h3c h4a h4b h4c (by omega)) ?_
 rintro e30 w30 ⟨⟨p30, q30, r30, s30, rfl, h30⟩, g30⟩
 refine ⟨_, rfl, ?_⟩
 replace hB := hB.trans g30
 rw [show ((0 + (1 : Rat) * (4 : Rat) + (2 : Rat) * (5 : Rat) + (3 : Rat) * (6 : Rat)) : Rat) = (32 : Rat) from by kernel_rfl] at h30
 simp only [p3, p4]
 refine se ?_
 refine ec 38 (rint_r h30 (by omega)) ?_
 rintro e32 w32 ⟨rfl, g32⟩
 refine ⟨_, rfl, ?_⟩
 replace hB := hB.trans g32
 simp only [p3, p4]
 refine sv 34 (.tuple #[(.int .i64 (valQ ((32 : Rat)))), (.bool (fitsQ ((32 : Rat))))]) ?_
 simp only [p3, p4]
 refine sv 39 (.int .i64 (valQ ((32 : Rat)))) ?_
 simp only [p3, p4]
 have hb33 : (fitsQ ((32 : Rat))) = true := (lawK30  )
 refine sw 40 (.bool true) rfl (RunV.bool (x := fitsQ ((32 : Rat))) (rvk (by kernel_rfl)) hb33) ?_
 simp only [p3, p4]
 refine sv 10 (.int .i64 (valQ ((32 : Rat)))) ?_
 simp only [p3, p4]
 refine sv 11 (.bool true) ?_
 simp only [p3, p4]
 refine sq_nil ?_
 refine k29 _ _ ?_
 try clear k29 K29
 refine wp_seq_k (fun K34 k34 => ?_)
 refine rg [0, 1, 2, 3, 4, 5, 6, 7, 8, 9, 10, 11, 12, 13, 14, 15, 16, 17, 18, 19, 20, 21, 22, 23, 24, 25, 26, 27, 28, 29, 30, 31, 32, 33, 34, 35] ?_
 replace L13 := (st28.lc (L13.gr g27) ne13_27).gr (g30.trans g32)
 refine sw 41 (.agg #[t10_0, t10_1, t10_2, t10_3, t10_4, t10_5, t10_6, t10_7, t10_8, t10_9, t10_10, t10_11]) rfl (rl 32 0 [t10_0, t10_1, t10_2, t10_3, t10_4, t10_5, t10_6, t10_7, t10_8, t10_9, t10_10, t10_11] L13) ?_
 simp only [p3, p4]
 refine se ?_
 have kq36 := g16.kp.trans (g18.kp.trans (kp19.trans (g21.kp.trans (g22.kp.trans (kp23.trans (g25.kp.trans (g27.kp.trans (kp28.trans (g30.kp.trans g32.kp)))))))))
 replace h10a := h10a.kp kq36
 replace h10b := h10b.kp kq36
 replace h10c := h10c.kp kq36
 refine ec 42 (vpoint_v h10a h10b h10c (by omega) (ht.gr hB)) ?_
 rintro e35 w35 ⟨rfl, g35⟩
 refine ⟨_, rfl, ?_⟩
 replace hB := hB.trans g35
 simp only [p3, p4]
 refine sv 43 (.agg #[(.string ⟨([45, 51] : List UInt8).toArray⟩), (.string ⟨([54] : List UInt8).toArray⟩), (.string ⟨([45, 51] : List UInt8).toArray⟩)]) ?_
 simp only [p3, p4]
 have hb37 : (sEq [(ratL ((-3 : Rat))), (ratL ((6 : Rat))), (ratL ((-3 : Rat)))] [([45, 51] : List UInt8), ([54] : List UInt8), ([45, 51] : List UInt8)]) = true := (lawK31  )
 refine sw 44 (.bool true) rfl (RunV.bool (x := sEq [(ratL ((-3 : Rat))), (ratL ((6 : Rat))), (ratL ((-3 : Rat)))] [([45, 51] : List UInt8), ([54] : List UInt8), ([45, 51] : List UInt8)]) (rv_ssq 24 24 22 _ _ [(ratL ((-3 : Rat))), (ratL ((6 : Rat))), (ratL ((-3 : Rat)))] [([45, 51] : List UInt8), ([54] : List UInt8), ([45, 51] : List UInt8)] rfl rfl rfl (by kernel_rfl) (by kernel_rfl) (by kernel_rfl)) hb37) ?_
 simp only [p3, p4]
 refine sv 45 (.bool true) ?_
 simp only [p3, p4]
 refine sv 46 (.int .i64 0) ?_
 simp only [p3, p4]
 refine sv 47 (.bool true) ?_
 simp only [p3, p4]
 refine sv 48 (.bool true) ?_
 simp only [p3, p4]
 refine sv 49 (.bool true) ?_
 simp only [p3, p4]
 replace L18 := (st28.lc (L18.gr g27) ne18_27).gr (g30.trans (g32.trans g35))
 refine sw 50 (.agg #[t16_0, t16_1, t16_2, t16_3, t16_4, t16_5, t16_6, t16_7, t16_8, t16_9, t16_10, t16_11]) rfl (rl 32 0 [t16_0, t16_1, t16_2, t16_3, t16_4, t16_5, t16_6, t16_7, t16_8, t16_9, t16_10, t16_11] L18) ?_
 simp only [p3, p4]
 refine se ?_
 have kq39 := g18.kp.trans (kp19.trans (g21.kp.trans (g22.kp.trans (kp23.trans (g25.kp.trans (g27.kp.trans (kp28.trans (g30.kp.trans (g32.kp.trans g35.kp)))))))))
 replace h16a := h16a.kp kq39
 replace h16b := h16b.kp kq39
 replace h16c := h16c.kp kq39
 refine ec 51 (vpoint_v h16a h16b h16c (by omega) (ht.gr hB)) ?_
 rintro e38 w38 ⟨rfl, g38⟩
 refine ⟨_, rfl, ?_⟩
 replace hB := hB.trans g38
 simp only [p3, p4]
 refine sv 52 (.agg #[(.string ⟨([45, 49] : List UInt8).toArray⟩), (.string ⟨([50] : List UInt8).toArray⟩), (.string ⟨([45, 49] : List UInt8).toArray⟩)]) ?_
 simp only [p3, p4]
 have hb40 : (sEq [(ratL ((-1 : Rat))), (ratL ((2 : Rat))), (ratL ((-1 : Rat)))] [([45, 49] : List UInt8), ([50] : List UInt8), ([45, 49] : List UInt8)]) = true := (lawK32  )
 refine sw 53 (.bool true) rfl (RunV.bool (x := sEq [(ratL ((-1 : Rat))), (ratL ((2 : Rat))), (ratL ((-1 : Rat)))] [([45, 49] : List UInt8), ([50] : List UInt8), ([45, 49] : List UInt8)]) (rv_ssq 24 24 22 _ _ [(ratL ((-1 : Rat))), (ratL ((2 : Rat))), (ratL ((-1 : Rat)))] [([45, 49] : List UInt8), ([50] : List UInt8), ([45, 49] : List UInt8)] rfl rfl rfl (by kernel_rfl) (by kernel_rfl) (by kernel_rfl)) hb40) ?_
 simp only [p3, p4]
 refine sv 54 (.bool true) ?_
 simp only [p3, p4]
 refine sv 55 (.bool true) ?_
 simp only [p3, p4]
 refine sv 56 (.int .i64 0) ?_
 simp only [p3, p4]
 refine sv 57 (.bool true) ?_
 simp only [p3, p4]
 refine sv 58 (.bool true) ?_
 simp only [p3, p4]
 refine sv 59 (.bool true) ?_
 simp only [p3, p4]
 refine sv 60 (.int .i64 0) ?_
 simp only [p3, p4]
 refine sv 61 (.bool true) ?_
 simp only [p3, p4]
 refine sv 62 (.bool true) ?_
 simp only [p3, p4]
 refine sv 63 (.bool true) ?_
 simp only [p3, p4]
 replace L27 := L27.gr (g30.trans (g32.trans (g35.trans g38)))
 refine sw 64 (.agg #[t25_0, t25_1, t25_2, t25_3, t25_4, t25_5, t25_6, t25_7, t25_8, t25_9, t25_10, t25_11]) rfl (rl 32 0 [t25_0, t25_1, t25_2, t25_3, t25_4, t25_5, t25_6, t25_7, t25_8, t25_9, t25_10, t25_11] L27) ?_
 simp only [p3, p4]
 refine se ?_
 have kq42 := g27.kp.trans (kp28.trans (g30.kp.trans (g32.kp.trans (g35.kp.trans g38.kp))))
 replace h25a := h25a.kp kq42
 replace h25b := h25b.kp kq42
 replace h25c := h25c.kp kq42
 refine ec 65 (vpoint_v h25a h25b h25c (by omega) (ht.gr hB)) ?_
 rintro e41 w41 ⟨rfl, g41⟩
 refine ⟨_, rfl, ?_⟩
 replace hB := hB.trans g41
 simp only [p3, p4]
 refine sv 66 (.agg #[(.string ⟨([51] : List UInt8).toArray⟩), (.string ⟨([45, 50] : List UInt8).toArray⟩), (.string ⟨([48] : List UInt8).toArray⟩)]) ?_
 simp only [p3, p4]
 have hb43 : (sEq [(ratL ((3 : Rat))), (ratL ((-2 : Rat))), (ratL ((0 : Rat)))] [([51] : List UInt8), ([45, 50] : List UInt8), ([48] : List UInt8)]) = true := (lawK33  )
 refine sw 67 (.bool true) rfl (RunV.bool (x := sEq [(ratL ((3 : Rat))), (ratL ((-2 : Rat))), (ratL ((0 : Rat)))] [([51] : List UInt8), ([45, 50] : List UInt8), ([48] : List UInt8)]) (rv_ssq 24 24 22 _ _ [(ratL ((3 : Rat))), (ratL ((-2 : Rat))), (ratL ((0 : Rat)))] [([51] : List UInt8), ([45, 50] : List UInt8), ([48] : List UInt8)] rfl rfl rfl (by kernel_rfl) (by kernel_rfl) (by kernel_rfl)) hb43) ?_
 simp only [p3, p4]
 refine sv 68 (.bool true) ?_
 simp only [p3, p4]
 refine sv 69 (.bool true) ?_
 simp only [p3, p4]
 refine sv 70 (.bool true) ?_
 simp only [p3, p4]
 refine sv 71 (.bool true) ?_
 simp only [p3, p4]
 refine sv 72 (.bool true) ?_
 simp only [p3, p4]
 refine sv 73 (.int .i64 (valQ ((32 : Rat)))) ?_
 simp only [p3, p4]
 have hb44 : ((valQ ((32 : Rat)) == (32 : Int))) = true := (lawK34  )
 refine sw 74 (.bool true) rfl (RunV.bool (x := (valQ ((32 : Rat)) == (32 : Int))) (rvk (by kernel_rfl)) hb44) ?_
 simp only [p3, p4]
 refine sv 75 (.bool true) ?_
 simp only [p3, p4]
 refine sv 0 (.bool true) ?_
 simp only [p3]
 refine sq_nil ?_
 refine k34 _ _ ?_
 try clear k34 K34
 refine wp_ret ?_
 refine bodyPost_ret (v := (.bool true)) (ret_tmp rfl rfl) rfl ⟨?_, hB⟩
 exact rfl

end Go.Proofs.YtlcmllfacolkaaaGreatDoor
