/- Joined of: Gen69, RowVectorParses. -/
import Derived.Test.YtlcmllfacolkaaaGreatDoorPartF
import Derived.Test.YtlcmllfacolkaaaGreatDoorPartG
import Derived.Test.YtlcmllfacolkaaaGreatDoorCards
import Derived.Test.YtlcmllfacolkaaaGreatDoorTie
import Derived.Test.YtlcmllfacolkaaaGreatDoorPartD
/- Printed by a program of the prover's: VectorParses. -/
namespace Go.Proofs.YtlcmllfacolkaaaGreatDoor
open Go.RowKit

set_option maxRecDepth 100000 in
set_option maxHeartbeats 1000000 in
theorem r3_check_0 (X Y Z : List UInt8) (_lx : X.length ≤ 500) (_ly : Y.length ≤ 500) (_lz : Z.length ≤ 500) (most : Nat) (_hmost : most ≤ 1000000) (hX : ck2 X most ≠ 0) (w : World) :
    Calls Tryz.prog 15 #[(.agg #[(.string ⟨(X : List UInt8).toArray⟩), (.string ⟨(Y : List UInt8).toArray⟩), (.string ⟨(Z : List UInt8).toArray⟩)]), (.int .i64 ((most : Int)))] w fun e w' => e = .returned (.int .i64 (ck2 X most)) ∧ Gr w w' := by
 have eX : (ck2 (X) most != (0 : Int)) = true := by simpa using hX
 go_enter Tryz.func15, Tryz.ntmps15
 have hB := Gr.refl w
 refine wp_seq_k (fun K1 k1 => ?_)
 refine rg [0, 1] ?_
 refine se ?_
 refine eb 24 #[(.string ⟨(X : List UInt8).toArray⟩), (.string ⟨(Y : List UInt8).toArray⟩), (.string ⟨(Z : List UInt8).toArray⟩)] 2 hB fun b2 w2 g2 L2 o2 q2 hB => ?_
 simp only [p3, p4]
 refine sv 4 (.int .i64 0) ?_
 simp only [p3, p4]
 refine sq_nil ?_
 refine k1 _ _ ?_
 try clear k1 K1
 refine wp_seq_k (fun K3 k3 => ?_)
 refine wp_seq_k (fun K4 k4 => ?_)
 refine rg [0] ?_
 refine sv 5 (.int .i64 0) ?_
 simp only [p3, p4]
 refine sq_nil ?_
 refine k4 _ _ ?_
 try clear k4 K4
 refine wp_block ?_
 refine wp_loop_rounds 4 ?_
 show Code.wp _ _ _ _ _
 refine wp_seq_k (fun K5 k5 => ?_)
 refine wp_seq_k (fun K6 k6 => ?_)
 refine rg [0, 1] ?_
 refine sv 7 (.int .i64 0) ?_
 simp only [p3, p4]
 refine sv 8 (.bool true) ?_
 simp only [p3, p4]
 refine sq_nil ?_
 refine k6 _ _ ?_
 try clear k6 K6
 refine wp_cond_true rfl ?_
 refine wp_skip ?_
 refine k5 _ _ ?_
 try clear k5 K5
 refine wp_seq_k (fun K7 k7 => ?_)
 refine wp_block ?_
 refine wp_seq_k (fun K8 k8 => ?_)
 refine rg [0, 1, 2, 3, 4, 5] ?_
 refine sv 11 (.int .i64 0) ?_
 simp only [p3, p4]
 refine sv 12 (.pointer (some ⟨b2, 0, none⟩)) ?_
 simp only [p3, p4]
 refine sw 13 (.string ⟨(X : List UInt8).toArray⟩) rfl (rk 22 0 L2) ?_
 simp only [p3, p4]
 refine sv 14 (.int .i64 ((most : Int))) ?_
 simp only [p3, p4]
 refine se ?_
 refine ec 15 (r2_check_l (X) most (by omega) (by omega) _) ?_
 rintro e9 w9 ⟨rfl, g9⟩
 refine ⟨_, rfl, ?_⟩
 replace hB := hB.trans g9
 simp only [p3, p4]
 refine sv 6 (.int .i64 (ck2 (X) most)) ?_
 simp only [p3, p4]
 refine sq_nil ?_
 refine k8 _ _ ?_
 try clear k8 K8
 refine wp_seq_k (fun K10 k10 => ?_)
 refine rg [0, 1] ?_
 refine sv 16 (.int .i64 (ck2 (X) most)) ?_
 simp only [p3, p4]
 refine sw 17 (.bool true) rfl (RunV.bool (x := (ck2 (X) most != (0 : Int))) (rvk (by kernel_rfl)) eX) ?_
 simp only [p3, p4]
 refine sq_nil ?_
 refine k10 _ _ ?_
 try clear k10 K10
 refine wp_cond_true rfl ?_
 refine wp_seq_k (fun K11 k11 => ?_)
 refine rg [0, 1] ?_
 refine sv 18 (.int .i64 (ck2 (X) most)) ?_
 simp only [p3, p4]
 refine sv 4 (.int .i64 (ck2 (X) most)) ?_
 simp only [p3, p4]
 refine sq_nil ?_
 refine k11 _ _ ?_
 try clear k11 K11
 refine wp_ret ?_
 simp only [Exit.then, Exit.inBlock]
 refine bodyPost_ret (v := (.int .i64 (ck2 (X) most))) (ret_tmp rfl rfl) rfl ⟨?_, hB⟩
 exact rfl

set_option maxRecDepth 100000 in
set_option maxHeartbeats 1000000 in
theorem r3_check_1 (X Y Z : List UInt8) (_lx : X.length ≤ 500) (_ly : Y.length ≤ 500) (_lz : Z.length ≤ 500) (most : Nat) (_hmost : most ≤ 1000000) (hX : ck2 X most = 0) (hY : ck2 Y most ≠ 0) (w : World) :
    Calls Tryz.prog 15 #[(.agg #[(.string ⟨(X : List UInt8).toArray⟩), (.string ⟨(Y : List UInt8).toArray⟩), (.string ⟨(Z : List UInt8).toArray⟩)]), (.int .i64 ((most : Int)))] w fun e w' => e = .returned (.int .i64 (ck2 Y most)) ∧ Gr w w' := by
 have eX : (ck2 (X) most != (0 : Int)) = false := by rw [hX]; rfl
 have eY : (ck2 (Y) most != (0 : Int)) = true := by simpa using hY
 go_enter Tryz.func15, Tryz.ntmps15
 have hB := Gr.refl w
 refine wp_seq_k (fun K1 k1 => ?_)
 refine rg [0, 1] ?_
 refine se ?_
 refine eb 24 #[(.string ⟨(X : List UInt8).toArray⟩), (.string ⟨(Y : List UInt8).toArray⟩), (.string ⟨(Z : List UInt8).toArray⟩)] 2 hB fun b2 w2 g2 L2 o2 q2 hB => ?_
 simp only [p3, p4]
 refine sv 4 (.int .i64 0) ?_
 simp only [p3, p4]
 refine sq_nil ?_
 refine k1 _ _ ?_
 try clear k1 K1
 refine wp_seq_k (fun K3 k3 => ?_)
 refine wp_seq_k (fun K4 k4 => ?_)
 refine rg [0] ?_
 refine sv 5 (.int .i64 0) ?_
 simp only [p3, p4]
 refine sq_nil ?_
 refine k4 _ _ ?_
 try clear k4 K4
 refine wp_block ?_
 refine wp_loop_rounds 4 ?_
 show Code.wp _ _ _ _ _
 refine wp_seq_k (fun K5 k5 => ?_)
 refine wp_seq_k (fun K6 k6 => ?_)
 refine rg [0, 1] ?_
 refine sv 7 (.int .i64 0) ?_
 simp only [p3, p4]
 refine sv 8 (.bool true) ?_
 simp only [p3, p4]
 refine sq_nil ?_
 refine k6 _ _ ?_
 try clear k6 K6
 refine wp_cond_true rfl ?_
 refine wp_skip ?_
 refine k5 _ _ ?_
 try clear k5 K5
 refine wp_seq_k (fun K7 k7 => ?_)
 refine wp_block ?_
 refine wp_seq_k (fun K8 k8 => ?_)
 refine rg [0, 1, 2, 3, 4, 5] ?_
 refine sv 11 (.int .i64 0) ?_
 simp only [p3, p4]
 refine sv 12 (.pointer (some ⟨b2, 0, none⟩)) ?_
 simp only [p3, p4]
 refine sw 13 (.string ⟨(X : List UInt8).toArray⟩) rfl (rk 22 0 L2) ?_
 simp only [p3, p4]
 refine sv 14 (.int .i64 ((most : Int))) ?_
 simp only [p3, p4]
 refine se ?_
 refine ec 15 (r2_check_l (X) most (by omega) (by omega) _) ?_
 rintro e9 w9 ⟨rfl, g9⟩
 refine ⟨_, rfl, ?_⟩
 replace hB := hB.trans g9
 simp only [p3, p4]
 refine sv 6 (.int .i64 (ck2 (X) most)) ?_
 simp only [p3, p4]
 refine sq_nil ?_
 refine k8 _ _ ?_
 try clear k8 K8
 refine wp_seq_k (fun K10 k10 => ?_)
 refine rg [0, 1] ?_
 refine sv 16 (.int .i64 (ck2 (X) most)) ?_
 simp only [p3, p4]
 refine sw 17 (.bool false) rfl (RunV.bool (x := (ck2 (X) most != (0 : Int))) (rvk (by kernel_rfl)) eX) ?_
 simp only [p3, p4]
 refine sq_nil ?_
 refine k10 _ _ ?_
 try clear k10 K10
 refine wp_cond_false rfl ?_
 refine wp_skip ?_
 refine k7 _ _ ?_
 try clear k7 K7
 refine rg [0, 1, 2] ?_
 refine sv 9 (.int .i64 0) ?_
 simp only [p3, p4]
 refine sv 10 (.int .i64 1) ?_
 simp only [p3, p4]
 refine sv 5 (.int .i64 1) ?_
 simp only [p3, p4]
 refine sq_nil ?_
 show Code.rounds _ _ _ _ _ _
 show Code.wp _ _ _ _ _
 refine wp_seq_k (fun K11 k11 => ?_)
 refine wp_seq_k (fun K12 k12 => ?_)
 refine rg [0, 1] ?_
 refine sv 7 (.int .i64 1) ?_
 simp only [p3, p4]
 refine sv 8 (.bool true) ?_
 simp only [p3, p4]
 refine sq_nil ?_
 refine k12 _ _ ?_
 try clear k12 K12
 refine wp_cond_true rfl ?_
 refine wp_skip ?_
 refine k11 _ _ ?_
 try clear k11 K11
 refine wp_seq_k (fun K13 k13 => ?_)
 refine wp_block ?_
 refine wp_seq_k (fun K14 k14 => ?_)
 refine rg [0, 1, 2, 3, 4, 5] ?_
 refine sv 11 (.int .i64 1) ?_
 simp only [p3, p4]
 refine sv 12 (.pointer (some ⟨b2, 1, none⟩)) ?_
 simp only [p3, p4]
 replace L2 := L2.gr g9
 refine sw 13 (.string ⟨(Y : List UInt8).toArray⟩) rfl (rk 22 1 L2) ?_
 simp only [p3, p4]
 refine sv 14 (.int .i64 ((most : Int))) ?_
 simp only [p3, p4]
 refine se ?_
 refine ec 15 (r2_check_l (Y) most (by omega) (by omega) _) ?_
 rintro e15 w15 ⟨rfl, g15⟩
 refine ⟨_, rfl, ?_⟩
 replace hB := hB.trans g15
 simp only [p3, p4]
 refine sv 6 (.int .i64 (ck2 (Y) most)) ?_
 simp only [p3, p4]
 refine sq_nil ?_
 refine k14 _ _ ?_
 try clear k14 K14
 refine wp_seq_k (fun K16 k16 => ?_)
 refine rg [0, 1] ?_
 refine sv 16 (.int .i64 (ck2 (Y) most)) ?_
 simp only [p3, p4]
 refine sw 17 (.bool true) rfl (RunV.bool (x := (ck2 (Y) most != (0 : Int))) (rvk (by kernel_rfl)) eY) ?_
 simp only [p3, p4]
 refine sq_nil ?_
 refine k16 _ _ ?_
 try clear k16 K16
 refine wp_cond_true rfl ?_
 refine wp_seq_k (fun K17 k17 => ?_)
 refine rg [0, 1] ?_
 refine sv 18 (.int .i64 (ck2 (Y) most)) ?_
 simp only [p3, p4]
 refine sv 4 (.int .i64 (ck2 (Y) most)) ?_
 simp only [p3, p4]
 refine sq_nil ?_
 refine k17 _ _ ?_
 try clear k17 K17
 refine wp_ret ?_
 simp only [Exit.then, Exit.inBlock]
 refine bodyPost_ret (v := (.int .i64 (ck2 (Y) most))) (ret_tmp rfl rfl) rfl ⟨?_, hB⟩
 exact rfl

set_option maxRecDepth 100000 in
set_option maxHeartbeats 1000000 in
theorem r3_check_2 (X Y Z : List UInt8) (_lx : X.length ≤ 500) (_ly : Y.length ≤ 500) (_lz : Z.length ≤ 500) (most : Nat) (_hmost : most ≤ 1000000) (hX : ck2 X most = 0) (hY : ck2 Y most = 0) (hZ : ck2 Z most ≠ 0) (w : World) :
    Calls Tryz.prog 15 #[(.agg #[(.string ⟨(X : List UInt8).toArray⟩), (.string ⟨(Y : List UInt8).toArray⟩), (.string ⟨(Z : List UInt8).toArray⟩)]), (.int .i64 ((most : Int)))] w fun e w' => e = .returned (.int .i64 (ck2 Z most)) ∧ Gr w w' := by
 have eX : (ck2 (X) most != (0 : Int)) = false := by rw [hX]; rfl
 have eY : (ck2 (Y) most != (0 : Int)) = false := by rw [hY]; rfl
 have eZ : (ck2 (Z) most != (0 : Int)) = true := by simpa using hZ
 go_enter Tryz.func15, Tryz.ntmps15
 have hB := Gr.refl w
 refine wp_seq_k (fun K1 k1 => ?_)
 refine rg [0, 1] ?_
 refine se ?_
 refine eb 24 #[(.string ⟨(X : List UInt8).toArray⟩), (.string ⟨(Y : List UInt8).toArray⟩), (.string ⟨(Z : List UInt8).toArray⟩)] 2 hB fun b2 w2 g2 L2 o2 q2 hB => ?_
 simp only [p3, p4]
 refine sv 4 (.int .i64 0) ?_
 simp only [p3, p4]
 refine sq_nil ?_
 refine k1 _ _ ?_
 try clear k1 K1
 refine wp_seq_k (fun K3 k3 => ?_)
 refine wp_seq_k (fun K4 k4 => ?_)
 refine rg [0] ?_
 refine sv 5 (.int .i64 0) ?_
 simp only [p3, p4]
 refine sq_nil ?_
 refine k4 _ _ ?_
 try clear k4 K4
 refine wp_block ?_
 refine wp_loop_rounds 4 ?_
 show Code.wp _ _ _ _ _
 refine wp_seq_k (fun K5 k5 => ?_)
 refine wp_seq_k (fun K6 k6 => ?_)
 refine rg [0, 1] ?_
 refine sv 7 (.int .i64 0) ?_
 simp only [p3, p4]
 refine sv 8 (.bool true) ?_
 simp only [p3, p4]
 refine sq_nil ?_
 refine k6 _ _ ?_
 try clear k6 K6
 refine wp_cond_true rfl ?_
 refine wp_skip ?_
 refine k5 _ _ ?_
 try clear k5 K5
 refine wp_seq_k (fun K7 k7 => ?_)
 refine wp_block ?_
 refine wp_seq_k (fun K8 k8 => ?_)
 refine rg [0, 1, 2, 3, 4, 5] ?_
 refine sv 11 (.int .i64 0) ?_
 simp only [p3, p4]
 refine sv 12 (.pointer (some ⟨b2, 0, none⟩)) ?_
 simp only [p3, p4]
 refine sw 13 (.string ⟨(X : List UInt8).toArray⟩) rfl (rk 22 0 L2) ?_
 simp only [p3, p4]
 refine sv 14 (.int .i64 ((most : Int))) ?_
 simp only [p3, p4]
 refine se ?_
 refine ec 15 (r2_check_l (X) most (by omega) (by omega) _) ?_
 rintro e9 w9 ⟨rfl, g9⟩
 refine ⟨_, rfl, ?_⟩
 replace hB := hB.trans g9
 simp only [p3, p4]
 refine sv 6 (.int .i64 (ck2 (X) most)) ?_
 simp only [p3, p4]
 refine sq_nil ?_
 refine k8 _ _ ?_
 try clear k8 K8
 refine wp_seq_k (fun K10 k10 => ?_)
 refine rg [0, 1] ?_
 refine sv 16 (.int .i64 (ck2 (X) most)) ?_
 simp only [p3, p4]
 refine sw 17 (.bool false) rfl (RunV.bool (x := (ck2 (X) most != (0 : Int))) (rvk (by kernel_rfl)) eX) ?_
 simp only [p3, p4]
 refine sq_nil ?_
 refine k10 _ _ ?_
 try clear k10 K10
 refine wp_cond_false rfl ?_
 refine wp_skip ?_
 refine k7 _ _ ?_
 try clear k7 K7
 refine rg [0, 1, 2] ?_
 refine sv 9 (.int .i64 0) ?_
 simp only [p3, p4]
 refine sv 10 (.int .i64 1) ?_
 simp only [p3, p4]
 refine sv 5 (.int .i64 1) ?_
 simp only [p3, p4]
 refine sq_nil ?_
 show Code.rounds _ _ _ _ _ _
 show Code.wp _ _ _ _ _
 refine wp_seq_k (fun K11 k11 => ?_)
 refine wp_seq_k (fun K12 k12 => ?_)
 refine rg [0, 1] ?_
 refine sv 7 (.int .i64 1) ?_
 simp only [p3, p4]
 refine sv 8 (.bool true) ?_
 simp only [p3, p4]
 refine sq_nil ?_
 refine k12 _ _ ?_
 try clear k12 K12
 refine wp_cond_true rfl ?_
 refine wp_skip ?_
 refine k11 _ _ ?_
 try clear k11 K11
 refine wp_seq_k (fun K13 k13 => ?_)
 refine wp_block ?_
 refine wp_seq_k (fun K14 k14 => ?_)
 refine rg [0, 1, 2, 3, 4, 5] ?_
 refine sv 11 (.int .i64 1) ?_
 simp only [p3, p4]
 refine sv 12 (.pointer (some ⟨b2, 1, none⟩)) ?_
 simp only [p3, p4]
 replace L2 := L2.gr g9
 refine sw 13 (.string ⟨(Y : List UInt8).toArray⟩) rfl (rk 22 1 L2) ?_
 simp only [p3, p4]
 refine sv 14 (.int .i64 ((most : Int))) ?_
 simp only [p3, p4]
 refine se ?_
 refine ec 15 (r2_check_l (Y) most (by omega) (by omega) _) ?_
 rintro e15 w15 ⟨rfl, g15⟩
 refine ⟨_, rfl, ?_⟩
 replace hB := hB.trans g15
 simp only [p3, p4]
 refine sv 6 (.int .i64 (ck2 (Y) most)) ?_
 simp only [p3, p4]
 refine sq_nil ?_
 refine k14 _ _ ?_
 try clear k14 K14
 refine wp_seq_k (fun K16 k16 => ?_)
 refine rg [0, 1] ?_
 refine sv 16 (.int .i64 (ck2 (Y) most)) ?_
 simp only [p3, p4]
 refine sw 17 (.bool false) rfl (RunV.bool (x := (ck2 (Y) most != (0 : Int))) (rvk (by kernel_rfl)) eY) ?_
 simp only [p3, p4]
 refine sq_nil ?_
 refine k16 _ _ ?_
 try clear k16 K16
 refine wp_cond_false rfl ?_
 refine wp_skip ?_
 refine k13 _ _ ?_
 try clear k13 K13
 refine rg [0, 1, 2] ?_
 refine sv 9 (.int .i64 1) ?_
 simp only [p3, p4]
 refine sv 10 (.int .i64 2) ?_
 simp only [p3, p4]
 refine sv 5 (.int .i64 2) ?_
 simp only [p3, p4]
 refine sq_nil ?_
 show Code.rounds _ _ _ _ _ _
 show Code.wp _ _ _ _ _
 refine wp_seq_k (fun K17 k17 => ?_)
 refine wp_seq_k (fun K18 k18 => ?_)
 refine rg [0, 1] ?_
 refine sv 7 (.int .i64 2) ?_
 simp only [p3, p4]
 refine sv 8 (.bool true) ?_
 simp only [p3, p4]
 refine sq_nil ?_
 refine k18 _ _ ?_
 try clear k18 K18
 refine wp_cond_true rfl ?_
 refine wp_skip ?_
 refine k17 _ _ ?_
 try clear k17 K17
 refine wp_seq_k (fun K19 k19 => ?_)
 refine wp_block ?_
 refine wp_seq_k (fun K20 k20 => ?_)
 refine rg [0, 1, 2, 3, 4, 5] ?_
 refine sv 11 (.int .i64 2) ?_
 simp only [p3, p4]
 refine sv 12 (.pointer (some ⟨b2, 2, none⟩)) ?_
 simp only [p3, p4]
 replace L2 := L2.gr g15
 refine sw 13 (.string ⟨(Z : List UInt8).toArray⟩) rfl (rk 22 2 L2) ?_
 simp only [p3, p4]
 refine sv 14 (.int .i64 ((most : Int))) ?_
 simp only [p3, p4]
 refine se ?_
 refine ec 15 (r2_check_l (Z) most (by omega) (by omega) _) ?_
 rintro e21 w21 ⟨rfl, g21⟩
 refine ⟨_, rfl, ?_⟩
 replace hB := hB.trans g21
 simp only [p3, p4]
 refine sv 6 (.int .i64 (ck2 (Z) most)) ?_
 simp only [p3, p4]
 refine sq_nil ?_
 refine k20 _ _ ?_
 try clear k20 K20
 refine wp_seq_k (fun K22 k22 => ?_)
 refine rg [0, 1] ?_
 refine sv 16 (.int .i64 (ck2 (Z) most)) ?_
 simp only [p3, p4]
 refine sw 17 (.bool true) rfl (RunV.bool (x := (ck2 (Z) most != (0 : Int))) (rvk (by kernel_rfl)) eZ) ?_
 simp only [p3, p4]
 refine sq_nil ?_
 refine k22 _ _ ?_
 try clear k22 K22
 refine wp_cond_true rfl ?_
 refine wp_seq_k (fun K23 k23 => ?_)
 refine rg [0, 1] ?_
 refine sv 18 (.int .i64 (ck2 (Z) most)) ?_
 simp only [p3, p4]
 refine sv 4 (.int .i64 (ck2 (Z) most)) ?_
 simp only [p3, p4]
 refine sq_nil ?_
 refine k23 _ _ ?_
 try clear k23 K23
 refine wp_ret ?_
 simp only [Exit.then, Exit.inBlock]
 refine bodyPost_ret (v := (.int .i64 (ck2 (Z) most))) (ret_tmp rfl rfl) rfl ⟨?_, hB⟩
 exact rfl

set_option maxRecDepth 100000 in
set_option maxHeartbeats 1000000 in
theorem r3_check_3 (X Y Z : List UInt8) (_lx : X.length ≤ 500) (_ly : Y.length ≤ 500) (_lz : Z.length ≤ 500) (most : Nat) (_hmost : most ≤ 1000000) (hX : ck2 X most = 0) (hY : ck2 Y most = 0) (hZ : ck2 Z most = 0) (w : World) :
    Calls Tryz.prog 15 #[(.agg #[(.string ⟨(X : List UInt8).toArray⟩), (.string ⟨(Y : List UInt8).toArray⟩), (.string ⟨(Z : List UInt8).toArray⟩)]), (.int .i64 ((most : Int)))] w fun e w' => e = .returned (.int .i64 0) ∧ Gr w w' := by
 have eX : (ck2 (X) most != (0 : Int)) = false := by rw [hX]; rfl
 have eY : (ck2 (Y) most != (0 : Int)) = false := by rw [hY]; rfl
 have eZ : (ck2 (Z) most != (0 : Int)) = false := by rw [hZ]; rfl
 go_enter Tryz.func15, Tryz.ntmps15
 have hB := Gr.refl w
 refine wp_seq_k (fun K1 k1 => ?_)
 refine rg [0, 1] ?_
 refine se ?_
 refine eb 24 #[(.string ⟨(X : List UInt8).toArray⟩), (.string ⟨(Y : List UInt8).toArray⟩), (.string ⟨(Z : List UInt8).toArray⟩)] 2 hB fun b2 w2 g2 L2 o2 q2 hB => ?_
 simp only [p3, p4]
 refine sv 4 (.int .i64 0) ?_
 simp only [p3, p4]
 refine sq_nil ?_
 refine k1 _ _ ?_
 try clear k1 K1
 refine wp_seq_k (fun K3 k3 => ?_)
 refine wp_seq_k (fun K4 k4 => ?_)
 refine rg [0] ?_
 refine sv 5 (.int .i64 0) ?_
 simp only [p3, p4]
 refine sq_nil ?_
 refine k4 _ _ ?_
 try clear k4 K4
 refine wp_block ?_
 refine wp_loop_rounds 4 ?_
 show Code.wp _ _ _ _ _
 refine wp_seq_k (fun K5 k5 => ?_)
 refine wp_seq_k (fun K6 k6 => ?_)
 refine rg [0, 1] ?_
 refine sv 7 (.int .i64 0) ?_
 simp only [p3, p4]
 refine sv 8 (.bool true) ?_
 simp only [p3, p4]
 refine sq_nil ?_
 refine k6 _ _ ?_
 try clear k6 K6
 refine wp_cond_true rfl ?_
 refine wp_skip ?_
 refine k5 _ _ ?_
 try clear k5 K5
 refine wp_seq_k (fun K7 k7 => ?_)
 refine wp_block ?_
 refine wp_seq_k (fun K8 k8 => ?_)
 refine rg [0, 1, 2, 3, 4, 5] ?_
 refine sv 11 (.int .i64 0) ?_
 simp only [p3, p4]
 refine sv 12 (.pointer (some ⟨b2, 0, none⟩)) ?_
 simp only [p3, p4]
 refine sw 13 (.string ⟨(X : List UInt8).toArray⟩) rfl (rk 22 0 L2) ?_
 simp only [p3, p4]
 refine sv 14 (.int .i64 ((most : Int))) ?_
 simp only [p3, p4]
 refine se ?_
 refine ec 15 (r2_check_l (X) most (by omega) (by omega) _) ?_
 rintro e9 w9 ⟨rfl, g9⟩
 refine ⟨_, rfl, ?_⟩
 replace hB := hB.trans g9
 simp only [p3, p4]
 refine sv 6 (.int .i64 (ck2 (X) most)) ?_
 simp only [p3, p4]
 refine sq_nil ?_
 refine k8 _ _ ?_
 try clear k8 K8
 refine wp_seq_k (fun K10 k10 => ?_)
 refine rg [0, 1] ?_
 refine sv 16 (.int .i64 (ck2 (X) most)) ?_
 simp only [p3, p4]
 refine sw 17 (.bool false) rfl (RunV.bool (x := (ck2 (X) most != (0 : Int))) (rvk (by kernel_rfl)) eX) ?_
 simp only [p3, p4]
 refine sq_nil ?_
 refine k10 _ _ ?_
 try clear k10 K10
 refine wp_cond_false rfl ?_
 refine wp_skip ?_
 refine k7 _ _ ?_
 try clear k7 K7
 refine rg [0, 1, 2] ?_
 refine sv 9 (.int .i64 0) ?_
 simp only [p3, p4]
 refine sv 10 (.int .i64 1) ?_
 simp only [p3, p4]
 refine sv 5 (.int .i64 1) ?_
 simp only [p3, p4]
 refine sq_nil ?_
 show Code.rounds _ _ _ _ _ _
 show Code.wp _ _ _ _ _
 refine wp_seq_k (fun K11 k11 => ?_)
 refine wp_seq_k (fun K12 k12 => ?_)
 refine rg [0, 1] ?_
 refine sv 7 (.int .i64 1) ?_
 simp only [p3, p4]
 refine sv 8 (.bool true) ?_
 simp only [p3, p4]
 refine sq_nil ?_
 refine k12 _ _ ?_
 try clear k12 K12
 refine wp_cond_true rfl ?_
 refine wp_skip ?_
 refine k11 _ _ ?_
 try clear k11 K11
 refine wp_seq_k (fun K13 k13 => ?_)
 refine wp_block ?_
 refine wp_seq_k (fun K14 k14 => ?_)
 refine rg [0, 1, 2, 3, 4, 5] ?_
 refine sv 11 (.int .i64 1) ?_
 simp only [p3, p4]
 refine sv 12 (.pointer (some ⟨b2, 1, none⟩)) ?_
 simp only [p3, p4]
 replace L2 := L2.gr g9
 refine sw 13 (.string ⟨(Y : List UInt8).toArray⟩) rfl (rk 22 1 L2) ?_
 simp only [p3, p4]
 refine sv 14 (.int .i64 ((most : Int))) ?_
 simp only [p3, p4]
 refine se ?_
 refine ec 15 (r2_check_l (Y) most (by omega) (by omega) _) ?_
 rintro e15 w15 ⟨rfl, g15⟩
 refine ⟨_, rfl, ?_⟩
 replace hB := hB.trans g15
 simp only [p3, p4]
 refine sv 6 (.int .i64 (ck2 (Y) most)) ?_
 simp only [p3, p4]
 refine sq_nil ?_
 refine k14 _ _ ?_
 try clear k14 K14
 refine wp_seq_k (fun K16 k16 => ?_)
 refine rg [0, 1] ?_
 refine sv 16 (.int .i64 (ck2 (Y) most)) ?_
 simp only [p3, p4]
 refine sw 17 (.bool false) rfl (RunV.bool (x := (ck2 (Y) most != (0 : Int))) (rvk (by kernel_rfl)) eY) ?_
 simp only [p3, p4]
 refine sq_nil ?_
 refine k16 _ _ ?_
 try clear k16 K16
 refine wp_cond_false rfl ?_
 refine wp_skip ?_
 refine k13 _ _ ?_
 try clear k13 K13
 refine rg [0, 1, 2] ?_
 refine sv 9 (.int .i64 1) ?_
 simp only [p3, p4]
 refine sv 10 (.int .i64 2) ?_
 simp only [p3, p4]
 refine sv 5 (.int .i64 2) ?_
 simp only [p3, p4]
 refine sq_nil ?_
 show Code.rounds _ _ _ _ _ _
 show Code.wp _ _ _ _ _
 refine wp_seq_k (fun K17 k17 => ?_)
 refine wp_seq_k (fun K18 k18 => ?_)
 refine rg [0, 1] ?_
 refine sv 7 (.int .i64 2) ?_
 simp only [p3, p4]
 refine sv 8 (.bool true) ?_
 simp only [p3, p4]
 refine sq_nil ?_
 refine k18 _ _ ?_
 try clear k18 K18
 refine wp_cond_true rfl ?_
 refine wp_skip ?_
 refine k17 _ _ ?_
 try clear k17 K17
 refine wp_seq_k (fun K19 k19 => ?_)
 refine wp_block ?_
 refine wp_seq_k (fun K20 k20 => ?_)
 refine rg [0, 1, 2, 3, 4, 5] ?_
 refine sv 11 (.int .i64 2) ?_
 simp only [p3, p4]
 refine sv 12 (.pointer (some ⟨b2, 2, none⟩)) ?_
 simp only [p3, p4]
 replace L2 := L2.gr g15
 refine sw 13 (.string ⟨(Z : List UInt8).toArray⟩) rfl (rk 22 2 L2) ?_
 simp only [p3, p4]
 refine sv 14 (.int .i64 ((most : Int))) ?_
 simp only [p3, p4]
 refine se ?_
 refine ec 15 (r2_check_l (Z) most (by omega) (by omega) _) ?_
 rintro e21 w21 ⟨rfl, g21⟩
 refine ⟨_, rfl, ?_⟩
 replace hB := hB.trans g21
 simp only [p3, p4]
 refine sv 6 (.int .i64 (ck2 (Z) most)) ?_
 simp only [p3, p4]
 refine sq_nil ?_
 refine k20 _ _ ?_
 try clear k20 K20
 refine wp_seq_k (fun K22 k22 => ?_)
 refine rg [0, 1] ?_
 refine sv 16 (.int .i64 (ck2 (Z) most)) ?_
 simp only [p3, p4]
 refine sw 17 (.bool false) rfl (RunV.bool (x := (ck2 (Z) most != (0 : Int))) (rvk (by kernel_rfl)) eZ) ?_
 simp only [p3, p4]
 refine sq_nil ?_
 refine k22 _ _ ?_
 try clear k22 K22
 refine wp_cond_false rfl ?_
 refine wp_skip ?_
 refine k19 _ _ ?_
 try clear k19 K19
 refine rg [0, 1, 2] ?_
 refine sv 9 (.int .i64 2) ?_
 simp only [p3, p4]
 refine sv 10 (.int .i64 3) ?_
 simp only [p3, p4]
 refine sv 5 (.int .i64 3) ?_
 simp only [p3, p4]
 refine sq_nil ?_
 show Code.rounds _ _ _ _ _ _
 show Code.wp _ _ _ _ _
 refine wp_seq_k (fun K23 k23 => ?_)
 refine wp_seq_k (fun K24 k24 => ?_)
 refine rg [0, 1] ?_
 refine sv 7 (.int .i64 3) ?_
 simp only [p3, p4]
 refine sv 8 (.bool false) ?_
 simp only [p3, p4]
 refine sq_nil ?_
 refine k24 _ _ ?_
 try clear k24 K24
 refine wp_cond_false rfl ?_
 refine wp_exit ?_
 simp only [Exit.then, Exit.inBlock, ↓reduceIte]
 refine k3 _ _ ?_
 try clear k3 K3
 refine wp_seq_k (fun K25 k25 => ?_)
 refine rg [0] ?_
 refine sv 4 (.int .i64 0) ?_
 simp only [p3, p4]
 refine sq_nil ?_
 refine k25 _ _ ?_
 try clear k25 K25
 refine wp_ret ?_
 refine bodyPost_ret (v := (.int .i64 0)) (ret_tmp rfl rfl) rfl ⟨?_, hB⟩
 exact rfl

theorem r3_check (X Y Z : List UInt8) (lx : X.length ≤ 500) (ly : Y.length ≤ 500) (lz : Z.length ≤ 500) (most : Nat) (hmost : most ≤ 1000000) (w : World) :
    Calls Tryz.prog 15 #[(.agg #[(.string ⟨(X : List UInt8).toArray⟩), (.string ⟨(Y : List UInt8).toArray⟩), (.string ⟨(Z : List UInt8).toArray⟩)]), .int .i64 (most : Int)] w fun e w' => e = .returned (.int .i64 (first3 (ck2 X most) (ck2 Y most) (ck2 Z most))) ∧ Gr w w' := by
  unfold first3
  by_cases hX : ck2 X most = 0
  · rw [if_pos hX]
    by_cases hY : ck2 Y most = 0
    · rw [if_pos hY]
      by_cases hZ : ck2 Z most = 0
      · rw [hZ]; exact r3_check_3 X Y Z lx ly lz most hmost hX hY hZ w
      · exact r3_check_2 X Y Z lx ly lz most hmost hX hY hZ w
    · rw [if_neg hY]; exact r3_check_1 X Y Z lx ly lz most hmost hX hY w
  · rw [if_neg hX]; exact r3_check_0 X Y Z lx ly lz most hmost hX w

set_option maxRecDepth 100000 in
set_option maxHeartbeats 4000000 in
theorem vparse_b0 (X : List UInt8) (Y : List UInt8) (Z : List UInt8) (_lx : X.length ≤ 500) (hX : ck2 X 400 ≠ 0) (w : World) (hm : Mx w) :
    Calls Tryz.prog 59 #[(.agg #[(.string ⟨(X : List UInt8).toArray⟩), (.string ⟨(Y : List UInt8).toArray⟩), (.string ⟨(Z : List UInt8).toArray⟩)]), (.func (.func 60) #[] #[])] w fun e w' => e = .returned (.tuple #[.agg #[.bool false, .slice none 0 0, .bool false, .slice none 0 0, .bool false, .slice none 0 0, .bool false, .slice none 0 0, .bool false, .slice none 0 0, .bool false, .slice none 0 0], .int .i64 (ck2 X 400)]) ∧ Gr w w' := by
 have hz : (ck2 X 400 != (0 : Int)) = true := by simpa using hX
 go_enter Tryz.func59, Tryz.ntmps59
 have hB := Gr.refl w
 refine wp_seq_k (fun K1 k1 => ?_)
 refine rg [0, 1, 2] ?_
 refine se ?_
 refine eb 24 #[(.string ⟨(X : List UInt8).toArray⟩), (.string ⟨(Y : List UInt8).toArray⟩), (.string ⟨(Z : List UInt8).toArray⟩)] 2 hB fun b2 w2 g2 L2 o2 q2 hB => ?_
 simp only [p3, p4]
 refine se ?_
 refine ea 32 #[(.bool false), (.slice none 0 0), (.bool false), (.slice none 0 0), (.bool false), (.slice none 0 0), (.bool false), (.slice none 0 0), (.bool false), (.slice none 0 0), (.bool false), (.slice none 0 0)] 4 hB fun b3 w3 g3 L3 o3 q3 hB => ?_
 simp only [p3, p4]
 refine sv 5 (.int .i64 0) ?_
 simp only [p3, p4]
 refine sq_nil ?_
 refine k1 _ _ ?_
 try clear k1 K1
 refine wp_seq_k (fun K4 k4 => ?_)
 refine rg [0] ?_
 refine se ?_
 refine ea 32 #[(.bool false), (.slice none 0 0), (.bool false), (.slice none 0 0), (.bool false), (.slice none 0 0), (.bool false), (.slice none 0 0), (.bool false), (.slice none 0 0), (.bool false), (.slice none 0 0)] 6 hB fun b5 w5 g5 L5 o5 q5 hB => ?_
 replace L2 := L2.gr g3
 simp only [p3, p4]
 refine sq_nil ?_
 refine k4 _ _ ?_
 try clear k4 K4
 refine wp_seq_k (fun K6 k6 => ?_)
 refine wp_seq_k (fun K7 k7 => ?_)
 refine rg [0, 1] ?_
 replace L2 := L2.gr g5
 refine sw 11 (.agg #[(.string ⟨(X : List UInt8).toArray⟩), (.string ⟨(Y : List UInt8).toArray⟩), (.string ⟨(Z : List UInt8).toArray⟩)]) rfl (rl 24 0 [(.string ⟨(X : List UInt8).toArray⟩), (.string ⟨(Y : List UInt8).toArray⟩), (.string ⟨(Z : List UInt8).toArray⟩)] L2) ?_
 simp only [p3, p4]
 refine sv 12 (.int .i64 0) ?_
 simp only [p3, p4]
 refine sq_nil ?_
 refine k7 _ _ ?_
 try clear k7 K7
 refine wp_block ?_
 refine wp_loop_rounds 4 ?_
 show Code.wp _ _ _ _ _
 refine wp_seq_k (fun K8 k8 => ?_)
 refine rg [0] ?_
 refine sv 13 (.bool true) ?_
 simp only [p3, p4]
 refine sq_nil ?_
 refine k8 _ _ ?_
 try clear k8 K8
 refine wp_seq_k (fun K9 k9 => ?_)
 refine wp_cond_true rfl ?_
 refine wp_skip ?_
 refine k9 _ _ ?_
 try clear k9 K9
 refine wp_seq_k (fun K10 k10 => ?_)
 refine wp_block ?_
 refine wp_seq_k (fun K11 k11 => ?_)
 refine rg [0, 1, 2, 3] ?_
 refine sv 14 (.int .i64 0) ?_
 simp only [p3, p4]
 refine sv 15 (.string ⟨(X : List UInt8).toArray⟩) ?_
 simp only [p3, p4]
 refine sv 7 (.int .i64 0) ?_
 simp only [p3, p4]
 refine sv 8 (.string ⟨(X : List UInt8).toArray⟩) ?_
 simp only [p3, p4]
 refine sq_nil ?_
 refine k11 _ _ ?_
 try clear k11 K11
 refine wp_seq_k (fun K12 k12 => ?_)
 refine rg [0, 1, 2, 3, 4, 5, 6, 7, 8] ?_
 refine sv 17 (.func (.func 60) #[] #[]) ?_
 simp only [p3, p4]
 refine sv 18 (.string ⟨(X : List UInt8).toArray⟩) ?_
 simp only [p3, p4]
 refine se ?_
 refine ec 19 (rparse_bad X (by omega) hX _ (hm.gr hB)) ?_
 rintro e13 w13 ⟨rfl, g13⟩
 refine ⟨_, rfl, ?_⟩
 replace hB := hB.trans g13
 simp only [p3, p4]
 refine sv 16 (.tuple #[(.agg #[(.bool false), (.slice none 0 0), (.bool false), (.slice none 0 0)]), (.int .i64 (ck2 X 400))]) ?_
 simp only [p3, p4]
 refine sv 20 (.agg #[(.bool false), (.slice none 0 0), (.bool false), (.slice none 0 0)]) ?_
 simp only [p3, p4]
 refine sv 21 (.int .i64 (ck2 X 400)) ?_
 simp only [p3, p4]
 refine se ?_
 refine ea 30 #[(.bool false), (.slice none 0 0), (.bool false), (.slice none 0 0)] 9 hB fun b14 w14 g14 L14 o14 q14 hB => ?_
 replace L3 := L3.gr (g5.trans g13)
 have ne3_14 := L3.ne o14
 simp only [p3, p4]
 refine se ?_
 refine es 30 0 (.agg #[(.bool false), (.slice none 0 0), (.bool false), (.slice none 0 0)]) [(.bool false), (.slice none 0 0), (.bool false), (.slice none 0 0)] #[(.bool false), (.slice none 0 0), (.bool false), (.slice none 0 0)] L14 hB q14 ⟨rfl, rfl, rfl, rfl, trivial⟩ fun w15 st15 kp15 L14 hB => ?_
 refine sv 10 (.int .i64 (ck2 X 400)) ?_
 simp only [p3, p4]
 refine sq_nil ?_
 refine k12 _ _ ?_
 try clear k12 K12
 refine wp_seq_k (fun K16 k16 => ?_)
 refine wp_seq_k (fun K17 k17 => ?_)
 refine rg [0, 1] ?_
 refine sv 22 (.int .i64 (ck2 X 400)) ?_
 simp only [p3, p4]
 refine sw 23 (.bool true) rfl (RunV.bool (x := (ck2 X 400 != (0 : Int))) (rvk (by kernel_rfl)) hz) ?_
 simp only [p3, p4]
 refine sq_nil ?_
 refine k17 _ _ ?_
 try clear k17 K17
 refine wp_cond_true rfl ?_
 refine wp_seq_k (fun K18 k18 => ?_)
 refine rg [0, 1, 2, 3] ?_
 refine sv 24 (.agg #[(.bool false), (.slice none 0 0), (.bool false), (.slice none 0 0), (.bool false), (.slice none 0 0), (.bool false), (.slice none 0 0), (.bool false), (.slice none 0 0), (.bool false), (.slice none 0 0)]) ?_
 simp only [p3, p4]
 refine sv 25 (.int .i64 (ck2 X 400)) ?_
 simp only [p3, p4]
 refine se ?_
 replace L3 := st15.lc (L3.gr g14) ne3_14
 refine es 32 0 (.agg #[(.bool false), (.slice none 0 0), (.bool false), (.slice none 0 0), (.bool false), (.slice none 0 0), (.bool false), (.slice none 0 0), (.bool false), (.slice none 0 0), (.bool false), (.slice none 0 0)]) [(.bool false), (.slice none 0 0), (.bool false), (.slice none 0 0), (.bool false), (.slice none 0 0), (.bool false), (.slice none 0 0), (.bool false), (.slice none 0 0), (.bool false), (.slice none 0 0)] #[(.bool false), (.slice none 0 0), (.bool false), (.slice none 0 0), (.bool false), (.slice none 0 0), (.bool false), (.slice none 0 0), (.bool false), (.slice none 0 0), (.bool false), (.slice none 0 0)] L3 hB q3 ⟨rfl, rfl, rfl, rfl, rfl, rfl, rfl, rfl, rfl, rfl, rfl, rfl, trivial⟩ fun w19 st19 kp19 L3 hB => ?_
 refine sv 5 (.int .i64 (ck2 X 400)) ?_
 simp only [p3, p4]
 refine sq_nil ?_
 refine k18 _ _ ?_
 try clear k18 K18
 refine wp_ret ?_
 simp only [Exit.then, Exit.inBlock]
 refine bodyPost_ret (v := (.tuple #[(.agg #[(.bool false), (.slice none 0 0), (.bool false), (.slice none 0 0), (.bool false), (.slice none 0 0), (.bool false), (.slice none 0 0), (.bool false), (.slice none 0 0), (.bool false), (.slice none 0 0)]), (.int .i64 (ck2 X 400))])) (ret_cell_tmp' _ _ _ rfl rfl L3 (by kernel_rfl) rfl) rfl ⟨?_, hB⟩
 exact rfl

set_option maxRecDepth 100000 in
set_option maxHeartbeats 4000000 in
theorem vparse_b1 (a1 : Rat) (ha1 : RS 2000 a1) (la1 : ((ratL a1).length : Int) ≤ 400) (Y : List UInt8) (Z : List UInt8) (_lx : Y.length ≤ 500) (hY : ck2 Y 400 ≠ 0) (w : World) (hm : Mx w) :
    Calls Tryz.prog 59 #[(.agg #[(.string ⟨(ratL (a1) : List UInt8).toArray⟩), (.string ⟨(Y : List UInt8).toArray⟩), (.string ⟨(Z : List UInt8).toArray⟩)]), (.func (.func 60) #[] #[])] w fun e w' => e = .returned (.tuple #[.agg #[.bool false, .slice none 0 0, .bool false, .slice none 0 0, .bool false, .slice none 0 0, .bool false, .slice none 0 0, .bool false, .slice none 0 0, .bool false, .slice none 0 0], .int .i64 (ck2 Y 400)]) ∧ Gr w w' := by
 have hz : (ck2 Y 400 != (0 : Int)) = true := by simpa using hY
 go_enter Tryz.func59, Tryz.ntmps59
 have hB := Gr.refl w
 refine wp_seq_k (fun K1 k1 => ?_)
 refine rg [0, 1, 2] ?_
 refine se ?_
 refine eb 24 #[(.string ⟨(ratL (a1) : List UInt8).toArray⟩), (.string ⟨(Y : List UInt8).toArray⟩), (.string ⟨(Z : List UInt8).toArray⟩)] 2 hB fun b2 w2 g2 L2 o2 q2 hB => ?_
 simp only [p3, p4]
 refine se ?_
 refine ea 32 #[(.bool false), (.slice none 0 0), (.bool false), (.slice none 0 0), (.bool false), (.slice none 0 0), (.bool false), (.slice none 0 0), (.bool false), (.slice none 0 0), (.bool false), (.slice none 0 0)] 4 hB fun b3 w3 g3 L3 o3 q3 hB => ?_
 simp only [p3, p4]
 refine sv 5 (.int .i64 0) ?_
 simp only [p3, p4]
 refine sq_nil ?_
 refine k1 _ _ ?_
 try clear k1 K1
 refine wp_seq_k (fun K4 k4 => ?_)
 refine rg [0] ?_
 refine se ?_
 refine ea 32 #[(.bool false), (.slice none 0 0), (.bool false), (.slice none 0 0), (.bool false), (.slice none 0 0), (.bool false), (.slice none 0 0), (.bool false), (.slice none 0 0), (.bool false), (.slice none 0 0)] 6 hB fun b5 w5 g5 L5 o5 q5 hB => ?_
 replace L2 := L2.gr g3
 have ne3_5 := L3.ne o5
 simp only [p3, p4]
 refine sq_nil ?_
 refine k4 _ _ ?_
 try clear k4 K4
 refine wp_seq_k (fun K6 k6 => ?_)
 refine wp_seq_k (fun K7 k7 => ?_)
 refine rg [0, 1] ?_
 replace L2 := L2.gr g5
 refine sw 11 (.agg #[(.string ⟨(ratL (a1) : List UInt8).toArray⟩), (.string ⟨(Y : List UInt8).toArray⟩), (.string ⟨(Z : List UInt8).toArray⟩)]) rfl (rl 24 0 [(.string ⟨(ratL (a1) : List UInt8).toArray⟩), (.string ⟨(Y : List UInt8).toArray⟩), (.string ⟨(Z : List UInt8).toArray⟩)] L2) ?_
 simp only [p3, p4]
 refine sv 12 (.int .i64 0) ?_
 simp only [p3, p4]
 refine sq_nil ?_
 refine k7 _ _ ?_
 try clear k7 K7
 refine wp_block ?_
 refine wp_loop_rounds 4 ?_
 show Code.wp _ _ _ _ _
 refine wp_seq_k (fun K8 k8 => ?_)
 refine rg [0] ?_
 refine sv 13 (.bool true) ?_
 simp only [p3, p4]
 refine sq_nil ?_
 refine k8 _ _ ?_
 try clear k8 K8
 refine wp_seq_k (fun K9 k9 => ?_)
 refine wp_cond_true rfl ?_
 refine wp_skip ?_
 refine k9 _ _ ?_
 try clear k9 K9
 refine wp_seq_k (fun K10 k10 => ?_)
 refine wp_block ?_
 refine wp_seq_k (fun K11 k11 => ?_)
 refine rg [0, 1, 2, 3] ?_
 refine sv 14 (.int .i64 0) ?_
 simp only [p3, p4]
 refine sv 15 (.string ⟨(ratL (a1) : List UInt8).toArray⟩) ?_
 simp only [p3, p4]
 refine sv 7 (.int .i64 0) ?_
 simp only [p3, p4]
 refine sv 8 (.string ⟨(ratL (a1) : List UInt8).toArray⟩) ?_
 simp only [p3, p4]
 refine sq_nil ?_
 refine k11 _ _ ?_
 try clear k11 K11
 refine wp_seq_k (fun K12 k12 => ?_)
 refine rg [0, 1, 2, 3, 4, 5, 6, 7, 8] ?_
 refine sv 17 (.func (.func 60) #[] #[]) ?_
 simp only [p3, p4]
 refine sv 18 (.string ⟨(ratL (a1) : List UInt8).toArray⟩) ?_
 simp only [p3, p4]
 refine se ?_
 refine ec 19 (parse_q (a1) ha1 (by omega) (by omega) la1 _ (hm.gr hB)) ?_
 rintro e13 w13 ⟨⟨cc13_0, cc13_1, cc13_2, cc13_3, rfl, h13⟩, g13⟩
 refine ⟨_, rfl, ?_⟩
 replace hB := hB.trans g13
 simp only [p3, p4]
 refine sv 16 (.tuple #[(.agg #[cc13_0, cc13_1, cc13_2, cc13_3]), (.int .i64 0)]) ?_
 simp only [p3, p4]
 refine sv 20 (.agg #[cc13_0, cc13_1, cc13_2, cc13_3]) ?_
 simp only [p3, p4]
 refine sv 21 (.int .i64 0) ?_
 simp only [p3, p4]
 refine se ?_
 refine ea 30 #[(.bool false), (.slice none 0 0), (.bool false), (.slice none 0 0)] 9 hB fun b14 w14 g14 L14 o14 q14 hB => ?_
 replace L3 := L3.gr (g5.trans g13)
 have ne3_14 := L3.ne o14
 replace L5 := L5.gr g13
 have ne5_14 := L5.ne o14
 simp only [p3, p4]
 refine se ?_
 refine es 30 0 (.agg #[cc13_0, cc13_1, cc13_2, cc13_3]) [cc13_0, cc13_1, cc13_2, cc13_3] #[cc13_0, cc13_1, cc13_2, cc13_3] L14 hB q14 ⟨h13.one0, h13.one1, h13.one2, h13.one3, trivial⟩ fun w15 st15 kp15 L14 hB => ?_
 refine sv 10 (.int .i64 0) ?_
 simp only [p3, p4]
 refine sq_nil ?_
 refine k12 _ _ ?_
 try clear k12 K12
 refine wp_seq_k (fun K16 k16 => ?_)
 refine wp_seq_k (fun K17 k17 => ?_)
 refine rg [0, 1] ?_
 refine sv 22 (.int .i64 0) ?_
 simp only [p3, p4]
 refine sv 23 (.bool false) ?_
 simp only [p3, p4]
 refine sq_nil ?_
 refine k17 _ _ ?_
 try clear k17 K17
 refine wp_cond_false rfl ?_
 refine wp_skip ?_
 refine k16 _ _ ?_
 try clear k16 K16
 refine rg [0, 1, 2, 3] ?_
 refine sv 26 (.int .i64 0) ?_
 simp only [p3, p4]
 refine sw 27 (.agg #[cc13_0, cc13_1, cc13_2, cc13_3]) rfl (rl 30 0 [cc13_0, cc13_1, cc13_2, cc13_3] L14) ?_
 simp only [p3, p4]
 refine sv 28 (.pointer (some ⟨b5, 0, none⟩)) ?_
 simp only [p3, p4]
 refine se ?_
 replace L5 := st15.lc (L5.gr g14) ne5_14
 refine es 30 0 (.agg #[cc13_0, cc13_1, cc13_2, cc13_3]) [cc13_0, cc13_1, cc13_2, cc13_3] #[cc13_0, cc13_1, cc13_2, cc13_3, (.bool false), (.slice none 0 0), (.bool false), (.slice none 0 0), (.bool false), (.slice none 0 0), (.bool false), (.slice none 0 0)] L5 hB q5 ⟨h13.one0, h13.one1, h13.one2, h13.one3, trivial⟩ fun w18 st18 kp18 L5 hB => ?_
 refine sq_nil ?_
 refine k10 _ _ ?_
 try clear k10 K10
 refine rg [0, 1] ?_
 refine sv 29 (.int .i64 1) ?_
 simp only [p3, p4]
 refine sv 12 (.int .i64 1) ?_
 simp only [p3, p4]
 refine sq_nil ?_
 show Code.rounds _ _ _ _ _ _
 show Code.wp _ _ _ _ _
 refine wp_seq_k (fun K19 k19 => ?_)
 refine rg [0] ?_
 refine sv 13 (.bool true) ?_
 simp only [p3, p4]
 refine sq_nil ?_
 refine k19 _ _ ?_
 try clear k19 K19
 refine wp_seq_k (fun K20 k20 => ?_)
 refine wp_cond_true rfl ?_
 refine wp_skip ?_
 refine k20 _ _ ?_
 try clear k20 K20
 refine wp_seq_k (fun K21 k21 => ?_)
 refine wp_block ?_
 refine wp_seq_k (fun K22 k22 => ?_)
 refine rg [0, 1, 2, 3] ?_
 refine sv 14 (.int .i64 1) ?_
 simp only [p3, p4]
 refine sv 15 (.string ⟨(Y : List UInt8).toArray⟩) ?_
 simp only [p3, p4]
 refine sv 7 (.int .i64 1) ?_
 simp only [p3, p4]
 refine sv 8 (.string ⟨(Y : List UInt8).toArray⟩) ?_
 simp only [p3, p4]
 refine sq_nil ?_
 refine k22 _ _ ?_
 try clear k22 K22
 refine wp_seq_k (fun K23 k23 => ?_)
 refine rg [0, 1, 2, 3, 4, 5, 6, 7, 8] ?_
 refine sv 17 (.func (.func 60) #[] #[]) ?_
 simp only [p3, p4]
 refine sv 18 (.string ⟨(Y : List UInt8).toArray⟩) ?_
 simp only [p3, p4]
 refine se ?_
 refine ec 19 (rparse_bad Y (by omega) hY _ (hm.gr hB)) ?_
 rintro e24 w24 ⟨rfl, g24⟩
 refine ⟨_, rfl, ?_⟩
 replace hB := hB.trans g24
 simp only [p3, p4]
 refine sv 16 (.tuple #[(.agg #[(.bool false), (.slice none 0 0), (.bool false), (.slice none 0 0)]), (.int .i64 (ck2 Y 400))]) ?_
 simp only [p3, p4]
 refine sv 20 (.agg #[(.bool false), (.slice none 0 0), (.bool false), (.slice none 0 0)]) ?_
 simp only [p3, p4]
 refine sv 21 (.int .i64 (ck2 Y 400)) ?_
 simp only [p3, p4]
 refine se ?_
 refine ea 30 #[(.bool false), (.slice none 0 0), (.bool false), (.slice none 0 0)] 9 hB fun b25 w25 g25 L25 o25 q25 hB => ?_
 replace L3 := (st18.lc (st15.lc (L3.gr g14) ne3_14) ne3_5).gr g24
 have ne3_25 := L3.ne o25
 simp only [p3, p4]
 refine se ?_
 refine es 30 0 (.agg #[(.bool false), (.slice none 0 0), (.bool false), (.slice none 0 0)]) [(.bool false), (.slice none 0 0), (.bool false), (.slice none 0 0)] #[(.bool false), (.slice none 0 0), (.bool false), (.slice none 0 0)] L25 hB q25 ⟨rfl, rfl, rfl, rfl, trivial⟩ fun w26 st26 kp26 L25 hB => ?_
 refine sv 10 (.int .i64 (ck2 Y 400)) ?_
 simp only [p3, p4]
 refine sq_nil ?_
 refine k23 _ _ ?_
 try clear k23 K23
 refine wp_seq_k (fun K27 k27 => ?_)
 refine wp_seq_k (fun K28 k28 => ?_)
 refine rg [0, 1] ?_
 refine sv 22 (.int .i64 (ck2 Y 400)) ?_
 simp only [p3, p4]
 refine sw 23 (.bool true) rfl (RunV.bool (x := (ck2 Y 400 != (0 : Int))) (rvk (by kernel_rfl)) hz) ?_
 simp only [p3, p4]
 refine sq_nil ?_
 refine k28 _ _ ?_
 try clear k28 K28
 refine wp_cond_true rfl ?_
 refine wp_seq_k (fun K29 k29 => ?_)
 refine rg [0, 1, 2, 3] ?_
 refine sv 24 (.agg #[(.bool false), (.slice none 0 0), (.bool false), (.slice none 0 0), (.bool false), (.slice none 0 0), (.bool false), (.slice none 0 0), (.bool false), (.slice none 0 0), (.bool false), (.slice none 0 0)]) ?_
 simp only [p3, p4]
 refine sv 25 (.int .i64 (ck2 Y 400)) ?_
 simp only [p3, p4]
 refine se ?_
 replace L3 := st26.lc (L3.gr g25) ne3_25
 refine es 32 0 (.agg #[(.bool false), (.slice none 0 0), (.bool false), (.slice none 0 0), (.bool false), (.slice none 0 0), (.bool false), (.slice none 0 0), (.bool false), (.slice none 0 0), (.bool false), (.slice none 0 0)]) [(.bool false), (.slice none 0 0), (.bool false), (.slice none 0 0), (.bool false), (.slice none 0 0), (.bool false), (.slice none 0 0), (.bool false), (.slice none 0 0), (.bool false), (.slice none 0 0)] #[(.bool false), (.slice none 0 0), (.bool false), (.slice none 0 0), (.bool false), (.slice none 0 0), (.bool false), (.slice none 0 0), (.bool false), (.slice none 0 0), (.bool false), (.slice none 0 0)] L3 hB q3 ⟨rfl, rfl, rfl, rfl, rfl, rfl, rfl, rfl, rfl, rfl, rfl, rfl, trivial⟩ fun w30 st30 kp30 L3 hB => ?_
 refine sv 5 (.int .i64 (ck2 Y 400)) ?_
 simp only [p3, p4]
 refine sq_nil ?_
 refine k29 _ _ ?_
 try clear k29 K29
 refine wp_ret ?_
 simp only [Exit.then, Exit.inBlock]
 refine bodyPost_ret (v := (.tuple #[(.agg #[(.bool false), (.slice none 0 0), (.bool false), (.slice none 0 0), (.bool false), (.slice none 0 0), (.bool false), (.slice none 0 0), (.bool false), (.slice none 0 0), (.bool false), (.slice none 0 0)]), (.int .i64 (ck2 Y 400))])) (ret_cell_tmp' _ _ _ rfl rfl L3 (by kernel_rfl) rfl) rfl ⟨?_, hB⟩
 exact rfl

set_option maxRecDepth 100000 in
set_option maxHeartbeats 4000000 in
theorem vparse_b2 (a1 : Rat) (ha1 : RS 2000 a1) (la1 : ((ratL a1).length : Int) ≤ 400) (a2 : Rat) (ha2 : RS 2000 a2) (la2 : ((ratL a2).length : Int) ≤ 400) (Z : List UInt8) (_lx : Z.length ≤ 500) (hZ : ck2 Z 400 ≠ 0) (w : World) (hm : Mx w) :
    Calls Tryz.prog 59 #[(.agg #[(.string ⟨(ratL (a1) : List UInt8).toArray⟩), (.string ⟨(ratL (a2) : List UInt8).toArray⟩), (.string ⟨(Z : List UInt8).toArray⟩)]), (.func (.func 60) #[] #[])] w fun e w' => e = .returned (.tuple #[.agg #[.bool false, .slice none 0 0, .bool false, .slice none 0 0, .bool false, .slice none 0 0, .bool false, .slice none 0 0, .bool false, .slice none 0 0, .bool false, .slice none 0 0], .int .i64 (ck2 Z 400)]) ∧ Gr w w' := by
 have hz : (ck2 Z 400 != (0 : Int)) = true := by simpa using hZ
 go_enter Tryz.func59, Tryz.ntmps59
 have hB := Gr.refl w
 refine wp_seq_k (fun K1 k1 => ?_)
 refine rg [0, 1, 2] ?_
 refine se ?_
 refine eb 24 #[(.string ⟨(ratL (a1) : List UInt8).toArray⟩), (.string ⟨(ratL (a2) : List UInt8).toArray⟩), (.string ⟨(Z : List UInt8).toArray⟩)] 2 hB fun b2 w2 g2 L2 o2 q2 hB => ?_
 simp only [p3, p4]
 refine se ?_
 refine ea 32 #[(.bool false), (.slice none 0 0), (.bool false), (.slice none 0 0), (.bool false), (.slice none 0 0), (.bool false), (.slice none 0 0), (.bool false), (.slice none 0 0), (.bool false), (.slice none 0 0)] 4 hB fun b3 w3 g3 L3 o3 q3 hB => ?_
 simp only [p3, p4]
 refine sv 5 (.int .i64 0) ?_
 simp only [p3, p4]
 refine sq_nil ?_
 refine k1 _ _ ?_
 try clear k1 K1
 refine wp_seq_k (fun K4 k4 => ?_)
 refine rg [0] ?_
 refine se ?_
 refine ea 32 #[(.bool false), (.slice none 0 0), (.bool false), (.slice none 0 0), (.bool false), (.slice none 0 0), (.bool false), (.slice none 0 0), (.bool false), (.slice none 0 0), (.bool false), (.slice none 0 0)] 6 hB fun b5 w5 g5 L5 o5 q5 hB => ?_
 replace L2 := L2.gr g3
 have ne3_5 := L3.ne o5
 simp only [p3, p4]
 refine sq_nil ?_
 refine k4 _ _ ?_
 try clear k4 K4
 refine wp_seq_k (fun K6 k6 => ?_)
 refine wp_seq_k (fun K7 k7 => ?_)
 refine rg [0, 1] ?_
 replace L2 := L2.gr g5
 refine sw 11 (.agg #[(.string ⟨(ratL (a1) : List UInt8).toArray⟩), (.string ⟨(ratL (a2) : List UInt8).toArray⟩), (.string ⟨(Z : List UInt8).toArray⟩)]) rfl (rl 24 0 [(.string ⟨(ratL (a1) : List UInt8).toArray⟩), (.string ⟨(ratL (a2) : List UInt8).toArray⟩), (.string ⟨(Z : List UInt8).toArray⟩)] L2) ?_
 simp only [p3, p4]
 refine sv 12 (.int .i64 0) ?_
 simp only [p3, p4]
 refine sq_nil ?_
 refine k7 _ _ ?_
 try clear k7 K7
 refine wp_block ?_
 refine wp_loop_rounds 4 ?_
 show Code.wp _ _ _ _ _
 refine wp_seq_k (fun K8 k8 => ?_)
 refine rg [0] ?_
 refine sv 13 (.bool true) ?_
 simp only [p3, p4]
 refine sq_nil ?_
 refine k8 _ _ ?_
 try clear k8 K8
 refine wp_seq_k (fun K9 k9 => ?_)
 refine wp_cond_true rfl ?_
 refine wp_skip ?_
 refine k9 _ _ ?_
 try clear k9 K9
 refine wp_seq_k (fun K10 k10 => ?_)
 refine wp_block ?_
 refine wp_seq_k (fun K11 k11 => ?_)
 refine rg [0, 1, 2, 3] ?_
 refine sv 14 (.int .i64 0) ?_
 simp only [p3, p4]
 refine sv 15 (.string ⟨(ratL (a1) : List UInt8).toArray⟩) ?_
 simp only [p3, p4]
 refine sv 7 (.int .i64 0) ?_
 simp only [p3, p4]
 refine sv 8 (.string ⟨(ratL (a1) : List UInt8).toArray⟩) ?_
 simp only [p3, p4]
 refine sq_nil ?_
 refine k11 _ _ ?_
 try clear k11 K11
 refine wp_seq_k (fun K12 k12 => ?_)
 refine rg [0, 1, 2, 3, 4, 5, 6, 7, 8] ?_
 refine sv 17 (.func (.func 60) #[] #[]) ?_
 simp only [p3, p4]
 refine sv 18 (.string ⟨(ratL (a1) : List UInt8).toArray⟩) ?_
 simp only [p3, p4]
 refine se ?_
 refine ec 19 (parse_q (a1) ha1 (by omega) (by omega) la1 _ (hm.gr hB)) ?_
 rintro e13 w13 ⟨⟨cc13_0, cc13_1, cc13_2, cc13_3, rfl, h13⟩, g13⟩
 refine ⟨_, rfl, ?_⟩
 replace hB := hB.trans g13
 simp only [p3, p4]
 refine sv 16 (.tuple #[(.agg #[cc13_0, cc13_1, cc13_2, cc13_3]), (.int .i64 0)]) ?_
 simp only [p3, p4]
 refine sv 20 (.agg #[cc13_0, cc13_1, cc13_2, cc13_3]) ?_
 simp only [p3, p4]
 refine sv 21 (.int .i64 0) ?_
 simp only [p3, p4]
 refine se ?_
 refine ea 30 #[(.bool false), (.slice none 0 0), (.bool false), (.slice none 0 0)] 9 hB fun b14 w14 g14 L14 o14 q14 hB => ?_
 replace L3 := L3.gr (g5.trans g13)
 have ne3_14 := L3.ne o14
 replace L5 := L5.gr g13
 have ne5_14 := L5.ne o14
 simp only [p3, p4]
 refine se ?_
 refine es 30 0 (.agg #[cc13_0, cc13_1, cc13_2, cc13_3]) [cc13_0, cc13_1, cc13_2, cc13_3] #[cc13_0, cc13_1, cc13_2, cc13_3] L14 hB q14 ⟨h13.one0, h13.one1, h13.one2, h13.one3, trivial⟩ fun w15 st15 kp15 L14 hB => ?_
 refine sv 10 (.int .i64 0) ?_
 simp only [p3, p4]
 refine sq_nil ?_
 refine k12 _ _ ?_
 try clear k12 K12
 refine wp_seq_k (fun K16 k16 => ?_)
 refine wp_seq_k (fun K17 k17 => ?_)
 refine rg [0, 1] ?_
 refine sv 22 (.int .i64 0) ?_
 simp only [p3, p4]
 refine sv 23 (.bool false) ?_
 simp only [p3, p4]
 refine sq_nil ?_
 refine k17 _ _ ?_
 try clear k17 K17
 refine wp_cond_false rfl ?_
 refine wp_skip ?_
 refine k16 _ _ ?_
 try clear k16 K16
 refine rg [0, 1, 2, 3] ?_
 refine sv 26 (.int .i64 0) ?_
 simp only [p3, p4]
 refine sw 27 (.agg #[cc13_0, cc13_1, cc13_2, cc13_3]) rfl (rl 30 0 [cc13_0, cc13_1, cc13_2, cc13_3] L14) ?_
 simp only [p3, p4]
 refine sv 28 (.pointer (some ⟨b5, 0, none⟩)) ?_
 simp only [p3, p4]
 refine se ?_
 replace L5 := st15.lc (L5.gr g14) ne5_14
 refine es 30 0 (.agg #[cc13_0, cc13_1, cc13_2, cc13_3]) [cc13_0, cc13_1, cc13_2, cc13_3] #[cc13_0, cc13_1, cc13_2, cc13_3, (.bool false), (.slice none 0 0), (.bool false), (.slice none 0 0), (.bool false), (.slice none 0 0), (.bool false), (.slice none 0 0)] L5 hB q5 ⟨h13.one0, h13.one1, h13.one2, h13.one3, trivial⟩ fun w18 st18 kp18 L5 hB => ?_
 refine sq_nil ?_
 refine k10 _ _ ?_
 try clear k10 K10
 refine rg [0, 1] ?_
 refine sv 29 (.int .i64 1) ?_
 simp only [p3, p4]
 refine sv 12 (.int .i64 1) ?_
 simp only [p3, p4]
 refine sq_nil ?_
 show Code.rounds _ _ _ _ _ _
 show Code.wp _ _ _ _ _
 refine wp_seq_k (fun K19 k19 => ?_)
 refine rg [0] ?_
 refine sv 13 (.bool true) ?_
 simp only [p3, p4]
 refine sq_nil ?_
 refine k19 _ _ ?_
 try clear k19 K19
 refine wp_seq_k (fun K20 k20 => ?_)
 refine wp_cond_true rfl ?_
 refine wp_skip ?_
 refine k20 _ _ ?_
 try clear k20 K20
 refine wp_seq_k (fun K21 k21 => ?_)
 refine wp_block ?_
 refine wp_seq_k (fun K22 k22 => ?_)
 refine rg [0, 1, 2, 3] ?_
 refine sv 14 (.int .i64 1) ?_
 simp only [p3, p4]
 refine sv 15 (.string ⟨(ratL (a2) : List UInt8).toArray⟩) ?_
 simp only [p3, p4]
 refine sv 7 (.int .i64 1) ?_
 simp only [p3, p4]
 refine sv 8 (.string ⟨(ratL (a2) : List UInt8).toArray⟩) ?_
 simp only [p3, p4]
 refine sq_nil ?_
 refine k22 _ _ ?_
 try clear k22 K22
 refine wp_seq_k (fun K23 k23 => ?_)
 refine rg [0, 1, 2, 3, 4, 5, 6, 7, 8] ?_
 refine sv 17 (.func (.func 60) #[] #[]) ?_
 simp only [p3, p4]
 refine sv 18 (.string ⟨(ratL (a2) : List UInt8).toArray⟩) ?_
 simp only [p3, p4]
 refine se ?_
 refine ec 19 (parse_q (a2) ha2 (by omega) (by omega) la2 _ (hm.gr hB)) ?_
 rintro e24 w24 ⟨⟨cc24_0, cc24_1, cc24_2, cc24_3, rfl, h24⟩, g24⟩
 refine ⟨_, rfl, ?_⟩
 replace hB := hB.trans g24
 simp only [p3, p4]
 refine sv 16 (.tuple #[(.agg #[cc24_0, cc24_1, cc24_2, cc24_3]), (.int .i64 0)]) ?_
 simp only [p3, p4]
 refine sv 20 (.agg #[cc24_0, cc24_1, cc24_2, cc24_3]) ?_
 simp only [p3, p4]
 refine sv 21 (.int .i64 0) ?_
 simp only [p3, p4]
 refine se ?_
 refine ea 30 #[(.bool false), (.slice none 0 0), (.bool false), (.slice none 0 0)] 9 hB fun b25 w25 g25 L25 o25 q25 hB => ?_
 replace L3 := (st18.lc (st15.lc (L3.gr g14) ne3_14) ne3_5).gr g24
 have ne3_25 := L3.ne o25
 replace L5 := L5.gr g24
 have ne5_25 := L5.ne o25
 simp only [p3, p4]
 refine se ?_
 refine es 30 0 (.agg #[cc24_0, cc24_1, cc24_2, cc24_3]) [cc24_0, cc24_1, cc24_2, cc24_3] #[cc24_0, cc24_1, cc24_2, cc24_3] L25 hB q25 ⟨h24.one0, h24.one1, h24.one2, h24.one3, trivial⟩ fun w26 st26 kp26 L25 hB => ?_
 refine sv 10 (.int .i64 0) ?_
 simp only [p3, p4]
 refine sq_nil ?_
 refine k23 _ _ ?_
 try clear k23 K23
 refine wp_seq_k (fun K27 k27 => ?_)
 refine wp_seq_k (fun K28 k28 => ?_)
 refine rg [0, 1] ?_
 refine sv 22 (.int .i64 0) ?_
 simp only [p3, p4]
 refine sv 23 (.bool false) ?_
 simp only [p3, p4]
 refine sq_nil ?_
 refine k28 _ _ ?_
 try clear k28 K28
 refine wp_cond_false rfl ?_
 refine wp_skip ?_
 refine k27 _ _ ?_
 try clear k27 K27
 refine rg [0, 1, 2, 3] ?_
 refine sv 26 (.int .i64 1) ?_
 simp only [p3, p4]
 refine sw 27 (.agg #[cc24_0, cc24_1, cc24_2, cc24_3]) rfl (rl 30 0 [cc24_0, cc24_1, cc24_2, cc24_3] L25) ?_
 simp only [p3, p4]
 refine sv 28 (.pointer (some ⟨b5, 4, none⟩)) ?_
 simp only [p3, p4]
 refine se ?_
 replace L5 := st26.lc (L5.gr g25) ne5_25
 refine es 30 4 (.agg #[cc24_0, cc24_1, cc24_2, cc24_3]) [cc24_0, cc24_1, cc24_2, cc24_3] #[cc13_0, cc13_1, cc13_2, cc13_3, cc24_0, cc24_1, cc24_2, cc24_3, (.bool false), (.slice none 0 0), (.bool false), (.slice none 0 0)] L5 hB q5 ⟨h24.one0, h24.one1, h24.one2, h24.one3, trivial⟩ fun w29 st29 kp29 L5 hB => ?_
 refine sq_nil ?_
 refine k21 _ _ ?_
 try clear k21 K21
 refine rg [0, 1] ?_
 refine sv 29 (.int .i64 2) ?_
 simp only [p3, p4]
 refine sv 12 (.int .i64 2) ?_
 simp only [p3, p4]
 refine sq_nil ?_
 show Code.rounds _ _ _ _ _ _
 show Code.wp _ _ _ _ _
 refine wp_seq_k (fun K30 k30 => ?_)
 refine rg [0] ?_
 refine sv 13 (.bool true) ?_
 simp only [p3, p4]
 refine sq_nil ?_
 refine k30 _ _ ?_
 try clear k30 K30
 refine wp_seq_k (fun K31 k31 => ?_)
 refine wp_cond_true rfl ?_
 refine wp_skip ?_
 refine k31 _ _ ?_
 try clear k31 K31
 refine wp_seq_k (fun K32 k32 => ?_)
 refine wp_block ?_
 refine wp_seq_k (fun K33 k33 => ?_)
 refine rg [0, 1, 2, 3] ?_
 refine sv 14 (.int .i64 2) ?_
 simp only [p3, p4]
 refine sv 15 (.string ⟨(Z : List UInt8).toArray⟩) ?_
 simp only [p3, p4]
 refine sv 7 (.int .i64 2) ?_
 simp only [p3, p4]
 refine sv 8 (.string ⟨(Z : List UInt8).toArray⟩) ?_
 simp only [p3, p4]
 refine sq_nil ?_
 refine k33 _ _ ?_
 try clear k33 K33
 refine wp_seq_k (fun K34 k34 => ?_)
 refine rg [0, 1, 2, 3, 4, 5, 6, 7, 8] ?_
 refine sv 17 (.func (.func 60) #[] #[]) ?_
 simp only [p3, p4]
 refine sv 18 (.string ⟨(Z : List UInt8).toArray⟩) ?_
 simp only [p3, p4]
 refine se ?_
 refine ec 19 (rparse_bad Z (by omega) hZ _ (hm.gr hB)) ?_
 rintro e35 w35 ⟨rfl, g35⟩
 refine ⟨_, rfl, ?_⟩
 replace hB := hB.trans g35
 simp only [p3, p4]
 refine sv 16 (.tuple #[(.agg #[(.bool false), (.slice none 0 0), (.bool false), (.slice none 0 0)]), (.int .i64 (ck2 Z 400))]) ?_
 simp only [p3, p4]
 refine sv 20 (.agg #[(.bool false), (.slice none 0 0), (.bool false), (.slice none 0 0)]) ?_
 simp only [p3, p4]
 refine sv 21 (.int .i64 (ck2 Z 400)) ?_
 simp only [p3, p4]
 refine se ?_
 refine ea 30 #[(.bool false), (.slice none 0 0), (.bool false), (.slice none 0 0)] 9 hB fun b36 w36 g36 L36 o36 q36 hB => ?_
 replace L3 := (st29.lc (st26.lc (L3.gr g25) ne3_25) ne3_5).gr g35
 have ne3_36 := L3.ne o36
 simp only [p3, p4]
 refine se ?_
 refine es 30 0 (.agg #[(.bool false), (.slice none 0 0), (.bool false), (.slice none 0 0)]) [(.bool false), (.slice none 0 0), (.bool false), (.slice none 0 0)] #[(.bool false), (.slice none 0 0), (.bool false), (.slice none 0 0)] L36 hB q36 ⟨rfl, rfl, rfl, rfl, trivial⟩ fun w37 st37 kp37 L36 hB => ?_
 refine sv 10 (.int .i64 (ck2 Z 400)) ?_
 simp only [p3, p4]
 refine sq_nil ?_
 refine k34 _ _ ?_
 try clear k34 K34
 refine wp_seq_k (fun K38 k38 => ?_)
 refine wp_seq_k (fun K39 k39 => ?_)
 refine rg [0, 1] ?_
 refine sv 22 (.int .i64 (ck2 Z 400)) ?_
 simp only [p3, p4]
 refine sw 23 (.bool true) rfl (RunV.bool (x := (ck2 Z 400 != (0 : Int))) (rvk (by kernel_rfl)) hz) ?_
 simp only [p3, p4]
 refine sq_nil ?_
 refine k39 _ _ ?_
 try clear k39 K39
 refine wp_cond_true rfl ?_
 refine wp_seq_k (fun K40 k40 => ?_)
 refine rg [0, 1, 2, 3] ?_
 refine sv 24 (.agg #[(.bool false), (.slice none 0 0), (.bool false), (.slice none 0 0), (.bool false), (.slice none 0 0), (.bool false), (.slice none 0 0), (.bool false), (.slice none 0 0), (.bool false), (.slice none 0 0)]) ?_
 simp only [p3, p4]
 refine sv 25 (.int .i64 (ck2 Z 400)) ?_
 simp only [p3, p4]
 refine se ?_
 replace L3 := st37.lc (L3.gr g36) ne3_36
 refine es 32 0 (.agg #[(.bool false), (.slice none 0 0), (.bool false), (.slice none 0 0), (.bool false), (.slice none 0 0), (.bool false), (.slice none 0 0), (.bool false), (.slice none 0 0), (.bool false), (.slice none 0 0)]) [(.bool false), (.slice none 0 0), (.bool false), (.slice none 0 0), (.bool false), (.slice none 0 0), (.bool false), (.slice none 0 0), (.bool false), (.slice none 0 0), (.bool false), (.slice none 0 0)] #[(.bool false), (.slice none 0 0), (.bool false), (.slice none 0 0), (.bool false), (.slice none 0 0), (.bool false), (.slice none 0 0), (.bool false), (.slice none 0 0), (.bool false), (.slice none 0 0)] L3 hB q3 ⟨rfl, rfl, rfl, rfl, rfl, rfl, rfl, rfl, rfl, rfl, rfl, rfl, trivial⟩ fun w41 st41 kp41 L3 hB => ?_
 refine sv 5 (.int .i64 (ck2 Z 400)) ?_
 simp only [p3, p4]
 refine sq_nil ?_
 refine k40 _ _ ?_
 try clear k40 K40
 refine wp_ret ?_
 simp only [Exit.then, Exit.inBlock]
 refine bodyPost_ret (v := (.tuple #[(.agg #[(.bool false), (.slice none 0 0), (.bool false), (.slice none 0 0), (.bool false), (.slice none 0 0), (.bool false), (.slice none 0 0), (.bool false), (.slice none 0 0), (.bool false), (.slice none 0 0)]), (.int .i64 (ck2 Z 400))])) (ret_cell_tmp' _ _ _ rfl rfl L3 (by kernel_rfl) rfl) rfl ⟨?_, hB⟩
 exact rfl

theorem vparse_any0 (X Y Z : List UInt8) (lx : X.length ≤ 500) (ly : Y.length ≤ 500) (lz : Z.length ≤ 500) (w : World) (hm : Mx w) :
    Calls Tryz.prog 59 #[(.agg #[(.string ⟨(X : List UInt8).toArray⟩), (.string ⟨(Y : List UInt8).toArray⟩), (.string ⟨(Z : List UInt8).toArray⟩)]), (.func (.func 60) #[] #[])] w fun e w' => (∃ t0 t1 t2 t3 t4 t5 t6 t7 t8 t9 t10 t11 a1 a2 a3, e = .returned (.tuple #[.agg #[t0, t1, t2, t3, t4, t5, t6, t7, t8, t9, t10, t11], .int .i64 (first3 (ck2 X 400) (ck2 Y 400) (ck2 Z 400))]) ∧ (IsRat w' 2000 t0 t1 t2 t3 a1 ∧ IsRat w' 2000 t4 t5 t6 t7 a2 ∧ IsRat w' 2000 t8 t9 t10 t11 a3) ∧ (first3 (ck2 X 400) (ck2 Y 400) (ck2 Z 400) = 0 ∧ X = ratL a1 ∧ Y = ratL a2 ∧ Z = ratL a3 ∨ first3 (ck2 X 400) (ck2 Y 400) (ck2 Z 400) ≠ 0 ∧ a1 = 0 ∧ a2 = 0 ∧ a3 = 0)) ∧ Gr w w' := by
  unfold first3
  by_cases hX : ck2 X 400 = 0
  · obtain ⟨a1, rfl, ha1, la1⟩ := ratL_of_ck2 hX lx
    rw [if_pos hX]
    by_cases hY : ck2 Y 400 = 0
    · obtain ⟨a2, rfl, ha2, la2⟩ := ratL_of_ck2 hY ly
      rw [if_pos hY]
      by_cases hZ : ck2 Z 400 = 0
      · obtain ⟨a3, rfl, ha3, la3⟩ := ratL_of_ck2 hZ lz
        refine (vparse0 a1 a2 a3 ha1 ha2 ha3 (by omega) (by omega) la1 la2 la3 w hm).mono ?_
        rintro e w1 ⟨⟨t0, t1, t2, t3, t4, t5, t6, t7, t8, t9, t10, t11, he, hq⟩, g⟩
        exact ⟨⟨_, _, _, _, _, _, _, _, _, _, _, _, a1, a2, a3, by rw [hZ]; exact he, hq, .inl ⟨hZ, rfl, rfl, rfl⟩⟩, g⟩
      · refine (vparse_b2 a1 ha1 la1 a2 ha2 la2 Z lz hZ w hm).mono ?_
        rintro e w1 ⟨he, g⟩
        exact ⟨⟨_, _, _, _, _, _, _, _, _, _, _, _, 0, 0, 0, he, ⟨IsRat.zero _ (by omega), IsRat.zero _ (by omega), IsRat.zero _ (by omega)⟩, .inr ⟨hZ, rfl, rfl, rfl⟩⟩, g⟩
    · rw [if_neg hY]
      refine (vparse_b1 a1 ha1 la1 Y Z ly hY w hm).mono ?_
      rintro e w1 ⟨he, g⟩
      exact ⟨⟨_, _, _, _, _, _, _, _, _, _, _, _, 0, 0, 0, he, ⟨IsRat.zero _ (by omega), IsRat.zero _ (by omega), IsRat.zero _ (by omega)⟩, .inr ⟨hY, rfl, rfl, rfl⟩⟩, g⟩
  · rw [if_neg hX]
    refine (vparse_b0 X Y Z lx hX w hm).mono ?_
    rintro e w1 ⟨he, g⟩
    exact ⟨⟨_, _, _, _, _, _, _, _, _, _, _, _, 0, 0, 0, he, ⟨IsRat.zero _ (by omega), IsRat.zero _ (by omega), IsRat.zero _ (by omega)⟩, .inr ⟨hX, rfl, rfl, rfl⟩⟩, g⟩

set_option maxRecDepth 100000 in
set_option maxHeartbeats 1000000 in
theorem vparse_any (X Y Z : List UInt8) (lx : X.length ≤ 500) (ly : Y.length ≤ 500) (lz : Z.length ≤ 500) (w : World) (hm : Mx w) :
    Calls Tryz.prog 13 #[(.agg #[(.string ⟨(X : List UInt8).toArray⟩), (.string ⟨(Y : List UInt8).toArray⟩), (.string ⟨(Z : List UInt8).toArray⟩)])] w fun e w' => (∃ t0 t1 t2 t3 t4 t5 t6 t7 t8 t9 t10 t11 a1 a2 a3, e = .returned (.tuple #[.agg #[t0, t1, t2, t3, t4, t5, t6, t7, t8, t9, t10, t11], .int .i64 (first3 (ck2 X 400) (ck2 Y 400) (ck2 Z 400))]) ∧ (IsRat w' 2000 t0 t1 t2 t3 a1 ∧ IsRat w' 2000 t4 t5 t6 t7 a2 ∧ IsRat w' 2000 t8 t9 t10 t11 a3) ∧ (first3 (ck2 X 400) (ck2 Y 400) (ck2 Z 400) = 0 ∧ X = ratL a1 ∧ Y = ratL a2 ∧ Z = ratL a3 ∨ first3 (ck2 X 400) (ck2 Y 400) (ck2 Z 400) ≠ 0 ∧ a1 = 0 ∧ a2 = 0 ∧ a3 = 0)) ∧ Gr w w' := by
 go_enter Tryz.func13, Tryz.ntmps13
 have hB := Gr.refl w
 refine wp_seq_k (fun K1 k1 => ?_)
 refine rg [0, 1, 2] ?_
 refine se ?_
 refine eb 24 #[(.string ⟨(X : List UInt8).toArray⟩), (.string ⟨(Y : List UInt8).toArray⟩), (.string ⟨(Z : List UInt8).toArray⟩)] 1 hB fun b2 w2 g2 L2 o2 q2 hB => ?_
 simp only [p3, p4]
 refine se ?_
 refine ea 32 #[(.bool false), (.slice none 0 0), (.bool false), (.slice none 0 0), (.bool false), (.slice none 0 0), (.bool false), (.slice none 0 0), (.bool false), (.slice none 0 0), (.bool false), (.slice none 0 0)] 2 hB fun b3 w3 g3 L3 o3 q3 hB => ?_
 simp only [p3, p4]
 refine sv 3 (.int .i64 0) ?_
 simp only [p3, p4]
 refine sq_nil ?_
 refine k1 _ _ ?_
 try clear k1 K1
 refine wp_seq_k (fun K4 k4 => ?_)
 refine rg [0, 1, 2, 3, 4, 5] ?_
 replace L2 := L2.gr g3
 refine sw 4 (.agg #[(.string ⟨(X : List UInt8).toArray⟩), (.string ⟨(Y : List UInt8).toArray⟩), (.string ⟨(Z : List UInt8).toArray⟩)]) rfl (rl 24 0 [(.string ⟨(X : List UInt8).toArray⟩), (.string ⟨(Y : List UInt8).toArray⟩), (.string ⟨(Z : List UInt8).toArray⟩)] L2) ?_
 simp only [p3, p4]
 refine se ?_
 refine ec 5 (vparse_any0 X Y Z lx ly lz _ (hm.gr hB)) ?_
 rintro e5 w5 ⟨⟨t5_0, t5_1, t5_2, t5_3, t5_4, t5_5, t5_6, t5_7, t5_8, t5_9, t5_10, t5_11, az5_0, az5_1, az5_2, rfl, ⟨h5a, h5b, h5c⟩, hor5⟩, g5⟩
 refine ⟨_, rfl, ?_⟩
 replace hB := hB.trans g5
 simp only [p3, p4]
 refine sv 6 (.agg #[t5_0, t5_1, t5_2, t5_3, t5_4, t5_5, t5_6, t5_7, t5_8, t5_9, t5_10, t5_11]) ?_
 simp only [p3, p4]
 refine sv 7 (.int .i64 (first3 (ck2 X 400) (ck2 Y 400) (ck2 Z 400))) ?_
 simp only [p3, p4]
 refine se ?_
 replace L3 := L3.gr g5
 refine es 32 0 (.agg #[t5_0, t5_1, t5_2, t5_3, t5_4, t5_5, t5_6, t5_7, t5_8, t5_9, t5_10, t5_11]) [t5_0, t5_1, t5_2, t5_3, t5_4, t5_5, t5_6, t5_7, t5_8, t5_9, t5_10, t5_11] #[t5_0, t5_1, t5_2, t5_3, t5_4, t5_5, t5_6, t5_7, t5_8, t5_9, t5_10, t5_11] L3 hB q3 ⟨h5a.one0, h5a.one1, h5a.one2, h5a.one3, h5b.one0, h5b.one1, h5b.one2, h5b.one3, h5c.one0, h5c.one1, h5c.one2, h5c.one3, trivial⟩ fun w6 st6 kp6 L3 hB => ?_
 refine sv 3 (.int .i64 (first3 (ck2 X 400) (ck2 Y 400) (ck2 Z 400))) ?_
 simp only [p3, p4]
 refine sq_nil ?_
 refine k4 _ _ ?_
 try clear k4 K4
 refine wp_ret ?_
 refine bodyPost_ret (v := (.tuple #[(.agg #[t5_0, t5_1, t5_2, t5_3, t5_4, t5_5, t5_6, t5_7, t5_8, t5_9, t5_10, t5_11]), (.int .i64 (first3 (ck2 X 400) (ck2 Y 400) (ck2 Z 400)))])) (ret_cell_tmp' _ _ _ rfl rfl L3 (by kernel_rfl) rfl) rfl ⟨?_, hB⟩
 replace h5a := h5a.kp kp6
 replace h5b := h5b.kp kp6
 replace h5c := h5c.kp kp6
 exact ⟨_, _, _, _, _, _, _, _, _, _, _, _, _, _, _, rfl, ⟨h5a, h5b, h5c⟩, hor5⟩

set_option maxRecDepth 100000 in
set_option maxHeartbeats 4000000 in
theorem vread_b0 (X : List UInt8) (Y : List UInt8) (Z : List UInt8) (_lx : X.length ≤ 500) (hX : ck2 X 65536 ≠ 0) (w : World) (hm : Mx w) :
    Calls Tryz.prog 59 #[(.agg #[(.string ⟨(X : List UInt8).toArray⟩), (.string ⟨(Y : List UInt8).toArray⟩), (.string ⟨(Z : List UInt8).toArray⟩)]), (.func (.func 61) #[] #[])] w fun e w' => e = .returned (.tuple #[.agg #[.bool false, .slice none 0 0, .bool false, .slice none 0 0, .bool false, .slice none 0 0, .bool false, .slice none 0 0, .bool false, .slice none 0 0, .bool false, .slice none 0 0], .int .i64 (ck2 X 65536)]) ∧ Gr w w' := by
 have hz : (ck2 X 65536 != (0 : Int)) = true := by simpa using hX
 go_enter Tryz.func59, Tryz.ntmps59
 have hB := Gr.refl w
 refine wp_seq_k (fun K1 k1 => ?_)
 refine rg [0, 1, 2] ?_
 refine se ?_
 refine eb 24 #[(.string ⟨(X : List UInt8).toArray⟩), (.string ⟨(Y : List UInt8).toArray⟩), (.string ⟨(Z : List UInt8).toArray⟩)] 2 hB fun b2 w2 g2 L2 o2 q2 hB => ?_
 simp only [p3, p4]
 refine se ?_
 refine ea 32 #[(.bool false), (.slice none 0 0), (.bool false), (.slice none 0 0), (.bool false), (.slice none 0 0), (.bool false), (.slice none 0 0), (.bool false), (.slice none 0 0), (.bool false), (.slice none 0 0)] 4 hB fun b3 w3 g3 L3 o3 q3 hB => ?_
 simp only [p3, p4]
 refine sv 5 (.int .i64 0) ?_
 simp only [p3, p4]
 refine sq_nil ?_
 refine k1 _ _ ?_
 try clear k1 K1
 refine wp_seq_k (fun K4 k4 => ?_)
 refine rg [0] ?_
 refine se ?_
 refine ea 32 #[(.bool false), (.slice none 0 0), (.bool false), (.slice none 0 0), (.bool false), (.slice none 0 0), (.bool false), (.slice none 0 0), (.bool false), (.slice none 0 0), (.bool false), (.slice none 0 0)] 6 hB fun b5 w5 g5 L5 o5 q5 hB => ?_
 replace L2 := L2.gr g3
 simp only [p3, p4]
 refine sq_nil ?_
 refine k4 _ _ ?_
 try clear k4 K4
 refine wp_seq_k (fun K6 k6 => ?_)
 refine wp_seq_k (fun K7 k7 => ?_)
 refine rg [0, 1] ?_
 replace L2 := L2.gr g5
 refine sw 11 (.agg #[(.string ⟨(X : List UInt8).toArray⟩), (.string ⟨(Y : List UInt8).toArray⟩), (.string ⟨(Z : List UInt8).toArray⟩)]) rfl (rl 24 0 [(.string ⟨(X : List UInt8).toArray⟩), (.string ⟨(Y : List UInt8).toArray⟩), (.string ⟨(Z : List UInt8).toArray⟩)] L2) ?_
 simp only [p3, p4]
 refine sv 12 (.int .i64 0) ?_
 simp only [p3, p4]
 refine sq_nil ?_
 refine k7 _ _ ?_
 try clear k7 K7
 refine wp_block ?_
 refine wp_loop_rounds 4 ?_
 show Code.wp _ _ _ _ _
 refine wp_seq_k (fun K8 k8 => ?_)
 refine rg [0] ?_
 refine sv 13 (.bool true) ?_
 simp only [p3, p4]
 refine sq_nil ?_
 refine k8 _ _ ?_
 try clear k8 K8
 refine wp_seq_k (fun K9 k9 => ?_)
 refine wp_cond_true rfl ?_
 refine wp_skip ?_
 refine k9 _ _ ?_
 try clear k9 K9
 refine wp_seq_k (fun K10 k10 => ?_)
 refine wp_block ?_
 refine wp_seq_k (fun K11 k11 => ?_)
 refine rg [0, 1, 2, 3] ?_
 refine sv 14 (.int .i64 0) ?_
 simp only [p3, p4]
 refine sv 15 (.string ⟨(X : List UInt8).toArray⟩) ?_
 simp only [p3, p4]
 refine sv 7 (.int .i64 0) ?_
 simp only [p3, p4]
 refine sv 8 (.string ⟨(X : List UInt8).toArray⟩) ?_
 simp only [p3, p4]
 refine sq_nil ?_
 refine k11 _ _ ?_
 try clear k11 K11
 refine wp_seq_k (fun K12 k12 => ?_)
 refine rg [0, 1, 2, 3, 4, 5, 6, 7, 8] ?_
 refine sv 17 (.func (.func 61) #[] #[]) ?_
 simp only [p3, p4]
 refine sv 18 (.string ⟨(X : List UInt8).toArray⟩) ?_
 simp only [p3, p4]
 refine se ?_
 refine ec 19 (rread_bad X (by omega) hX _ (hm.gr hB)) ?_
 rintro e13 w13 ⟨rfl, g13⟩
 refine ⟨_, rfl, ?_⟩
 replace hB := hB.trans g13
 simp only [p3, p4]
 refine sv 16 (.tuple #[(.agg #[(.bool false), (.slice none 0 0), (.bool false), (.slice none 0 0)]), (.int .i64 (ck2 X 65536))]) ?_
 simp only [p3, p4]
 refine sv 20 (.agg #[(.bool false), (.slice none 0 0), (.bool false), (.slice none 0 0)]) ?_
 simp only [p3, p4]
 refine sv 21 (.int .i64 (ck2 X 65536)) ?_
 simp only [p3, p4]
 refine se ?_
 refine ea 30 #[(.bool false), (.slice none 0 0), (.bool false), (.slice none 0 0)] 9 hB fun b14 w14 g14 L14 o14 q14 hB => ?_
 replace L3 := L3.gr (g5.trans g13)
 have ne3_14 := L3.ne o14
 simp only [p3, p4]
 refine se ?_
 refine es 30 0 (.agg #[(.bool false), (.slice none 0 0), (.bool false), (.slice none 0 0)]) [(.bool false), (.slice none 0 0), (.bool false), (.slice none 0 0)] #[(.bool false), (.slice none 0 0), (.bool false), (.slice none 0 0)] L14 hB q14 ⟨rfl, rfl, rfl, rfl, trivial⟩ fun w15 st15 kp15 L14 hB => ?_
 refine sv 10 (.int .i64 (ck2 X 65536)) ?_
 simp only [p3, p4]
 refine sq_nil ?_
 refine k12 _ _ ?_
 try clear k12 K12
 refine wp_seq_k (fun K16 k16 => ?_)
 refine wp_seq_k (fun K17 k17 => ?_)
 refine rg [0, 1] ?_
 refine sv 22 (.int .i64 (ck2 X 65536)) ?_
 simp only [p3, p4]
 refine sw 23 (.bool true) rfl (RunV.bool (x := (ck2 X 65536 != (0 : Int))) (rvk (by kernel_rfl)) hz) ?_
 simp only [p3, p4]
 refine sq_nil ?_
 refine k17 _ _ ?_
 try clear k17 K17
 refine wp_cond_true rfl ?_
 refine wp_seq_k (fun K18 k18 => ?_)
 refine rg [0, 1, 2, 3] ?_
 refine sv 24 (.agg #[(.bool false), (.slice none 0 0), (.bool false), (.slice none 0 0), (.bool false), (.slice none 0 0), (.bool false), (.slice none 0 0), (.bool false), (.slice none 0 0), (.bool false), (.slice none 0 0)]) ?_
 simp only [p3, p4]
 refine sv 25 (.int .i64 (ck2 X 65536)) ?_
 simp only [p3, p4]
 refine se ?_
 replace L3 := st15.lc (L3.gr g14) ne3_14
 refine es 32 0 (.agg #[(.bool false), (.slice none 0 0), (.bool false), (.slice none 0 0), (.bool false), (.slice none 0 0), (.bool false), (.slice none 0 0), (.bool false), (.slice none 0 0), (.bool false), (.slice none 0 0)]) [(.bool false), (.slice none 0 0), (.bool false), (.slice none 0 0), (.bool false), (.slice none 0 0), (.bool false), (.slice none 0 0), (.bool false), (.slice none 0 0), (.bool false), (.slice none 0 0)] #[(.bool false), (.slice none 0 0), (.bool false), (.slice none 0 0), (.bool false), (.slice none 0 0), (.bool false), (.slice none 0 0), (.bool false), (.slice none 0 0), (.bool false), (.slice none 0 0)] L3 hB q3 ⟨rfl, rfl, rfl, rfl, rfl, rfl, rfl, rfl, rfl, rfl, rfl, rfl, trivial⟩ fun w19 st19 kp19 L3 hB => ?_
 refine sv 5 (.int .i64 (ck2 X 65536)) ?_
 simp only [p3, p4]
 refine sq_nil ?_
 refine k18 _ _ ?_
 try clear k18 K18
 refine wp_ret ?_
 simp only [Exit.then, Exit.inBlock]
 refine bodyPost_ret (v := (.tuple #[(.agg #[(.bool false), (.slice none 0 0), (.bool false), (.slice none 0 0), (.bool false), (.slice none 0 0), (.bool false), (.slice none 0 0), (.bool false), (.slice none 0 0), (.bool false), (.slice none 0 0)]), (.int .i64 (ck2 X 65536))])) (ret_cell_tmp' _ _ _ rfl rfl L3 (by kernel_rfl) rfl) rfl ⟨?_, hB⟩
 exact rfl

set_option maxRecDepth 100000 in
set_option maxHeartbeats 4000000 in
theorem vread_b1 (a1 : Rat) (ha1 : RS 2000 a1) (la1 : ((ratL a1).length : Int) ≤ 65536) (Y : List UInt8) (Z : List UInt8) (_lx : Y.length ≤ 500) (hY : ck2 Y 65536 ≠ 0) (w : World) (hm : Mx w) :
    Calls Tryz.prog 59 #[(.agg #[(.string ⟨(ratL (a1) : List UInt8).toArray⟩), (.string ⟨(Y : List UInt8).toArray⟩), (.string ⟨(Z : List UInt8).toArray⟩)]), (.func (.func 61) #[] #[])] w fun e w' => e = .returned (.tuple #[.agg #[.bool false, .slice none 0 0, .bool false, .slice none 0 0, .bool false, .slice none 0 0, .bool false, .slice none 0 0, .bool false, .slice none 0 0, .bool false, .slice none 0 0], .int .i64 (ck2 Y 65536)]) ∧ Gr w w' := by
 have hz : (ck2 Y 65536 != (0 : Int)) = true := by simpa using hY
 go_enter Tryz.func59, Tryz.ntmps59
 have hB := Gr.refl w
 refine wp_seq_k (fun K1 k1 => ?_)
 refine rg [0, 1, 2] ?_
 refine se ?_
 refine eb 24 #[(.string ⟨(ratL (a1) : List UInt8).toArray⟩), (.string ⟨(Y : List UInt8).toArray⟩), (.string ⟨(Z : List UInt8).toArray⟩)] 2 hB fun b2 w2 g2 L2 o2 q2 hB => ?_
 simp only [p3, p4]
 refine se ?_
 refine ea 32 #[(.bool false), (.slice none 0 0), (.bool false), (.slice none 0 0), (.bool false), (.slice none 0 0), (.bool false), (.slice none 0 0), (.bool false), (.slice none 0 0), (.bool false), (.slice none 0 0)] 4 hB fun b3 w3 g3 L3 o3 q3 hB => ?_
 simp only [p3, p4]
 refine sv 5 (.int .i64 0) ?_
 simp only [p3, p4]
 refine sq_nil ?_
 refine k1 _ _ ?_
 try clear k1 K1
 refine wp_seq_k (fun K4 k4 => ?_)
 refine rg [0] ?_
 refine se ?_
 refine ea 32 #[(.bool false), (.slice none 0 0), (.bool false), (.slice none 0 0), (.bool false), (.slice none 0 0), (.bool false), (.slice none 0 0), (.bool false), (.slice none 0 0), (.bool false), (.slice none 0 0)] 6 hB fun b5 w5 g5 L5 o5 q5 hB => ?_
 replace L2 := L2.gr g3
 have ne3_5 := L3.ne o5
 simp only [p3, p4]
 refine sq_nil ?_
 refine k4 _ _ ?_
 try clear k4 K4
 refine wp_seq_k (fun K6 k6 => ?_)
 refine wp_seq_k (fun K7 k7 => ?_)
 refine rg [0, 1] ?_
 replace L2 := L2.gr g5
 refine sw 11 (.agg #[(.string ⟨(ratL (a1) : List UInt8).toArray⟩), (.string ⟨(Y : List UInt8).toArray⟩), (.string ⟨(Z : List UInt8).toArray⟩)]) rfl (rl 24 0 [(.string ⟨(ratL (a1) : List UInt8).toArray⟩), (.string ⟨(Y : List UInt8).toArray⟩), (.string ⟨(Z : List UInt8).toArray⟩)] L2) ?_
 simp only [p3, p4]
 refine sv 12 (.int .i64 0) ?_
 simp only [p3, p4]
 refine sq_nil ?_
 refine k7 _ _ ?_
 try clear k7 K7
 refine wp_block ?_
 refine wp_loop_rounds 4 ?_
 show Code.wp _ _ _ _ _
 refine wp_seq_k (fun K8 k8 => ?_)
 refine rg [0] ?_
 refine sv 13 (.bool true) ?_
 simp only [p3, p4]
 refine sq_nil ?_
 refine k8 _ _ ?_
 try clear k8 K8
 refine wp_seq_k (fun K9 k9 => ?_)
 refine wp_cond_true rfl ?_
 refine wp_skip ?_
 refine k9 _ _ ?_
 try clear k9 K9
 refine wp_seq_k (fun K10 k10 => ?_)
 refine wp_block ?_
 refine wp_seq_k (fun K11 k11 => ?_)
 refine rg [0, 1, 2, 3] ?_
 refine sv 14 (.int .i64 0) ?_
 simp only [p3, p4]
 refine sv 15 (.string ⟨(ratL (a1) : List UInt8).toArray⟩) ?_
 simp only [p3, p4]
 refine sv 7 (.int .i64 0) ?_
 simp only [p3, p4]
 refine sv 8 (.string ⟨(ratL (a1) : List UInt8).toArray⟩) ?_
 simp only [p3, p4]
 refine sq_nil ?_
 refine k11 _ _ ?_
 try clear k11 K11
 refine wp_seq_k (fun K12 k12 => ?_)
 refine rg [0, 1, 2, 3, 4, 5, 6, 7, 8] ?_
 refine sv 17 (.func (.func 61) #[] #[]) ?_
 simp only [p3, p4]
 refine sv 18 (.string ⟨(ratL (a1) : List UInt8).toArray⟩) ?_
 simp only [p3, p4]
 refine se ?_
 refine ec 19 (readr_q (a1) ha1 (by omega) (by omega) la1 _ (hm.gr hB)) ?_
 rintro e13 w13 ⟨⟨cc13_0, cc13_1, cc13_2, cc13_3, rfl, h13⟩, g13⟩
 refine ⟨_, rfl, ?_⟩
 replace hB := hB.trans g13
 simp only [p3, p4]
 refine sv 16 (.tuple #[(.agg #[cc13_0, cc13_1, cc13_2, cc13_3]), (.int .i64 0)]) ?_
 simp only [p3, p4]
 refine sv 20 (.agg #[cc13_0, cc13_1, cc13_2, cc13_3]) ?_
 simp only [p3, p4]
 refine sv 21 (.int .i64 0) ?_
 simp only [p3, p4]
 refine se ?_
 refine ea 30 #[(.bool false), (.slice none 0 0), (.bool false), (.slice none 0 0)] 9 hB fun b14 w14 g14 L14 o14 q14 hB => ?_
 replace L3 := L3.gr (g5.trans g13)
 have ne3_14 := L3.ne o14
 replace L5 := L5.gr g13
 have ne5_14 := L5.ne o14
 simp only [p3, p4]
 refine se ?_
 refine es 30 0 (.agg #[cc13_0, cc13_1, cc13_2, cc13_3]) [cc13_0, cc13_1, cc13_2, cc13_3] #[cc13_0, cc13_1, cc13_2, cc13_3] L14 hB q14 ⟨h13.one0, h13.one1, h13.one2, h13.one3, trivial⟩ fun w15 st15 kp15 L14 hB => ?_
 refine sv 10 (.int .i64 0) ?_
 simp only [p3, p4]
 refine sq_nil ?_
 refine k12 _ _ ?_
 try clear k12 K12
 refine wp_seq_k (fun K16 k16 => ?_)
 refine wp_seq_k (fun K17 k17 => ?_)
 refine rg [0, 1] ?_
 refine sv 22 (.int .i64 0) ?_
 simp only [p3, p4]
 refine sv 23 (.bool false) ?_
 simp only [p3, p4]
 refine sq_nil ?_
 refine k17 _ _ ?_
 try clear k17 K17
 refine wp_cond_false rfl ?_
 refine wp_skip ?_
 refine k16 _ _ ?_
 try clear k16 K16
 refine rg [0, 1, 2, 3] ?_
 refine sv 26 (.int .i64 0) ?_
 simp only [p3, p4]
 refine sw 27 (.agg #[cc13_0, cc13_1, cc13_2, cc13_3]) rfl (rl 30 0 [cc13_0, cc13_1, cc13_2, cc13_3] L14) ?_
 simp only [p3, p4]
 refine sv 28 (.pointer (some ⟨b5, 0, none⟩)) ?_
 simp only [p3, p4]
 refine se ?_
 replace L5 := st15.lc (L5.gr g14) ne5_14
 refine es 30 0 (.agg #[cc13_0, cc13_1, cc13_2, cc13_3]) [cc13_0, cc13_1, cc13_2, cc13_3] #[cc13_0, cc13_1, cc13_2, cc13_3, (.bool false), (.slice none 0 0), (.bool false), (.slice none 0 0), (.bool false), (.slice none 0 0), (.bool false), (.slice none 0 0)] L5 hB q5 ⟨h13.one0, h13.one1, h13.one2, h13.one3, trivial⟩ fun w18 st18 kp18 L5 hB => ?_
 refine sq_nil ?_
 refine k10 _ _ ?_
 try clear k10 K10
 refine rg [0, 1] ?_
 refine sv 29 (.int .i64 1) ?_
 simp only [p3, p4]
 refine sv 12 (.int .i64 1) ?_
 simp only [p3, p4]
 refine sq_nil ?_
 show Code.rounds _ _ _ _ _ _
 show Code.wp _ _ _ _ _
 refine wp_seq_k (fun K19 k19 => ?_)
 refine rg [0] ?_
 refine sv 13 (.bool true) ?_
 simp only [p3, p4]
 refine sq_nil ?_
 refine k19 _ _ ?_
 try clear k19 K19
 refine wp_seq_k (fun K20 k20 => ?_)
 refine wp_cond_true rfl ?_
 refine wp_skip ?_
 refine k20 _ _ ?_
 try clear k20 K20
 refine wp_seq_k (fun K21 k21 => ?_)
 refine wp_block ?_
 refine wp_seq_k (fun K22 k22 => ?_)
 refine rg [0, 1, 2, 3] ?_
 refine sv 14 (.int .i64 1) ?_
 simp only [p3, p4]
 refine sv 15 (.string ⟨(Y : List UInt8).toArray⟩) ?_
 simp only [p3, p4]
 refine sv 7 (.int .i64 1) ?_
 simp only [p3, p4]
 refine sv 8 (.string ⟨(Y : List UInt8).toArray⟩) ?_
 simp only [p3, p4]
 refine sq_nil ?_
 refine k22 _ _ ?_
 try clear k22 K22
 refine wp_seq_k (fun K23 k23 => ?_)
 refine rg [0, 1, 2, 3, 4, 5, 6, 7, 8] ?_
 refine sv 17 (.func (.func 61) #[] #[]) ?_
 simp only [p3, p4]
 refine sv 18 (.string ⟨(Y : List UInt8).toArray⟩) ?_
 simp only [p3, p4]
 refine se ?_
 refine ec 19 (rread_bad Y (by omega) hY _ (hm.gr hB)) ?_
 rintro e24 w24 ⟨rfl, g24⟩
 refine ⟨_, rfl, ?_⟩
 replace hB := hB.trans g24
 simp only [p3, p4]
 refine sv 16 (.tuple #[(.agg #[(.bool false), (.slice none 0 0), (.bool false), (.slice none 0 0)]), (.int .i64 (ck2 Y 65536))]) ?_
 simp only [p3, p4]
 refine sv 20 (.agg #[(.bool false), (.slice none 0 0), (.bool false), (.slice none 0 0)]) ?_
 simp only [p3, p4]
 refine sv 21 (.int .i64 (ck2 Y 65536)) ?_
 simp only [p3, p4]
 refine se ?_
 refine ea 30 #[(.bool false), (.slice none 0 0), (.bool false), (.slice none 0 0)] 9 hB fun b25 w25 g25 L25 o25 q25 hB => ?_
 replace L3 := (st18.lc (st15.lc (L3.gr g14) ne3_14) ne3_5).gr g24
 have ne3_25 := L3.ne o25
 simp only [p3, p4]
 refine se ?_
 refine es 30 0 (.agg #[(.bool false), (.slice none 0 0), (.bool false), (.slice none 0 0)]) [(.bool false), (.slice none 0 0), (.bool false), (.slice none 0 0)] #[(.bool false), (.slice none 0 0), (.bool false), (.slice none 0 0)] L25 hB q25 ⟨rfl, rfl, rfl, rfl, trivial⟩ fun w26 st26 kp26 L25 hB => ?_
 refine sv 10 (.int .i64 (ck2 Y 65536)) ?_
 simp only [p3, p4]
 refine sq_nil ?_
 refine k23 _ _ ?_
 try clear k23 K23
 refine wp_seq_k (fun K27 k27 => ?_)
 refine wp_seq_k (fun K28 k28 => ?_)
 refine rg [0, 1] ?_
 refine sv 22 (.int .i64 (ck2 Y 65536)) ?_
 simp only [p3, p4]
 refine sw 23 (.bool true) rfl (RunV.bool (x := (ck2 Y 65536 != (0 : Int))) (rvk (by kernel_rfl)) hz) ?_
 simp only [p3, p4]
 refine sq_nil ?_
 refine k28 _ _ ?_
 try clear k28 K28
 refine wp_cond_true rfl ?_
 refine wp_seq_k (fun K29 k29 => ?_)
 refine rg [0, 1, 2, 3] ?_
 refine sv 24 (.agg #[(.bool false), (.slice none 0 0), (.bool false), (.slice none 0 0), (.bool false), (.slice none 0 0), (.bool false), (.slice none 0 0), (.bool false), (.slice none 0 0), (.bool false), (.slice none 0 0)]) ?_
 simp only [p3, p4]
 refine sv 25 (.int .i64 (ck2 Y 65536)) ?_
 simp only [p3, p4]
 refine se ?_
 replace L3 := st26.lc (L3.gr g25) ne3_25
 refine es 32 0 (.agg #[(.bool false), (.slice none 0 0), (.bool false), (.slice none 0 0), (.bool false), (.slice none 0 0), (.bool false), (.slice none 0 0), (.bool false), (.slice none 0 0), (.bool false), (.slice none 0 0)]) [(.bool false), (.slice none 0 0), (.bool false), (.slice none 0 0), (.bool false), (.slice none 0 0), (.bool false), (.slice none 0 0), (.bool false), (.slice none 0 0), (.bool false), (.slice none 0 0)] #[(.bool false), (.slice none 0 0), (.bool false), (.slice none 0 0), (.bool false), (.slice none 0 0), (.bool false), (.slice none 0 0), (.bool false), (.slice none 0 0), (.bool false), (.slice none 0 0)] L3 hB q3 ⟨rfl, rfl, rfl, rfl, rfl, rfl, rfl, rfl, rfl, rfl, rfl, rfl, trivial⟩ fun w30 st30 kp30 L3 hB => ?_
 refine sv 5 (.int .i64 (ck2 Y 65536)) ?_
 simp only [p3, p4]
 refine sq_nil ?_
 refine k29 _ _ ?_
 try clear k29 K29
 refine wp_ret ?_
 simp only [Exit.then, Exit.inBlock]
 refine bodyPost_ret (v := (.tuple #[(.agg #[(.bool false), (.slice none 0 0), (.bool false), (.slice none 0 0), (.bool false), (.slice none 0 0), (.bool false), (.slice none 0 0), (.bool false), (.slice none 0 0), (.bool false), (.slice none 0 0)]), (.int .i64 (ck2 Y 65536))])) (ret_cell_tmp' _ _ _ rfl rfl L3 (by kernel_rfl) rfl) rfl ⟨?_, hB⟩
 exact rfl

set_option maxRecDepth 100000 in
set_option maxHeartbeats 4000000 in
theorem vread_b2 (a1 : Rat) (ha1 : RS 2000 a1) (la1 : ((ratL a1).length : Int) ≤ 65536) (a2 : Rat) (ha2 : RS 2000 a2) (la2 : ((ratL a2).length : Int) ≤ 65536) (Z : List UInt8) (_lx : Z.length ≤ 500) (hZ : ck2 Z 65536 ≠ 0) (w : World) (hm : Mx w) :
    Calls Tryz.prog 59 #[(.agg #[(.string ⟨(ratL (a1) : List UInt8).toArray⟩), (.string ⟨(ratL (a2) : List UInt8).toArray⟩), (.string ⟨(Z : List UInt8).toArray⟩)]), (.func (.func 61) #[] #[])] w fun e w' => e = .returned (.tuple #[.agg #[.bool false, .slice none 0 0, .bool false, .slice none 0 0, .bool false, .slice none 0 0, .bool false, .slice none 0 0, .bool false, .slice none 0 0, .bool false, .slice none 0 0], .int .i64 (ck2 Z 65536)]) ∧ Gr w w' := by
 have hz : (ck2 Z 65536 != (0 : Int)) = true := by simpa using hZ
 go_enter Tryz.func59, Tryz.ntmps59
 have hB := Gr.refl w
 refine wp_seq_k (fun K1 k1 => ?_)
 refine rg [0, 1, 2] ?_
 refine se ?_
 refine eb 24 #[(.string ⟨(ratL (a1) : List UInt8).toArray⟩), (.string ⟨(ratL (a2) : List UInt8).toArray⟩), (.string ⟨(Z : List UInt8).toArray⟩)] 2 hB fun b2 w2 g2 L2 o2 q2 hB => ?_
 simp only [p3, p4]
 refine se ?_
 refine ea 32 #[(.bool false), (.slice none 0 0), (.bool false), (.slice none 0 0), (.bool false), (.slice none 0 0), (.bool false), (.slice none 0 0), (.bool false), (.slice none 0 0), (.bool false), (.slice none 0 0)] 4 hB fun b3 w3 g3 L3 o3 q3 hB => ?_
 simp only [p3, p4]
 refine sv 5 (.int .i64 0) ?_
 simp only [p3, p4]
 refine sq_nil ?_
 refine k1 _ _ ?_
 try clear k1 K1
 refine wp_seq_k (fun K4 k4 => ?_)
 refine rg [0] ?_
 refine se ?_
 refine ea 32 #[(.bool false), (.slice none 0 0), (.bool false), (.slice none 0 0), (.bool false), (.slice none 0 0), (.bool false), (.slice none 0 0), (.bool false), (.slice none 0 0), (.bool false), (.slice none 0 0)] 6 hB fun b5 w5 g5 L5 o5 q5 hB => ?_
 replace L2 := L2.gr g3
 have ne3_5 := L3.ne o5
 simp only [p3, p4]
 refine sq_nil ?_
 refine k4 _ _ ?_
 try clear k4 K4
 refine wp_seq_k (fun K6 k6 => ?_)
 refine wp_seq_k (fun K7 k7 => ?_)
 refine rg [0, 1] ?_
 replace L2 := L2.gr g5
 refine sw 11 (.agg #[(.string ⟨(ratL (a1) : List UInt8).toArray⟩), (.string ⟨(ratL (a2) : List UInt8).toArray⟩), (.string ⟨(Z : List UInt8).toArray⟩)]) rfl (rl 24 0 [(.string ⟨(ratL (a1) : List UInt8).toArray⟩), (.string ⟨(ratL (a2) : List UInt8).toArray⟩), (.string ⟨(Z : List UInt8).toArray⟩)] L2) ?_
 simp only [p3, p4]
 refine sv 12 (.int .i64 0) ?_
 simp only [p3, p4]
 refine sq_nil ?_
 refine k7 _ _ ?_
 try clear k7 K7
 refine wp_block ?_
 refine wp_loop_rounds 4 ?_
 show Code.wp _ _ _ _ _
 refine wp_seq_k (fun K8 k8 => ?_)
 refine rg [0] ?_
 refine sv 13 (.bool true) ?_
 simp only [p3, p4]
 refine sq_nil ?_
 refine k8 _ _ ?_
 try clear k8 K8
 refine wp_seq_k (fun K9 k9 => ?_)
 refine wp_cond_true rfl ?_
 refine wp_skip ?_
 refine k9 _ _ ?_
 try clear k9 K9
 refine wp_seq_k (fun K10 k10 => ?_)
 refine wp_block ?_
 refine wp_seq_k (fun K11 k11 => ?_)
 refine rg [0, 1, 2, 3] ?_
 refine sv 14 (.int .i64 0) ?_
 simp only [p3, p4]
 refine sv 15 (.string ⟨(ratL (a1) : List UInt8).toArray⟩) ?_
 simp only [p3, p4]
 refine sv 7 (.int .i64 0) ?_
 simp only [p3, p4]
 refine sv 8 (.string ⟨(ratL (a1) : List UInt8).toArray⟩) ?_
 simp only [p3, p4]
 refine sq_nil ?_
 refine k11 _ _ ?_
 try clear k11 K11
 refine wp_seq_k (fun K12 k12 => ?_)
 refine rg [0, 1, 2, 3, 4, 5, 6, 7, 8] ?_
 refine sv 17 (.func (.func 61) #[] #[]) ?_
 simp only [p3, p4]
 refine sv 18 (.string ⟨(ratL (a1) : List UInt8).toArray⟩) ?_
 simp only [p3, p4]
 refine se ?_
 refine ec 19 (readr_q (a1) ha1 (by omega) (by omega) la1 _ (hm.gr hB)) ?_
 rintro e13 w13 ⟨⟨cc13_0, cc13_1, cc13_2, cc13_3, rfl, h13⟩, g13⟩
 refine ⟨_, rfl, ?_⟩
 replace hB := hB.trans g13
 simp only [p3, p4]
 refine sv 16 (.tuple #[(.agg #[cc13_0, cc13_1, cc13_2, cc13_3]), (.int .i64 0)]) ?_
 simp only [p3, p4]
 refine sv 20 (.agg #[cc13_0, cc13_1, cc13_2, cc13_3]) ?_
 simp only [p3, p4]
 refine sv 21 (.int .i64 0) ?_
 simp only [p3, p4]
 refine se ?_
 refine ea 30 #[(.bool false), (.slice none 0 0), (.bool false), (.slice none 0 0)] 9 hB fun b14 w14 g14 L14 o14 q14 hB => ?_
 replace L3 := L3.gr (g5.trans g13)
 have ne3_14 := L3.ne o14
 replace L5 := L5.gr g13
 have ne5_14 := L5.ne o14
 simp only [p3, p4]
 refine se ?_
 refine es 30 0 (.agg #[cc13_0, cc13_1, cc13_2, cc13_3]) [cc13_0, cc13_1, cc13_2, cc13_3] #[cc13_0, cc13_1, cc13_2, cc13_3] L14 hB q14 ⟨h13.one0, h13.one1, h13.one2, h13.one3, trivial⟩ fun w15 st15 kp15 L14 hB => ?_
 refine sv 10 (.int .i64 0) ?_
 simp only [p3, p4]
 refine sq_nil ?_
 refine k12 _ _ ?_
 try clear k12 K12
 refine wp_seq_k (fun K16 k16 => ?_)
 refine wp_seq_k (fun K17 k17 => ?_)
 refine rg [0, 1] ?_
 refine sv 22 (.int .i64 0) ?_
 simp only [p3, p4]
 refine sv 23 (.bool false) ?_
 simp only [p3, p4]
 refine sq_nil ?_
 refine k17 _ _ ?_
 try clear k17 K17
 refine wp_cond_false rfl ?_
 refine wp_skip ?_
 refine k16 _ _ ?_
 try clear k16 K16
 refine rg [0, 1, 2, 3] ?_
 refine sv 26 (.int .i64 0) ?_
 simp only [p3, p4]
 refine sw 27 (.agg #[cc13_0, cc13_1, cc13_2, cc13_3]) rfl (rl 30 0 [cc13_0, cc13_1, cc13_2, cc13_3] L14) ?_
 simp only [p3, p4]
 refine sv 28 (.pointer (some ⟨b5, 0, none⟩)) ?_
 simp only [p3, p4]
 refine se ?_
 replace L5 := st15.lc (L5.gr g14) ne5_14
 refine es 30 0 (.agg #[cc13_0, cc13_1, cc13_2, cc13_3]) [cc13_0, cc13_1, cc13_2, cc13_3] #[cc13_0, cc13_1, cc13_2, cc13_3, (.bool false), (.slice none 0 0), (.bool false), (.slice none 0 0), (.bool false), (.slice none 0 0), (.bool false), (.slice none 0 0)] L5 hB q5 ⟨h13.one0, h13.one1, h13.one2, h13.one3, trivial⟩ fun w18 st18 kp18 L5 hB => ?_
 refine sq_nil ?_
 refine k10 _ _ ?_
 try clear k10 K10
 refine rg [0, 1] ?_
 refine sv 29 (.int .i64 1) ?_
 simp only [p3, p4]
 refine sv 12 (.int .i64 1) ?_
 simp only [p3, p4]
 refine sq_nil ?_
 show Code.rounds _ _ _ _ _ _
 show Code.wp _ _ _ _ _
 refine wp_seq_k (fun K19 k19 => ?_)
 refine rg [0] ?_
 refine sv 13 (.bool true) ?_
 simp only [p3, p4]
 refine sq_nil ?_
 refine k19 _ _ ?_
 try clear k19 K19
 refine wp_seq_k (fun K20 k20 => ?_)
 refine wp_cond_true rfl ?_
 refine wp_skip ?_
 refine k20 _ _ ?_
 try clear k20 K20
 refine wp_seq_k (fun K21 k21 => ?_)
 refine wp_block ?_
 refine wp_seq_k (fun K22 k22 => ?_)
 refine rg [0, 1, 2, 3] ?_
 refine sv 14 (.int .i64 1) ?_
 simp only [p3, p4]
 refine sv 15 (.string ⟨(ratL (a2) : List UInt8).toArray⟩) ?_
 simp only [p3, p4]
 refine sv 7 (.int .i64 1) ?_
 simp only [p3, p4]
 refine sv 8 (.string ⟨(ratL (a2) : List UInt8).toArray⟩) ?_
 simp only [p3, p4]
 refine sq_nil ?_
 refine k22 _ _ ?_
 try clear k22 K22
 refine wp_seq_k (fun K23 k23 => ?_)
 refine rg [0, 1, 2, 3, 4, 5, 6, 7, 8] ?_
 refine sv 17 (.func (.func 61) #[] #[]) ?_
 simp only [p3, p4]
 refine sv 18 (.string ⟨(ratL (a2) : List UInt8).toArray⟩) ?_
 simp only [p3, p4]
 refine se ?_
 refine ec 19 (readr_q (a2) ha2 (by omega) (by omega) la2 _ (hm.gr hB)) ?_
 rintro e24 w24 ⟨⟨cc24_0, cc24_1, cc24_2, cc24_3, rfl, h24⟩, g24⟩
 refine ⟨_, rfl, ?_⟩
 replace hB := hB.trans g24
 simp only [p3, p4]
 refine sv 16 (.tuple #[(.agg #[cc24_0, cc24_1, cc24_2, cc24_3]), (.int .i64 0)]) ?_
 simp only [p3, p4]
 refine sv 20 (.agg #[cc24_0, cc24_1, cc24_2, cc24_3]) ?_
 simp only [p3, p4]
 refine sv 21 (.int .i64 0) ?_
 simp only [p3, p4]
 refine se ?_
 refine ea 30 #[(.bool false), (.slice none 0 0), (.bool false), (.slice none 0 0)] 9 hB fun b25 w25 g25 L25 o25 q25 hB => ?_
 replace L3 := (st18.lc (st15.lc (L3.gr g14) ne3_14) ne3_5).gr g24
 have ne3_25 := L3.ne o25
 replace L5 := L5.gr g24
 have ne5_25 := L5.ne o25
 simp only [p3, p4]
 refine se ?_
 refine es 30 0 (.agg #[cc24_0, cc24_1, cc24_2, cc24_3]) [cc24_0, cc24_1, cc24_2, cc24_3] #[cc24_0, cc24_1, cc24_2, cc24_3] L25 hB q25 ⟨h24.one0, h24.one1, h24.one2, h24.one3, trivial⟩ fun w26 st26 kp26 L25 hB => ?_
 refine sv 10 (.int .i64 0) ?_
 simp only [p3, p4]
 refine sq_nil ?_
 refine k23 _ _ ?_
 try clear k23 K23
 refine wp_seq_k (fun K27 k27 => ?_)
 refine wp_seq_k (fun K28 k28 => ?_)
 refine rg [0, 1] ?_
 refine sv 22 (.int .i64 0) ?_
 simp only [p3, p4]
 refine sv 23 (.bool false) ?_
 simp only [p3, p4]
 refine sq_nil ?_
 refine k28 _ _ ?_
 try clear k28 K28
 refine wp_cond_false rfl ?_
 refine wp_skip ?_
 refine k27 _ _ ?_
 try clear k27 K27
 refine rg [0, 1, 2, 3] ?_
 refine sv 26 (.int .i64 1) ?_
 simp only [p3, p4]
 refine sw 27 (.agg #[cc24_0, cc24_1, cc24_2, cc24_3]) rfl (rl 30 0 [cc24_0, cc24_1, cc24_2, cc24_3] L25) ?_
 simp only [p3, p4]
 refine sv 28 (.pointer (some ⟨b5, 4, none⟩)) ?_
 simp only [p3, p4]
 refine se ?_
 replace L5 := st26.lc (L5.gr g25) ne5_25
 refine es 30 4 (.agg #[cc24_0, cc24_1, cc24_2, cc24_3]) [cc24_0, cc24_1, cc24_2, cc24_3] #[cc13_0, cc13_1, cc13_2, cc13_3, cc24_0, cc24_1, cc24_2, cc24_3, (.bool false), (.slice none 0 0), (.bool false), (.slice none 0 0)] L5 hB q5 ⟨h24.one0, h24.one1, h24.one2, h24.one3, trivial⟩ fun w29 st29 kp29 L5 hB => ?_
 refine sq_nil ?_
 refine k21 _ _ ?_
 try clear k21 K21
 refine rg [0, 1] ?_
 refine sv 29 (.int .i64 2) ?_
 simp only [p3, p4]
 refine sv 12 (.int .i64 2) ?_
 simp only [p3, p4]
 refine sq_nil ?_
 show Code.rounds _ _ _ _ _ _
 show Code.wp _ _ _ _ _
 refine wp_seq_k (fun K30 k30 => ?_)
 refine rg [0] ?_
 refine sv 13 (.bool true) ?_
 simp only [p3, p4]
 refine sq_nil ?_
 refine k30 _ _ ?_
 try clear k30 K30
 refine wp_seq_k (fun K31 k31 => ?_)
 refine wp_cond_true rfl ?_
 refine wp_skip ?_
 refine k31 _ _ ?_
 try clear k31 K31
 refine wp_seq_k (fun K32 k32 => ?_)
 refine wp_block ?_
 refine wp_seq_k (fun K33 k33 => ?_)
 refine rg [0, 1, 2, 3] ?_
 refine sv 14 (.int .i64 2) ?_
 simp only [p3, p4]
 refine sv 15 (.string ⟨(Z : List UInt8).toArray⟩) ?_
 simp only [p3, p4]
 refine sv 7 (.int .i64 2) ?_
 simp only [p3, p4]
 refine sv 8 (.string ⟨(Z : List UInt8).toArray⟩) ?_
 simp only [p3, p4]
 refine sq_nil ?_
 refine k33 _ _ ?_
 try clear k33 K33
 refine wp_seq_k (fun K34 k34 => ?_)
 refine rg [0, 1, 2, 3, 4, 5, 6, 7, 8] ?_
 refine sv 17 (.func (.func 61) #[] #[]) ?_
 simp only [p3, p4]
 refine sv 18 (.string ⟨(Z : List UInt8).toArray⟩) ?_
 simp only [p3, p4]
 refine se ?_
 refine ec 19 (rread_bad Z (by omega) hZ _ (hm.gr hB)) ?_
 rintro e35 w35 ⟨rfl, g35⟩
 refine ⟨_, rfl, ?_⟩
 replace hB := hB.trans g35
 simp only [p3, p4]
 refine sv 16 (.tuple #[(.agg #[(.bool false), (.slice none 0 0), (.bool false), (.slice none 0 0)]), (.int .i64 (ck2 Z 65536))]) ?_
 simp only [p3, p4]
 refine sv 20 (.agg #[(.bool false), (.slice none 0 0), (.bool false), (.slice none 0 0)]) ?_
 simp only [p3, p4]
 refine sv 21 (.int .i64 (ck2 Z 65536)) ?_
 simp only [p3, p4]
 refine se ?_
 refine ea 30 #[(.bool false), (.slice none 0 0), (.bool false), (.slice none 0 0)] 9 hB fun b36 w36 g36 L36 o36 q36 hB => ?_
 replace L3 := (st29.lc (st26.lc (L3.gr g25) ne3_25) ne3_5).gr g35
 have ne3_36 := L3.ne o36
 simp only [p3, p4]
 refine se ?_
 refine es 30 0 (.agg #[(.bool false), (.slice none 0 0), (.bool false), (.slice none 0 0)]) [(.bool false), (.slice none 0 0), (.bool false), (.slice none 0 0)] #[(.bool false), (.slice none 0 0), (.bool false), (.slice none 0 0)] L36 hB q36 ⟨rfl, rfl, rfl, rfl, trivial⟩ fun w37 st37 kp37 L36 hB => ?_
 refine sv 10 (.int .i64 (ck2 Z 65536)) ?_
 simp only [p3, p4]
 refine sq_nil ?_
 refine k34 _ _ ?_
 try clear k34 K34
 refine wp_seq_k (fun K38 k38 => ?_)
 refine wp_seq_k (fun K39 k39 => ?_)
 refine rg [0, 1] ?_
 refine sv 22 (.int .i64 (ck2 Z 65536)) ?_
 simp only [p3, p4]
 refine sw 23 (.bool true) rfl (RunV.bool (x := (ck2 Z 65536 != (0 : Int))) (rvk (by kernel_rfl)) hz) ?_
 simp only [p3, p4]
 refine sq_nil ?_
 refine k39 _ _ ?_
 try clear k39 K39
 refine wp_cond_true rfl ?_
 refine wp_seq_k (fun K40 k40 => ?_)
 refine rg [0, 1, 2, 3] ?_
 refine sv 24 (.agg #[(.bool false), (.slice none 0 0), (.bool false), (.slice none 0 0), (.bool false), (.slice none 0 0), (.bool false), (.slice none 0 0), (.bool false), (.slice none 0 0), (.bool false), (.slice none 0 0)]) ?_
 simp only [p3, p4]
 refine sv 25 (.int .i64 (ck2 Z 65536)) ?_
 simp only [p3, p4]
 refine se ?_
 replace L3 := st37.lc (L3.gr g36) ne3_36
 refine es 32 0 (.agg #[(.bool false), (.slice none 0 0), (.bool false), (.slice none 0 0), (.bool false), (.slice none 0 0), (.bool false), (.slice none 0 0), (.bool false), (.slice none 0 0), (.bool false), (.slice none 0 0)]) [(.bool false), (.slice none 0 0), (.bool false), (.slice none 0 0), (.bool false), (.slice none 0 0), (.bool false), (.slice none 0 0), (.bool false), (.slice none 0 0), (.bool false), (.slice none 0 0)] #[(.bool false), (.slice none 0 0), (.bool false), (.slice none 0 0), (.bool false), (.slice none 0 0), (.bool false), (.slice none 0 0), (.bool false), (.slice none 0 0), (.bool false), (.slice none 0 0)] L3 hB q3 ⟨rfl, rfl, rfl, rfl, rfl, rfl, rfl, rfl, rfl, rfl, rfl, rfl, trivial⟩ fun w41 st41 kp41 L3 hB => ?_
 refine sv 5 (.int .i64 (ck2 Z 65536)) ?_
 simp only [p3, p4]
 refine sq_nil ?_
 refine k40 _ _ ?_
 try clear k40 K40
 refine wp_ret ?_
 simp only [Exit.then, Exit.inBlock]
 refine bodyPost_ret (v := (.tuple #[(.agg #[(.bool false), (.slice none 0 0), (.bool false), (.slice none 0 0), (.bool false), (.slice none 0 0), (.bool false), (.slice none 0 0), (.bool false), (.slice none 0 0), (.bool false), (.slice none 0 0)]), (.int .i64 (ck2 Z 65536))])) (ret_cell_tmp' _ _ _ rfl rfl L3 (by kernel_rfl) rfl) rfl ⟨?_, hB⟩
 exact rfl

theorem vread_any0 (X Y Z : List UInt8) (lx : X.length ≤ 500) (ly : Y.length ≤ 500) (lz : Z.length ≤ 500) (w : World) (hm : Mx w) :
    Calls Tryz.prog 59 #[(.agg #[(.string ⟨(X : List UInt8).toArray⟩), (.string ⟨(Y : List UInt8).toArray⟩), (.string ⟨(Z : List UInt8).toArray⟩)]), (.func (.func 61) #[] #[])] w fun e w' => (∃ t0 t1 t2 t3 t4 t5 t6 t7 t8 t9 t10 t11 a1 a2 a3, e = .returned (.tuple #[.agg #[t0, t1, t2, t3, t4, t5, t6, t7, t8, t9, t10, t11], .int .i64 (first3 (ck2 X 65536) (ck2 Y 65536) (ck2 Z 65536))]) ∧ (IsRat w' 2000 t0 t1 t2 t3 a1 ∧ IsRat w' 2000 t4 t5 t6 t7 a2 ∧ IsRat w' 2000 t8 t9 t10 t11 a3) ∧ (first3 (ck2 X 65536) (ck2 Y 65536) (ck2 Z 65536) = 0 ∧ X = ratL a1 ∧ Y = ratL a2 ∧ Z = ratL a3 ∨ first3 (ck2 X 65536) (ck2 Y 65536) (ck2 Z 65536) ≠ 0 ∧ a1 = 0 ∧ a2 = 0 ∧ a3 = 0)) ∧ Gr w w' := by
  unfold first3
  by_cases hX : ck2 X 65536 = 0
  · obtain ⟨a1, rfl, ha1, la1⟩ := ratL_of_ck2 hX lx
    rw [if_pos hX]
    by_cases hY : ck2 Y 65536 = 0
    · obtain ⟨a2, rfl, ha2, la2⟩ := ratL_of_ck2 hY ly
      rw [if_pos hY]
      by_cases hZ : ck2 Z 65536 = 0
      · obtain ⟨a3, rfl, ha3, la3⟩ := ratL_of_ck2 hZ lz
        refine (vreadr0 a1 a2 a3 ha1 ha2 ha3 (by omega) (by omega) w hm).mono ?_
        rintro e w1 ⟨⟨t0, t1, t2, t3, t4, t5, t6, t7, t8, t9, t10, t11, he, hq⟩, g⟩
        exact ⟨⟨_, _, _, _, _, _, _, _, _, _, _, _, a1, a2, a3, by rw [hZ]; exact he, hq, .inl ⟨hZ, rfl, rfl, rfl⟩⟩, g⟩
      · refine (vread_b2 a1 ha1 la1 a2 ha2 la2 Z lz hZ w hm).mono ?_
        rintro e w1 ⟨he, g⟩
        exact ⟨⟨_, _, _, _, _, _, _, _, _, _, _, _, 0, 0, 0, he, ⟨IsRat.zero _ (by omega), IsRat.zero _ (by omega), IsRat.zero _ (by omega)⟩, .inr ⟨hZ, rfl, rfl, rfl⟩⟩, g⟩
    · rw [if_neg hY]
      refine (vread_b1 a1 ha1 la1 Y Z ly hY w hm).mono ?_
      rintro e w1 ⟨he, g⟩
      exact ⟨⟨_, _, _, _, _, _, _, _, _, _, _, _, 0, 0, 0, he, ⟨IsRat.zero _ (by omega), IsRat.zero _ (by omega), IsRat.zero _ (by omega)⟩, .inr ⟨hY, rfl, rfl, rfl⟩⟩, g⟩
  · rw [if_neg hX]
    refine (vread_b0 X Y Z lx hX w hm).mono ?_
    rintro e w1 ⟨he, g⟩
    exact ⟨⟨_, _, _, _, _, _, _, _, _, _, _, _, 0, 0, 0, he, ⟨IsRat.zero _ (by omega), IsRat.zero _ (by omega), IsRat.zero _ (by omega)⟩, .inr ⟨hX, rfl, rfl, rfl⟩⟩, g⟩

set_option maxRecDepth 100000 in
set_option maxHeartbeats 1000000 in
theorem vread_any (X Y Z : List UInt8) (lx : X.length ≤ 500) (ly : Y.length ≤ 500) (lz : Z.length ≤ 500) (w : World) (hm : Mx w) :
    Calls Tryz.prog 14 #[(.agg #[(.string ⟨(X : List UInt8).toArray⟩), (.string ⟨(Y : List UInt8).toArray⟩), (.string ⟨(Z : List UInt8).toArray⟩)])] w fun e w' => (∃ t0 t1 t2 t3 t4 t5 t6 t7 t8 t9 t10 t11 a1 a2 a3, e = .returned (.tuple #[.agg #[t0, t1, t2, t3, t4, t5, t6, t7, t8, t9, t10, t11], .int .i64 (first3 (ck2 X 65536) (ck2 Y 65536) (ck2 Z 65536))]) ∧ (IsRat w' 2000 t0 t1 t2 t3 a1 ∧ IsRat w' 2000 t4 t5 t6 t7 a2 ∧ IsRat w' 2000 t8 t9 t10 t11 a3) ∧ (first3 (ck2 X 65536) (ck2 Y 65536) (ck2 Z 65536) = 0 ∧ X = ratL a1 ∧ Y = ratL a2 ∧ Z = ratL a3 ∨ first3 (ck2 X 65536) (ck2 Y 65536) (ck2 Z 65536) ≠ 0 ∧ a1 = 0 ∧ a2 = 0 ∧ a3 = 0)) ∧ Gr w w' := by
 go_enter Tryz.func14, Tryz.ntmps14
 have hB := Gr.refl w
 refine wp_seq_k (fun K1 k1 => ?_)
 refine rg [0, 1, 2] ?_
 refine se ?_
 refine eb 24 #[(.string ⟨(X : List UInt8).toArray⟩), (.string ⟨(Y : List UInt8).toArray⟩), (.string ⟨(Z : List UInt8).toArray⟩)] 1 hB fun b2 w2 g2 L2 o2 q2 hB => ?_
 simp only [p3, p4]
 refine se ?_
 refine ea 32 #[(.bool false), (.slice none 0 0), (.bool false), (.slice none 0 0), (.bool false), (.slice none 0 0), (.bool false), (.slice none 0 0), (.bool false), (.slice none 0 0), (.bool false), (.slice none 0 0)] 2 hB fun b3 w3 g3 L3 o3 q3 hB => ?_
 simp only [p3, p4]
 refine sv 3 (.int .i64 0) ?_
 simp only [p3, p4]
 refine sq_nil ?_
 refine k1 _ _ ?_
 try clear k1 K1
 refine wp_seq_k (fun K4 k4 => ?_)
 refine rg [0, 1, 2, 3, 4, 5] ?_
 replace L2 := L2.gr g3
 refine sw 4 (.agg #[(.string ⟨(X : List UInt8).toArray⟩), (.string ⟨(Y : List UInt8).toArray⟩), (.string ⟨(Z : List UInt8).toArray⟩)]) rfl (rl 24 0 [(.string ⟨(X : List UInt8).toArray⟩), (.string ⟨(Y : List UInt8).toArray⟩), (.string ⟨(Z : List UInt8).toArray⟩)] L2) ?_
 simp only [p3, p4]
 refine se ?_
 refine ec 5 (vread_any0 X Y Z lx ly lz _ (hm.gr hB)) ?_
 rintro e5 w5 ⟨⟨t5_0, t5_1, t5_2, t5_3, t5_4, t5_5, t5_6, t5_7, t5_8, t5_9, t5_10, t5_11, az5_0, az5_1, az5_2, rfl, ⟨h5a, h5b, h5c⟩, hor5⟩, g5⟩
 refine ⟨_, rfl, ?_⟩
 replace hB := hB.trans g5
 simp only [p3, p4]
 refine sv 6 (.agg #[t5_0, t5_1, t5_2, t5_3, t5_4, t5_5, t5_6, t5_7, t5_8, t5_9, t5_10, t5_11]) ?_
 simp only [p3, p4]
 refine sv 7 (.int .i64 (first3 (ck2 X 65536) (ck2 Y 65536) (ck2 Z 65536))) ?_
 simp only [p3, p4]
 refine se ?_
 replace L3 := L3.gr g5
 refine es 32 0 (.agg #[t5_0, t5_1, t5_2, t5_3, t5_4, t5_5, t5_6, t5_7, t5_8, t5_9, t5_10, t5_11]) [t5_0, t5_1, t5_2, t5_3, t5_4, t5_5, t5_6, t5_7, t5_8, t5_9, t5_10, t5_11] #[t5_0, t5_1, t5_2, t5_3, t5_4, t5_5, t5_6, t5_7, t5_8, t5_9, t5_10, t5_11] L3 hB q3 ⟨h5a.one0, h5a.one1, h5a.one2, h5a.one3, h5b.one0, h5b.one1, h5b.one2, h5b.one3, h5c.one0, h5c.one1, h5c.one2, h5c.one3, trivial⟩ fun w6 st6 kp6 L3 hB => ?_
 refine sv 3 (.int .i64 (first3 (ck2 X 65536) (ck2 Y 65536) (ck2 Z 65536))) ?_
 simp only [p3, p4]
 refine sq_nil ?_
 refine k4 _ _ ?_
 try clear k4 K4
 refine wp_ret ?_
 refine bodyPost_ret (v := (.tuple #[(.agg #[t5_0, t5_1, t5_2, t5_3, t5_4, t5_5, t5_6, t5_7, t5_8, t5_9, t5_10, t5_11]), (.int .i64 (first3 (ck2 X 65536) (ck2 Y 65536) (ck2 Z 65536)))])) (ret_cell_tmp' _ _ _ rfl rfl L3 (by kernel_rfl) rfl) rfl ⟨?_, hB⟩
 replace h5a := h5a.kp kp6
 replace h5b := h5b.kp kp6
 replace h5c := h5c.kp kp6
 exact ⟨_, _, _, _, _, _, _, _, _, _, _, _, _, _, _, rfl, ⟨h5a, h5b, h5c⟩, hor5⟩

theorem sEq_zero3 {a1 a2 a3 : Rat} (h1 : a1 = 0) (h2 : a2 = 0) (h3 : a3 = 0) : sEq [ratL a1, ratL a2, ratL a3] [[48], [48], [48]] = true := by
  rw [zero_sEq, h1, h2, h3]; rfl
theorem sEq_eqs {a1 a2 a3 : Rat} {X Y Z : List UInt8} (h1 : X = ratL a1) (h2 : Y = ratL a2) (h3 : Z = ratL a3) : sEq [ratL a1, ratL a2, ratL a3] [X, Y, Z] = true := by
  subst h1 h2 h3; exact sEq_same _

set_option maxRecDepth 100000 in
set_option maxHeartbeats 1000000 in
theorem vparses_l (X Y Z : List UInt8) (_rX : X.length ≤ 140737488351232) (_rY : Y.length ≤ 140737488351232) (_rZ : Z.length ≤ 140737488351232) (hl : decide ((500 : Int) < (((((X).length : Int) + ((Y).length : Int)) + ((Z).length : Int)))) = true) (w : World) (ht : Tab w) (hm : Mx w) :
    Calls Tryz.prog 3 #[(.agg #[(.string ⟨(X : List UInt8).toArray⟩), (.string ⟨(Y : List UInt8).toArray⟩), (.string ⟨(Z : List UInt8).toArray⟩)])] w fun e w' => e = .returned (.bool true) ∧ Gr w w' := by
 go_enter Tryz.func3, Tryz.ntmps3
 have hB := Gr.refl w
 refine wp_seq_k (fun K1 k1 => ?_)
 refine rg [0, 1] ?_
 refine se ?_
 refine eb 24 #[(.string ⟨(X : List UInt8).toArray⟩), (.string ⟨(Y : List UInt8).toArray⟩), (.string ⟨(Z : List UInt8).toArray⟩)] 1 hB fun b2 w2 g2 L2 o2 q2 hB => ?_
 simp only [p3, p4]
 refine sv 2 (.bool false) ?_
 simp only [p3, p4]
 refine sq_nil ?_
 refine k1 _ _ ?_
 try clear k1 K1
 refine wp_seq_k (fun K3 k3 => ?_)
 refine wp_seq_k (fun K4 k4 => ?_)
 refine rg [0, 1, 2, 3, 4, 5, 6, 7, 8, 9, 10, 11, 12, 13, 14, 15] ?_
 refine se ?_
 refine ec 8 (known3 _ (ht.gr hB) (hm.gr hB)) ?_
 rintro e5 w5 ⟨rfl, g5⟩
 refine ⟨_, rfl, ?_⟩
 replace hB := hB.trans g5
 simp only [p3, p4]
 refine sv 9 (.bool false) ?_
 simp only [p3, p4]
 refine sv 10 (.bool false) ?_
 simp only [p3, p4]
 refine sv 11 (.pointer (some ⟨b2, 0, none⟩)) ?_
 simp only [p3, p4]
 replace L2 := L2.gr g5
 refine sw 12 (.string ⟨(X : List UInt8).toArray⟩) rfl (rk 22 0 L2) ?_
 simp only [p3, p4]
 refine sv 13 (.int .i64 (((X).length : Int))) ?_
 simp only [p3, p4]
 refine sv 14 (.pointer (some ⟨b2, 1, none⟩)) ?_
 simp only [p3, p4]
 refine sw 15 (.string ⟨(Y : List UInt8).toArray⟩) rfl (rk 22 1 L2) ?_
 simp only [p3, p4]
 refine sv 16 (.int .i64 (((Y).length : Int))) ?_
 simp only [p3, p4]
 refine sw 17 (.int .i64 ((((X).length : Int) + ((Y).length : Int)))) rfl (RunV.int (x := IntKind.i64.wrap ((((X).length : Int) + ((Y).length : Int)))) (y := (((X).length : Int) + ((Y).length : Int))) (rvk (by kernel_rfl)) (by first | rfl | (rw [IntKind.wrap_i64]; omega))) ?_
 simp only [p3, p4]
 refine sv 18 (.pointer (some ⟨b2, 2, none⟩)) ?_
 simp only [p3, p4]
 refine sw 19 (.string ⟨(Z : List UInt8).toArray⟩) rfl (rk 22 2 L2) ?_
 simp only [p3, p4]
 refine sv 20 (.int .i64 (((Z).length : Int))) ?_
 simp only [p3, p4]
 refine sw 21 (.int .i64 (((((X).length : Int) + ((Y).length : Int)) + ((Z).length : Int)))) rfl (RunV.int (x := IntKind.i64.wrap (((((X).length : Int) + ((Y).length : Int)) + ((Z).length : Int)))) (y := ((((X).length : Int) + ((Y).length : Int)) + ((Z).length : Int))) (rvk (by kernel_rfl)) (by first | rfl | (rw [IntKind.wrap_i64]; omega))) ?_
 simp only [p3, p4]
 refine sw 22 (.bool true) rfl (RunV.bool (x := decide ((500 : Int) < ((((X).length : Int) + ((Y).length : Int)) + ((Z).length : Int)))) (rvk (by kernel_rfl)) hl) ?_
 simp only [p3, p4]
 refine sv 23 (.bool true) ?_
 simp only [p3, p4]
 refine sq_nil ?_
 refine k4 _ _ ?_
 try clear k4 K4
 refine wp_cond_true rfl ?_
 refine wp_seq_k (fun K6 k6 => ?_)
 refine rg [0, 1] ?_
 refine se ?_
 refine ec 24 (known3 _ (ht.gr hB) (hm.gr hB)) ?_
 rintro e7 w7 ⟨rfl, g7⟩
 refine ⟨_, rfl, ?_⟩
 replace hB := hB.trans g7
 simp only [p3, p4]
 refine sv 2 (.bool true) ?_
 simp only [p3, p4]
 refine sq_nil ?_
 refine k6 _ _ ?_
 try clear k6 K6
 refine wp_ret ?_
 simp only [Exit.then]
 refine bodyPost_ret (v := (.bool true)) (ret_tmp rfl rfl) rfl ⟨?_, hB⟩
 exact rfl

set_option maxRecDepth 100000 in
set_option maxHeartbeats 4000000 in
theorem vparses_11 (X Y Z : List UInt8) (lx : X.length ≤ 500) (ly : Y.length ≤ 500) (lz : Z.length ≤ 500) (hl : decide ((500 : Int) < (((((X).length : Int) + ((Y).length : Int)) + ((Z).length : Int)))) = false) (eparse : first3 (ck2 X 400) (ck2 Y 400) (ck2 Z 400) = 0) (eread : first3 (ck2 X 65536) (ck2 Y 65536) (ck2 Z 65536) = 0) (w : World) (ht : Tab w) (hm : Mx w) :
    Calls Tryz.prog 3 #[(.agg #[(.string ⟨(X : List UInt8).toArray⟩), (.string ⟨(Y : List UInt8).toArray⟩), (.string ⟨(Z : List UInt8).toArray⟩)])] w fun e w' => e = .returned (.bool true) ∧ Gr w w' := by
 have ep : (first3 (ck2 X 400) (ck2 Y 400) (ck2 Z 400) == (0 : Int)) = true := by simpa using eparse
 have er : (first3 (ck2 X 65536) (ck2 Y 65536) (ck2 Z 65536) == (0 : Int)) = true := by simpa using eread
 have np : (first3 (ck2 X 400) (ck2 Y 400) (ck2 Z 400) != (0 : Int)) = false := by simpa using eparse
 have nr : (first3 (ck2 X 65536) (ck2 Y 65536) (ck2 Z 65536) != (0 : Int)) = false := by simpa using eread
 go_enter Tryz.func3, Tryz.ntmps3
 have hB := Gr.refl w
 refine wp_seq_k (fun K1 k1 => ?_)
 refine rg [0, 1] ?_
 refine se ?_
 refine eb 24 #[(.string ⟨(X : List UInt8).toArray⟩), (.string ⟨(Y : List UInt8).toArray⟩), (.string ⟨(Z : List UInt8).toArray⟩)] 1 hB fun b2 w2 g2 L2 o2 q2 hB => ?_
 simp only [p3, p4]
 refine sv 2 (.bool false) ?_
 simp only [p3, p4]
 refine sq_nil ?_
 refine k1 _ _ ?_
 try clear k1 K1
 refine wp_seq_k (fun K3 k3 => ?_)
 refine wp_seq_k (fun K4 k4 => ?_)
 refine rg [0, 1, 2, 3, 4, 5, 6, 7, 8, 9, 10, 11, 12, 13, 14, 15] ?_
 refine se ?_
 refine ec 8 (known3 _ (ht.gr hB) (hm.gr hB)) ?_
 rintro e5 w5 ⟨rfl, g5⟩
 refine ⟨_, rfl, ?_⟩
 replace hB := hB.trans g5
 simp only [p3, p4]
 refine sv 9 (.bool false) ?_
 simp only [p3, p4]
 refine sv 10 (.bool false) ?_
 simp only [p3, p4]
 refine sv 11 (.pointer (some ⟨b2, 0, none⟩)) ?_
 simp only [p3, p4]
 replace L2 := L2.gr g5
 refine sw 12 (.string ⟨(X : List UInt8).toArray⟩) rfl (rk 22 0 L2) ?_
 simp only [p3, p4]
 refine sv 13 (.int .i64 (((X).length : Int))) ?_
 simp only [p3, p4]
 refine sv 14 (.pointer (some ⟨b2, 1, none⟩)) ?_
 simp only [p3, p4]
 refine sw 15 (.string ⟨(Y : List UInt8).toArray⟩) rfl (rk 22 1 L2) ?_
 simp only [p3, p4]
 refine sv 16 (.int .i64 (((Y).length : Int))) ?_
 simp only [p3, p4]
 refine sw 17 (.int .i64 ((((X).length : Int) + ((Y).length : Int)))) rfl (RunV.int (x := IntKind.i64.wrap ((((X).length : Int) + ((Y).length : Int)))) (y := (((X).length : Int) + ((Y).length : Int))) (rvk (by kernel_rfl)) (by first | rfl | (rw [IntKind.wrap_i64]; omega))) ?_
 simp only [p3, p4]
 refine sv 18 (.pointer (some ⟨b2, 2, none⟩)) ?_
 simp only [p3, p4]
 refine sw 19 (.string ⟨(Z : List UInt8).toArray⟩) rfl (rk 22 2 L2) ?_
 simp only [p3, p4]
 refine sv 20 (.int .i64 (((Z).length : Int))) ?_
 simp only [p3, p4]
 refine sw 21 (.int .i64 (((((X).length : Int) + ((Y).length : Int)) + ((Z).length : Int)))) rfl (RunV.int (x := IntKind.i64.wrap (((((X).length : Int) + ((Y).length : Int)) + ((Z).length : Int)))) (y := ((((X).length : Int) + ((Y).length : Int)) + ((Z).length : Int))) (rvk (by kernel_rfl)) (by first | rfl | (rw [IntKind.wrap_i64]; omega))) ?_
 simp only [p3, p4]
 refine sw 22 (.bool false) rfl (RunV.bool (x := decide ((500 : Int) < ((((X).length : Int) + ((Y).length : Int)) + ((Z).length : Int)))) (rvk (by kernel_rfl)) hl) ?_
 simp only [p3, p4]
 refine sv 23 (.bool false) ?_
 simp only [p3, p4]
 refine sq_nil ?_
 refine k4 _ _ ?_
 try clear k4 K4
 refine wp_cond_false rfl ?_
 refine wp_skip ?_
 refine k3 _ _ ?_
 try clear k3 K3
 refine wp_seq_k (fun K6 k6 => ?_)
 refine rg [0, 1, 2, 3, 4, 5, 6, 7] ?_
 refine sw 26 (.agg #[(.string ⟨(X : List UInt8).toArray⟩), (.string ⟨(Y : List UInt8).toArray⟩), (.string ⟨(Z : List UInt8).toArray⟩)]) rfl (rl 24 0 [(.string ⟨(X : List UInt8).toArray⟩), (.string ⟨(Y : List UInt8).toArray⟩), (.string ⟨(Z : List UInt8).toArray⟩)] L2) ?_
 simp only [p3, p4]
 refine se ?_
 refine ec 27 (vparse_any X Y Z lx ly lz _ (hm.gr hB)) ?_
 rintro e7 w7 ⟨⟨t7_0, t7_1, t7_2, t7_3, t7_4, t7_5, t7_6, t7_7, t7_8, t7_9, t7_10, t7_11, za7_0, za7_1, za7_2, rfl, ⟨h7a, h7b, h7c⟩, hor7⟩, g7⟩
 refine ⟨_, rfl, ?_⟩
 replace hB := hB.trans g7
 rcases hor7 with ⟨ho7, hx7, hy7, hz7⟩ | ⟨ho7, hx7, hy7, hz7⟩
 rotate_left
 exact absurd eparse ho7
 simp only [p3, p4]
 refine sv 25 (.tuple #[(.agg #[t7_0, t7_1, t7_2, t7_3, t7_4, t7_5, t7_6, t7_7, t7_8, t7_9, t7_10, t7_11]), (.int .i64 (first3 (ck2 X 400) (ck2 Y 400) (ck2 Z 400)))]) ?_
 simp only [p3, p4]
 refine sv 28 (.agg #[t7_0, t7_1, t7_2, t7_3, t7_4, t7_5, t7_6, t7_7, t7_8, t7_9, t7_10, t7_11]) ?_
 simp only [p3, p4]
 refine sv 29 (.int .i64 (first3 (ck2 X 400) (ck2 Y 400) (ck2 Z 400))) ?_
 simp only [p3, p4]
 refine se ?_
 refine ea 32 #[(.bool false), (.slice none 0 0), (.bool false), (.slice none 0 0), (.bool false), (.slice none 0 0), (.bool false), (.slice none 0 0), (.bool false), (.slice none 0 0), (.bool false), (.slice none 0 0)] 3 hB fun b8 w8 g8 L8 o8 q8 hB => ?_
 replace L2 := L2.gr g7
 have ne2_8 := L2.ne o8
 simp only [p3, p4]
 refine se ?_
 refine es 32 0 (.agg #[t7_0, t7_1, t7_2, t7_3, t7_4, t7_5, t7_6, t7_7, t7_8, t7_9, t7_10, t7_11]) [t7_0, t7_1, t7_2, t7_3, t7_4, t7_5, t7_6, t7_7, t7_8, t7_9, t7_10, t7_11] #[t7_0, t7_1, t7_2, t7_3, t7_4, t7_5, t7_6, t7_7, t7_8, t7_9, t7_10, t7_11] L8 hB q8 ⟨h7a.one0, h7a.one1, h7a.one2, h7a.one3, h7b.one0, h7b.one1, h7b.one2, h7b.one3, h7c.one0, h7c.one1, h7c.one2, h7c.one3, trivial⟩ fun w9 st9 kp9 L8 hB => ?_
 refine sv 4 (.int .i64 (first3 (ck2 X 400) (ck2 Y 400) (ck2 Z 400))) ?_
 simp only [p3, p4]
 refine sq_nil ?_
 refine k6 _ _ ?_
 try clear k6 K6
 refine wp_seq_k (fun K10 k10 => ?_)
 refine rg [0, 1, 2, 3, 4, 5, 6, 7] ?_
 replace L2 := st9.lc (L2.gr g8) ne2_8
 refine sw 31 (.agg #[(.string ⟨(X : List UInt8).toArray⟩), (.string ⟨(Y : List UInt8).toArray⟩), (.string ⟨(Z : List UInt8).toArray⟩)]) rfl (rl 24 0 [(.string ⟨(X : List UInt8).toArray⟩), (.string ⟨(Y : List UInt8).toArray⟩), (.string ⟨(Z : List UInt8).toArray⟩)] L2) ?_
 simp only [p3, p4]
 refine se ?_
 refine ec 32 (vread_any X Y Z lx ly lz _ (hm.gr hB)) ?_
 rintro e11 w11 ⟨⟨t11_0, t11_1, t11_2, t11_3, t11_4, t11_5, t11_6, t11_7, t11_8, t11_9, t11_10, t11_11, za11_0, za11_1, za11_2, rfl, ⟨h11a, h11b, h11c⟩, hor11⟩, g11⟩
 refine ⟨_, rfl, ?_⟩
 replace hB := hB.trans g11
 rcases hor11 with ⟨ho11, hx11, hy11, hz11⟩ | ⟨ho11, hx11, hy11, hz11⟩
 rotate_left
 exact absurd eread ho11
 simp only [p3, p4]
 refine sv 30 (.tuple #[(.agg #[t11_0, t11_1, t11_2, t11_3, t11_4, t11_5, t11_6, t11_7, t11_8, t11_9, t11_10, t11_11]), (.int .i64 (first3 (ck2 X 65536) (ck2 Y 65536) (ck2 Z 65536)))]) ?_
 simp only [p3, p4]
 refine sv 33 (.agg #[t11_0, t11_1, t11_2, t11_3, t11_4, t11_5, t11_6, t11_7, t11_8, t11_9, t11_10, t11_11]) ?_
 simp only [p3, p4]
 refine sv 34 (.int .i64 (first3 (ck2 X 65536) (ck2 Y 65536) (ck2 Z 65536))) ?_
 simp only [p3, p4]
 refine se ?_
 refine ea 32 #[(.bool false), (.slice none 0 0), (.bool false), (.slice none 0 0), (.bool false), (.slice none 0 0), (.bool false), (.slice none 0 0), (.bool false), (.slice none 0 0), (.bool false), (.slice none 0 0)] 5 hB fun b12 w12 g12 L12 o12 q12 hB => ?_
 replace L2 := L2.gr g11
 have ne2_12 := L2.ne o12
 replace L8 := L8.gr g11
 have ne8_12 := L8.ne o12
 simp only [p3, p4]
 refine se ?_
 refine es 32 0 (.agg #[t11_0, t11_1, t11_2, t11_3, t11_4, t11_5, t11_6, t11_7, t11_8, t11_9, t11_10, t11_11]) [t11_0, t11_1, t11_2, t11_3, t11_4, t11_5, t11_6, t11_7, t11_8, t11_9, t11_10, t11_11] #[t11_0, t11_1, t11_2, t11_3, t11_4, t11_5, t11_6, t11_7, t11_8, t11_9, t11_10, t11_11] L12 hB q12 ⟨h11a.one0, h11a.one1, h11a.one2, h11a.one3, h11b.one0, h11b.one1, h11b.one2, h11b.one3, h11c.one0, h11c.one1, h11c.one2, h11c.one3, trivial⟩ fun w13 st13 kp13 L12 hB => ?_
 refine sv 6 (.int .i64 (first3 (ck2 X 65536) (ck2 Y 65536) (ck2 Z 65536))) ?_
 simp only [p3, p4]
 refine sq_nil ?_
 refine k10 _ _ ?_
 try clear k10 K10
 refine wp_seq_k (fun K14 k14 => ?_)
 refine wp_seq_k (fun K15 k15 => ?_)
 refine rg [0, 1, 2, 3, 4, 5, 6, 7, 8, 9] ?_
 refine sv 35 (.int .i64 (first3 (ck2 X 400) (ck2 Y 400) (ck2 Z 400))) ?_
 simp only [p3, p4]
 replace L2 := st13.lc (L2.gr g12) ne2_12
 refine sw 36 (.agg #[(.string ⟨(X : List UInt8).toArray⟩), (.string ⟨(Y : List UInt8).toArray⟩), (.string ⟨(Z : List UInt8).toArray⟩)]) rfl (rl 24 0 [(.string ⟨(X : List UInt8).toArray⟩), (.string ⟨(Y : List UInt8).toArray⟩), (.string ⟨(Z : List UInt8).toArray⟩)] L2) ?_
 simp only [p3, p4]
 refine se ?_
 refine ec 37 (r3_check X Y Z lx ly lz 400 (by omega) _) ?_
 rintro e16 w16 ⟨rfl, g16⟩
 refine ⟨_, rfl, ?_⟩
 replace hB := hB.trans g16
 simp only [p3, p4]
 have hb17 : ((first3 (ck2 X 400) (ck2 Y 400) (ck2 Z 400) != first3 (ck2 X 400) (ck2 Y 400) (ck2 Z 400))) = false := (by simp)
 refine sw 38 (.bool false) rfl (RunV.bool (x := (first3 (ck2 X 400) (ck2 Y 400) (ck2 Z 400) != first3 (ck2 X 400) (ck2 Y 400) (ck2 Z 400))) (rvk (by kernel_rfl)) hb17) ?_
 simp only [p3, p4]
 refine sv 39 (.bool false) ?_
 simp only [p3, p4]
 refine sv 40 (.int .i64 (first3 (ck2 X 65536) (ck2 Y 65536) (ck2 Z 65536))) ?_
 simp only [p3, p4]
 replace L2 := L2.gr g16
 refine sw 41 (.agg #[(.string ⟨(X : List UInt8).toArray⟩), (.string ⟨(Y : List UInt8).toArray⟩), (.string ⟨(Z : List UInt8).toArray⟩)]) rfl (rl 24 0 [(.string ⟨(X : List UInt8).toArray⟩), (.string ⟨(Y : List UInt8).toArray⟩), (.string ⟨(Z : List UInt8).toArray⟩)] L2) ?_
 simp only [p3, p4]
 refine se ?_
 refine ec 42 (r3_check X Y Z lx ly lz 65536 (by omega) _) ?_
 rintro e18 w18 ⟨rfl, g18⟩
 refine ⟨_, rfl, ?_⟩
 replace hB := hB.trans g18
 simp only [p3, p4]
 have hb19 : ((first3 (ck2 X 65536) (ck2 Y 65536) (ck2 Z 65536) != first3 (ck2 X 65536) (ck2 Y 65536) (ck2 Z 65536))) = false := (by simp)
 refine sw 43 (.bool false) rfl (RunV.bool (x := (first3 (ck2 X 65536) (ck2 Y 65536) (ck2 Z 65536) != first3 (ck2 X 65536) (ck2 Y 65536) (ck2 Z 65536))) (rvk (by kernel_rfl)) hb19) ?_
 simp only [p3, p4]
 refine sv 44 (.bool false) ?_
 simp only [p3, p4]
 refine sq_nil ?_
 refine k15 _ _ ?_
 try clear k15 K15
 refine wp_cond_false rfl ?_
 refine wp_skip ?_
 refine k14 _ _ ?_
 try clear k14 K14
 refine wp_seq_k (fun K20 k20 => ?_)
 refine rg [0, 1, 2] ?_
 refine sv 45 (.agg #[(.string ⟨([48] : List UInt8).toArray⟩), (.string ⟨([48] : List UInt8).toArray⟩), (.string ⟨([48] : List UInt8).toArray⟩)]) ?_
 simp only [p3, p4]
 refine se ?_
 refine ea 24 #[(.string ⟨([] : List UInt8).toArray⟩), (.string ⟨([] : List UInt8).toArray⟩), (.string ⟨([] : List UInt8).toArray⟩)] 7 hB fun b21 w21 g21 L21 o21 q21 hB => ?_
 replace L2 := L2.gr g18
 have ne2_21 := L2.ne o21
 replace L8 := (st13.lc (L8.gr g12) ne8_12).gr (g16.trans g18)
 have ne8_21 := L8.ne o21
 replace L12 := L12.gr (g16.trans g18)
 have ne12_21 := L12.ne o21
 simp only [p3, p4]
 refine se ?_
 refine es 24 0 (.agg #[(.string ⟨([48] : List UInt8).toArray⟩), (.string ⟨([48] : List UInt8).toArray⟩), (.string ⟨([48] : List UInt8).toArray⟩)]) [(.string ⟨([48] : List UInt8).toArray⟩), (.string ⟨([48] : List UInt8).toArray⟩), (.string ⟨([48] : List UInt8).toArray⟩)] #[(.string ⟨([48] : List UInt8).toArray⟩), (.string ⟨([48] : List UInt8).toArray⟩), (.string ⟨([48] : List UInt8).toArray⟩)] L21 hB q21 ⟨rfl, rfl, rfl, trivial⟩ fun w22 st22 kp22 L21 hB => ?_
 refine sq_nil ?_
 refine k20 _ _ ?_
 try clear k20 K20
 refine wp_seq_k (fun K23 k23 => ?_)
 have gd33 := Gr.drew w22
 replace hB := hB.trans gd33
 replace L2 := (st22.lc (L2.gr g21) ne2_21).gr gd33
 replace L8 := (st22.lc (L8.gr g21) ne8_21).gr gd33
 replace L12 := (st22.lc (L12.gr g21) ne12_21).gr gd33
 replace L21 := L21.gr gd33
 refine wp_region_ord (fun w' => Lc w' b2 #[(.string ⟨(X : List UInt8).toArray⟩), (.string ⟨(Y : List UInt8).toArray⟩), (.string ⟨(Z : List UInt8).toArray⟩)] 24 ∧ Lc w' b8 #[t7_0, t7_1, t7_2, t7_3, t7_4, t7_5, t7_6, t7_7, t7_8, t7_9, t7_10, t7_11] 32 ∧ Lc w' b12 #[t11_0, t11_1, t11_2, t11_3, t11_4, t11_5, t11_6, t11_7, t11_8, t11_9, t11_10, t11_11] 32 ∧ Lc w' b21 #[(.string ⟨([48] : List UInt8).toArray⟩), (.string ⟨([48] : List UInt8).toArray⟩), (.string ⟨([48] : List UInt8).toArray⟩)] 24) [(true, 0), (true, 1), (true, 2), (true, 3), (true, 5), (false, 4), (true, 6), (true, 7), (true, 8), (true, 9), (true, 10), (true, 11), (true, 12), (true, 14), (false, 13), (true, 15), (true, 16), (true, 17), (true, 18), (true, 19), (true, 20), (true, 21), (true, 22), (true, 24), (false, 23), (true, 25), (true, 26), (true, 27), (true, 28), (true, 29), (true, 30), (true, 31), (true, 33), (false, 32), (true, 34), (true, 35), (true, 36), (true, 37), (true, 38)] (by kernel_rfl) (by kernel_rfl) (by kernel_rfl) (by decide) (fun _ _ _ _ _ h => h) ⟨L2, L8, L12, L21⟩ ?_
 refine ov 46 (.int .i64 (first3 (ck2 X 400) (ck2 Y 400) (ck2 Z 400))) ?_
 simp only [p3, p4]
 refine ow 47 (.bool true) rfl (fun w' hS => (RunV.bool (x := (first3 (ck2 X 400) (ck2 Y 400) (ck2 Z 400) == (0 : Int))) (rvk (by kernel_rfl)) ep)) ?_
 simp only [p3, p4]
 refine ov 48 (.bool true) ?_
 simp only [p3, p4]
 refine ow 49 (.agg #[t7_0, t7_1, t7_2, t7_3, t7_4, t7_5, t7_6, t7_7, t7_8, t7_9, t7_10, t7_11]) rfl (fun w' hS => (rl 32 0 [t7_0, t7_1, t7_2, t7_3, t7_4, t7_5, t7_6, t7_7, t7_8, t7_9, t7_10, t7_11] hS.2.1)) ?_
 simp only [p3, p4]
 refine ow 51 (.agg #[(.string ⟨(X : List UInt8).toArray⟩), (.string ⟨(Y : List UInt8).toArray⟩), (.string ⟨(Z : List UInt8).toArray⟩)]) rfl (fun w' hS => (rl 24 0 [(.string ⟨(X : List UInt8).toArray⟩), (.string ⟨(Y : List UInt8).toArray⟩), (.string ⟨(Z : List UInt8).toArray⟩)] hS.1)) ?_
 simp only [p3, p4]
 refine oe ?_
 have kq36 := g8.kp.trans (kp9.trans (g11.kp.trans (g12.kp.trans (kp13.trans (g16.kp.trans (g18.kp.trans (g21.kp.trans (kp22.trans gd33.kp))))))))
 replace h7a := h7a.kp kq36
 replace h7b := h7b.kp kq36
 replace h7c := h7c.kp kq36
 refine ec 50 (vpoint_v h7a h7b h7c (by omega) (ht.gr hB)) ?_
 rintro e35 w35 ⟨rfl, g35⟩
 refine ⟨_, rfl, ?_⟩
 replace hB := hB.trans g35
 replace L2 := L2.gr g35
 replace L8 := L8.gr g35
 replace L12 := L12.gr g35
 replace L21 := L21.gr g35
 refine ⟨⟨L2, L8, L12, L21⟩, ?_⟩
 simp only [p3, p4]
 have hb37 : (sEq [(ratL (za7_0)), (ratL (za7_1)), (ratL (za7_2))] [(X), (Y), (Z)]) = true := (sEq_eqs hx7 hy7 hz7)
 refine ow 52 (.bool true) rfl (fun w' hS => (RunV.bool (x := sEq [(ratL (za7_0)), (ratL (za7_1)), (ratL (za7_2))] [(X), (Y), (Z)]) (rv_ssq 24 24 22 _ _ [(ratL (za7_0)), (ratL (za7_1)), (ratL (za7_2))] [(X), (Y), (Z)] rfl rfl rfl (by kernel_rfl) (by kernel_rfl) (by kernel_rfl)) hb37)) ?_
 simp only [p3, p4]
 refine ov 53 (.bool true) ?_
 simp only [p3, p4]
 refine ov 54 (.bool true) ?_
 simp only [p3, p4]
 refine os 55 ?_
 simp only [p3, p4]
 refine os 56 ?_
 simp only [p3, p4]
 refine os 57 ?_
 simp only [p3, p4]
 refine os 58 ?_
 simp only [p3, p4]
 refine os 60 ?_
 simp only [p3, p4]
 refine oz 59 ⟨L2, L8, L12, L21⟩ ?_
 simp only [p3, p4]
 refine os 61 ?_
 simp only [p3, p4]
 refine os 62 ?_
 simp only [p3, p4]
 refine ov 63 (.bool true) ?_
 simp only [p3, p4]
 refine ov 64 (.bool true) ?_
 simp only [p3, p4]
 refine ov 65 (.int .i64 (first3 (ck2 X 65536) (ck2 Y 65536) (ck2 Z 65536))) ?_
 simp only [p3, p4]
 refine ow 66 (.bool true) rfl (fun w' hS => (RunV.bool (x := (first3 (ck2 X 65536) (ck2 Y 65536) (ck2 Z 65536) == (0 : Int))) (rvk (by kernel_rfl)) er)) ?_
 simp only [p3, p4]
 refine ov 67 (.bool true) ?_
 simp only [p3, p4]
 refine ow 68 (.agg #[t11_0, t11_1, t11_2, t11_3, t11_4, t11_5, t11_6, t11_7, t11_8, t11_9, t11_10, t11_11]) rfl (fun w' hS => (rl 32 0 [t11_0, t11_1, t11_2, t11_3, t11_4, t11_5, t11_6, t11_7, t11_8, t11_9, t11_10, t11_11] hS.2.2.1)) ?_
 simp only [p3, p4]
 refine ow 70 (.agg #[(.string ⟨(X : List UInt8).toArray⟩), (.string ⟨(Y : List UInt8).toArray⟩), (.string ⟨(Z : List UInt8).toArray⟩)]) rfl (fun w' hS => (rl 24 0 [(.string ⟨(X : List UInt8).toArray⟩), (.string ⟨(Y : List UInt8).toArray⟩), (.string ⟨(Z : List UInt8).toArray⟩)] hS.1)) ?_
 simp only [p3, p4]
 refine oe ?_
 have kq40 := g12.kp.trans (kp13.trans (g16.kp.trans (g18.kp.trans (g21.kp.trans (kp22.trans (gd33.kp.trans g35.kp))))))
 replace h11a := h11a.kp kq40
 replace h11b := h11b.kp kq40
 replace h11c := h11c.kp kq40
 refine ec 69 (vpoint_v h11a h11b h11c (by omega) (ht.gr hB)) ?_
 rintro e39 w39 ⟨rfl, g39⟩
 refine ⟨_, rfl, ?_⟩
 replace hB := hB.trans g39
 replace L2 := L2.gr g39
 replace L8 := L8.gr g39
 replace L12 := L12.gr g39
 replace L21 := L21.gr g39
 refine ⟨⟨L2, L8, L12, L21⟩, ?_⟩
 simp only [p3, p4]
 have hb41 : (sEq [(ratL (za11_0)), (ratL (za11_1)), (ratL (za11_2))] [(X), (Y), (Z)]) = true := (sEq_eqs hx11 hy11 hz11)
 refine ow 71 (.bool true) rfl (fun w' hS => (RunV.bool (x := sEq [(ratL (za11_0)), (ratL (za11_1)), (ratL (za11_2))] [(X), (Y), (Z)]) (rv_ssq 24 24 22 _ _ [(ratL (za11_0)), (ratL (za11_1)), (ratL (za11_2))] [(X), (Y), (Z)] rfl rfl rfl (by kernel_rfl) (by kernel_rfl) (by kernel_rfl)) hb41)) ?_
 simp only [p3, p4]
 refine ov 72 (.bool true) ?_
 simp only [p3, p4]
 refine ov 73 (.bool true) ?_
 simp only [p3, p4]
 refine os 74 ?_
 simp only [p3, p4]
 refine os 75 ?_
 simp only [p3, p4]
 refine os 76 ?_
 simp only [p3, p4]
 refine os 77 ?_
 simp only [p3, p4]
 refine os 79 ?_
 simp only [p3, p4]
 refine oz 78 ⟨L2, L8, L12, L21⟩ ?_
 simp only [p3, p4]
 refine os 80 ?_
 simp only [p3, p4]
 refine os 81 ?_
 simp only [p3, p4]
 refine ov 82 (.bool true) ?_
 simp only [p3, p4]
 refine ov 83 (.bool true) ?_
 simp only [p3, p4]
 refine ov 2 (.bool true) ?_
 simp only [p3, p4]
 refine ord_nil ?_
 refine k23 _ _ ?_
 try clear k23 K23
 refine wp_ret ?_
 refine bodyPost_ret (v := (.bool true)) (ret_tmp rfl rfl) rfl ⟨?_, hB⟩
 exact rfl

set_option maxRecDepth 100000 in
set_option maxHeartbeats 4000000 in
theorem vparses_10 (X Y Z : List UInt8) (lx : X.length ≤ 500) (ly : Y.length ≤ 500) (lz : Z.length ≤ 500) (hl : decide ((500 : Int) < (((((X).length : Int) + ((Y).length : Int)) + ((Z).length : Int)))) = false) (eparse : first3 (ck2 X 400) (ck2 Y 400) (ck2 Z 400) = 0) (eread : first3 (ck2 X 65536) (ck2 Y 65536) (ck2 Z 65536) ≠ 0) (w : World) (ht : Tab w) (hm : Mx w) :
    Calls Tryz.prog 3 #[(.agg #[(.string ⟨(X : List UInt8).toArray⟩), (.string ⟨(Y : List UInt8).toArray⟩), (.string ⟨(Z : List UInt8).toArray⟩)])] w fun e w' => e = .returned (.bool true) ∧ Gr w w' := by
 have ep : (first3 (ck2 X 400) (ck2 Y 400) (ck2 Z 400) == (0 : Int)) = true := by simpa using eparse
 have er : (first3 (ck2 X 65536) (ck2 Y 65536) (ck2 Z 65536) == (0 : Int)) = false := by simpa using eread
 have np : (first3 (ck2 X 400) (ck2 Y 400) (ck2 Z 400) != (0 : Int)) = false := by simpa using eparse
 have nr : (first3 (ck2 X 65536) (ck2 Y 65536) (ck2 Z 65536) != (0 : Int)) = true := by simpa using eread
 go_enter Tryz.func3, Tryz.ntmps3
 have hB := Gr.refl w
 refine wp_seq_k (fun K1 k1 => ?_)
 refine rg [0, 1] ?_
 refine se ?_
 refine eb 24 #[(.string ⟨(X : List UInt8).toArray⟩), (.string ⟨(Y : List UInt8).toArray⟩), (.string ⟨(Z : List UInt8).toArray⟩)] 1 hB fun b2 w2 g2 L2 o2 q2 hB => ?_
 simp only [p3, p4]
 refine sv 2 (.bool false) ?_
 simp only [p3, p4]
 refine sq_nil ?_
 refine k1 _ _ ?_
 try clear k1 K1
 refine wp_seq_k (fun K3 k3 => ?_)
 refine wp_seq_k (fun K4 k4 => ?_)
 refine rg [0, 1, 2, 3, 4, 5, 6, 7, 8, 9, 10, 11, 12, 13, 14, 15] ?_
 refine se ?_
 refine ec 8 (known3 _ (ht.gr hB) (hm.gr hB)) ?_
 rintro e5 w5 ⟨rfl, g5⟩
 refine ⟨_, rfl, ?_⟩
 replace hB := hB.trans g5
 simp only [p3, p4]
 refine sv 9 (.bool false) ?_
 simp only [p3, p4]
 refine sv 10 (.bool false) ?_
 simp only [p3, p4]
 refine sv 11 (.pointer (some ⟨b2, 0, none⟩)) ?_
 simp only [p3, p4]
 replace L2 := L2.gr g5
 refine sw 12 (.string ⟨(X : List UInt8).toArray⟩) rfl (rk 22 0 L2) ?_
 simp only [p3, p4]
 refine sv 13 (.int .i64 (((X).length : Int))) ?_
 simp only [p3, p4]
 refine sv 14 (.pointer (some ⟨b2, 1, none⟩)) ?_
 simp only [p3, p4]
 refine sw 15 (.string ⟨(Y : List UInt8).toArray⟩) rfl (rk 22 1 L2) ?_
 simp only [p3, p4]
 refine sv 16 (.int .i64 (((Y).length : Int))) ?_
 simp only [p3, p4]
 refine sw 17 (.int .i64 ((((X).length : Int) + ((Y).length : Int)))) rfl (RunV.int (x := IntKind.i64.wrap ((((X).length : Int) + ((Y).length : Int)))) (y := (((X).length : Int) + ((Y).length : Int))) (rvk (by kernel_rfl)) (by first | rfl | (rw [IntKind.wrap_i64]; omega))) ?_
 simp only [p3, p4]
 refine sv 18 (.pointer (some ⟨b2, 2, none⟩)) ?_
 simp only [p3, p4]
 refine sw 19 (.string ⟨(Z : List UInt8).toArray⟩) rfl (rk 22 2 L2) ?_
 simp only [p3, p4]
 refine sv 20 (.int .i64 (((Z).length : Int))) ?_
 simp only [p3, p4]
 refine sw 21 (.int .i64 (((((X).length : Int) + ((Y).length : Int)) + ((Z).length : Int)))) rfl (RunV.int (x := IntKind.i64.wrap (((((X).length : Int) + ((Y).length : Int)) + ((Z).length : Int)))) (y := ((((X).length : Int) + ((Y).length : Int)) + ((Z).length : Int))) (rvk (by kernel_rfl)) (by first | rfl | (rw [IntKind.wrap_i64]; omega))) ?_
 simp only [p3, p4]
 refine sw 22 (.bool false) rfl (RunV.bool (x := decide ((500 : Int) < ((((X).length : Int) + ((Y).length : Int)) + ((Z).length : Int)))) (rvk (by kernel_rfl)) hl) ?_
 simp only [p3, p4]
 refine sv 23 (.bool false) ?_
 simp only [p3, p4]
 refine sq_nil ?_
 refine k4 _ _ ?_
 try clear k4 K4
 refine wp_cond_false rfl ?_
 refine wp_skip ?_
 refine k3 _ _ ?_
 try clear k3 K3
 refine wp_seq_k (fun K6 k6 => ?_)
 refine rg [0, 1, 2, 3, 4, 5, 6, 7] ?_
 refine sw 26 (.agg #[(.string ⟨(X : List UInt8).toArray⟩), (.string ⟨(Y : List UInt8).toArray⟩), (.string ⟨(Z : List UInt8).toArray⟩)]) rfl (rl 24 0 [(.string ⟨(X : List UInt8).toArray⟩), (.string ⟨(Y : List UInt8).toArray⟩), (.string ⟨(Z : List UInt8).toArray⟩)] L2) ?_
 simp only [p3, p4]
 refine se ?_
 refine ec 27 (vparse_any X Y Z lx ly lz _ (hm.gr hB)) ?_
 rintro e7 w7 ⟨⟨t7_0, t7_1, t7_2, t7_3, t7_4, t7_5, t7_6, t7_7, t7_8, t7_9, t7_10, t7_11, za7_0, za7_1, za7_2, rfl, ⟨h7a, h7b, h7c⟩, hor7⟩, g7⟩
 refine ⟨_, rfl, ?_⟩
 replace hB := hB.trans g7
 rcases hor7 with ⟨ho7, hx7, hy7, hz7⟩ | ⟨ho7, hx7, hy7, hz7⟩
 rotate_left
 exact absurd eparse ho7
 simp only [p3, p4]
 refine sv 25 (.tuple #[(.agg #[t7_0, t7_1, t7_2, t7_3, t7_4, t7_5, t7_6, t7_7, t7_8, t7_9, t7_10, t7_11]), (.int .i64 (first3 (ck2 X 400) (ck2 Y 400) (ck2 Z 400)))]) ?_
 simp only [p3, p4]
 refine sv 28 (.agg #[t7_0, t7_1, t7_2, t7_3, t7_4, t7_5, t7_6, t7_7, t7_8, t7_9, t7_10, t7_11]) ?_
 simp only [p3, p4]
 refine sv 29 (.int .i64 (first3 (ck2 X 400) (ck2 Y 400) (ck2 Z 400))) ?_
 simp only [p3, p4]
 refine se ?_
 refine ea 32 #[(.bool false), (.slice none 0 0), (.bool false), (.slice none 0 0), (.bool false), (.slice none 0 0), (.bool false), (.slice none 0 0), (.bool false), (.slice none 0 0), (.bool false), (.slice none 0 0)] 3 hB fun b8 w8 g8 L8 o8 q8 hB => ?_
 replace L2 := L2.gr g7
 have ne2_8 := L2.ne o8
 simp only [p3, p4]
 refine se ?_
 refine es 32 0 (.agg #[t7_0, t7_1, t7_2, t7_3, t7_4, t7_5, t7_6, t7_7, t7_8, t7_9, t7_10, t7_11]) [t7_0, t7_1, t7_2, t7_3, t7_4, t7_5, t7_6, t7_7, t7_8, t7_9, t7_10, t7_11] #[t7_0, t7_1, t7_2, t7_3, t7_4, t7_5, t7_6, t7_7, t7_8, t7_9, t7_10, t7_11] L8 hB q8 ⟨h7a.one0, h7a.one1, h7a.one2, h7a.one3, h7b.one0, h7b.one1, h7b.one2, h7b.one3, h7c.one0, h7c.one1, h7c.one2, h7c.one3, trivial⟩ fun w9 st9 kp9 L8 hB => ?_
 refine sv 4 (.int .i64 (first3 (ck2 X 400) (ck2 Y 400) (ck2 Z 400))) ?_
 simp only [p3, p4]
 refine sq_nil ?_
 refine k6 _ _ ?_
 try clear k6 K6
 refine wp_seq_k (fun K10 k10 => ?_)
 refine rg [0, 1, 2, 3, 4, 5, 6, 7] ?_
 replace L2 := st9.lc (L2.gr g8) ne2_8
 refine sw 31 (.agg #[(.string ⟨(X : List UInt8).toArray⟩), (.string ⟨(Y : List UInt8).toArray⟩), (.string ⟨(Z : List UInt8).toArray⟩)]) rfl (rl 24 0 [(.string ⟨(X : List UInt8).toArray⟩), (.string ⟨(Y : List UInt8).toArray⟩), (.string ⟨(Z : List UInt8).toArray⟩)] L2) ?_
 simp only [p3, p4]
 refine se ?_
 refine ec 32 (vread_any X Y Z lx ly lz _ (hm.gr hB)) ?_
 rintro e11 w11 ⟨⟨t11_0, t11_1, t11_2, t11_3, t11_4, t11_5, t11_6, t11_7, t11_8, t11_9, t11_10, t11_11, za11_0, za11_1, za11_2, rfl, ⟨h11a, h11b, h11c⟩, hor11⟩, g11⟩
 refine ⟨_, rfl, ?_⟩
 replace hB := hB.trans g11
 rcases hor11 with ⟨ho11, hx11, hy11, hz11⟩ | ⟨ho11, hx11, hy11, hz11⟩
 exact absurd ho11 eread
 rw [hx11] at h11a
 rw [hy11] at h11b
 rw [hz11] at h11c
 simp only [p3, p4]
 refine sv 30 (.tuple #[(.agg #[t11_0, t11_1, t11_2, t11_3, t11_4, t11_5, t11_6, t11_7, t11_8, t11_9, t11_10, t11_11]), (.int .i64 (first3 (ck2 X 65536) (ck2 Y 65536) (ck2 Z 65536)))]) ?_
 simp only [p3, p4]
 refine sv 33 (.agg #[t11_0, t11_1, t11_2, t11_3, t11_4, t11_5, t11_6, t11_7, t11_8, t11_9, t11_10, t11_11]) ?_
 simp only [p3, p4]
 refine sv 34 (.int .i64 (first3 (ck2 X 65536) (ck2 Y 65536) (ck2 Z 65536))) ?_
 simp only [p3, p4]
 refine se ?_
 refine ea 32 #[(.bool false), (.slice none 0 0), (.bool false), (.slice none 0 0), (.bool false), (.slice none 0 0), (.bool false), (.slice none 0 0), (.bool false), (.slice none 0 0), (.bool false), (.slice none 0 0)] 5 hB fun b12 w12 g12 L12 o12 q12 hB => ?_
 replace L2 := L2.gr g11
 have ne2_12 := L2.ne o12
 replace L8 := L8.gr g11
 have ne8_12 := L8.ne o12
 simp only [p3, p4]
 refine se ?_
 refine es 32 0 (.agg #[t11_0, t11_1, t11_2, t11_3, t11_4, t11_5, t11_6, t11_7, t11_8, t11_9, t11_10, t11_11]) [t11_0, t11_1, t11_2, t11_3, t11_4, t11_5, t11_6, t11_7, t11_8, t11_9, t11_10, t11_11] #[t11_0, t11_1, t11_2, t11_3, t11_4, t11_5, t11_6, t11_7, t11_8, t11_9, t11_10, t11_11] L12 hB q12 ⟨h11a.one0, h11a.one1, h11a.one2, h11a.one3, h11b.one0, h11b.one1, h11b.one2, h11b.one3, h11c.one0, h11c.one1, h11c.one2, h11c.one3, trivial⟩ fun w13 st13 kp13 L12 hB => ?_
 refine sv 6 (.int .i64 (first3 (ck2 X 65536) (ck2 Y 65536) (ck2 Z 65536))) ?_
 simp only [p3, p4]
 refine sq_nil ?_
 refine k10 _ _ ?_
 try clear k10 K10
 refine wp_seq_k (fun K14 k14 => ?_)
 refine wp_seq_k (fun K15 k15 => ?_)
 refine rg [0, 1, 2, 3, 4, 5, 6, 7, 8, 9] ?_
 refine sv 35 (.int .i64 (first3 (ck2 X 400) (ck2 Y 400) (ck2 Z 400))) ?_
 simp only [p3, p4]
 replace L2 := st13.lc (L2.gr g12) ne2_12
 refine sw 36 (.agg #[(.string ⟨(X : List UInt8).toArray⟩), (.string ⟨(Y : List UInt8).toArray⟩), (.string ⟨(Z : List UInt8).toArray⟩)]) rfl (rl 24 0 [(.string ⟨(X : List UInt8).toArray⟩), (.string ⟨(Y : List UInt8).toArray⟩), (.string ⟨(Z : List UInt8).toArray⟩)] L2) ?_
 simp only [p3, p4]
 refine se ?_
 refine ec 37 (r3_check X Y Z lx ly lz 400 (by omega) _) ?_
 rintro e16 w16 ⟨rfl, g16⟩
 refine ⟨_, rfl, ?_⟩
 replace hB := hB.trans g16
 simp only [p3, p4]
 have hb17 : ((first3 (ck2 X 400) (ck2 Y 400) (ck2 Z 400) != first3 (ck2 X 400) (ck2 Y 400) (ck2 Z 400))) = false := (by simp)
 refine sw 38 (.bool false) rfl (RunV.bool (x := (first3 (ck2 X 400) (ck2 Y 400) (ck2 Z 400) != first3 (ck2 X 400) (ck2 Y 400) (ck2 Z 400))) (rvk (by kernel_rfl)) hb17) ?_
 simp only [p3, p4]
 refine sv 39 (.bool false) ?_
 simp only [p3, p4]
 refine sv 40 (.int .i64 (first3 (ck2 X 65536) (ck2 Y 65536) (ck2 Z 65536))) ?_
 simp only [p3, p4]
 replace L2 := L2.gr g16
 refine sw 41 (.agg #[(.string ⟨(X : List UInt8).toArray⟩), (.string ⟨(Y : List UInt8).toArray⟩), (.string ⟨(Z : List UInt8).toArray⟩)]) rfl (rl 24 0 [(.string ⟨(X : List UInt8).toArray⟩), (.string ⟨(Y : List UInt8).toArray⟩), (.string ⟨(Z : List UInt8).toArray⟩)] L2) ?_
 simp only [p3, p4]
 refine se ?_
 refine ec 42 (r3_check X Y Z lx ly lz 65536 (by omega) _) ?_
 rintro e18 w18 ⟨rfl, g18⟩
 refine ⟨_, rfl, ?_⟩
 replace hB := hB.trans g18
 simp only [p3, p4]
 have hb19 : ((first3 (ck2 X 65536) (ck2 Y 65536) (ck2 Z 65536) != first3 (ck2 X 65536) (ck2 Y 65536) (ck2 Z 65536))) = false := (by simp)
 refine sw 43 (.bool false) rfl (RunV.bool (x := (first3 (ck2 X 65536) (ck2 Y 65536) (ck2 Z 65536) != first3 (ck2 X 65536) (ck2 Y 65536) (ck2 Z 65536))) (rvk (by kernel_rfl)) hb19) ?_
 simp only [p3, p4]
 refine sv 44 (.bool false) ?_
 simp only [p3, p4]
 refine sq_nil ?_
 refine k15 _ _ ?_
 try clear k15 K15
 refine wp_cond_false rfl ?_
 refine wp_skip ?_
 refine k14 _ _ ?_
 try clear k14 K14
 refine wp_seq_k (fun K20 k20 => ?_)
 refine rg [0, 1, 2] ?_
 refine sv 45 (.agg #[(.string ⟨([48] : List UInt8).toArray⟩), (.string ⟨([48] : List UInt8).toArray⟩), (.string ⟨([48] : List UInt8).toArray⟩)]) ?_
 simp only [p3, p4]
 refine se ?_
 refine ea 24 #[(.string ⟨([] : List UInt8).toArray⟩), (.string ⟨([] : List UInt8).toArray⟩), (.string ⟨([] : List UInt8).toArray⟩)] 7 hB fun b21 w21 g21 L21 o21 q21 hB => ?_
 replace L2 := L2.gr g18
 have ne2_21 := L2.ne o21
 replace L8 := (st13.lc (L8.gr g12) ne8_12).gr (g16.trans g18)
 have ne8_21 := L8.ne o21
 replace L12 := L12.gr (g16.trans g18)
 have ne12_21 := L12.ne o21
 simp only [p3, p4]
 refine se ?_
 refine es 24 0 (.agg #[(.string ⟨([48] : List UInt8).toArray⟩), (.string ⟨([48] : List UInt8).toArray⟩), (.string ⟨([48] : List UInt8).toArray⟩)]) [(.string ⟨([48] : List UInt8).toArray⟩), (.string ⟨([48] : List UInt8).toArray⟩), (.string ⟨([48] : List UInt8).toArray⟩)] #[(.string ⟨([48] : List UInt8).toArray⟩), (.string ⟨([48] : List UInt8).toArray⟩), (.string ⟨([48] : List UInt8).toArray⟩)] L21 hB q21 ⟨rfl, rfl, rfl, trivial⟩ fun w22 st22 kp22 L21 hB => ?_
 refine sq_nil ?_
 refine k20 _ _ ?_
 try clear k20 K20
 refine wp_seq_k (fun K23 k23 => ?_)
 have gd33 := Gr.drew w22
 replace hB := hB.trans gd33
 replace L2 := (st22.lc (L2.gr g21) ne2_21).gr gd33
 replace L8 := (st22.lc (L8.gr g21) ne8_21).gr gd33
 replace L12 := (st22.lc (L12.gr g21) ne12_21).gr gd33
 replace L21 := L21.gr gd33
 refine wp_region_ord (fun w' => Lc w' b2 #[(.string ⟨(X : List UInt8).toArray⟩), (.string ⟨(Y : List UInt8).toArray⟩), (.string ⟨(Z : List UInt8).toArray⟩)] 24 ∧ Lc w' b8 #[t7_0, t7_1, t7_2, t7_3, t7_4, t7_5, t7_6, t7_7, t7_8, t7_9, t7_10, t7_11] 32 ∧ Lc w' b12 #[t11_0, t11_1, t11_2, t11_3, t11_4, t11_5, t11_6, t11_7, t11_8, t11_9, t11_10, t11_11] 32 ∧ Lc w' b21 #[(.string ⟨([48] : List UInt8).toArray⟩), (.string ⟨([48] : List UInt8).toArray⟩), (.string ⟨([48] : List UInt8).toArray⟩)] 24) [(true, 0), (true, 1), (true, 2), (true, 3), (true, 5), (false, 4), (true, 6), (true, 7), (true, 8), (true, 9), (true, 10), (true, 11), (true, 12), (true, 14), (false, 13), (true, 15), (true, 16), (true, 17), (true, 18), (true, 19), (true, 20), (true, 21), (true, 22), (true, 24), (false, 23), (true, 25), (true, 26), (true, 27), (true, 28), (true, 29), (true, 30), (true, 31), (true, 33), (false, 32), (true, 34), (true, 35), (true, 36), (true, 37), (true, 38)] (by kernel_rfl) (by kernel_rfl) (by kernel_rfl) (by decide) (fun _ _ _ _ _ h => h) ⟨L2, L8, L12, L21⟩ ?_
 refine ov 46 (.int .i64 (first3 (ck2 X 400) (ck2 Y 400) (ck2 Z 400))) ?_
 simp only [p3, p4]
 refine ow 47 (.bool true) rfl (fun w' hS => (RunV.bool (x := (first3 (ck2 X 400) (ck2 Y 400) (ck2 Z 400) == (0 : Int))) (rvk (by kernel_rfl)) ep)) ?_
 simp only [p3, p4]
 refine ov 48 (.bool true) ?_
 simp only [p3, p4]
 refine ow 49 (.agg #[t7_0, t7_1, t7_2, t7_3, t7_4, t7_5, t7_6, t7_7, t7_8, t7_9, t7_10, t7_11]) rfl (fun w' hS => (rl 32 0 [t7_0, t7_1, t7_2, t7_3, t7_4, t7_5, t7_6, t7_7, t7_8, t7_9, t7_10, t7_11] hS.2.1)) ?_
 simp only [p3, p4]
 refine ow 51 (.agg #[(.string ⟨(X : List UInt8).toArray⟩), (.string ⟨(Y : List UInt8).toArray⟩), (.string ⟨(Z : List UInt8).toArray⟩)]) rfl (fun w' hS => (rl 24 0 [(.string ⟨(X : List UInt8).toArray⟩), (.string ⟨(Y : List UInt8).toArray⟩), (.string ⟨(Z : List UInt8).toArray⟩)] hS.1)) ?_
 simp only [p3, p4]
 refine oe ?_
 have kq36 := g8.kp.trans (kp9.trans (g11.kp.trans (g12.kp.trans (kp13.trans (g16.kp.trans (g18.kp.trans (g21.kp.trans (kp22.trans gd33.kp))))))))
 replace h7a := h7a.kp kq36
 replace h7b := h7b.kp kq36
 replace h7c := h7c.kp kq36
 refine ec 50 (vpoint_v h7a h7b h7c (by omega) (ht.gr hB)) ?_
 rintro e35 w35 ⟨rfl, g35⟩
 refine ⟨_, rfl, ?_⟩
 replace hB := hB.trans g35
 replace L2 := L2.gr g35
 replace L8 := L8.gr g35
 replace L12 := L12.gr g35
 replace L21 := L21.gr g35
 refine ⟨⟨L2, L8, L12, L21⟩, ?_⟩
 simp only [p3, p4]
 have hb37 : (sEq [(ratL (za7_0)), (ratL (za7_1)), (ratL (za7_2))] [(X), (Y), (Z)]) = true := (sEq_eqs hx7 hy7 hz7)
 refine ow 52 (.bool true) rfl (fun w' hS => (RunV.bool (x := sEq [(ratL (za7_0)), (ratL (za7_1)), (ratL (za7_2))] [(X), (Y), (Z)]) (rv_ssq 24 24 22 _ _ [(ratL (za7_0)), (ratL (za7_1)), (ratL (za7_2))] [(X), (Y), (Z)] rfl rfl rfl (by kernel_rfl) (by kernel_rfl) (by kernel_rfl)) hb37)) ?_
 simp only [p3, p4]
 refine ov 53 (.bool true) ?_
 simp only [p3, p4]
 refine ov 54 (.bool true) ?_
 simp only [p3, p4]
 refine os 55 ?_
 simp only [p3, p4]
 refine os 56 ?_
 simp only [p3, p4]
 refine os 57 ?_
 simp only [p3, p4]
 refine os 58 ?_
 simp only [p3, p4]
 refine os 60 ?_
 simp only [p3, p4]
 refine oz 59 ⟨L2, L8, L12, L21⟩ ?_
 simp only [p3, p4]
 refine os 61 ?_
 simp only [p3, p4]
 refine os 62 ?_
 simp only [p3, p4]
 refine ov 63 (.bool true) ?_
 simp only [p3, p4]
 refine ov 64 (.bool true) ?_
 simp only [p3, p4]
 refine ov 65 (.int .i64 (first3 (ck2 X 65536) (ck2 Y 65536) (ck2 Z 65536))) ?_
 simp only [p3, p4]
 refine ow 66 (.bool false) rfl (fun w' hS => (RunV.bool (x := (first3 (ck2 X 65536) (ck2 Y 65536) (ck2 Z 65536) == (0 : Int))) (rvk (by kernel_rfl)) er)) ?_
 simp only [p3, p4]
 refine ov 67 (.bool false) ?_
 simp only [p3, p4]
 refine os 68 ?_
 simp only [p3, p4]
 refine os 70 ?_
 simp only [p3, p4]
 refine oz 69 ⟨L2, L8, L12, L21⟩ ?_
 simp only [p3, p4]
 refine os 71 ?_
 simp only [p3, p4]
 refine ov 72 (.bool false) ?_
 simp only [p3, p4]
 refine ov 73 (.bool false) ?_
 simp only [p3, p4]
 refine ov 74 (.int .i64 (first3 (ck2 X 65536) (ck2 Y 65536) (ck2 Z 65536))) ?_
 simp only [p3, p4]
 refine ow 75 (.bool true) rfl (fun w' hS => (RunV.bool (x := (first3 (ck2 X 65536) (ck2 Y 65536) (ck2 Z 65536) != (0 : Int))) (rvk (by kernel_rfl)) nr)) ?_
 simp only [p3, p4]
 refine ov 76 (.bool true) ?_
 simp only [p3, p4]
 refine ow 77 (.agg #[t11_0, t11_1, t11_2, t11_3, t11_4, t11_5, t11_6, t11_7, t11_8, t11_9, t11_10, t11_11]) rfl (fun w' hS => (rl 32 0 [t11_0, t11_1, t11_2, t11_3, t11_4, t11_5, t11_6, t11_7, t11_8, t11_9, t11_10, t11_11] hS.2.2.1)) ?_
 simp only [p3, p4]
 refine ow 79 (.agg #[(.string ⟨([48] : List UInt8).toArray⟩), (.string ⟨([48] : List UInt8).toArray⟩), (.string ⟨([48] : List UInt8).toArray⟩)]) rfl (fun w' hS => (rl 24 0 [(.string ⟨([48] : List UInt8).toArray⟩), (.string ⟨([48] : List UInt8).toArray⟩), (.string ⟨([48] : List UInt8).toArray⟩)] hS.2.2.2)) ?_
 simp only [p3, p4]
 refine oe ?_
 have kq40 := g12.kp.trans (kp13.trans (g16.kp.trans (g18.kp.trans (g21.kp.trans (kp22.trans (gd33.kp.trans g35.kp))))))
 replace h11a := h11a.kp kq40
 replace h11b := h11b.kp kq40
 replace h11c := h11c.kp kq40
 refine ec 78 (vpoint_v h11a h11b h11c (by omega) (ht.gr hB)) ?_
 rintro e39 w39 ⟨rfl, g39⟩
 refine ⟨_, rfl, ?_⟩
 replace hB := hB.trans g39
 replace L2 := L2.gr g39
 replace L8 := L8.gr g39
 replace L12 := L12.gr g39
 replace L21 := L21.gr g39
 refine ⟨⟨L2, L8, L12, L21⟩, ?_⟩
 simp only [p3, p4]
 have hb41 : (sEq [(ratL (0)), (ratL (0)), (ratL (0))] [([48] : List UInt8), ([48] : List UInt8), ([48] : List UInt8)]) = true := (sEq_zero3 rfl rfl rfl)
 refine ow 80 (.bool true) rfl (fun w' hS => (RunV.bool (x := sEq [(ratL (0)), (ratL (0)), (ratL (0))] [([48] : List UInt8), ([48] : List UInt8), ([48] : List UInt8)]) (rv_ssq 24 24 22 _ _ [(ratL (0)), (ratL (0)), (ratL (0))] [([48] : List UInt8), ([48] : List UInt8), ([48] : List UInt8)] rfl rfl rfl (by kernel_rfl) (by kernel_rfl) (by kernel_rfl)) hb41)) ?_
 simp only [p3, p4]
 refine ov 81 (.bool true) ?_
 simp only [p3, p4]
 refine ov 82 (.bool true) ?_
 simp only [p3, p4]
 refine ov 83 (.bool true) ?_
 simp only [p3, p4]
 refine ov 2 (.bool true) ?_
 simp only [p3, p4]
 refine ord_nil ?_
 refine k23 _ _ ?_
 try clear k23 K23
 refine wp_ret ?_
 refine bodyPost_ret (v := (.bool true)) (ret_tmp rfl rfl) rfl ⟨?_, hB⟩
 exact rfl

set_option maxRecDepth 100000 in
set_option maxHeartbeats 4000000 in
theorem vparses_01 (X Y Z : List UInt8) (lx : X.length ≤ 500) (ly : Y.length ≤ 500) (lz : Z.length ≤ 500) (hl : decide ((500 : Int) < (((((X).length : Int) + ((Y).length : Int)) + ((Z).length : Int)))) = false) (eparse : first3 (ck2 X 400) (ck2 Y 400) (ck2 Z 400) ≠ 0) (eread : first3 (ck2 X 65536) (ck2 Y 65536) (ck2 Z 65536) = 0) (w : World) (ht : Tab w) (hm : Mx w) :
    Calls Tryz.prog 3 #[(.agg #[(.string ⟨(X : List UInt8).toArray⟩), (.string ⟨(Y : List UInt8).toArray⟩), (.string ⟨(Z : List UInt8).toArray⟩)])] w fun e w' => e = .returned (.bool true) ∧ Gr w w' := by
 have ep : (first3 (ck2 X 400) (ck2 Y 400) (ck2 Z 400) == (0 : Int)) = false := by simpa using eparse
 have er : (first3 (ck2 X 65536) (ck2 Y 65536) (ck2 Z 65536) == (0 : Int)) = true := by simpa using eread
 have np : (first3 (ck2 X 400) (ck2 Y 400) (ck2 Z 400) != (0 : Int)) = true := by simpa using eparse
 have nr : (first3 (ck2 X 65536) (ck2 Y 65536) (ck2 Z 65536) != (0 : Int)) = false := by simpa using eread
 go_enter Tryz.func3, Tryz.ntmps3
 have hB := Gr.refl w
 refine wp_seq_k (fun K1 k1 => ?_)
 refine rg [0, 1] ?_
 refine se ?_
 refine eb 24 #[(.string ⟨(X : List UInt8).toArray⟩), (.string ⟨(Y : List UInt8).toArray⟩), (.string ⟨(Z : List UInt8).toArray⟩)] 1 hB fun b2 w2 g2 L2 o2 q2 hB => ?_
 simp only [p3, p4]
 refine sv 2 (.bool false) ?_
 simp only [p3, p4]
 refine sq_nil ?_
 refine k1 _ _ ?_
 try clear k1 K1
 refine wp_seq_k (fun K3 k3 => ?_)
 refine wp_seq_k (fun K4 k4 => ?_)
 refine rg [0, 1, 2, 3, 4, 5, 6, 7, 8, 9, 10, 11, 12, 13, 14, 15] ?_
 refine se ?_
 refine ec 8 (known3 _ (ht.gr hB) (hm.gr hB)) ?_
 rintro e5 w5 ⟨rfl, g5⟩
 refine ⟨_, rfl, ?_⟩
 replace hB := hB.trans g5
 simp only [p3, p4]
 refine sv 9 (.bool false) ?_
 simp only [p3, p4]
 refine sv 10 (.bool false) ?_
 simp only [p3, p4]
 refine sv 11 (.pointer (some ⟨b2, 0, none⟩)) ?_
 simp only [p3, p4]
 replace L2 := L2.gr g5
 refine sw 12 (.string ⟨(X : List UInt8).toArray⟩) rfl (rk 22 0 L2) ?_
 simp only [p3, p4]
 refine sv 13 (.int .i64 (((X).length : Int))) ?_
 simp only [p3, p4]
 refine sv 14 (.pointer (some ⟨b2, 1, none⟩)) ?_
 simp only [p3, p4]
 refine sw 15 (.string ⟨(Y : List UInt8).toArray⟩) rfl (rk 22 1 L2) ?_
 simp only [p3, p4]
 refine sv 16 (.int .i64 (((Y).length : Int))) ?_
 simp only [p3, p4]
 refine sw 17 (.int .i64 ((((X).length : Int) + ((Y).length : Int)))) rfl (RunV.int (x := IntKind.i64.wrap ((((X).length : Int) + ((Y).length : Int)))) (y := (((X).length : Int) + ((Y).length : Int))) (rvk (by kernel_rfl)) (by first | rfl | (rw [IntKind.wrap_i64]; omega))) ?_
 simp only [p3, p4]
 refine sv 18 (.pointer (some ⟨b2, 2, none⟩)) ?_
 simp only [p3, p4]
 refine sw 19 (.string ⟨(Z : List UInt8).toArray⟩) rfl (rk 22 2 L2) ?_
 simp only [p3, p4]
 refine sv 20 (.int .i64 (((Z).length : Int))) ?_
 simp only [p3, p4]
 refine sw 21 (.int .i64 (((((X).length : Int) + ((Y).length : Int)) + ((Z).length : Int)))) rfl (RunV.int (x := IntKind.i64.wrap (((((X).length : Int) + ((Y).length : Int)) + ((Z).length : Int)))) (y := ((((X).length : Int) + ((Y).length : Int)) + ((Z).length : Int))) (rvk (by kernel_rfl)) (by first | rfl | (rw [IntKind.wrap_i64]; omega))) ?_
 simp only [p3, p4]
 refine sw 22 (.bool false) rfl (RunV.bool (x := decide ((500 : Int) < ((((X).length : Int) + ((Y).length : Int)) + ((Z).length : Int)))) (rvk (by kernel_rfl)) hl) ?_
 simp only [p3, p4]
 refine sv 23 (.bool false) ?_
 simp only [p3, p4]
 refine sq_nil ?_
 refine k4 _ _ ?_
 try clear k4 K4
 refine wp_cond_false rfl ?_
 refine wp_skip ?_
 refine k3 _ _ ?_
 try clear k3 K3
 refine wp_seq_k (fun K6 k6 => ?_)
 refine rg [0, 1, 2, 3, 4, 5, 6, 7] ?_
 refine sw 26 (.agg #[(.string ⟨(X : List UInt8).toArray⟩), (.string ⟨(Y : List UInt8).toArray⟩), (.string ⟨(Z : List UInt8).toArray⟩)]) rfl (rl 24 0 [(.string ⟨(X : List UInt8).toArray⟩), (.string ⟨(Y : List UInt8).toArray⟩), (.string ⟨(Z : List UInt8).toArray⟩)] L2) ?_
 simp only [p3, p4]
 refine se ?_
 refine ec 27 (vparse_any X Y Z lx ly lz _ (hm.gr hB)) ?_
 rintro e7 w7 ⟨⟨t7_0, t7_1, t7_2, t7_3, t7_4, t7_5, t7_6, t7_7, t7_8, t7_9, t7_10, t7_11, za7_0, za7_1, za7_2, rfl, ⟨h7a, h7b, h7c⟩, hor7⟩, g7⟩
 refine ⟨_, rfl, ?_⟩
 replace hB := hB.trans g7
 rcases hor7 with ⟨ho7, hx7, hy7, hz7⟩ | ⟨ho7, hx7, hy7, hz7⟩
 exact absurd ho7 eparse
 rw [hx7] at h7a
 rw [hy7] at h7b
 rw [hz7] at h7c
 simp only [p3, p4]
 refine sv 25 (.tuple #[(.agg #[t7_0, t7_1, t7_2, t7_3, t7_4, t7_5, t7_6, t7_7, t7_8, t7_9, t7_10, t7_11]), (.int .i64 (first3 (ck2 X 400) (ck2 Y 400) (ck2 Z 400)))]) ?_
 simp only [p3, p4]
 refine sv 28 (.agg #[t7_0, t7_1, t7_2, t7_3, t7_4, t7_5, t7_6, t7_7, t7_8, t7_9, t7_10, t7_11]) ?_
 simp only [p3, p4]
 refine sv 29 (.int .i64 (first3 (ck2 X 400) (ck2 Y 400) (ck2 Z 400))) ?_
 simp only [p3, p4]
 refine se ?_
 refine ea 32 #[(.bool false), (.slice none 0 0), (.bool false), (.slice none 0 0), (.bool false), (.slice none 0 0), (.bool false), (.slice none 0 0), (.bool false), (.slice none 0 0), (.bool false), (.slice none 0 0)] 3 hB fun b8 w8 g8 L8 o8 q8 hB => ?_
 replace L2 := L2.gr g7
 have ne2_8 := L2.ne o8
 simp only [p3, p4]
 refine se ?_
 refine es 32 0 (.agg #[t7_0, t7_1, t7_2, t7_3, t7_4, t7_5, t7_6, t7_7, t7_8, t7_9, t7_10, t7_11]) [t7_0, t7_1, t7_2, t7_3, t7_4, t7_5, t7_6, t7_7, t7_8, t7_9, t7_10, t7_11] #[t7_0, t7_1, t7_2, t7_3, t7_4, t7_5, t7_6, t7_7, t7_8, t7_9, t7_10, t7_11] L8 hB q8 ⟨h7a.one0, h7a.one1, h7a.one2, h7a.one3, h7b.one0, h7b.one1, h7b.one2, h7b.one3, h7c.one0, h7c.one1, h7c.one2, h7c.one3, trivial⟩ fun w9 st9 kp9 L8 hB => ?_
 refine sv 4 (.int .i64 (first3 (ck2 X 400) (ck2 Y 400) (ck2 Z 400))) ?_
 simp only [p3, p4]
 refine sq_nil ?_
 refine k6 _ _ ?_
 try clear k6 K6
 refine wp_seq_k (fun K10 k10 => ?_)
 refine rg [0, 1, 2, 3, 4, 5, 6, 7] ?_
 replace L2 := st9.lc (L2.gr g8) ne2_8
 refine sw 31 (.agg #[(.string ⟨(X : List UInt8).toArray⟩), (.string ⟨(Y : List UInt8).toArray⟩), (.string ⟨(Z : List UInt8).toArray⟩)]) rfl (rl 24 0 [(.string ⟨(X : List UInt8).toArray⟩), (.string ⟨(Y : List UInt8).toArray⟩), (.string ⟨(Z : List UInt8).toArray⟩)] L2) ?_
 simp only [p3, p4]
 refine se ?_
 refine ec 32 (vread_any X Y Z lx ly lz _ (hm.gr hB)) ?_
 rintro e11 w11 ⟨⟨t11_0, t11_1, t11_2, t11_3, t11_4, t11_5, t11_6, t11_7, t11_8, t11_9, t11_10, t11_11, za11_0, za11_1, za11_2, rfl, ⟨h11a, h11b, h11c⟩, hor11⟩, g11⟩
 refine ⟨_, rfl, ?_⟩
 replace hB := hB.trans g11
 rcases hor11 with ⟨ho11, hx11, hy11, hz11⟩ | ⟨ho11, hx11, hy11, hz11⟩
 rotate_left
 exact absurd eread ho11
 simp only [p3, p4]
 refine sv 30 (.tuple #[(.agg #[t11_0, t11_1, t11_2, t11_3, t11_4, t11_5, t11_6, t11_7, t11_8, t11_9, t11_10, t11_11]), (.int .i64 (first3 (ck2 X 65536) (ck2 Y 65536) (ck2 Z 65536)))]) ?_
 simp only [p3, p4]
 refine sv 33 (.agg #[t11_0, t11_1, t11_2, t11_3, t11_4, t11_5, t11_6, t11_7, t11_8, t11_9, t11_10, t11_11]) ?_
 simp only [p3, p4]
 refine sv 34 (.int .i64 (first3 (ck2 X 65536) (ck2 Y 65536) (ck2 Z 65536))) ?_
 simp only [p3, p4]
 refine se ?_
 refine ea 32 #[(.bool false), (.slice none 0 0), (.bool false), (.slice none 0 0), (.bool false), (.slice none 0 0), (.bool false), (.slice none 0 0), (.bool false), (.slice none 0 0), (.bool false), (.slice none 0 0)] 5 hB fun b12 w12 g12 L12 o12 q12 hB => ?_
 replace L2 := L2.gr g11
 have ne2_12 := L2.ne o12
 replace L8 := L8.gr g11
 have ne8_12 := L8.ne o12
 simp only [p3, p4]
 refine se ?_
 refine es 32 0 (.agg #[t11_0, t11_1, t11_2, t11_3, t11_4, t11_5, t11_6, t11_7, t11_8, t11_9, t11_10, t11_11]) [t11_0, t11_1, t11_2, t11_3, t11_4, t11_5, t11_6, t11_7, t11_8, t11_9, t11_10, t11_11] #[t11_0, t11_1, t11_2, t11_3, t11_4, t11_5, t11_6, t11_7, t11_8, t11_9, t11_10, t11_11] L12 hB q12 ⟨h11a.one0, h11a.one1, h11a.one2, h11a.one3, h11b.one0, h11b.one1, h11b.one2, h11b.one3, h11c.one0, h11c.one1, h11c.one2, h11c.one3, trivial⟩ fun w13 st13 kp13 L12 hB => ?_
 refine sv 6 (.int .i64 (first3 (ck2 X 65536) (ck2 Y 65536) (ck2 Z 65536))) ?_
 simp only [p3, p4]
 refine sq_nil ?_
 refine k10 _ _ ?_
 try clear k10 K10
 refine wp_seq_k (fun K14 k14 => ?_)
 refine wp_seq_k (fun K15 k15 => ?_)
 refine rg [0, 1, 2, 3, 4, 5, 6, 7, 8, 9] ?_
 refine sv 35 (.int .i64 (first3 (ck2 X 400) (ck2 Y 400) (ck2 Z 400))) ?_
 simp only [p3, p4]
 replace L2 := st13.lc (L2.gr g12) ne2_12
 refine sw 36 (.agg #[(.string ⟨(X : List UInt8).toArray⟩), (.string ⟨(Y : List UInt8).toArray⟩), (.string ⟨(Z : List UInt8).toArray⟩)]) rfl (rl 24 0 [(.string ⟨(X : List UInt8).toArray⟩), (.string ⟨(Y : List UInt8).toArray⟩), (.string ⟨(Z : List UInt8).toArray⟩)] L2) ?_
 simp only [p3, p4]
 refine se ?_
 refine ec 37 (r3_check X Y Z lx ly lz 400 (by omega) _) ?_
 rintro e16 w16 ⟨rfl, g16⟩
 refine ⟨_, rfl, ?_⟩
 replace hB := hB.trans g16
 simp only [p3, p4]
 have hb17 : ((first3 (ck2 X 400) (ck2 Y 400) (ck2 Z 400) != first3 (ck2 X 400) (ck2 Y 400) (ck2 Z 400))) = false := (by simp)
 refine sw 38 (.bool false) rfl (RunV.bool (x := (first3 (ck2 X 400) (ck2 Y 400) (ck2 Z 400) != first3 (ck2 X 400) (ck2 Y 400) (ck2 Z 400))) (rvk (by kernel_rfl)) hb17) ?_
 simp only [p3, p4]
 refine sv 39 (.bool false) ?_
 simp only [p3, p4]
 refine sv 40 (.int .i64 (first3 (ck2 X 65536) (ck2 Y 65536) (ck2 Z 65536))) ?_
 simp only [p3, p4]
 replace L2 := L2.gr g16
 refine sw 41 (.agg #[(.string ⟨(X : List UInt8).toArray⟩), (.string ⟨(Y : List UInt8).toArray⟩), (.string ⟨(Z : List UInt8).toArray⟩)]) rfl (rl 24 0 [(.string ⟨(X : List UInt8).toArray⟩), (.string ⟨(Y : List UInt8).toArray⟩), (.string ⟨(Z : List UInt8).toArray⟩)] L2) ?_
 simp only [p3, p4]
 refine se ?_
 refine ec 42 (r3_check X Y Z lx ly lz 65536 (by omega) _) ?_
 rintro e18 w18 ⟨rfl, g18⟩
 refine ⟨_, rfl, ?_⟩
 replace hB := hB.trans g18
 simp only [p3, p4]
 have hb19 : ((first3 (ck2 X 65536) (ck2 Y 65536) (ck2 Z 65536) != first3 (ck2 X 65536) (ck2 Y 65536) (ck2 Z 65536))) = false := (by simp)
 refine sw 43 (.bool false) rfl (RunV.bool (x := (first3 (ck2 X 65536) (ck2 Y 65536) (ck2 Z 65536) != first3 (ck2 X 65536) (ck2 Y 65536) (ck2 Z 65536))) (rvk (by kernel_rfl)) hb19) ?_
 simp only [p3, p4]
 refine sv 44 (.bool false) ?_
 simp only [p3, p4]
 refine sq_nil ?_
 refine k15 _ _ ?_
 try clear k15 K15
 refine wp_cond_false rfl ?_
 refine wp_skip ?_
 refine k14 _ _ ?_
 try clear k14 K14
 refine wp_seq_k (fun K20 k20 => ?_)
 refine rg [0, 1, 2] ?_
 refine sv 45 (.agg #[(.string ⟨([48] : List UInt8).toArray⟩), (.string ⟨([48] : List UInt8).toArray⟩), (.string ⟨([48] : List UInt8).toArray⟩)]) ?_
 simp only [p3, p4]
 refine se ?_
 refine ea 24 #[(.string ⟨([] : List UInt8).toArray⟩), (.string ⟨([] : List UInt8).toArray⟩), (.string ⟨([] : List UInt8).toArray⟩)] 7 hB fun b21 w21 g21 L21 o21 q21 hB => ?_
 replace L2 := L2.gr g18
 have ne2_21 := L2.ne o21
 replace L8 := (st13.lc (L8.gr g12) ne8_12).gr (g16.trans g18)
 have ne8_21 := L8.ne o21
 replace L12 := L12.gr (g16.trans g18)
 have ne12_21 := L12.ne o21
 simp only [p3, p4]
 refine se ?_
 refine es 24 0 (.agg #[(.string ⟨([48] : List UInt8).toArray⟩), (.string ⟨([48] : List UInt8).toArray⟩), (.string ⟨([48] : List UInt8).toArray⟩)]) [(.string ⟨([48] : List UInt8).toArray⟩), (.string ⟨([48] : List UInt8).toArray⟩), (.string ⟨([48] : List UInt8).toArray⟩)] #[(.string ⟨([48] : List UInt8).toArray⟩), (.string ⟨([48] : List UInt8).toArray⟩), (.string ⟨([48] : List UInt8).toArray⟩)] L21 hB q21 ⟨rfl, rfl, rfl, trivial⟩ fun w22 st22 kp22 L21 hB => ?_
 refine sq_nil ?_
 refine k20 _ _ ?_
 try clear k20 K20
 refine wp_seq_k (fun K23 k23 => ?_)
 have gd33 := Gr.drew w22
 replace hB := hB.trans gd33
 replace L2 := (st22.lc (L2.gr g21) ne2_21).gr gd33
 replace L8 := (st22.lc (L8.gr g21) ne8_21).gr gd33
 replace L12 := (st22.lc (L12.gr g21) ne12_21).gr gd33
 replace L21 := L21.gr gd33
 refine wp_region_ord (fun w' => Lc w' b2 #[(.string ⟨(X : List UInt8).toArray⟩), (.string ⟨(Y : List UInt8).toArray⟩), (.string ⟨(Z : List UInt8).toArray⟩)] 24 ∧ Lc w' b8 #[t7_0, t7_1, t7_2, t7_3, t7_4, t7_5, t7_6, t7_7, t7_8, t7_9, t7_10, t7_11] 32 ∧ Lc w' b12 #[t11_0, t11_1, t11_2, t11_3, t11_4, t11_5, t11_6, t11_7, t11_8, t11_9, t11_10, t11_11] 32 ∧ Lc w' b21 #[(.string ⟨([48] : List UInt8).toArray⟩), (.string ⟨([48] : List UInt8).toArray⟩), (.string ⟨([48] : List UInt8).toArray⟩)] 24) [(true, 0), (true, 1), (true, 2), (true, 3), (true, 5), (false, 4), (true, 6), (true, 7), (true, 8), (true, 9), (true, 10), (true, 11), (true, 12), (true, 14), (false, 13), (true, 15), (true, 16), (true, 17), (true, 18), (true, 19), (true, 20), (true, 21), (true, 22), (true, 24), (false, 23), (true, 25), (true, 26), (true, 27), (true, 28), (true, 29), (true, 30), (true, 31), (true, 33), (false, 32), (true, 34), (true, 35), (true, 36), (true, 37), (true, 38)] (by kernel_rfl) (by kernel_rfl) (by kernel_rfl) (by decide) (fun _ _ _ _ _ h => h) ⟨L2, L8, L12, L21⟩ ?_
 refine ov 46 (.int .i64 (first3 (ck2 X 400) (ck2 Y 400) (ck2 Z 400))) ?_
 simp only [p3, p4]
 refine ow 47 (.bool false) rfl (fun w' hS => (RunV.bool (x := (first3 (ck2 X 400) (ck2 Y 400) (ck2 Z 400) == (0 : Int))) (rvk (by kernel_rfl)) ep)) ?_
 simp only [p3, p4]
 refine ov 48 (.bool false) ?_
 simp only [p3, p4]
 refine os 49 ?_
 simp only [p3, p4]
 refine os 51 ?_
 simp only [p3, p4]
 refine oz 50 ⟨L2, L8, L12, L21⟩ ?_
 simp only [p3, p4]
 refine os 52 ?_
 simp only [p3, p4]
 refine ov 53 (.bool false) ?_
 simp only [p3, p4]
 refine ov 54 (.bool false) ?_
 simp only [p3, p4]
 refine ov 55 (.int .i64 (first3 (ck2 X 400) (ck2 Y 400) (ck2 Z 400))) ?_
 simp only [p3, p4]
 refine ow 56 (.bool true) rfl (fun w' hS => (RunV.bool (x := (first3 (ck2 X 400) (ck2 Y 400) (ck2 Z 400) != (0 : Int))) (rvk (by kernel_rfl)) np)) ?_
 simp only [p3, p4]
 refine ov 57 (.bool true) ?_
 simp only [p3, p4]
 refine ow 58 (.agg #[t7_0, t7_1, t7_2, t7_3, t7_4, t7_5, t7_6, t7_7, t7_8, t7_9, t7_10, t7_11]) rfl (fun w' hS => (rl 32 0 [t7_0, t7_1, t7_2, t7_3, t7_4, t7_5, t7_6, t7_7, t7_8, t7_9, t7_10, t7_11] hS.2.1)) ?_
 simp only [p3, p4]
 refine ow 60 (.agg #[(.string ⟨([48] : List UInt8).toArray⟩), (.string ⟨([48] : List UInt8).toArray⟩), (.string ⟨([48] : List UInt8).toArray⟩)]) rfl (fun w' hS => (rl 24 0 [(.string ⟨([48] : List UInt8).toArray⟩), (.string ⟨([48] : List UInt8).toArray⟩), (.string ⟨([48] : List UInt8).toArray⟩)] hS.2.2.2)) ?_
 simp only [p3, p4]
 refine oe ?_
 have kq36 := g8.kp.trans (kp9.trans (g11.kp.trans (g12.kp.trans (kp13.trans (g16.kp.trans (g18.kp.trans (g21.kp.trans (kp22.trans gd33.kp))))))))
 replace h7a := h7a.kp kq36
 replace h7b := h7b.kp kq36
 replace h7c := h7c.kp kq36
 refine ec 59 (vpoint_v h7a h7b h7c (by omega) (ht.gr hB)) ?_
 rintro e35 w35 ⟨rfl, g35⟩
 refine ⟨_, rfl, ?_⟩
 replace hB := hB.trans g35
 replace L2 := L2.gr g35
 replace L8 := L8.gr g35
 replace L12 := L12.gr g35
 replace L21 := L21.gr g35
 refine ⟨⟨L2, L8, L12, L21⟩, ?_⟩
 simp only [p3, p4]
 have hb37 : (sEq [(ratL (0)), (ratL (0)), (ratL (0))] [([48] : List UInt8), ([48] : List UInt8), ([48] : List UInt8)]) = true := (sEq_zero3 rfl rfl rfl)
 refine ow 61 (.bool true) rfl (fun w' hS => (RunV.bool (x := sEq [(ratL (0)), (ratL (0)), (ratL (0))] [([48] : List UInt8), ([48] : List UInt8), ([48] : List UInt8)]) (rv_ssq 24 24 22 _ _ [(ratL (0)), (ratL (0)), (ratL (0))] [([48] : List UInt8), ([48] : List UInt8), ([48] : List UInt8)] rfl rfl rfl (by kernel_rfl) (by kernel_rfl) (by kernel_rfl)) hb37)) ?_
 simp only [p3, p4]
 refine ov 62 (.bool true) ?_
 simp only [p3, p4]
 refine ov 63 (.bool true) ?_
 simp only [p3, p4]
 refine ov 64 (.bool true) ?_
 simp only [p3, p4]
 refine ov 65 (.int .i64 (first3 (ck2 X 65536) (ck2 Y 65536) (ck2 Z 65536))) ?_
 simp only [p3, p4]
 refine ow 66 (.bool true) rfl (fun w' hS => (RunV.bool (x := (first3 (ck2 X 65536) (ck2 Y 65536) (ck2 Z 65536) == (0 : Int))) (rvk (by kernel_rfl)) er)) ?_
 simp only [p3, p4]
 refine ov 67 (.bool true) ?_
 simp only [p3, p4]
 refine ow 68 (.agg #[t11_0, t11_1, t11_2, t11_3, t11_4, t11_5, t11_6, t11_7, t11_8, t11_9, t11_10, t11_11]) rfl (fun w' hS => (rl 32 0 [t11_0, t11_1, t11_2, t11_3, t11_4, t11_5, t11_6, t11_7, t11_8, t11_9, t11_10, t11_11] hS.2.2.1)) ?_
 simp only [p3, p4]
 refine ow 70 (.agg #[(.string ⟨(X : List UInt8).toArray⟩), (.string ⟨(Y : List UInt8).toArray⟩), (.string ⟨(Z : List UInt8).toArray⟩)]) rfl (fun w' hS => (rl 24 0 [(.string ⟨(X : List UInt8).toArray⟩), (.string ⟨(Y : List UInt8).toArray⟩), (.string ⟨(Z : List UInt8).toArray⟩)] hS.1)) ?_
 simp only [p3, p4]
 refine oe ?_
 have kq40 := g12.kp.trans (kp13.trans (g16.kp.trans (g18.kp.trans (g21.kp.trans (kp22.trans (gd33.kp.trans g35.kp))))))
 replace h11a := h11a.kp kq40
 replace h11b := h11b.kp kq40
 replace h11c := h11c.kp kq40
 refine ec 69 (vpoint_v h11a h11b h11c (by omega) (ht.gr hB)) ?_
 rintro e39 w39 ⟨rfl, g39⟩
 refine ⟨_, rfl, ?_⟩
 replace hB := hB.trans g39
 replace L2 := L2.gr g39
 replace L8 := L8.gr g39
 replace L12 := L12.gr g39
 replace L21 := L21.gr g39
 refine ⟨⟨L2, L8, L12, L21⟩, ?_⟩
 simp only [p3, p4]
 have hb41 : (sEq [(ratL (za11_0)), (ratL (za11_1)), (ratL (za11_2))] [(X), (Y), (Z)]) = true := (sEq_eqs hx11 hy11 hz11)
 refine ow 71 (.bool true) rfl (fun w' hS => (RunV.bool (x := sEq [(ratL (za11_0)), (ratL (za11_1)), (ratL (za11_2))] [(X), (Y), (Z)]) (rv_ssq 24 24 22 _ _ [(ratL (za11_0)), (ratL (za11_1)), (ratL (za11_2))] [(X), (Y), (Z)] rfl rfl rfl (by kernel_rfl) (by kernel_rfl) (by kernel_rfl)) hb41)) ?_
 simp only [p3, p4]
 refine ov 72 (.bool true) ?_
 simp only [p3, p4]
 refine ov 73 (.bool true) ?_
 simp only [p3, p4]
 refine os 74 ?_
 simp only [p3, p4]
 refine os 75 ?_
 simp only [p3, p4]
 refine os 76 ?_
 simp only [p3, p4]
 refine os 77 ?_
 simp only [p3, p4]
 refine os 79 ?_
 simp only [p3, p4]
 refine oz 78 ⟨L2, L8, L12, L21⟩ ?_
 simp only [p3, p4]
 refine os 80 ?_
 simp only [p3, p4]
 refine os 81 ?_
 simp only [p3, p4]
 refine ov 82 (.bool true) ?_
 simp only [p3, p4]
 refine ov 83 (.bool true) ?_
 simp only [p3, p4]
 refine ov 2 (.bool true) ?_
 simp only [p3, p4]
 refine ord_nil ?_
 refine k23 _ _ ?_
 try clear k23 K23
 refine wp_ret ?_
 refine bodyPost_ret (v := (.bool true)) (ret_tmp rfl rfl) rfl ⟨?_, hB⟩
 exact rfl

set_option maxRecDepth 100000 in
set_option maxHeartbeats 4000000 in
theorem vparses_00 (X Y Z : List UInt8) (lx : X.length ≤ 500) (ly : Y.length ≤ 500) (lz : Z.length ≤ 500) (hl : decide ((500 : Int) < (((((X).length : Int) + ((Y).length : Int)) + ((Z).length : Int)))) = false) (eparse : first3 (ck2 X 400) (ck2 Y 400) (ck2 Z 400) ≠ 0) (eread : first3 (ck2 X 65536) (ck2 Y 65536) (ck2 Z 65536) ≠ 0) (w : World) (ht : Tab w) (hm : Mx w) :
    Calls Tryz.prog 3 #[(.agg #[(.string ⟨(X : List UInt8).toArray⟩), (.string ⟨(Y : List UInt8).toArray⟩), (.string ⟨(Z : List UInt8).toArray⟩)])] w fun e w' => e = .returned (.bool true) ∧ Gr w w' := by
 have ep : (first3 (ck2 X 400) (ck2 Y 400) (ck2 Z 400) == (0 : Int)) = false := by simpa using eparse
 have er : (first3 (ck2 X 65536) (ck2 Y 65536) (ck2 Z 65536) == (0 : Int)) = false := by simpa using eread
 have np : (first3 (ck2 X 400) (ck2 Y 400) (ck2 Z 400) != (0 : Int)) = true := by simpa using eparse
 have nr : (first3 (ck2 X 65536) (ck2 Y 65536) (ck2 Z 65536) != (0 : Int)) = true := by simpa using eread
 go_enter Tryz.func3, Tryz.ntmps3
 have hB := Gr.refl w
 refine wp_seq_k (fun K1 k1 => ?_)
 refine rg [0, 1] ?_
 refine se ?_
 refine eb 24 #[(.string ⟨(X : List UInt8).toArray⟩), (.string ⟨(Y : List UInt8).toArray⟩), (.string ⟨(Z : List UInt8).toArray⟩)] 1 hB fun b2 w2 g2 L2 o2 q2 hB => ?_
 simp only [p3, p4]
 refine sv 2 (.bool false) ?_
 simp only [p3, p4]
 refine sq_nil ?_
 refine k1 _ _ ?_
 try clear k1 K1
 refine wp_seq_k (fun K3 k3 => ?_)
 refine wp_seq_k (fun K4 k4 => ?_)
 refine rg [0, 1, 2, 3, 4, 5, 6, 7, 8, 9, 10, 11, 12, 13, 14, 15] ?_
 refine se ?_
 refine ec 8 (known3 _ (ht.gr hB) (hm.gr hB)) ?_
 rintro e5 w5 ⟨rfl, g5⟩
 refine ⟨_, rfl, ?_⟩
 replace hB := hB.trans g5
 simp only [p3, p4]
 refine sv 9 (.bool false) ?_
 simp only [p3, p4]
 refine sv 10 (.bool false) ?_
 simp only [p3, p4]
 refine sv 11 (.pointer (some ⟨b2, 0, none⟩)) ?_
 simp only [p3, p4]
 replace L2 := L2.gr g5
 refine sw 12 (.string ⟨(X : List UInt8).toArray⟩) rfl (rk 22 0 L2) ?_
 simp only [p3, p4]
 refine sv 13 (.int .i64 (((X).length : Int))) ?_
 simp only [p3, p4]
 refine sv 14 (.pointer (some ⟨b2, 1, none⟩)) ?_
 simp only [p3, p4]
 refine sw 15 (.string ⟨(Y : List UInt8).toArray⟩) rfl (rk 22 1 L2) ?_
 simp only [p3, p4]
 refine sv 16 (.int .i64 (((Y).length : Int))) ?_
 simp only [p3, p4]
 refine sw 17 (.int .i64 ((((X).length : Int) + ((Y).length : Int)))) rfl (RunV.int (x := IntKind.i64.wrap ((((X).length : Int) + ((Y).length : Int)))) (y := (((X).length : Int) + ((Y).length : Int))) (rvk (by kernel_rfl)) (by first | rfl | (rw [IntKind.wrap_i64]; omega))) ?_
 simp only [p3, p4]
 refine sv 18 (.pointer (some ⟨b2, 2, none⟩)) ?_
 simp only [p3, p4]
 refine sw 19 (.string ⟨(Z : List UInt8).toArray⟩) rfl (rk 22 2 L2) ?_
 simp only [p3, p4]
 refine sv 20 (.int .i64 (((Z).length : Int))) ?_
 simp only [p3, p4]
 refine sw 21 (.int .i64 (((((X).length : Int) + ((Y).length : Int)) + ((Z).length : Int)))) rfl (RunV.int (x := IntKind.i64.wrap (((((X).length : Int) + ((Y).length : Int)) + ((Z).length : Int)))) (y := ((((X).length : Int) + ((Y).length : Int)) + ((Z).length : Int))) (rvk (by kernel_rfl)) (by first | rfl | (rw [IntKind.wrap_i64]; omega))) ?_
 simp only [p3, p4]
 refine sw 22 (.bool false) rfl (RunV.bool (x := decide ((500 : Int) < ((((X).length : Int) + ((Y).length : Int)) + ((Z).length : Int)))) (rvk (by kernel_rfl)) hl) ?_
 simp only [p3, p4]
 refine sv 23 (.bool false) ?_
 simp only [p3, p4]
 refine sq_nil ?_
 refine k4 _ _ ?_
 try clear k4 K4
 refine wp_cond_false rfl ?_
 refine wp_skip ?_
 refine k3 _ _ ?_
 try clear k3 K3
 refine wp_seq_k (fun K6 k6 => ?_)
 refine rg [0, 1, 2, 3, 4, 5, 6, 7] ?_
 refine sw 26 (.agg #[(.string ⟨(X : List UInt8).toArray⟩), (.string ⟨(Y : List UInt8).toArray⟩), (.string ⟨(Z : List UInt8).toArray⟩)]) rfl (rl 24 0 [(.string ⟨(X : List UInt8).toArray⟩), (.string ⟨(Y : List UInt8).toArray⟩), (.string ⟨(Z : List UInt8).toArray⟩)] L2) ?_
 simp only [p3, p4]
 refine se ?_
 refine ec 27 (vparse_any X Y Z lx ly lz _ (hm.gr hB)) ?_
 rintro e7 w7 ⟨⟨t7_0, t7_1, t7_2, t7_3, t7_4, t7_5, t7_6, t7_7, t7_8, t7_9, t7_10, t7_11, za7_0, za7_1, za7_2, rfl, ⟨h7a, h7b, h7c⟩, hor7⟩, g7⟩
 refine ⟨_, rfl, ?_⟩
 replace hB := hB.trans g7
 rcases hor7 with ⟨ho7, hx7, hy7, hz7⟩ | ⟨ho7, hx7, hy7, hz7⟩
 exact absurd ho7 eparse
 rw [hx7] at h7a
 rw [hy7] at h7b
 rw [hz7] at h7c
 simp only [p3, p4]
 refine sv 25 (.tuple #[(.agg #[t7_0, t7_1, t7_2, t7_3, t7_4, t7_5, t7_6, t7_7, t7_8, t7_9, t7_10, t7_11]), (.int .i64 (first3 (ck2 X 400) (ck2 Y 400) (ck2 Z 400)))]) ?_
 simp only [p3, p4]
 refine sv 28 (.agg #[t7_0, t7_1, t7_2, t7_3, t7_4, t7_5, t7_6, t7_7, t7_8, t7_9, t7_10, t7_11]) ?_
 simp only [p3, p4]
 refine sv 29 (.int .i64 (first3 (ck2 X 400) (ck2 Y 400) (ck2 Z 400))) ?_
 simp only [p3, p4]
 refine se ?_
 refine ea 32 #[(.bool false), (.slice none 0 0), (.bool false), (.slice none 0 0), (.bool false), (.slice none 0 0), (.bool false), (.slice none 0 0), (.bool false), (.slice none 0 0), (.bool false), (.slice none 0 0)] 3 hB fun b8 w8 g8 L8 o8 q8 hB => ?_
 replace L2 := L2.gr g7
 have ne2_8 := L2.ne o8
 simp only [p3, p4]
 refine se ?_
 refine es 32 0 (.agg #[t7_0, t7_1, t7_2, t7_3, t7_4, t7_5, t7_6, t7_7, t7_8, t7_9, t7_10, t7_11]) [t7_0, t7_1, t7_2, t7_3, t7_4, t7_5, t7_6, t7_7, t7_8, t7_9, t7_10, t7_11] #[t7_0, t7_1, t7_2, t7_3, t7_4, t7_5, t7_6, t7_7, t7_8, t7_9, t7_10, t7_11] L8 hB q8 ⟨h7a.one0, h7a.one1, h7a.one2, h7a.one3, h7b.one0, h7b.one1, h7b.one2, h7b.one3, h7c.one0, h7c.one1, h7c.one2, h7c.one3, trivial⟩ fun w9 st9 kp9 L8 hB => ?_
 refine sv 4 (.int .i64 (first3 (ck2 X 400) (ck2 Y 400) (ck2 Z 400))) ?_
 simp only [p3, p4]
 refine sq_nil ?_
 refine k6 _ _ ?_
 try clear k6 K6
 refine wp_seq_k (fun K10 k10 => ?_)
 refine rg [0, 1, 2, 3, 4, 5, 6, 7] ?_
 replace L2 := st9.lc (L2.gr g8) ne2_8
 refine sw 31 (.agg #[(.string ⟨(X : List UInt8).toArray⟩), (.string ⟨(Y : List UInt8).toArray⟩), (.string ⟨(Z : List UInt8).toArray⟩)]) rfl (rl 24 0 [(.string ⟨(X : List UInt8).toArray⟩), (.string ⟨(Y : List UInt8).toArray⟩), (.string ⟨(Z : List UInt8).toArray⟩)] L2) ?_
 simp only [p3, p4]
 refine se ?_
 refine ec 32 (vread_any X Y Z lx ly lz _ (hm.gr hB)) ?_
 rintro e11 w11 ⟨⟨t11_0, t11_1, t11_2, t11_3, t11_4, t11_5, t11_6, t11_7, t11_8, t11_9, t11_10, t11_11, za11_0, za11_1, za11_2, rfl, ⟨h11a, h11b, h11c⟩, hor11⟩, g11⟩
 refine ⟨_, rfl, ?_⟩
 replace hB := hB.trans g11
 rcases hor11 with ⟨ho11, hx11, hy11, hz11⟩ | ⟨ho11, hx11, hy11, hz11⟩
 exact absurd ho11 eread
 rw [hx11] at h11a
 rw [hy11] at h11b
 rw [hz11] at h11c
 simp only [p3, p4]
 refine sv 30 (.tuple #[(.agg #[t11_0, t11_1, t11_2, t11_3, t11_4, t11_5, t11_6, t11_7, t11_8, t11_9, t11_10, t11_11]), (.int .i64 (first3 (ck2 X 65536) (ck2 Y 65536) (ck2 Z 65536)))]) ?_
 simp only [p3, p4]
 refine sv 33 (.agg #[t11_0, t11_1, t11_2, t11_3, t11_4, t11_5, t11_6, t11_7, t11_8, t11_9, t11_10, t11_11]) ?_
 simp only [p3, p4]
 refine sv 34 (.int .i64 (first3 (ck2 X 65536) (ck2 Y 65536) (ck2 Z 65536))) ?_
 simp only [p3, p4]
 refine se ?_
 refine ea 32 #[(.bool false), (.slice none 0 0), (.bool false), (.slice none 0 0), (.bool false), (.slice none 0 0), (.bool false), (.slice none 0 0), (.bool false), (.slice none 0 0), (.bool false), (.slice none 0 0)] 5 hB fun b12 w12 g12 L12 o12 q12 hB => ?_
 replace L2 := L2.gr g11
 have ne2_12 := L2.ne o12
 replace L8 := L8.gr g11
 have ne8_12 := L8.ne o12
 simp only [p3, p4]
 refine se ?_
 refine es 32 0 (.agg #[t11_0, t11_1, t11_2, t11_3, t11_4, t11_5, t11_6, t11_7, t11_8, t11_9, t11_10, t11_11]) [t11_0, t11_1, t11_2, t11_3, t11_4, t11_5, t11_6, t11_7, t11_8, t11_9, t11_10, t11_11] #[t11_0, t11_1, t11_2, t11_3, t11_4, t11_5, t11_6, t11_7, t11_8, t11_9, t11_10, t11_11] L12 hB q12 ⟨h11a.one0, h11a.one1, h11a.one2, h11a.one3, h11b.one0, h11b.one1, h11b.one2, h11b.one3, h11c.one0, h11c.one1, h11c.one2, h11c.one3, trivial⟩ fun w13 st13 kp13 L12 hB => ?_
 refine sv 6 (.int .i64 (first3 (ck2 X 65536) (ck2 Y 65536) (ck2 Z 65536))) ?_
 simp only [p3, p4]
 refine sq_nil ?_
 refine k10 _ _ ?_
 try clear k10 K10
 refine wp_seq_k (fun K14 k14 => ?_)
 refine wp_seq_k (fun K15 k15 => ?_)
 refine rg [0, 1, 2, 3, 4, 5, 6, 7, 8, 9] ?_
 refine sv 35 (.int .i64 (first3 (ck2 X 400) (ck2 Y 400) (ck2 Z 400))) ?_
 simp only [p3, p4]
 replace L2 := st13.lc (L2.gr g12) ne2_12
 refine sw 36 (.agg #[(.string ⟨(X : List UInt8).toArray⟩), (.string ⟨(Y : List UInt8).toArray⟩), (.string ⟨(Z : List UInt8).toArray⟩)]) rfl (rl 24 0 [(.string ⟨(X : List UInt8).toArray⟩), (.string ⟨(Y : List UInt8).toArray⟩), (.string ⟨(Z : List UInt8).toArray⟩)] L2) ?_
 simp only [p3, p4]
 refine se ?_
 refine ec 37 (r3_check X Y Z lx ly lz 400 (by omega) _) ?_
 rintro e16 w16 ⟨rfl, g16⟩
 refine ⟨_, rfl, ?_⟩
 replace hB := hB.trans g16
 simp only [p3, p4]
 have hb17 : ((first3 (ck2 X 400) (ck2 Y 400) (ck2 Z 400) != first3 (ck2 X 400) (ck2 Y 400) (ck2 Z 400))) = false := (by simp)
 refine sw 38 (.bool false) rfl (RunV.bool (x := (first3 (ck2 X 400) (ck2 Y 400) (ck2 Z 400) != first3 (ck2 X 400) (ck2 Y 400) (ck2 Z 400))) (rvk (by kernel_rfl)) hb17) ?_
 simp only [p3, p4]
 refine sv 39 (.bool false) ?_
 simp only [p3, p4]
 refine sv 40 (.int .i64 (first3 (ck2 X 65536) (ck2 Y 65536) (ck2 Z 65536))) ?_
 simp only [p3, p4]
 replace L2 := L2.gr g16
 refine sw 41 (.agg #[(.string ⟨(X : List UInt8).toArray⟩), (.string ⟨(Y : List UInt8).toArray⟩), (.string ⟨(Z : List UInt8).toArray⟩)]) rfl (rl 24 0 [(.string ⟨(X : List UInt8).toArray⟩), (.string ⟨(Y : List UInt8).toArray⟩), (.string ⟨(Z : List UInt8).toArray⟩)] L2) ?_
 simp only [p3, p4]
 refine se ?_
 refine ec 42 (r3_check X Y Z lx ly lz 65536 (by omega) _) ?_
 rintro e18 w18 ⟨rfl, g18⟩
 refine ⟨_, rfl, ?_⟩
 replace hB := hB.trans g18
 simp only [p3, p4]
 have hb19 : ((first3 (ck2 X 65536) (ck2 Y 65536) (ck2 Z 65536) != first3 (ck2 X 65536) (ck2 Y 65536) (ck2 Z 65536))) = false := (by simp)
 refine sw 43 (.bool false) rfl (RunV.bool (x := (first3 (ck2 X 65536) (ck2 Y 65536) (ck2 Z 65536) != first3 (ck2 X 65536) (ck2 Y 65536) (ck2 Z 65536))) (rvk (by kernel_rfl)) hb19) ?_
 simp only [p3, p4]
 refine sv 44 (.bool false) ?_
 simp only [p3, p4]
 refine sq_nil ?_
 refine k15 _ _ ?_
 try clear k15 K15
 refine wp_cond_false rfl ?_
 refine wp_skip ?_
 refine k14 _ _ ?_
 try clear k14 K14
 refine wp_seq_k (fun K20 k20 => ?_)
 refine rg [0, 1, 2] ?_
 refine sv 45 (.agg #[(.string ⟨([48] : List UInt8).toArray⟩), (.string ⟨([48] : List UInt8).toArray⟩), (.string ⟨([48] : List UInt8).toArray⟩)]) ?_
 simp only [p3, p4]
 refine se ?_
 refine ea 24 #[(.string ⟨([] : List UInt8).toArray⟩), (.string ⟨([] : List UInt8).toArray⟩), (.string ⟨([] : List UInt8).toArray⟩)] 7 hB fun b21 w21 g21 L21 o21 q21 hB => ?_
 replace L2 := L2.gr g18
 have ne2_21 := L2.ne o21
 replace L8 := (st13.lc (L8.gr g12) ne8_12).gr (g16.trans g18)
 have ne8_21 := L8.ne o21
 replace L12 := L12.gr (g16.trans g18)
 have ne12_21 := L12.ne o21
 simp only [p3, p4]
 refine se ?_
 refine es 24 0 (.agg #[(.string ⟨([48] : List UInt8).toArray⟩), (.string ⟨([48] : List UInt8).toArray⟩), (.string ⟨([48] : List UInt8).toArray⟩)]) [(.string ⟨([48] : List UInt8).toArray⟩), (.string ⟨([48] : List UInt8).toArray⟩), (.string ⟨([48] : List UInt8).toArray⟩)] #[(.string ⟨([48] : List UInt8).toArray⟩), (.string ⟨([48] : List UInt8).toArray⟩), (.string ⟨([48] : List UInt8).toArray⟩)] L21 hB q21 ⟨rfl, rfl, rfl, trivial⟩ fun w22 st22 kp22 L21 hB => ?_
 refine sq_nil ?_
 refine k20 _ _ ?_
 try clear k20 K20
 refine wp_seq_k (fun K23 k23 => ?_)
 have gd32 := Gr.drew w22
 replace hB := hB.trans gd32
 replace L2 := (st22.lc (L2.gr g21) ne2_21).gr gd32
 replace L8 := (st22.lc (L8.gr g21) ne8_21).gr gd32
 replace L12 := (st22.lc (L12.gr g21) ne12_21).gr gd32
 replace L21 := L21.gr gd32
 refine wp_region_ord (fun w' => Lc w' b2 #[(.string ⟨(X : List UInt8).toArray⟩), (.string ⟨(Y : List UInt8).toArray⟩), (.string ⟨(Z : List UInt8).toArray⟩)] 24 ∧ Lc w' b8 #[t7_0, t7_1, t7_2, t7_3, t7_4, t7_5, t7_6, t7_7, t7_8, t7_9, t7_10, t7_11] 32 ∧ Lc w' b12 #[t11_0, t11_1, t11_2, t11_3, t11_4, t11_5, t11_6, t11_7, t11_8, t11_9, t11_10, t11_11] 32 ∧ Lc w' b21 #[(.string ⟨([48] : List UInt8).toArray⟩), (.string ⟨([48] : List UInt8).toArray⟩), (.string ⟨([48] : List UInt8).toArray⟩)] 24) [(true, 0), (true, 1), (true, 2), (true, 3), (true, 5), (false, 4), (true, 6), (true, 7), (true, 8), (true, 9), (true, 10), (true, 11), (true, 12), (true, 14), (false, 13), (true, 15), (true, 16), (true, 17), (true, 18), (true, 19), (true, 20), (true, 21), (true, 22), (true, 24), (false, 23), (true, 25), (true, 26), (true, 27), (true, 28), (true, 29), (true, 30), (true, 31), (true, 33), (false, 32), (true, 34), (true, 35), (true, 36), (true, 37), (true, 38)] (by kernel_rfl) (by kernel_rfl) (by kernel_rfl) (by decide) (fun _ _ _ _ _ h => h) ⟨L2, L8, L12, L21⟩ ?_
 refine ov 46 (.int .i64 (first3 (ck2 X 400) (ck2 Y 400) (ck2 Z 400))) ?_
 simp only [p3, p4]
 refine ow 47 (.bool false) rfl (fun w' hS => (RunV.bool (x := (first3 (ck2 X 400) (ck2 Y 400) (ck2 Z 400) == (0 : Int))) (rvk (by kernel_rfl)) ep)) ?_
 simp only [p3, p4]
 refine ov 48 (.bool false) ?_
 simp only [p3, p4]
 refine os 49 ?_
 simp only [p3, p4]
 refine os 51 ?_
 simp only [p3, p4]
 refine oz 50 ⟨L2, L8, L12, L21⟩ ?_
 simp only [p3, p4]
 refine os 52 ?_
 simp only [p3, p4]
 refine ov 53 (.bool false) ?_
 simp only [p3, p4]
 refine ov 54 (.bool false) ?_
 simp only [p3, p4]
 refine ov 55 (.int .i64 (first3 (ck2 X 400) (ck2 Y 400) (ck2 Z 400))) ?_
 simp only [p3, p4]
 refine ow 56 (.bool true) rfl (fun w' hS => (RunV.bool (x := (first3 (ck2 X 400) (ck2 Y 400) (ck2 Z 400) != (0 : Int))) (rvk (by kernel_rfl)) np)) ?_
 simp only [p3, p4]
 refine ov 57 (.bool true) ?_
 simp only [p3, p4]
 refine ow 58 (.agg #[t7_0, t7_1, t7_2, t7_3, t7_4, t7_5, t7_6, t7_7, t7_8, t7_9, t7_10, t7_11]) rfl (fun w' hS => (rl 32 0 [t7_0, t7_1, t7_2, t7_3, t7_4, t7_5, t7_6, t7_7, t7_8, t7_9, t7_10, t7_11] hS.2.1)) ?_
 simp only [p3, p4]
 refine ow 60 (.agg #[(.string ⟨([48] : List UInt8).toArray⟩), (.string ⟨([48] : List UInt8).toArray⟩), (.string ⟨([48] : List UInt8).toArray⟩)]) rfl (fun w' hS => (rl 24 0 [(.string ⟨([48] : List UInt8).toArray⟩), (.string ⟨([48] : List UInt8).toArray⟩), (.string ⟨([48] : List UInt8).toArray⟩)] hS.2.2.2)) ?_
 simp only [p3, p4]
 refine oe ?_
 have kq35 := g8.kp.trans (kp9.trans (g11.kp.trans (g12.kp.trans (kp13.trans (g16.kp.trans (g18.kp.trans (g21.kp.trans (kp22.trans gd32.kp))))))))
 replace h7a := h7a.kp kq35
 replace h7b := h7b.kp kq35
 replace h7c := h7c.kp kq35
 refine ec 59 (vpoint_v h7a h7b h7c (by omega) (ht.gr hB)) ?_
 rintro e34 w34 ⟨rfl, g34⟩
 refine ⟨_, rfl, ?_⟩
 replace hB := hB.trans g34
 replace L2 := L2.gr g34
 replace L8 := L8.gr g34
 replace L12 := L12.gr g34
 replace L21 := L21.gr g34
 refine ⟨⟨L2, L8, L12, L21⟩, ?_⟩
 simp only [p3, p4]
 have hb36 : (sEq [(ratL (0)), (ratL (0)), (ratL (0))] [([48] : List UInt8), ([48] : List UInt8), ([48] : List UInt8)]) = true := (sEq_zero3 rfl rfl rfl)
 refine ow 61 (.bool true) rfl (fun w' hS => (RunV.bool (x := sEq [(ratL (0)), (ratL (0)), (ratL (0))] [([48] : List UInt8), ([48] : List UInt8), ([48] : List UInt8)]) (rv_ssq 24 24 22 _ _ [(ratL (0)), (ratL (0)), (ratL (0))] [([48] : List UInt8), ([48] : List UInt8), ([48] : List UInt8)] rfl rfl rfl (by kernel_rfl) (by kernel_rfl) (by kernel_rfl)) hb36)) ?_
 simp only [p3, p4]
 refine ov 62 (.bool true) ?_
 simp only [p3, p4]
 refine ov 63 (.bool true) ?_
 simp only [p3, p4]
 refine ov 64 (.bool true) ?_
 simp only [p3, p4]
 refine ov 65 (.int .i64 (first3 (ck2 X 65536) (ck2 Y 65536) (ck2 Z 65536))) ?_
 simp only [p3, p4]
 refine ow 66 (.bool false) rfl (fun w' hS => (RunV.bool (x := (first3 (ck2 X 65536) (ck2 Y 65536) (ck2 Z 65536) == (0 : Int))) (rvk (by kernel_rfl)) er)) ?_
 simp only [p3, p4]
 refine ov 67 (.bool false) ?_
 simp only [p3, p4]
 refine os 68 ?_
 simp only [p3, p4]
 refine os 70 ?_
 simp only [p3, p4]
 refine oz 69 ⟨L2, L8, L12, L21⟩ ?_
 simp only [p3, p4]
 refine os 71 ?_
 simp only [p3, p4]
 refine ov 72 (.bool false) ?_
 simp only [p3, p4]
 refine ov 73 (.bool false) ?_
 simp only [p3, p4]
 refine ov 74 (.int .i64 (first3 (ck2 X 65536) (ck2 Y 65536) (ck2 Z 65536))) ?_
 simp only [p3, p4]
 refine ow 75 (.bool true) rfl (fun w' hS => (RunV.bool (x := (first3 (ck2 X 65536) (ck2 Y 65536) (ck2 Z 65536) != (0 : Int))) (rvk (by kernel_rfl)) nr)) ?_
 simp only [p3, p4]
 refine ov 76 (.bool true) ?_
 simp only [p3, p4]
 refine ow 77 (.agg #[t11_0, t11_1, t11_2, t11_3, t11_4, t11_5, t11_6, t11_7, t11_8, t11_9, t11_10, t11_11]) rfl (fun w' hS => (rl 32 0 [t11_0, t11_1, t11_2, t11_3, t11_4, t11_5, t11_6, t11_7, t11_8, t11_9, t11_10, t11_11] hS.2.2.1)) ?_
 simp only [p3, p4]
 refine ow 79 (.agg #[(.string ⟨([48] : List UInt8).toArray⟩), (.string ⟨([48] : List UInt8).toArray⟩), (.string ⟨([48] : List UInt8).toArray⟩)]) rfl (fun w' hS => (rl 24 0 [(.string ⟨([48] : List UInt8).toArray⟩), (.string ⟨([48] : List UInt8).toArray⟩), (.string ⟨([48] : List UInt8).toArray⟩)] hS.2.2.2)) ?_
 simp only [p3, p4]
 refine oe ?_
 have kq39 := g12.kp.trans (kp13.trans (g16.kp.trans (g18.kp.trans (g21.kp.trans (kp22.trans (gd32.kp.trans g34.kp))))))
 replace h11a := h11a.kp kq39
 replace h11b := h11b.kp kq39
 replace h11c := h11c.kp kq39
 refine ec 78 (vpoint_v h11a h11b h11c (by omega) (ht.gr hB)) ?_
 rintro e38 w38 ⟨rfl, g38⟩
 refine ⟨_, rfl, ?_⟩
 replace hB := hB.trans g38
 replace L2 := L2.gr g38
 replace L8 := L8.gr g38
 replace L12 := L12.gr g38
 replace L21 := L21.gr g38
 refine ⟨⟨L2, L8, L12, L21⟩, ?_⟩
 simp only [p3, p4]
 refine ow 80 (.bool true) rfl (fun w' hS => (RunV.bool (x := sEq [(ratL (0)), (ratL (0)), (ratL (0))] [([48] : List UInt8), ([48] : List UInt8), ([48] : List UInt8)]) (rv_ssq 24 24 22 _ _ [(ratL (0)), (ratL (0)), (ratL (0))] [([48] : List UInt8), ([48] : List UInt8), ([48] : List UInt8)] rfl rfl rfl (by kernel_rfl) (by kernel_rfl) (by kernel_rfl)) hb36)) ?_
 simp only [p3, p4]
 refine ov 81 (.bool true) ?_
 simp only [p3, p4]
 refine ov 82 (.bool true) ?_
 simp only [p3, p4]
 refine ov 83 (.bool true) ?_
 simp only [p3, p4]
 refine ov 2 (.bool true) ?_
 simp only [p3, p4]
 refine ord_nil ?_
 refine k23 _ _ ?_
 try clear k23 K23
 refine wp_ret ?_
 refine bodyPost_ret (v := (.bool true)) (ret_tmp rfl rfl) rfl ⟨?_, hB⟩
 exact rfl

theorem vector_parses (X Y Z : List UInt8) (rX : X.length ≤ 140737488351232) (rY : Y.length ≤ 140737488351232) (rZ : Z.length ≤ 140737488351232) (w : World) (ht : Tab w) (hm : Mx w) :
    Calls Tryz.prog 3 #[(.agg #[(.string ⟨(X : List UInt8).toArray⟩), (.string ⟨(Y : List UInt8).toArray⟩), (.string ⟨(Z : List UInt8).toArray⟩)])] w fun e w' => e = .returned (.bool true) ∧ Gr w w' := by
  rcases Bool.eq_false_or_eq_true (decide ((500 : Int) < (((((X).length : Int) + ((Y).length : Int)) + ((Z).length : Int))))) with hl | hl
  · exact vparses_l X Y Z rX rY rZ hl w ht hm
  · have h := of_decide_eq_false hl
    have lx : X.length ≤ 500 := by omega
    have ly : Y.length ≤ 500 := by omega
    have lz : Z.length ≤ 500 := by omega
    by_cases e1 : first3 (ck2 X 400) (ck2 Y 400) (ck2 Z 400) = 0
    · by_cases e2 : first3 (ck2 X 65536) (ck2 Y 65536) (ck2 Z 65536) = 0
      · exact vparses_11 X Y Z lx ly lz hl e1 e2 w ht hm
      · exact vparses_10 X Y Z lx ly lz hl e1 e2 w ht hm
    · by_cases e2 : first3 (ck2 X 65536) (ck2 Y 65536) (ck2 Z 65536) = 0
      · exact vparses_01 X Y Z lx ly lz hl e1 e2 w ht hm
      · exact vparses_00 X Y Z lx ly lz hl e1 e2 w ht hm

end Go.Proofs.YtlcmllfacolkaaaGreatDoor
/- The law VectorParses holds of every input: its row, and its card tied to the program's text. Printed by a program of the prover's. -/
namespace Go.Proofs.YtlcmllfacolkaaaGreatDoor
open Go.ChangeShapes Go.WideShapes Go.ChangeAt Go.RowKit

theorem vectorParses_table {W : World} (h : laidMetH Tryz.prog Rows.vectorParsesRow.laid W) : Tab W :=
  Lib.tabIs_of_head (rest := _) (g := 1) (t := 208) (e := 132) (n := 20) (by kernel_rfl) (by kernel_rfl) (by kernel_rfl) (by kernel_rfl) (by kernel_rfl) (by kernel_rfl) ((show laidMet Tryz.prog Rows.vectorParsesRow.laid W from (MakeChecks.laidMetH_plain _ _ _ (by kernel_rfl)) ▸ h).tail.tail)
theorem vectorParses_maxlen {W : World} (h : W.ShapedOpen Tryz.prog) : Mx W :=
  Go.Proofs.cell_of_shapedOpen_int (zero := #[.int .i64 0]) (g := 0) (t := 3) h (of_decide_eq_true (by kernel_rfl)) (by kernel_rfl) rfl (by kernel_rfl) (by kernel_rfl) Tryz.underlying3
set_option maxRecDepth 100000 in
theorem vectorParses_contract (H : Type) (enc : TypeId × Value → H) (W : World) (base : Nat) (args : Array Value) (ds gs : List (DataW H)) (before : List MemPlace)
    (hval : ∀ (j : Nat) t v, Tryz.f3.params[j]? = some t → args[j]? = some v → Value.okWide Tryz.prog W .any base t v)
    (hW : DataW.Whole enc Tryz.prog Tryz.f3.params.toList Rows.vectorParsesSpec.vars false W args.toList ds gs before) (hL : laidMetH Tryz.prog Rows.vectorParsesRow.laid W) (hsh : W.ShapedOpen Tryz.prog) (hz0 : (DataW.weightsEach Tryz.prog (Tryz.f3.params.toList ++ (OpenSpec.ofChange Rows.vectorParsesSpec).bare.plain.varTypes Tryz.prog) (ds ++ gs)).all (· ≤ reachBytes) = true) :
    Calls Tryz.prog 3 args W fun e W' => ∃ v, e = .returned v ∧ Rows.vectorParsesSpec.post enc Tryz.prog Tryz.f3 false true false false W args v W' := by
  have hW' := hW
  obtain ⟨p, q, hA0, hV, rfl, hfz, hnd⟩ := hW
  have hA : DataW.TrodAll enc Tryz.prog W 0 (fun _ => true) true Tryz.f3.params.toList args.toList ds p := hA0
  rw [Tryz.params3] at hA hval
  obtain ⟨v0, vs0, d0, ds0, p0, q0, hargs, rfl, rfl, h0, r0⟩ := trodAll_cons hA
  obtain ⟨rfl, rfl, rfl⟩ := trodAll_nil r0
  obtain rfl : args = #[v0] := by cases args; simp_all
  obtain ⟨rfl, rfl⟩ := trodVars_none hV
  obtain ⟨c0, rfl, z0, o0⟩ := open_mixed (ts := [22, 22, 22]) [none, none, none] (by kernel_rfl) (by kernel_rfl) (by kernel_rfl) (by kernel_rfl) (hval 0 24 v0 rfl rfl)
  obtain ⟨n0_0, y0_0⟩ := o0 0 none rfl
  obtain ⟨n0_1, y0_1⟩ := o0 1 none rfl
  obtain ⟨n0_2, y0_2⟩ := o0 2 none rfl
  obtain rfl : c0 = #[.string ⟨n0_0.toArray⟩, .string ⟨n0_1.toArray⟩, .string ⟨n0_2.toArray⟩] := by
    apply Array.ext_getElem?; intro i
    rcases i with _ | _ | _ | i
    · exact y0_0
    · exact y0_1
    · exact y0_2
    · rw [Array.getElem?_eq_none (by simp at z0; omega), Array.getElem?_eq_none (by simp)]
  have hz1 : (DataW.weightsEach Tryz.prog [24] [d0]).all (· ≤ reachBytes) = true := by
    have hv0 : (OpenSpec.ofChange Rows.vectorParsesSpec).bare.plain.varTypes Tryz.prog = [] := rfl
    rw [Tryz.params3, hv0] at hz0; simpa using hz0
  have rh0 := DataW.weights_mem_each (P := Tryz.prog) (ts := [24]) (ds := [d0]) (j := 0) rfl rfl
  have rc0_0 := strs_reach (n := 3) (e := 22) (by kernel_rfl) (by kernel_rfl) (by kernel_rfl) h0 (fun k hk => by have := List.all_eq_true.1 hz1 k (rh0 k hk); simpa using this) 0 n0_0 (by decide) rfl
  have rc0_1 := strs_reach (n := 3) (e := 22) (by kernel_rfl) (by kernel_rfl) (by kernel_rfl) h0 (fun k hk => by have := List.all_eq_true.1 hz1 k (rh0 k hk); simpa using this) 1 n0_1 (by decide) rfl
  have rc0_2 := strs_reach (n := 3) (e := 22) (by kernel_rfl) (by kernel_rfl) (by kernel_rfl) h0 (fun k hk => by have := List.all_eq_true.1 hz1 k (rh0 k hk); simpa using this) 2 n0_2 (by decide) rfl
  refine (vector_parses n0_0 n0_1 n0_2 rc0_0 rc0_1 rc0_2 W (vectorParses_table hL) (vectorParses_maxlen hsh)).mono fun e W' ⟨he, hg⟩ => ?_
  subst he
  exact ⟨_, rfl, law_post (tb := 4) laidOut (by kernel_rfl) (by kernel_rfl) (by kernel_rfl) rfl hW' rfl hg⟩
noncomputable def vectorParses_world (os : Os) : World := World.laidAll Tryz.prog os Rows.vectorParsesRow.laid
theorem vectorParses_met (os : Os) : laidMet Tryz.prog Rows.vectorParsesRow.laid ((vectorParses_world os).forCall (fun _ _ => 0) ⟨#[], #[.agg #[.string ⟨#[]⟩, .string ⟨#[]⟩, .string ⟨#[]⟩]], []⟩).memory :=
  laidMet_laidAll _ (by kernel_rfl) (by kernel_rfl)
theorem vectorParses_reads (os : Os) {H : Type} (enc : TypeId × Value → H) : ∃ places, DataW.whole enc Tryz.prog ((vectorParses_world os).forCall (fun _ _ => 0) ⟨#[], #[.agg #[.string ⟨#[]⟩, .string ⟨#[]⟩, .string ⟨#[]⟩]], []⟩).memory Tryz.f3.params.toList Rows.vectorParsesSpec.vars false (#[.agg #[.string ⟨#[]⟩, .string ⟨#[]⟩, .string ⟨#[]⟩]] : Array Value).toList 8 = some ([.agg [.lit (.string []), .lit (.string []), .lit (.string [])]], [], places) :=
  ⟨[], by kernel_rfl⟩
set_option maxRecDepth 100000 in
theorem vectorParses_lifted (os : Os) (started : os.Started) (H : Type) (enc : TypeId × Value → H) (F : Stop.Interp) :
    ReturnsInHanded {} Tryz.checked os 3 .any ((OpenSpec.ofChange Rows.vectorParsesSpec).preRow enc Tryz.prog Tryz.f3 Rows.vectorParsesRow.domain false Rows.vectorParsesRow.laid) (((OpenSpec.ofChange Rows.vectorParsesSpec).at F).post enc Tryz.prog Tryz.f3 false true false false) := by
  obtain ⟨places, hx⟩ := vectorParses_reads os enc
  refine returnsInHanded_of_row (C := Tryz.checked) (s := OpenSpec.ofChange Rows.vectorParsesSpec) own started (by kernel_rfl) Tryz.func3
    (witness_row_sh (enc := enc) (C := Tryz.checked) false (vectorParses_world os) #[.agg #[.string ⟨#[]⟩, .string ⟨#[]⟩, .string ⟨#[]⟩]] (World.laidAll_os _ _ _) (World.shaped_of_ZipB (by kernel_rfl) (by kernel_rfl)) (by kernel_rfl)
      (OpenSpec.preRow_of_cond 8 hx (by kernel_rfl) (fun k hk => by cases hk) (by kernel_rfl) (by rw [MakeChecks.laidMetH_plain _ _ _ (by kernel_rfl)]; exact vectorParses_met os))) ?_
  intro W base args ds gs before hval hW _ _ hz hL hsh _
  exact vectorParses_contract H enc W base args ds gs before hval hW hL hsh hz
theorem vectorParses_said : Rows.VectorParsesSaid :=
  OpenClaim.holds_of_cond 3 Tryz.f3 rfl rfl rfl rfl rfl rfl rfl ⟨rfl, rfl, rfl, rfl, rfl⟩ rfl rfl rfl rfl rfl (by kernel_rfl) Tryz.func3 (by kernel_rfl)
    (of_decide_eq_true (by kernel_rfl)) (by unfold Func.isWrapper; first | (rw [if_pos (by decide +kernel)]; kernel_rfl) | (rw [if_neg (by decide +kernel)]; exact ⟨rfl, rfl⟩))
    (fun os started H enc _ F => by rw [OpenClaim.pre_eq_preRow]; exact vectorParses_lifted os started H enc F)
theorem vectorParses_plain (f : FuncId) (fn : Func) (hf : Tryz.pinned.checked.prog.funcNamed "dowel/dowellaw03.VectorParses" = some f) (hfn : Tryz.pinned.checked.prog.funcs[f]? = some fn) :
    true = Tryz.pinned.checked.prog.looks [] ∧ ∀ (j : Nat) t, fn.params[j]? = some t → Tryz.pinned.checked.prog.wantsStandIn t = false := by
  obtain rfl : f = 3 := Option.some.inj ((show Tryz.prog.funcNamed "dowel/dowellaw03.VectorParses" = some 3 by kernel_rfl).symm.trans hf) |>.symm
  obtain rfl : fn = Tryz.f3 := (Option.some.inj (Tryz.func3.symm.trans hfn)).symm
  refine ⟨by kernel_rfl, fun j t ht => ?_⟩
  rw [Tryz.params3] at ht
  have hm := Array.mem_of_getElem? ht
  have hall : (#[24] : Array TypeId).toList.all (fun t => !Tryz.prog.wantsStandIn t) = true := by kernel_rfl
  have := List.all_eq_true.1 hall t (Array.mem_toList_iff.2 hm)
  have h3 : Tryz.prog.wantsStandIn t = false := by simpa using this
  exact h3
/-- the card -/
theorem vectorParses_card : Rows.VectorParsesCardSaid :=
  Claim7.holds_tied_plain_at .later [] _ _ _ _ vectorParses_said (fun _ h => by cases h) (by kernel_rfl) (fun _ h => by cases h) vectorParses_row_tie rfl ⟨rfl, rfl⟩ (by kernel_rfl) rfl vectorParses_plain (by kernel_rfl)
end Go.Proofs.YtlcmllfacolkaaaGreatDoor
