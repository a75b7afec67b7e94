/- Joined of: Gen98, Syd, Sye, Gen124, Gen125, Gen94, Gen122, Gen126, Qu. -/
import Derived.Test.YtaldbfflkpgfoaaGreatDoorPartF
import Derived.Test.YtaldbfflkpgfoaaGreatDoorPartE
/- Printed by a program of the prover's:the reference of layer 7,its integers. -/
namespace Go.Proofs.YtaldbfflkpgfoaaGreatDoor
open Go.RowKit

set_option maxRecDepth 100000 in
set_option maxHeartbeats 1000000 in
theorem r7_mag (z:Int) (_hz:-4611686018427387904≤z∧z≤4611686018427387904) (w:World):
    Calls Tryz.prog 72 #[(.int .i64 (z))] w fun e w'=>e=.returned (.int .i64 ((z.natAbs:Int)))∧Gr w w':=by
 go_enter Tryz.func72,Tryz.ntmps72
 have hB:=Gr.refl w
 refine wp_seq_k (fun K1 k1=>?_)
 refine rg [0] ?_
 refine sv 2 (.int .i64 0) ?_
 refine sq_nil ?_
 refine k1 _ _ ?_
 try clear k1 K1
 refine wp_seq_k (fun K2 k2=>?_)
 refine wp_seq_k (fun K3 k3=>?_)
 refine rg [0,1] ?_
 refine sv 3 (.int .i64 (z)) ?_
 refine sv 4 (.bool (decide (z<(0:Int)))) ?_
 refine sq_nil ?_
 refine k3 _ _ ?_
 try clear k3 K3
 refine wp_cond_split (t:=decide (z<(0:Int))) rfl (fun hb4=>?_) (fun hb4=>?_)
 ·refine wp_seq_k (fun K5 k5=>?_)
  refine rg [0,1,2] ?_
  refine sv 5 (.int .i64 (z)) ?_
  refine sw 6 (.int .i64 ((0 - z))) rfl (RunV.int (x:=IntKind.i64.wrap ((0 - z))) (y:=(0 - z)) (rvk (by kernel_rfl)) (by first | rfl | (rw [IntKind.wrap_i64];omega))) ?_
  refine sv 2 (.int .i64 ((0 - z))) ?_
  refine sq_nil ?_
  refine k5 _ _ ?_
  try clear k5 K5
  refine wp_ret ?_
  simp only [Exit.then]
  refine bodyPost_ret (v:=(.int .i64 ((0 - z)))) (ret_tmp rfl rfl) rfl ⟨?_,hB⟩
  exact (congrArg (fun z=>Ending.returned (.int .i64 z)) (by have:=of_decide_eq_true hb4;omega))
 ·refine wp_skip ?_
  refine k2 _ _ ?_
  try clear k2 K2
  refine wp_seq_k (fun K6 k6=>?_)
  refine rg [0,1] ?_
  refine sv 7 (.int .i64 (z)) ?_
  refine sv 2 (.int .i64 (z)) ?_
  refine sq_nil ?_
  refine k6 _ _ ?_
  try clear k6 K6
  refine wp_ret ?_
  refine bodyPost_ret (v:=(.int .i64 (z))) (ret_tmp rfl rfl) rfl ⟨?_,hB⟩
  exact (congrArg (fun z=>Ending.returned (.int .i64 z)) (by have:=of_decide_eq_false hb4;omega))

set_option maxRecDepth 100000 in
set_option maxHeartbeats 1000000 in
theorem r7_gcd (ga gb:Int) (h1:0≤ga) (h2:0≤gb) (w:World):
    Calls Tryz.prog 91 #[(.int .i64 (ga)),(.int .i64 (gb))] w fun e w'=>e=.returned (.int .i64 ((Int.gcd ga gb:Int)))∧Gr w w':=by
 go_enter Tryz.func91,Tryz.ntmps91
 have hB:=Gr.refl w
 refine wp_seq_k (fun K1 k1=>?_)
 refine rg [0] ?_
 refine sv 4 (.int .i64 0) ?_
 refine sq_nil ?_
 refine k1 _ _ ?_
 try clear k1 K1
 refine wp_seq_k (fun K2 k2=>?_)
 refine wp_block ?_
 refine wp_loop_inv (a:=⟨List.toArray ?l3,[]⟩) (fun n a w'=>∃ (gz4:Int) (nz4:Int) (u3:Nat→Value),nz4.toNat=n∧a=⟨[(.int .i64 (gz4)),(.int .i64 (nz4)),undef,undef,(.int .i64 0),(u3 5),(u3 6),(u3 7),(u3 8),(u3 9),(u3 10),undef].toArray,[]⟩∧Int.gcd gz4 nz4=Int.gcd ga gb∧0≤gz4∧0≤nz4∧Gr w w') (gb.toNat) ?_ ?_
 ·exact ⟨_,_,(fun i=>List.getD ?l3 i undef),rfl,rfl,rfl,h1,h2,hB⟩
 rintro n3 a3 w3 ⟨gz4,nz4,u3,rfl,rfl,hz4,ha4,hc4,hB⟩ K3 k3
 refine wp_seq_k (fun K5 k5=>?_)
 refine wp_seq_k (fun K6 k6=>?_)
 refine rg [0,1] ?_
 refine sv 5 (.int .i64 (nz4)) ?_
 refine sv 6 (.bool (decide ((0:Int)<nz4))) ?_
 refine sq_nil ?_
 refine k6 _ _ ?_
 try clear k6 K6
 refine wp_cond_split (t:=decide ((0:Int)<nz4)) rfl (fun hb7=>?_) (fun hb7=>?_)
 ·have hp4:=of_decide_eq_true hb7
  refine wp_skip ?_
  refine k5 _ _ ?_
  try clear k5 K5
  refine wp_block ?_
  have gd9:=Gr.drew w3
  replace hB:=hB.trans gd9
  refine wp_region_ord (fun _=>True) [(true,0),(true,1),(true,2),(true,3),(true,4),(true,5)] (by kernel_rfl) (by kernel_rfl) (by kernel_rfl) (by decide) (fun _ _ _ _ _ h=>h) trivial ?_
  refine ov 7 (.int .i64 (nz4)) ?_
  refine ov 8 (.int .i64 (gz4)) ?_
  refine ov 9 (.int .i64 (nz4)) ?_
  refine ow 10 (.int .i64 ((gz4 % nz4))) rfl (fun w' hS=>(rv_rem 3 3 _ _ gz4 nz4 rfl rfl rfl ha4 hp4)) ?_
  refine ov 0 (.int .i64 (nz4)) ?_
  refine ov 1 (.int .i64 ((gz4 % nz4))) ?_
  refine ord_nil ?_
  refine k3 ((gz4 % nz4).toNat) ⟨List.toArray ?l10,[]⟩ _ (by have:=Int.emod_lt_of_pos gz4 hp4;omega) ?_
  exact ⟨_,_,(fun i=>List.getD ?l10 i undef),rfl,rfl,(by rw [gcd_stepZ ha4 hp4];exact hz4),(by omega),(Int.emod_nonneg _ (by omega)),hB⟩
 ·have hge4:=gcd_end0 hz4 hb7 ha4 hc4
  refine wp_exit ?_
  simp only [Exit.then,Exit.inBlock,↓reduceIte]
  refine k2 _ _ ?_
  try clear k2 K2
  refine wp_seq_k (fun K11 k11=>?_)
  refine rg [0,1] ?_
  refine sv 11 (.int .i64 (gz4)) ?_
  refine sv 4 (.int .i64 (gz4)) ?_
  refine sq_nil ?_
  refine k11 _ _ ?_
  try clear k11 K11
  refine wp_ret ?_
  refine bodyPost_ret (v:=(.int .i64 (gz4))) (ret_tmp rfl rfl) rfl ⟨?_,hB⟩
  exact (congrArg (fun z=>Ending.returned (.int .i64 z)) hge4)

set_option maxRecDepth 100000 in
set_option maxHeartbeats 1000000 in
theorem r7_common (qq0 qq1 qq2 qq3:Int) (_j0:-1099511627776≤qq0∧qq0≤1099511627776) (_j1:-1099511627776≤qq1∧qq1≤1099511627776) (_j2:-1099511627776≤qq2∧qq2≤1099511627776) (_j3:-1099511627776≤qq3∧qq3≤1099511627776) (w:World):
    Calls Tryz.prog 54 #[(.agg #[(.int .i64 (qq0)),(.int .i64 (qq1)),(.int .i64 (qq2)),(.int .i64 (qq3))])] w fun e w'=>e=.returned (.int .i64 (qgcd qq0 qq1 qq2 qq3))∧Gr w w':=by
 go_enter Tryz.func54,Tryz.ntmps54
 have hB:=Gr.refl w
 refine wp_seq_k (fun K1 k1=>?_)
 refine rg [0,1] ?_
 refine se ?_
 refine eb 22 #[(.int .i64 (qq0)),(.int .i64 (qq1)),(.int .i64 (qq2)),(.int .i64 (qq3))] 1 hB fun b2 w2 g2 L2 o2 q2 hB=>?_
 simp only [p3,p4]
 refine sv 2 (.int .i64 0) ?_
 refine sq_nil ?_
 refine k1 _ _ ?_
 try clear k1 K1
 refine wp_seq_k (fun K3 k3=>?_)
 refine rg [0] ?_
 refine sv 3 (.int .i64 0) ?_
 refine sq_nil ?_
 refine k3 _ _ ?_
 try clear k3 K3
 refine wp_seq_k (fun K4 k4=>?_)
 refine wp_seq_k (fun K5 k5=>?_)
 refine rg [0] ?_
 refine sv 4 (.int .i64 0) ?_
 refine sq_nil ?_
 refine k5 _ _ ?_
 try clear k5 K5
 refine wp_block ?_
 refine wp_loop_rounds 6 ?_
 show Code.wp _ _ _ _ _
 refine wp_seq_k (fun K6 k6=>?_)
 refine wp_seq_k (fun K7 k7=>?_)
 refine rg [0,1] ?_
 refine sv 5 (.int .i64 0) ?_
 refine sv 6 (.bool true) ?_
 refine sq_nil ?_
 refine k7 _ _ ?_
 try clear k7 K7
 refine wp_cond_true rfl ?_
 refine wp_skip ?_
 refine k6 _ _ ?_
 try clear k6 K6
 refine wp_seq_k (fun K8 k8=>?_)
 refine wp_block ?_
 refine rg [0,1,2,3,4,5,6] ?_
 refine sv 9 (.int .i64 0) ?_
 refine sv 10 (.int .i64 0) ?_
 refine sv 11 (.pointer (some ⟨b2,0,none⟩)) ?_
 refine sw 12 (.int .i64 (qq0)) rfl (rk 3 0 L2) ?_
 refine se ?_
 refine ec 13 (r7_mag (qq0) (by omega) _) ?_
 rintro e9 w9 ⟨rfl,g9⟩
 refine ⟨_,rfl,?_⟩
 replace hB:=hB.trans g9
 simp only [p3,p4]
 refine se ?_
 refine ec 14 (r7_gcd (0:Int) (((qq0).natAbs:Int)) (by omega) (by omega) _) ?_
 rintro e10 w10 ⟨rfl,g10⟩
 refine ⟨_,rfl,?_⟩
 replace hB:=hB.trans g10
 simp only [p3,p4]
 refine sv 3 (.int .i64 ((Int.gcd (0:Int) (((qq0).natAbs:Int)):Int))) ?_
 refine sq_nil ?_
 refine k8 _ _ ?_
 try clear k8 K8
 refine rg [0,1,2] ?_
 refine sv 7 (.int .i64 0) ?_
 refine sv 8 (.int .i64 1) ?_
 refine sv 4 (.int .i64 1) ?_
 refine sq_nil ?_
 show Code.rounds _ _ _ _ _ _
 show Code.wp _ _ _ _ _
 refine wp_seq_k (fun K11 k11=>?_)
 refine wp_seq_k (fun K12 k12=>?_)
 refine rg [0,1] ?_
 refine sv 5 (.int .i64 1) ?_
 refine sv 6 (.bool true) ?_
 refine sq_nil ?_
 refine k12 _ _ ?_
 try clear k12 K12
 refine wp_cond_true rfl ?_
 refine wp_skip ?_
 refine k11 _ _ ?_
 try clear k11 K11
 refine wp_seq_k (fun K13 k13=>?_)
 refine wp_block ?_
 refine rg [0,1,2,3,4,5,6] ?_
 refine sv 9 (.int .i64 ((Int.gcd (0:Int) (((qq0).natAbs:Int)):Int))) ?_
 refine sv 10 (.int .i64 1) ?_
 refine sv 11 (.pointer (some ⟨b2,1,none⟩)) ?_
 replace L2:=L2.gr (g9.trans g10)
 refine sw 12 (.int .i64 (qq1)) rfl (rk 3 1 L2) ?_
 refine se ?_
 refine ec 13 (r7_mag (qq1) (by omega) _) ?_
 rintro e14 w14 ⟨rfl,g14⟩
 refine ⟨_,rfl,?_⟩
 replace hB:=hB.trans g14
 simp only [p3,p4]
 refine se ?_
 refine ec 14 (r7_gcd ((Int.gcd (0:Int) (((qq0).natAbs:Int)):Int)) (((qq1).natAbs:Int)) (by omega) (by omega) _) ?_
 rintro e15 w15 ⟨rfl,g15⟩
 refine ⟨_,rfl,?_⟩
 replace hB:=hB.trans g15
 simp only [p3,p4]
 refine sv 3 (.int .i64 ((Int.gcd ((Int.gcd (0:Int) (((qq0).natAbs:Int)):Int)) (((qq1).natAbs:Int)):Int))) ?_
 refine sq_nil ?_
 refine k13 _ _ ?_
 try clear k13 K13
 refine rg [0,1,2] ?_
 refine sv 7 (.int .i64 1) ?_
 refine sv 8 (.int .i64 2) ?_
 refine sv 4 (.int .i64 2) ?_
 refine sq_nil ?_
 show Code.rounds _ _ _ _ _ _
 show Code.wp _ _ _ _ _
 refine wp_seq_k (fun K16 k16=>?_)
 refine wp_seq_k (fun K17 k17=>?_)
 refine rg [0,1] ?_
 refine sv 5 (.int .i64 2) ?_
 refine sv 6 (.bool true) ?_
 refine sq_nil ?_
 refine k17 _ _ ?_
 try clear k17 K17
 refine wp_cond_true rfl ?_
 refine wp_skip ?_
 refine k16 _ _ ?_
 try clear k16 K16
 refine wp_seq_k (fun K18 k18=>?_)
 refine wp_block ?_
 refine rg [0,1,2,3,4,5,6] ?_
 refine sv 9 (.int .i64 ((Int.gcd ((Int.gcd (0:Int) (((qq0).natAbs:Int)):Int)) (((qq1).natAbs:Int)):Int))) ?_
 refine sv 10 (.int .i64 2) ?_
 refine sv 11 (.pointer (some ⟨b2,2,none⟩)) ?_
 replace L2:=L2.gr (g14.trans g15)
 refine sw 12 (.int .i64 (qq2)) rfl (rk 3 2 L2) ?_
 refine se ?_
 refine ec 13 (r7_mag (qq2) (by omega) _) ?_
 rintro e19 w19 ⟨rfl,g19⟩
 refine ⟨_,rfl,?_⟩
 replace hB:=hB.trans g19
 simp only [p3,p4]
 refine se ?_
 refine ec 14 (r7_gcd ((Int.gcd ((Int.gcd (0:Int) (((qq0).natAbs:Int)):Int)) (((qq1).natAbs:Int)):Int)) (((qq2).natAbs:Int)) (by omega) (by omega) _) ?_
 rintro e20 w20 ⟨rfl,g20⟩
 refine ⟨_,rfl,?_⟩
 replace hB:=hB.trans g20
 simp only [p3,p4]
 refine sv 3 (.int .i64 ((Int.gcd ((Int.gcd ((Int.gcd (0:Int) (((qq0).natAbs:Int)):Int)) (((qq1).natAbs:Int)):Int)) (((qq2).natAbs:Int)):Int))) ?_
 refine sq_nil ?_
 refine k18 _ _ ?_
 try clear k18 K18
 refine rg [0,1,2] ?_
 refine sv 7 (.int .i64 2) ?_
 refine sv 8 (.int .i64 3) ?_
 refine sv 4 (.int .i64 3) ?_
 refine sq_nil ?_
 show Code.rounds _ _ _ _ _ _
 show Code.wp _ _ _ _ _
 refine wp_seq_k (fun K21 k21=>?_)
 refine wp_seq_k (fun K22 k22=>?_)
 refine rg [0,1] ?_
 refine sv 5 (.int .i64 3) ?_
 refine sv 6 (.bool true) ?_
 refine sq_nil ?_
 refine k22 _ _ ?_
 try clear k22 K22
 refine wp_cond_true rfl ?_
 refine wp_skip ?_
 refine k21 _ _ ?_
 try clear k21 K21
 refine wp_seq_k (fun K23 k23=>?_)
 refine wp_block ?_
 refine rg [0,1,2,3,4,5,6] ?_
 refine sv 9 (.int .i64 ((Int.gcd ((Int.gcd ((Int.gcd (0:Int) (((qq0).natAbs:Int)):Int)) (((qq1).natAbs:Int)):Int)) (((qq2).natAbs:Int)):Int))) ?_
 refine sv 10 (.int .i64 3) ?_
 refine sv 11 (.pointer (some ⟨b2,3,none⟩)) ?_
 replace L2:=L2.gr (g19.trans g20)
 refine sw 12 (.int .i64 (qq3)) rfl (rk 3 3 L2) ?_
 refine se ?_
 refine ec 13 (r7_mag (qq3) (by omega) _) ?_
 rintro e24 w24 ⟨rfl,g24⟩
 refine ⟨_,rfl,?_⟩
 replace hB:=hB.trans g24
 simp only [p3,p4]
 refine se ?_
 refine ec 14 (r7_gcd ((Int.gcd ((Int.gcd ((Int.gcd (0:Int) (((qq0).natAbs:Int)):Int)) (((qq1).natAbs:Int)):Int)) (((qq2).natAbs:Int)):Int)) (((qq3).natAbs:Int)) (by omega) (by omega) _) ?_
 rintro e25 w25 ⟨rfl,g25⟩
 refine ⟨_,rfl,?_⟩
 replace hB:=hB.trans g25
 simp only [p3,p4]
 refine sv 3 (.int .i64 ((Int.gcd ((Int.gcd ((Int.gcd ((Int.gcd (0:Int) (((qq0).natAbs:Int)):Int)) (((qq1).natAbs:Int)):Int)) (((qq2).natAbs:Int)):Int)) (((qq3).natAbs:Int)):Int))) ?_
 refine sq_nil ?_
 refine k23 _ _ ?_
 try clear k23 K23
 refine rg [0,1,2] ?_
 refine sv 7 (.int .i64 3) ?_
 refine sv 8 (.int .i64 4) ?_
 refine sv 4 (.int .i64 4) ?_
 refine sq_nil ?_
 show Code.rounds _ _ _ _ _ _
 show Code.wp _ _ _ _ _
 refine wp_seq_k (fun K26 k26=>?_)
 refine wp_seq_k (fun K27 k27=>?_)
 refine rg [0,1] ?_
 refine sv 5 (.int .i64 4) ?_
 refine sv 6 (.bool false) ?_
 refine sq_nil ?_
 refine k27 _ _ ?_
 try clear k27 K27
 refine wp_cond_false rfl ?_
 refine wp_exit ?_
 simp only [Exit.then,Exit.inBlock,↓reduceIte]
 refine k4 _ _ ?_
 try clear k4 K4
 refine wp_seq_k (fun K28 k28=>?_)
 refine rg [0,1] ?_
 refine sv 15 (.int .i64 ((Int.gcd ((Int.gcd ((Int.gcd ((Int.gcd (0:Int) (((qq0).natAbs:Int)):Int)) (((qq1).natAbs:Int)):Int)) (((qq2).natAbs:Int)):Int)) (((qq3).natAbs:Int)):Int))) ?_
 refine sv 2 (.int .i64 ((Int.gcd ((Int.gcd ((Int.gcd ((Int.gcd (0:Int) (((qq0).natAbs:Int)):Int)) (((qq1).natAbs:Int)):Int)) (((qq2).natAbs:Int)):Int)) (((qq3).natAbs:Int)):Int))) ?_
 refine sq_nil ?_
 refine k28 _ _ ?_
 try clear k28 K28
 refine wp_ret ?_
 refine bodyPost_ret (v:=(.int .i64 ((Int.gcd ((Int.gcd ((Int.gcd ((Int.gcd (0:Int) (((qq0).natAbs:Int)):Int)) (((qq1).natAbs:Int)):Int)) (((qq2).natAbs:Int)):Int)) (((qq3).natAbs:Int)):Int)))) (ret_tmp rfl rfl) rfl ⟨?_,hB⟩
 exact (congrArg (fun z=>Ending.returned (.int .i64 z)) common_eq)

set_option maxRecDepth 100000 in
set_option maxHeartbeats 1000000 in
theorem r7_positive (qq0 qq1 qq2 qq3:Int) (w:World):
    Calls Tryz.prog 55 #[(.agg #[(.int .i64 (qq0)),(.int .i64 (qq1)),(.int .i64 (qq2)),(.int .i64 (qq3))])] w fun e w'=>e=.returned (.bool (decide (qsgn qq0 qq1 qq2 qq3=1)))∧Gr w w':=by
 go_enter Tryz.func55,Tryz.ntmps55
 have hB:=Gr.refl w
 refine wp_seq_k (fun K1 k1=>?_)
 refine rg [0,1] ?_
 refine se ?_
 refine eb 22 #[(.int .i64 (qq0)),(.int .i64 (qq1)),(.int .i64 (qq2)),(.int .i64 (qq3))] 1 hB fun b2 w2 g2 L2 o2 q2 hB=>?_
 simp only [p3,p4]
 refine sv 2 (.bool false) ?_
 refine sq_nil ?_
 refine k1 _ _ ?_
 try clear k1 K1
 refine wp_seq_k (fun K3 k3=>?_)
 refine wp_seq_k (fun K4 k4=>?_)
 refine rg [0] ?_
 refine sv 3 (.int .i64 0) ?_
 refine sq_nil ?_
 refine k4 _ _ ?_
 try clear k4 K4
 refine wp_block ?_
 refine wp_loop_rounds 6 ?_
 show Code.wp _ _ _ _ _
 refine wp_seq_k (fun K5 k5=>?_)
 refine wp_seq_k (fun K6 k6=>?_)
 refine rg [0,1] ?_
 refine sv 4 (.int .i64 0) ?_
 refine sv 5 (.bool true) ?_
 refine sq_nil ?_
 refine k6 _ _ ?_
 try clear k6 K6
 refine wp_cond_true rfl ?_
 refine wp_skip ?_
 refine k5 _ _ ?_
 try clear k5 K5
 refine wp_seq_k (fun K7 k7=>?_)
 refine wp_block ?_
 refine wp_seq_k (fun K8 k8=>?_)
 refine rg [0,1,2,3] ?_
 refine sv 8 (.int .i64 0) ?_
 refine sv 9 (.pointer (some ⟨b2,0,none⟩)) ?_
 refine sw 10 (.int .i64 (qq0)) rfl (rk 3 0 L2) ?_
 refine sv 11 (.bool ((qq0 !=(0:Int)))) ?_
 refine sq_nil ?_
 refine k8 _ _ ?_
 try clear k8 K8
 refine wp_cond_split (t:=(qq0 !=(0:Int))) rfl (fun hb9=>?_) (fun hb9=>?_)
 ·refine wp_seq_k (fun K10 k10=>?_)
  refine rg [0,1,2,3,4] ?_
  refine sv 12 (.int .i64 0) ?_
  refine sv 13 (.pointer (some ⟨b2,0,none⟩)) ?_
  refine sw 14 (.int .i64 (qq0)) rfl (rk 3 0 L2) ?_
  refine sv 15 (.bool (decide ((0:Int)<qq0))) ?_
  refine sv 2 (.bool (decide ((0:Int)<qq0))) ?_
  refine sq_nil ?_
  refine k10 _ _ ?_
  try clear k10 K10
  refine wp_ret ?_
  simp only [Exit.then,Exit.inBlock]
  refine bodyPost_ret (v:=(.bool (decide ((0:Int)<qq0)))) (ret_tmp rfl rfl) rfl ⟨?_,hB⟩
  exact (congrArg (fun z=>Ending.returned (.bool z)) (posq0 hb9))
 ·refine wp_skip ?_
  refine k7 _ _ ?_
  try clear k7 K7
  refine rg [0,1,2] ?_
  refine sv 6 (.int .i64 0) ?_
  refine sv 7 (.int .i64 1) ?_
  refine sv 3 (.int .i64 1) ?_
  refine sq_nil ?_
  show Code.rounds _ _ _ _ _ _
  show Code.wp _ _ _ _ _
  refine wp_seq_k (fun K11 k11=>?_)
  refine wp_seq_k (fun K12 k12=>?_)
  refine rg [0,1] ?_
  refine sv 4 (.int .i64 1) ?_
  refine sv 5 (.bool true) ?_
  refine sq_nil ?_
  refine k12 _ _ ?_
  try clear k12 K12
  refine wp_cond_true rfl ?_
  refine wp_skip ?_
  refine k11 _ _ ?_
  try clear k11 K11
  refine wp_seq_k (fun K13 k13=>?_)
  refine wp_block ?_
  refine wp_seq_k (fun K14 k14=>?_)
  refine rg [0,1,2,3] ?_
  refine sv 8 (.int .i64 1) ?_
  refine sv 9 (.pointer (some ⟨b2,1,none⟩)) ?_
  refine sw 10 (.int .i64 (qq1)) rfl (rk 3 1 L2) ?_
  refine sv 11 (.bool ((qq1 !=(0:Int)))) ?_
  refine sq_nil ?_
  refine k14 _ _ ?_
  try clear k14 K14
  refine wp_cond_split (t:=(qq1 !=(0:Int))) rfl (fun hb15=>?_) (fun hb15=>?_)
  ·refine wp_seq_k (fun K16 k16=>?_)
   refine rg [0,1,2,3,4] ?_
   refine sv 12 (.int .i64 1) ?_
   refine sv 13 (.pointer (some ⟨b2,1,none⟩)) ?_
   refine sw 14 (.int .i64 (qq1)) rfl (rk 3 1 L2) ?_
   refine sv 15 (.bool (decide ((0:Int)<qq1))) ?_
   refine sv 2 (.bool (decide ((0:Int)<qq1))) ?_
   refine sq_nil ?_
   refine k16 _ _ ?_
   try clear k16 K16
   refine wp_ret ?_
   simp only [Exit.then,Exit.inBlock]
   refine bodyPost_ret (v:=(.bool (decide ((0:Int)<qq1)))) (ret_tmp rfl rfl) rfl ⟨?_,hB⟩
   exact (congrArg (fun z=>Ending.returned (.bool z)) (posq1 hb9 hb15))
  ·refine wp_skip ?_
   refine k13 _ _ ?_
   try clear k13 K13
   refine rg [0,1,2] ?_
   refine sv 6 (.int .i64 1) ?_
   refine sv 7 (.int .i64 2) ?_
   refine sv 3 (.int .i64 2) ?_
   refine sq_nil ?_
   show Code.rounds _ _ _ _ _ _
   show Code.wp _ _ _ _ _
   refine wp_seq_k (fun K17 k17=>?_)
   refine wp_seq_k (fun K18 k18=>?_)
   refine rg [0,1] ?_
   refine sv 4 (.int .i64 2) ?_
   refine sv 5 (.bool true) ?_
   refine sq_nil ?_
   refine k18 _ _ ?_
   try clear k18 K18
   refine wp_cond_true rfl ?_
   refine wp_skip ?_
   refine k17 _ _ ?_
   try clear k17 K17
   refine wp_seq_k (fun K19 k19=>?_)
   refine wp_block ?_
   refine wp_seq_k (fun K20 k20=>?_)
   refine rg [0,1,2,3] ?_
   refine sv 8 (.int .i64 2) ?_
   refine sv 9 (.pointer (some ⟨b2,2,none⟩)) ?_
   refine sw 10 (.int .i64 (qq2)) rfl (rk 3 2 L2) ?_
   refine sv 11 (.bool ((qq2 !=(0:Int)))) ?_
   refine sq_nil ?_
   refine k20 _ _ ?_
   try clear k20 K20
   refine wp_cond_split (t:=(qq2 !=(0:Int))) rfl (fun hb21=>?_) (fun hb21=>?_)
   ·refine wp_seq_k (fun K22 k22=>?_)
    refine rg [0,1,2,3,4] ?_
    refine sv 12 (.int .i64 2) ?_
    refine sv 13 (.pointer (some ⟨b2,2,none⟩)) ?_
    refine sw 14 (.int .i64 (qq2)) rfl (rk 3 2 L2) ?_
    refine sv 15 (.bool (decide ((0:Int)<qq2))) ?_
    refine sv 2 (.bool (decide ((0:Int)<qq2))) ?_
    refine sq_nil ?_
    refine k22 _ _ ?_
    try clear k22 K22
    refine wp_ret ?_
    simp only [Exit.then,Exit.inBlock]
    refine bodyPost_ret (v:=(.bool (decide ((0:Int)<qq2)))) (ret_tmp rfl rfl) rfl ⟨?_,hB⟩
    exact (congrArg (fun z=>Ending.returned (.bool z)) (posq2 hb9 hb15 hb21))
   ·refine wp_skip ?_
    refine k19 _ _ ?_
    try clear k19 K19
    refine rg [0,1,2] ?_
    refine sv 6 (.int .i64 2) ?_
    refine sv 7 (.int .i64 3) ?_
    refine sv 3 (.int .i64 3) ?_
    refine sq_nil ?_
    show Code.rounds _ _ _ _ _ _
    show Code.wp _ _ _ _ _
    refine wp_seq_k (fun K23 k23=>?_)
    refine wp_seq_k (fun K24 k24=>?_)
    refine rg [0,1] ?_
    refine sv 4 (.int .i64 3) ?_
    refine sv 5 (.bool true) ?_
    refine sq_nil ?_
    refine k24 _ _ ?_
    try clear k24 K24
    refine wp_cond_true rfl ?_
    refine wp_skip ?_
    refine k23 _ _ ?_
    try clear k23 K23
    refine wp_seq_k (fun K25 k25=>?_)
    refine wp_block ?_
    refine wp_seq_k (fun K26 k26=>?_)
    refine rg [0,1,2,3] ?_
    refine sv 8 (.int .i64 3) ?_
    refine sv 9 (.pointer (some ⟨b2,3,none⟩)) ?_
    refine sw 10 (.int .i64 (qq3)) rfl (rk 3 3 L2) ?_
    refine sv 11 (.bool ((qq3 !=(0:Int)))) ?_
    refine sq_nil ?_
    refine k26 _ _ ?_
    try clear k26 K26
    refine wp_cond_split (t:=(qq3 !=(0:Int))) rfl (fun hb27=>?_) (fun hb27=>?_)
    ·refine wp_seq_k (fun K28 k28=>?_)
     refine rg [0,1,2,3,4] ?_
     refine sv 12 (.int .i64 3) ?_
     refine sv 13 (.pointer (some ⟨b2,3,none⟩)) ?_
     refine sw 14 (.int .i64 (qq3)) rfl (rk 3 3 L2) ?_
     refine sv 15 (.bool (decide ((0:Int)<qq3))) ?_
     refine sv 2 (.bool (decide ((0:Int)<qq3))) ?_
     refine sq_nil ?_
     refine k28 _ _ ?_
     try clear k28 K28
     refine wp_ret ?_
     simp only [Exit.then,Exit.inBlock]
     refine bodyPost_ret (v:=(.bool (decide ((0:Int)<qq3)))) (ret_tmp rfl rfl) rfl ⟨?_,hB⟩
     exact (congrArg (fun z=>Ending.returned (.bool z)) (posq3 hb9 hb15 hb21 hb27))
    ·refine wp_skip ?_
     refine k25 _ _ ?_
     try clear k25 K25
     refine rg [0,1,2] ?_
     refine sv 6 (.int .i64 3) ?_
     refine sv 7 (.int .i64 4) ?_
     refine sv 3 (.int .i64 4) ?_
     refine sq_nil ?_
     show Code.rounds _ _ _ _ _ _
     show Code.wp _ _ _ _ _
     refine wp_seq_k (fun K29 k29=>?_)
     refine wp_seq_k (fun K30 k30=>?_)
     refine rg [0,1] ?_
     refine sv 4 (.int .i64 4) ?_
     refine sv 5 (.bool false) ?_
     refine sq_nil ?_
     refine k30 _ _ ?_
     try clear k30 K30
     refine wp_cond_false rfl ?_
     refine wp_exit ?_
     simp only [Exit.then,Exit.inBlock,↓reduceIte]
     refine k3 _ _ ?_
     try clear k3 K3
     refine wp_seq_k (fun K31 k31=>?_)
     refine rg [0] ?_
     refine sv 2 (.bool false) ?_
     refine sq_nil ?_
     refine k31 _ _ ?_
     try clear k31 K31
     refine wp_ret ?_
     refine bodyPost_ret (v:=(.bool false)) (ret_tmp rfl rfl) rfl ⟨?_,hB⟩
     exact (congrArg (fun z=>Ending.returned (.bool z)) (posq4 hb9 hb15 hb21 hb27))

set_option maxRecDepth 100000 in
set_option maxHeartbeats 1000000 in
theorem r7_prim_p (qq0 qq1 qq2 qq3:Int) (j0:-1099511627776≤qq0∧qq0≤1099511627776) (j1:-1099511627776≤qq1∧qq1≤1099511627776) (j2:-1099511627776≤qq2∧qq2≤1099511627776) (j3:-1099511627776≤qq3∧qq3≤1099511627776) (hn:¬(qq0=0∧qq1=0∧qq2=0∧qq3=0)) (hs:qsgn qq0 qq1 qq2 qq3=1) (w:World):
    Calls Tryz.prog 66 #[(.agg #[(.int .i64 (qq0)),(.int .i64 (qq1)),(.int .i64 (qq2)),(.int .i64 (qq3))])] w fun e w'=>e=.returned (.agg #[.int .i64 (qprim qq0 qq1 qq2 qq3 qq0),.int .i64 (qprim qq0 qq1 qq2 qq3 qq1),.int .i64 (qprim qq0 qq1 qq2 qq3 qq2),.int .i64 (qprim qq0 qq1 qq2 qq3 qq3)])∧Gr w w':=by
 have hsb:decide (qsgn qq0 qq1 qq2 qq3=1)=true:=by rw [hs];rfl
 have hd:=qgcd_dvd qq0 qq1 qq2 qq3
 have hgp:=qgcd_pos hn
 have lq0:=qprim_le (n:=qq0) hn
 have lq1:=qprim_le (n:=qq1) hn
 have lq2:=qprim_le (n:=qq2) hn
 have lq3:=qprim_le (n:=qq3) hn
 have hgm:qgcd qq0 qq1 qq2 qq3≤1099511627776:=by
    have h1:=hd.1;have h2:=hd.2.1;have h3:=hd.2.2.1;have h4:=hd.2.2.2
    have le:∀ x:Int,x≠0→-1099511627776≤x∧x≤1099511627776→qgcd qq0 qq1 qq2 qq3∣x→qgcd qq0 qq1 qq2 qq3≤1099511627776:=by
      intro x hx hb hdx
      have:=Nat.le_of_dvd (by omega) (Int.natAbs_dvd_natAbs.2 hdx)
      omega
    by_cases z0:qq0=0
    · by_cases z1:qq1=0
      · by_cases z2:qq2=0
        · exact le qq3 (fun z3=>hn ⟨z0,z1,z2,z3⟩) j3 h4
        · exact le qq2 z2 j2 h3
      · exact le qq1 z1 j1 h2
    · exact le qq0 z0 j0 h1
 go_enter Tryz.func66,Tryz.ntmps66
 have hB:=Gr.refl w
 refine wp_seq_k (fun K1 k1=>?_)
 refine rg [0,1] ?_
 refine se ?_
 refine eb 22 #[(.int .i64 (qq0)),(.int .i64 (qq1)),(.int .i64 (qq2)),(.int .i64 (qq3))] 1 hB fun b2 w2 g2 L2 o2 q2 hB=>?_
 simp only [p3,p4]
 refine se ?_
 refine ea 22 #[(.int .i64 0),(.int .i64 0),(.int .i64 0),(.int .i64 0)] 2 hB fun b3 w3 g3 L3 o3 q3 hB=>?_
 have ne2_3:=L2.ne o3
 simp only [p3,p4]
 refine sq_nil ?_
 refine k1 _ _ ?_
 try clear k1 K1
 refine wp_seq_k (fun K4 k4=>?_)
 refine rg [0,1,2] ?_
 replace L2:=L2.gr g3
 refine sw 5 (.agg #[(.int .i64 (qq0)),(.int .i64 (qq1)),(.int .i64 (qq2)),(.int .i64 (qq3))]) rfl (rl 22 0 [(.int .i64 (qq0)),(.int .i64 (qq1)),(.int .i64 (qq2)),(.int .i64 (qq3))] L2) ?_
 refine se ?_
 refine ec 6 (r7_common qq0 qq1 qq2 qq3 (by omega) (by omega) (by omega) (by omega) _) ?_
 rintro e5 w5 ⟨rfl,g5⟩
 refine ⟨_,rfl,?_⟩
 replace hB:=hB.trans g5
 simp only [p3,p4]
 refine sv 3 (.int .i64 (qgcd qq0 qq1 qq2 qq3)) ?_
 refine sq_nil ?_
 refine k4 _ _ ?_
 try clear k4 K4
 refine wp_seq_k (fun K6 k6=>?_)
 refine wp_seq_k (fun K7 k7=>?_)
 refine rg [0,1,2] ?_
 replace L2:=L2.gr g5
 refine sw 7 (.agg #[(.int .i64 (qq0)),(.int .i64 (qq1)),(.int .i64 (qq2)),(.int .i64 (qq3))]) rfl (rl 22 0 [(.int .i64 (qq0)),(.int .i64 (qq1)),(.int .i64 (qq2)),(.int .i64 (qq3))] L2) ?_
 refine se ?_
 refine ec 8 (r7_positive qq0 qq1 qq2 qq3 _) ?_
 rintro e8 w8 ⟨rfl,g8⟩
 refine ⟨_,rfl,?_⟩
 replace hB:=hB.trans g8
 simp only [p3,p4]
 refine sw 9 (.bool false) rfl (RunV.bool (x:=!(decide (qsgn qq0 qq1 qq2 qq3=1))) (rvk (by kernel_rfl)) (show (!(decide (qsgn qq0 qq1 qq2 qq3=1)))=false by rw [hsb];rfl)) ?_
 refine sq_nil ?_
 refine k7 _ _ ?_
 try clear k7 K7
 refine wp_cond_false rfl ?_
 refine wp_skip ?_
 refine k6 _ _ ?_
 try clear k6 K6
 refine wp_seq_k (fun K9 k9=>?_)
 refine wp_seq_k (fun K10 k10=>?_)
 refine rg [0] ?_
 refine sv 4 (.int .i64 0) ?_
 refine sq_nil ?_
 refine k10 _ _ ?_
 try clear k10 K10
 refine wp_block ?_
 refine wp_loop_rounds 6 ?_
 show Code.wp _ _ _ _ _
 refine wp_seq_k (fun K11 k11=>?_)
 refine wp_seq_k (fun K12 k12=>?_)
 refine rg [0,1] ?_
 refine sv 12 (.int .i64 0) ?_
 refine sv 13 (.bool true) ?_
 refine sq_nil ?_
 refine k12 _ _ ?_
 try clear k12 K12
 refine wp_cond_true rfl ?_
 refine wp_skip ?_
 refine k11 _ _ ?_
 try clear k11 K11
 refine wp_seq_k (fun K13 k13=>?_)
 refine wp_block ?_
 refine rg [0,1,2,3,4,5,6,7] ?_
 refine sv 16 (.int .i64 0) ?_
 refine sv 17 (.int .i64 0) ?_
 refine sv 18 (.pointer (some ⟨b2,0,none⟩)) ?_
 replace L2:=L2.gr g8
 refine sw 19 (.int .i64 (qq0)) rfl (rk 3 0 L2) ?_
 refine sv 20 (.int .i64 (qgcd qq0 qq1 qq2 qq3)) ?_
 refine sw 21 (.int .i64 (qprim qq0 qq1 qq2 qq3 qq0)) rfl (rv_quon 3 3 _ _ qq0 (qgcd qq0 qq1 qq2 qq3) (qprim qq0 qq1 qq2 qq3 qq0) rfl rfl rfl (prim_td hn hd.1 hs) (by omega) (by omega) (by omega)) ?_
 refine sv 22 (.pointer (some ⟨b2,0,none⟩)) ?_
 refine se ?_
 refine es 3 0 (.int .i64 (qprim qq0 qq1 qq2 qq3 qq0)) [(.int .i64 (qprim qq0 qq1 qq2 qq3 qq0))] #[(.int .i64 (qprim qq0 qq1 qq2 qq3 qq0)),(.int .i64 (qq1)),(.int .i64 (qq2)),(.int .i64 (qq3))] L2 hB q2 ⟨rfl,trivial⟩ fun w14 st14 kp14 L2 hB=>?_
 refine sq_nil ?_
 refine k13 _ _ ?_
 try clear k13 K13
 refine rg [0,1,2] ?_
 refine sv 14 (.int .i64 0) ?_
 refine sv 15 (.int .i64 1) ?_
 refine sv 4 (.int .i64 1) ?_
 refine sq_nil ?_
 show Code.rounds _ _ _ _ _ _
 show Code.wp _ _ _ _ _
 refine wp_seq_k (fun K15 k15=>?_)
 refine wp_seq_k (fun K16 k16=>?_)
 refine rg [0,1] ?_
 refine sv 12 (.int .i64 1) ?_
 refine sv 13 (.bool true) ?_
 refine sq_nil ?_
 refine k16 _ _ ?_
 try clear k16 K16
 refine wp_cond_true rfl ?_
 refine wp_skip ?_
 refine k15 _ _ ?_
 try clear k15 K15
 refine wp_seq_k (fun K17 k17=>?_)
 refine wp_block ?_
 refine rg [0,1,2,3,4,5,6,7] ?_
 refine sv 16 (.int .i64 1) ?_
 refine sv 17 (.int .i64 1) ?_
 refine sv 18 (.pointer (some ⟨b2,1,none⟩)) ?_
 refine sw 19 (.int .i64 (qq1)) rfl (rk 3 1 L2) ?_
 refine sv 20 (.int .i64 (qgcd qq0 qq1 qq2 qq3)) ?_
 refine sw 21 (.int .i64 (qprim qq0 qq1 qq2 qq3 qq1)) rfl (rv_quon 3 3 _ _ qq1 (qgcd qq0 qq1 qq2 qq3) (qprim qq0 qq1 qq2 qq3 qq1) rfl rfl rfl (prim_td hn hd.2.1 hs) (by omega) (by omega) (by omega)) ?_
 refine sv 22 (.pointer (some ⟨b2,1,none⟩)) ?_
 refine se ?_
 refine es 3 1 (.int .i64 (qprim qq0 qq1 qq2 qq3 qq1)) [(.int .i64 (qprim qq0 qq1 qq2 qq3 qq1))] #[(.int .i64 (qprim qq0 qq1 qq2 qq3 qq0)),(.int .i64 (qprim qq0 qq1 qq2 qq3 qq1)),(.int .i64 (qq2)),(.int .i64 (qq3))] L2 hB q2 ⟨rfl,trivial⟩ fun w18 st18 kp18 L2 hB=>?_
 refine sq_nil ?_
 refine k17 _ _ ?_
 try clear k17 K17
 refine rg [0,1,2] ?_
 refine sv 14 (.int .i64 1) ?_
 refine sv 15 (.int .i64 2) ?_
 refine sv 4 (.int .i64 2) ?_
 refine sq_nil ?_
 show Code.rounds _ _ _ _ _ _
 show Code.wp _ _ _ _ _
 refine wp_seq_k (fun K19 k19=>?_)
 refine wp_seq_k (fun K20 k20=>?_)
 refine rg [0,1] ?_
 refine sv 12 (.int .i64 2) ?_
 refine sv 13 (.bool true) ?_
 refine sq_nil ?_
 refine k20 _ _ ?_
 try clear k20 K20
 refine wp_cond_true rfl ?_
 refine wp_skip ?_
 refine k19 _ _ ?_
 try clear k19 K19
 refine wp_seq_k (fun K21 k21=>?_)
 refine wp_block ?_
 refine rg [0,1,2,3,4,5,6,7] ?_
 refine sv 16 (.int .i64 2) ?_
 refine sv 17 (.int .i64 2) ?_
 refine sv 18 (.pointer (some ⟨b2,2,none⟩)) ?_
 refine sw 19 (.int .i64 (qq2)) rfl (rk 3 2 L2) ?_
 refine sv 20 (.int .i64 (qgcd qq0 qq1 qq2 qq3)) ?_
 refine sw 21 (.int .i64 (qprim qq0 qq1 qq2 qq3 qq2)) rfl (rv_quon 3 3 _ _ qq2 (qgcd qq0 qq1 qq2 qq3) (qprim qq0 qq1 qq2 qq3 qq2) rfl rfl rfl (prim_td hn hd.2.2.1 hs) (by omega) (by omega) (by omega)) ?_
 refine sv 22 (.pointer (some ⟨b2,2,none⟩)) ?_
 refine se ?_
 refine es 3 2 (.int .i64 (qprim qq0 qq1 qq2 qq3 qq2)) [(.int .i64 (qprim qq0 qq1 qq2 qq3 qq2))] #[(.int .i64 (qprim qq0 qq1 qq2 qq3 qq0)),(.int .i64 (qprim qq0 qq1 qq2 qq3 qq1)),(.int .i64 (qprim qq0 qq1 qq2 qq3 qq2)),(.int .i64 (qq3))] L2 hB q2 ⟨rfl,trivial⟩ fun w22 st22 kp22 L2 hB=>?_
 refine sq_nil ?_
 refine k21 _ _ ?_
 try clear k21 K21
 refine rg [0,1,2] ?_
 refine sv 14 (.int .i64 2) ?_
 refine sv 15 (.int .i64 3) ?_
 refine sv 4 (.int .i64 3) ?_
 refine sq_nil ?_
 show Code.rounds _ _ _ _ _ _
 show Code.wp _ _ _ _ _
 refine wp_seq_k (fun K23 k23=>?_)
 refine wp_seq_k (fun K24 k24=>?_)
 refine rg [0,1] ?_
 refine sv 12 (.int .i64 3) ?_
 refine sv 13 (.bool true) ?_
 refine sq_nil ?_
 refine k24 _ _ ?_
 try clear k24 K24
 refine wp_cond_true rfl ?_
 refine wp_skip ?_
 refine k23 _ _ ?_
 try clear k23 K23
 refine wp_seq_k (fun K25 k25=>?_)
 refine wp_block ?_
 refine rg [0,1,2,3,4,5,6,7] ?_
 refine sv 16 (.int .i64 3) ?_
 refine sv 17 (.int .i64 3) ?_
 refine sv 18 (.pointer (some ⟨b2,3,none⟩)) ?_
 refine sw 19 (.int .i64 (qq3)) rfl (rk 3 3 L2) ?_
 refine sv 20 (.int .i64 (qgcd qq0 qq1 qq2 qq3)) ?_
 refine sw 21 (.int .i64 (qprim qq0 qq1 qq2 qq3 qq3)) rfl (rv_quon 3 3 _ _ qq3 (qgcd qq0 qq1 qq2 qq3) (qprim qq0 qq1 qq2 qq3 qq3) rfl rfl rfl (prim_td hn hd.2.2.2 hs) (by omega) (by omega) (by omega)) ?_
 refine sv 22 (.pointer (some ⟨b2,3,none⟩)) ?_
 refine se ?_
 refine es 3 3 (.int .i64 (qprim qq0 qq1 qq2 qq3 qq3)) [(.int .i64 (qprim qq0 qq1 qq2 qq3 qq3))] #[(.int .i64 (qprim qq0 qq1 qq2 qq3 qq0)),(.int .i64 (qprim qq0 qq1 qq2 qq3 qq1)),(.int .i64 (qprim qq0 qq1 qq2 qq3 qq2)),(.int .i64 (qprim qq0 qq1 qq2 qq3 qq3))] L2 hB q2 ⟨rfl,trivial⟩ fun w26 st26 kp26 L2 hB=>?_
 refine sq_nil ?_
 refine k25 _ _ ?_
 try clear k25 K25
 refine rg [0,1,2] ?_
 refine sv 14 (.int .i64 3) ?_
 refine sv 15 (.int .i64 4) ?_
 refine sv 4 (.int .i64 4) ?_
 refine sq_nil ?_
 show Code.rounds _ _ _ _ _ _
 show Code.wp _ _ _ _ _
 refine wp_seq_k (fun K27 k27=>?_)
 refine wp_seq_k (fun K28 k28=>?_)
 refine rg [0,1] ?_
 refine sv 12 (.int .i64 4) ?_
 refine sv 13 (.bool false) ?_
 refine sq_nil ?_
 refine k28 _ _ ?_
 try clear k28 K28
 refine wp_cond_false rfl ?_
 refine wp_exit ?_
 simp only [Exit.then,Exit.inBlock,↓reduceIte]
 refine k9 _ _ ?_
 try clear k9 K9
 refine wp_seq_k (fun K29 k29=>?_)
 refine rg [0,1] ?_
 refine sw 23 (.agg #[(.int .i64 (qprim qq0 qq1 qq2 qq3 qq0)),(.int .i64 (qprim qq0 qq1 qq2 qq3 qq1)),(.int .i64 (qprim qq0 qq1 qq2 qq3 qq2)),(.int .i64 (qprim qq0 qq1 qq2 qq3 qq3))]) rfl (rl 22 0 [(.int .i64 (qprim qq0 qq1 qq2 qq3 qq0)),(.int .i64 (qprim qq0 qq1 qq2 qq3 qq1)),(.int .i64 (qprim qq0 qq1 qq2 qq3 qq2)),(.int .i64 (qprim qq0 qq1 qq2 qq3 qq3))] L2) ?_
 refine se ?_
 replace L3:=st26.lc (st22.lc (st18.lc (st14.lc (L3.gr (g5.trans g8)) (Ne.symm ne2_3)) (Ne.symm ne2_3)) (Ne.symm ne2_3)) (Ne.symm ne2_3)
 refine es 22 0 (.agg #[(.int .i64 (qprim qq0 qq1 qq2 qq3 qq0)),(.int .i64 (qprim qq0 qq1 qq2 qq3 qq1)),(.int .i64 (qprim qq0 qq1 qq2 qq3 qq2)),(.int .i64 (qprim qq0 qq1 qq2 qq3 qq3))]) [(.int .i64 (qprim qq0 qq1 qq2 qq3 qq0)),(.int .i64 (qprim qq0 qq1 qq2 qq3 qq1)),(.int .i64 (qprim qq0 qq1 qq2 qq3 qq2)),(.int .i64 (qprim qq0 qq1 qq2 qq3 qq3))] #[(.int .i64 (qprim qq0 qq1 qq2 qq3 qq0)),(.int .i64 (qprim qq0 qq1 qq2 qq3 qq1)),(.int .i64 (qprim qq0 qq1 qq2 qq3 qq2)),(.int .i64 (qprim qq0 qq1 qq2 qq3 qq3))] L3 hB q3 ⟨rfl,rfl,rfl,rfl,trivial⟩ fun w30 st30 kp30 L3 hB=>?_
 refine sq_nil ?_
 refine k29 _ _ ?_
 try clear k29 K29
 refine wp_ret ?_
 refine bodyPost_ret (v:=(.agg #[(.int .i64 (qprim qq0 qq1 qq2 qq3 qq0)),(.int .i64 (qprim qq0 qq1 qq2 qq3 qq1)),(.int .i64 (qprim qq0 qq1 qq2 qq3 qq2)),(.int .i64 (qprim qq0 qq1 qq2 qq3 qq3))])) (ret_cell _ _ _ rfl rfl L3 (by kernel_rfl)) rfl ⟨?_,hB⟩
 exact rfl

set_option maxRecDepth 100000 in
set_option maxHeartbeats 1000000 in
theorem r7_prim_m (qq0 qq1 qq2 qq3:Int) (j0:-1099511627776≤qq0∧qq0≤1099511627776) (j1:-1099511627776≤qq1∧qq1≤1099511627776) (j2:-1099511627776≤qq2∧qq2≤1099511627776) (j3:-1099511627776≤qq3∧qq3≤1099511627776) (hn:¬(qq0=0∧qq1=0∧qq2=0∧qq3=0)) (hs:qsgn qq0 qq1 qq2 qq3=-1) (w:World):
    Calls Tryz.prog 66 #[(.agg #[(.int .i64 (qq0)),(.int .i64 (qq1)),(.int .i64 (qq2)),(.int .i64 (qq3))])] w fun e w'=>e=.returned (.agg #[.int .i64 (qprim qq0 qq1 qq2 qq3 qq0),.int .i64 (qprim qq0 qq1 qq2 qq3 qq1),.int .i64 (qprim qq0 qq1 qq2 qq3 qq2),.int .i64 (qprim qq0 qq1 qq2 qq3 qq3)])∧Gr w w':=by
 have hsb:decide (qsgn qq0 qq1 qq2 qq3=1)=false:=by rw [hs];rfl
 have hd:=qgcd_dvd qq0 qq1 qq2 qq3
 have hgp:=qgcd_pos hn
 have lq0:=qprim_le (n:=qq0) hn
 have lq1:=qprim_le (n:=qq1) hn
 have lq2:=qprim_le (n:=qq2) hn
 have lq3:=qprim_le (n:=qq3) hn
 have hgm:qgcd qq0 qq1 qq2 qq3≤1099511627776:=by
    have h1:=hd.1;have h2:=hd.2.1;have h3:=hd.2.2.1;have h4:=hd.2.2.2
    have le:∀ x:Int,x≠0→-1099511627776≤x∧x≤1099511627776→qgcd qq0 qq1 qq2 qq3∣x→qgcd qq0 qq1 qq2 qq3≤1099511627776:=by
      intro x hx hb hdx
      have:=Nat.le_of_dvd (by omega) (Int.natAbs_dvd_natAbs.2 hdx)
      omega
    by_cases z0:qq0=0
    · by_cases z1:qq1=0
      · by_cases z2:qq2=0
        · exact le qq3 (fun z3=>hn ⟨z0,z1,z2,z3⟩) j3 h4
        · exact le qq2 z2 j2 h3
      · exact le qq1 z1 j1 h2
    · exact le qq0 z0 j0 h1
 go_enter Tryz.func66,Tryz.ntmps66
 have hB:=Gr.refl w
 refine wp_seq_k (fun K1 k1=>?_)
 refine rg [0,1] ?_
 refine se ?_
 refine eb 22 #[(.int .i64 (qq0)),(.int .i64 (qq1)),(.int .i64 (qq2)),(.int .i64 (qq3))] 1 hB fun b2 w2 g2 L2 o2 q2 hB=>?_
 simp only [p3,p4]
 refine se ?_
 refine ea 22 #[(.int .i64 0),(.int .i64 0),(.int .i64 0),(.int .i64 0)] 2 hB fun b3 w3 g3 L3 o3 q3 hB=>?_
 have ne2_3:=L2.ne o3
 simp only [p3,p4]
 refine sq_nil ?_
 refine k1 _ _ ?_
 try clear k1 K1
 refine wp_seq_k (fun K4 k4=>?_)
 refine rg [0,1,2] ?_
 replace L2:=L2.gr g3
 refine sw 5 (.agg #[(.int .i64 (qq0)),(.int .i64 (qq1)),(.int .i64 (qq2)),(.int .i64 (qq3))]) rfl (rl 22 0 [(.int .i64 (qq0)),(.int .i64 (qq1)),(.int .i64 (qq2)),(.int .i64 (qq3))] L2) ?_
 refine se ?_
 refine ec 6 (r7_common qq0 qq1 qq2 qq3 (by omega) (by omega) (by omega) (by omega) _) ?_
 rintro e5 w5 ⟨rfl,g5⟩
 refine ⟨_,rfl,?_⟩
 replace hB:=hB.trans g5
 simp only [p3,p4]
 refine sv 3 (.int .i64 (qgcd qq0 qq1 qq2 qq3)) ?_
 refine sq_nil ?_
 refine k4 _ _ ?_
 try clear k4 K4
 refine wp_seq_k (fun K6 k6=>?_)
 refine wp_seq_k (fun K7 k7=>?_)
 refine rg [0,1,2] ?_
 replace L2:=L2.gr g5
 refine sw 7 (.agg #[(.int .i64 (qq0)),(.int .i64 (qq1)),(.int .i64 (qq2)),(.int .i64 (qq3))]) rfl (rl 22 0 [(.int .i64 (qq0)),(.int .i64 (qq1)),(.int .i64 (qq2)),(.int .i64 (qq3))] L2) ?_
 refine se ?_
 refine ec 8 (r7_positive qq0 qq1 qq2 qq3 _) ?_
 rintro e8 w8 ⟨rfl,g8⟩
 refine ⟨_,rfl,?_⟩
 replace hB:=hB.trans g8
 simp only [p3,p4]
 refine sw 9 (.bool true) rfl (RunV.bool (x:=!(decide (qsgn qq0 qq1 qq2 qq3=1))) (rvk (by kernel_rfl)) (show (!(decide (qsgn qq0 qq1 qq2 qq3=1)))=true by rw [hsb];rfl)) ?_
 refine sq_nil ?_
 refine k7 _ _ ?_
 try clear k7 K7
 refine wp_cond_true rfl ?_
 refine rg [0,1,2] ?_
 refine sv 10 (.int .i64 (qgcd qq0 qq1 qq2 qq3)) ?_
 refine sw 11 (.int .i64 ((0 - qgcd qq0 qq1 qq2 qq3))) rfl (RunV.int (x:=IntKind.i64.wrap ((0 - qgcd qq0 qq1 qq2 qq3))) (y:=(0 - qgcd qq0 qq1 qq2 qq3)) (rvk (by kernel_rfl)) (by first | rfl | (rw [IntKind.wrap_i64];omega))) ?_
 refine sv 3 (.int .i64 ((0 - qgcd qq0 qq1 qq2 qq3))) ?_
 refine sq_nil ?_
 refine k6 _ _ ?_
 try clear k6 K6
 refine wp_seq_k (fun K9 k9=>?_)
 refine wp_seq_k (fun K10 k10=>?_)
 refine rg [0] ?_
 refine sv 4 (.int .i64 0) ?_
 refine sq_nil ?_
 refine k10 _ _ ?_
 try clear k10 K10
 refine wp_block ?_
 refine wp_loop_rounds 6 ?_
 show Code.wp _ _ _ _ _
 refine wp_seq_k (fun K11 k11=>?_)
 refine wp_seq_k (fun K12 k12=>?_)
 refine rg [0,1] ?_
 refine sv 12 (.int .i64 0) ?_
 refine sv 13 (.bool true) ?_
 refine sq_nil ?_
 refine k12 _ _ ?_
 try clear k12 K12
 refine wp_cond_true rfl ?_
 refine wp_skip ?_
 refine k11 _ _ ?_
 try clear k11 K11
 refine wp_seq_k (fun K13 k13=>?_)
 refine wp_block ?_
 refine rg [0,1,2,3,4,5,6,7] ?_
 refine sv 16 (.int .i64 0) ?_
 refine sv 17 (.int .i64 0) ?_
 refine sv 18 (.pointer (some ⟨b2,0,none⟩)) ?_
 replace L2:=L2.gr g8
 refine sw 19 (.int .i64 (qq0)) rfl (rk 3 0 L2) ?_
 refine sv 20 (.int .i64 ((0 - qgcd qq0 qq1 qq2 qq3))) ?_
 refine sw 21 (.int .i64 (qprim qq0 qq1 qq2 qq3 qq0)) rfl (rv_quon 3 3 _ _ qq0 ((0 - qgcd qq0 qq1 qq2 qq3)) (qprim qq0 qq1 qq2 qq3 qq0) rfl rfl rfl (prim_tm hn hd.1 hs) (by omega) (by omega) (by omega)) ?_
 refine sv 22 (.pointer (some ⟨b2,0,none⟩)) ?_
 refine se ?_
 refine es 3 0 (.int .i64 (qprim qq0 qq1 qq2 qq3 qq0)) [(.int .i64 (qprim qq0 qq1 qq2 qq3 qq0))] #[(.int .i64 (qprim qq0 qq1 qq2 qq3 qq0)),(.int .i64 (qq1)),(.int .i64 (qq2)),(.int .i64 (qq3))] L2 hB q2 ⟨rfl,trivial⟩ fun w14 st14 kp14 L2 hB=>?_
 refine sq_nil ?_
 refine k13 _ _ ?_
 try clear k13 K13
 refine rg [0,1,2] ?_
 refine sv 14 (.int .i64 0) ?_
 refine sv 15 (.int .i64 1) ?_
 refine sv 4 (.int .i64 1) ?_
 refine sq_nil ?_
 show Code.rounds _ _ _ _ _ _
 show Code.wp _ _ _ _ _
 refine wp_seq_k (fun K15 k15=>?_)
 refine wp_seq_k (fun K16 k16=>?_)
 refine rg [0,1] ?_
 refine sv 12 (.int .i64 1) ?_
 refine sv 13 (.bool true) ?_
 refine sq_nil ?_
 refine k16 _ _ ?_
 try clear k16 K16
 refine wp_cond_true rfl ?_
 refine wp_skip ?_
 refine k15 _ _ ?_
 try clear k15 K15
 refine wp_seq_k (fun K17 k17=>?_)
 refine wp_block ?_
 refine rg [0,1,2,3,4,5,6,7] ?_
 refine sv 16 (.int .i64 1) ?_
 refine sv 17 (.int .i64 1) ?_
 refine sv 18 (.pointer (some ⟨b2,1,none⟩)) ?_
 refine sw 19 (.int .i64 (qq1)) rfl (rk 3 1 L2) ?_
 refine sv 20 (.int .i64 ((0 - qgcd qq0 qq1 qq2 qq3))) ?_
 refine sw 21 (.int .i64 (qprim qq0 qq1 qq2 qq3 qq1)) rfl (rv_quon 3 3 _ _ qq1 ((0 - qgcd qq0 qq1 qq2 qq3)) (qprim qq0 qq1 qq2 qq3 qq1) rfl rfl rfl (prim_tm hn hd.2.1 hs) (by omega) (by omega) (by omega)) ?_
 refine sv 22 (.pointer (some ⟨b2,1,none⟩)) ?_
 refine se ?_
 refine es 3 1 (.int .i64 (qprim qq0 qq1 qq2 qq3 qq1)) [(.int .i64 (qprim qq0 qq1 qq2 qq3 qq1))] #[(.int .i64 (qprim qq0 qq1 qq2 qq3 qq0)),(.int .i64 (qprim qq0 qq1 qq2 qq3 qq1)),(.int .i64 (qq2)),(.int .i64 (qq3))] L2 hB q2 ⟨rfl,trivial⟩ fun w18 st18 kp18 L2 hB=>?_
 refine sq_nil ?_
 refine k17 _ _ ?_
 try clear k17 K17
 refine rg [0,1,2] ?_
 refine sv 14 (.int .i64 1) ?_
 refine sv 15 (.int .i64 2) ?_
 refine sv 4 (.int .i64 2) ?_
 refine sq_nil ?_
 show Code.rounds _ _ _ _ _ _
 show Code.wp _ _ _ _ _
 refine wp_seq_k (fun K19 k19=>?_)
 refine wp_seq_k (fun K20 k20=>?_)
 refine rg [0,1] ?_
 refine sv 12 (.int .i64 2) ?_
 refine sv 13 (.bool true) ?_
 refine sq_nil ?_
 refine k20 _ _ ?_
 try clear k20 K20
 refine wp_cond_true rfl ?_
 refine wp_skip ?_
 refine k19 _ _ ?_
 try clear k19 K19
 refine wp_seq_k (fun K21 k21=>?_)
 refine wp_block ?_
 refine rg [0,1,2,3,4,5,6,7] ?_
 refine sv 16 (.int .i64 2) ?_
 refine sv 17 (.int .i64 2) ?_
 refine sv 18 (.pointer (some ⟨b2,2,none⟩)) ?_
 refine sw 19 (.int .i64 (qq2)) rfl (rk 3 2 L2) ?_
 refine sv 20 (.int .i64 ((0 - qgcd qq0 qq1 qq2 qq3))) ?_
 refine sw 21 (.int .i64 (qprim qq0 qq1 qq2 qq3 qq2)) rfl (rv_quon 3 3 _ _ qq2 ((0 - qgcd qq0 qq1 qq2 qq3)) (qprim qq0 qq1 qq2 qq3 qq2) rfl rfl rfl (prim_tm hn hd.2.2.1 hs) (by omega) (by omega) (by omega)) ?_
 refine sv 22 (.pointer (some ⟨b2,2,none⟩)) ?_
 refine se ?_
 refine es 3 2 (.int .i64 (qprim qq0 qq1 qq2 qq3 qq2)) [(.int .i64 (qprim qq0 qq1 qq2 qq3 qq2))] #[(.int .i64 (qprim qq0 qq1 qq2 qq3 qq0)),(.int .i64 (qprim qq0 qq1 qq2 qq3 qq1)),(.int .i64 (qprim qq0 qq1 qq2 qq3 qq2)),(.int .i64 (qq3))] L2 hB q2 ⟨rfl,trivial⟩ fun w22 st22 kp22 L2 hB=>?_
 refine sq_nil ?_
 refine k21 _ _ ?_
 try clear k21 K21
 refine rg [0,1,2] ?_
 refine sv 14 (.int .i64 2) ?_
 refine sv 15 (.int .i64 3) ?_
 refine sv 4 (.int .i64 3) ?_
 refine sq_nil ?_
 show Code.rounds _ _ _ _ _ _
 show Code.wp _ _ _ _ _
 refine wp_seq_k (fun K23 k23=>?_)
 refine wp_seq_k (fun K24 k24=>?_)
 refine rg [0,1] ?_
 refine sv 12 (.int .i64 3) ?_
 refine sv 13 (.bool true) ?_
 refine sq_nil ?_
 refine k24 _ _ ?_
 try clear k24 K24
 refine wp_cond_true rfl ?_
 refine wp_skip ?_
 refine k23 _ _ ?_
 try clear k23 K23
 refine wp_seq_k (fun K25 k25=>?_)
 refine wp_block ?_
 refine rg [0,1,2,3,4,5,6,7] ?_
 refine sv 16 (.int .i64 3) ?_
 refine sv 17 (.int .i64 3) ?_
 refine sv 18 (.pointer (some ⟨b2,3,none⟩)) ?_
 refine sw 19 (.int .i64 (qq3)) rfl (rk 3 3 L2) ?_
 refine sv 20 (.int .i64 ((0 - qgcd qq0 qq1 qq2 qq3))) ?_
 refine sw 21 (.int .i64 (qprim qq0 qq1 qq2 qq3 qq3)) rfl (rv_quon 3 3 _ _ qq3 ((0 - qgcd qq0 qq1 qq2 qq3)) (qprim qq0 qq1 qq2 qq3 qq3) rfl rfl rfl (prim_tm hn hd.2.2.2 hs) (by omega) (by omega) (by omega)) ?_
 refine sv 22 (.pointer (some ⟨b2,3,none⟩)) ?_
 refine se ?_
 refine es 3 3 (.int .i64 (qprim qq0 qq1 qq2 qq3 qq3)) [(.int .i64 (qprim qq0 qq1 qq2 qq3 qq3))] #[(.int .i64 (qprim qq0 qq1 qq2 qq3 qq0)),(.int .i64 (qprim qq0 qq1 qq2 qq3 qq1)),(.int .i64 (qprim qq0 qq1 qq2 qq3 qq2)),(.int .i64 (qprim qq0 qq1 qq2 qq3 qq3))] L2 hB q2 ⟨rfl,trivial⟩ fun w26 st26 kp26 L2 hB=>?_
 refine sq_nil ?_
 refine k25 _ _ ?_
 try clear k25 K25
 refine rg [0,1,2] ?_
 refine sv 14 (.int .i64 3) ?_
 refine sv 15 (.int .i64 4) ?_
 refine sv 4 (.int .i64 4) ?_
 refine sq_nil ?_
 show Code.rounds _ _ _ _ _ _
 show Code.wp _ _ _ _ _
 refine wp_seq_k (fun K27 k27=>?_)
 refine wp_seq_k (fun K28 k28=>?_)
 refine rg [0,1] ?_
 refine sv 12 (.int .i64 4) ?_
 refine sv 13 (.bool false) ?_
 refine sq_nil ?_
 refine k28 _ _ ?_
 try clear k28 K28
 refine wp_cond_false rfl ?_
 refine wp_exit ?_
 simp only [Exit.then,Exit.inBlock,↓reduceIte]
 refine k9 _ _ ?_
 try clear k9 K9
 refine wp_seq_k (fun K29 k29=>?_)
 refine rg [0,1] ?_
 refine sw 23 (.agg #[(.int .i64 (qprim qq0 qq1 qq2 qq3 qq0)),(.int .i64 (qprim qq0 qq1 qq2 qq3 qq1)),(.int .i64 (qprim qq0 qq1 qq2 qq3 qq2)),(.int .i64 (qprim qq0 qq1 qq2 qq3 qq3))]) rfl (rl 22 0 [(.int .i64 (qprim qq0 qq1 qq2 qq3 qq0)),(.int .i64 (qprim qq0 qq1 qq2 qq3 qq1)),(.int .i64 (qprim qq0 qq1 qq2 qq3 qq2)),(.int .i64 (qprim qq0 qq1 qq2 qq3 qq3))] L2) ?_
 refine se ?_
 replace L3:=st26.lc (st22.lc (st18.lc (st14.lc (L3.gr (g5.trans g8)) (Ne.symm ne2_3)) (Ne.symm ne2_3)) (Ne.symm ne2_3)) (Ne.symm ne2_3)
 refine es 22 0 (.agg #[(.int .i64 (qprim qq0 qq1 qq2 qq3 qq0)),(.int .i64 (qprim qq0 qq1 qq2 qq3 qq1)),(.int .i64 (qprim qq0 qq1 qq2 qq3 qq2)),(.int .i64 (qprim qq0 qq1 qq2 qq3 qq3))]) [(.int .i64 (qprim qq0 qq1 qq2 qq3 qq0)),(.int .i64 (qprim qq0 qq1 qq2 qq3 qq1)),(.int .i64 (qprim qq0 qq1 qq2 qq3 qq2)),(.int .i64 (qprim qq0 qq1 qq2 qq3 qq3))] #[(.int .i64 (qprim qq0 qq1 qq2 qq3 qq0)),(.int .i64 (qprim qq0 qq1 qq2 qq3 qq1)),(.int .i64 (qprim qq0 qq1 qq2 qq3 qq2)),(.int .i64 (qprim qq0 qq1 qq2 qq3 qq3))] L3 hB q3 ⟨rfl,rfl,rfl,rfl,trivial⟩ fun w30 st30 kp30 L3 hB=>?_
 refine sq_nil ?_
 refine k29 _ _ ?_
 try clear k29 K29
 refine wp_ret ?_
 refine bodyPost_ret (v:=(.agg #[(.int .i64 (qprim qq0 qq1 qq2 qq3 qq0)),(.int .i64 (qprim qq0 qq1 qq2 qq3 qq1)),(.int .i64 (qprim qq0 qq1 qq2 qq3 qq2)),(.int .i64 (qprim qq0 qq1 qq2 qq3 qq3))])) (ret_cell _ _ _ rfl rfl L3 (by kernel_rfl)) rfl ⟨?_,hB⟩
 exact rfl

theorem r7_primitive (qq0 qq1 qq2 qq3:Int) (j0:-1099511627776≤qq0∧qq0≤1099511627776) (j1:-1099511627776≤qq1∧qq1≤1099511627776) (j2:-1099511627776≤qq2∧qq2≤1099511627776) (j3:-1099511627776≤qq3∧qq3≤1099511627776) (hn:¬(qq0=0∧qq1=0∧qq2=0∧qq3=0)) (w:World):
    Calls Tryz.prog 66 #[(.agg #[(.int .i64 (qq0)),(.int .i64 (qq1)),(.int .i64 (qq2)),(.int .i64 (qq3))])] w fun e w'=>e=.returned (.agg #[.int .i64 (qprim qq0 qq1 qq2 qq3 qq0),.int .i64 (qprim qq0 qq1 qq2 qq3 qq1),.int .i64 (qprim qq0 qq1 qq2 qq3 qq2),.int .i64 (qprim qq0 qq1 qq2 qq3 qq3)])∧Gr w w':=by
  rcases qsgn_cases hn with hs | hs
  · exact r7_prim_p qq0 qq1 qq2 qq3 j0 j1 j2 j3 hn hs w
  · exact r7_prim_m qq0 qq1 qq2 qq3 j0 j1 j2 j3 hn hs w

end Go.Proofs.YtaldbfflkpgfoaaGreatDoor
/- A run on symbols:contracts of motions. -/
namespace Go.Proofs.YtaldbfflkpgfoaaGreatDoor
open Go.RowKit

/-- all rationals of a row of cells -/
def rats:List Cl→Option (List (Nat × Rat))
  | []=>some []
  | .cr j 0 k q::.cr j1 1 _ _::.cr j2 2 _ _::.cr j3 3 _ _::r=>if Nat.beq j1 j&&Nat.beq j2 j&&Nat.beq j3 j then (match rats r with | some l=>some ((k,q)::l) | none=>none) else none
  | a::b::c::d::r=>if falC a&&nilC b&&falC c&&nilC d then (match rats r with | some l=>some ((64,0)::l) | none=>none) else none
  | _=>none
/-- that the values are these rationals -/
def IsRats (w:World):List Value→List (Nat × Rat)→Prop
  | [],[]=>True
  | a::b::c::d::v,x::l=>IsRat w x.1 a b c d x.2∧IsRats w v l
  | _,_=>False
theorem rats_ok {n:Nn} {X:Env} {w:World}:∀ {l:List Cl} {r:List (Nat × Rat)},rats l=some r→okL n X w l→IsRats w (l.map (Cl.den X)) r
  | l,r,h,hl=>by
    unfold rats at h
    split at h
    · cases h;trivial
    · rename_i j k q j1 _ _ j2 _ _ j3 _ _ t
      split at h
      · rename_i hj
        simp only [Bool.and_eq_true,Nat.beq_eq] at hj
        obtain ⟨⟨rfl,rfl⟩,rfl⟩:=hj
        split at h
        · rename_i l' hr
          cases h
          exact ⟨(hl (.cr j3 0 k q) (by simp)).2,rats_ok hr fun c hc=>hl c (by simp [hc])⟩
        · cases h
      · cases h
    · rename_i a b c d t _
      split at h
      · rename_i hh
        simp only [Bool.and_eq_true] at hh
        obtain ⟨⟨⟨h1,h2⟩,h3⟩,h4⟩:=hh
        split at h
        · rename_i l' hr
          cases h
          refine ⟨?_,rats_ok hr fun c hc=>hl c (by simp [hc])⟩
          rw [falC_den h1 (hl a (by simp)),nilC_den h2,falC_den h3 (hl c (by simp)),nilC_den h4]
          exact IsRat.zero w (Nat.le_refl _)
        · cases h
      · cases h
    · cases h
def asRats:SV→Option (List (Nat × Rat))
  | .so (.vg l)=>rats l
  | _=>none
theorem asRats_ok {n:Nn} {X:Env} {w:World} {v:SV} {r:List (Nat × Rat)} (h:asRats v=some r) (hv:v.ok n X w):∃ vs,v.den X=.agg vs.toArray∧IsRats w vs r:=by
  unfold asRats at h
  split at h
  · exact ⟨_,rfl,rats_ok h hv⟩
  · cases h
theorem IsRats.cons {w:World} {v:List Value} {x:Nat × Rat} {l:List (Nat × Rat)} (h:IsRats w v (x::l)):∃ a b c d u,v=a::b::c::d::u∧IsRat w x.1 a b c d x.2∧IsRats w u l:=by
  match v,h with
  | a::b::c::d::u,h=>exact ⟨a,b,c,d,u,rfl,h.1,h.2⟩
theorem IsRats.nil {w:World} {v:List Value} (h:IsRats w v []):v=[]:=by
  cases v with
  | nil=>rfl
  | cons a v=>simp [IsRats] at h
/-- four new integers -/
def newInts (j k:Nat) (z0 z1 z2 z3:Int):SV:=.so (.vg [.cz j 0 k z0,.cz j 1 k z0,.cz (j+1) 0 k z1,.cz (j+1) 1 k z1,.cz (j+2) 0 k z2,.cz (j+2) 1 k z2,.cz (j+3) 0 k z3,.cz (j+3) 1 k z3])
theorem newInts_holds {n:Nn} {X:Env} {w w':World} {e:Ending} {k:Nat} {z0 z1 z2 z3:Int} (h:(∃ t0 t1 t2 t3 t4 t5 t6 t7,e=.returned (.agg #[t0,t1,t2,t3,t4,t5,t6,t7])∧IsInt w' k t0 t1 z0∧IsInt w' k t2 t3 z1∧IsInt w' k t4 t5 z2∧IsInt w' k t6 t7 z3)∧Gr w w'):
    (Tr.leaf (newInts n.z k z0 z1 z2 z3) 0 4).holds n X w e w':=by
  obtain ⟨⟨t0,t1,t2,t3,t4,t5,t6,t7,rfl,h0,h1,h2,h3⟩,g⟩:=h
  let Y:Env:={X with Z:=fun i c=>if i<n.z then X.Z i c else ([t0,t1,t2,t3,t4,t5,t6,t7]:List Value).getD (2*(i - n.z)+c) undef}
  have e0:∀ i c,Y.Z (n.z+i) c=([t0,t1,t2,t3,t4,t5,t6,t7]:List Value).getD (2*i+c) undef:=fun i c=>by
    show (if n.z+i<n.z then _ else _)=_
    rw [if_neg (by omega),Nat.add_sub_cancel_left]
  have e00:∀ c,Y.Z n.z c=([t0,t1,t2,t3,t4,t5,t6,t7]:List Value).getD c undef:=fun c=>by have:=e0 0 c;simpa using this
  refine ⟨Y,?_,g,⟨fun _ _=>rfl,fun _ _ _=>rfl,fun i c hi=>(if_pos hi).symm,rfl⟩,fun c hc=>?_⟩
  · simp [newInts,SV.den,TV.den,dnL,Cl.den,e0,e00]
  · simp only [List.mem_cons,List.not_mem_nil,or_false] at hc
    have l0:Nat.blt n.z (n.z+4)=true:=blt_to (by omega)
    have l1:Nat.blt (n.z+1) (n.z+4)=true:=blt_to (by omega)
    have l2:Nat.blt (n.z+2) (n.z+4)=true:=blt_to (by omega)
    have l3:Nat.blt (n.z+3) (n.z+4)=true:=blt_to (by omega)
    rcases hc with rfl | rfl | rfl | rfl | rfl | rfl | rfl | rfl<;>refine ⟨by simp only [Cl.lt,l0,l1,l2,l3];rfl,?_⟩<;>simp only [Cl.good,e0,e00]<;>assumption
def in12 (lo hi:Int):Bool:=ile (-12) lo&&ile hi 12
theorem in12_ok {z lo hi:Int} (h:in12 lo hi=true) (h0:lo≤z∧z≤hi):-12≤z∧z≤12:=by
  unfold in12 at h
  simp only [ile_eq,Bool.and_eq_true,decide_eq_true_eq] at h
  omega
def cChk:ConT:=fun args _ _=>match args with
  | [.so (.vg [.ci .i64 q0 l0 h0,.ci .i64 q1 l1 h1,.ci .i64 q2 l2 h2,.ci .i64 q3 l3 h3,c1,c2,c3])]=>match txC c1,txC c2,txC c3 with
    | some (k1,_x1),some (k2,_x2),some (k3,_x3)=>tr (in12 l0 h0&&in12 l1 h1&&in12 l2 h2&&in12 l3 h3&&Nat.ble k1 64&&Nat.ble k2 64&&Nat.ble k3 64) (.as (decide (chk q0 q1 q2 q3 0=0)) (.leaf (.so (.vc (.ci .i64 0 0 0))) 0 0))
    | _,_,_=>none
  | _=>none
theorem cChk_ok {I:World→Prop} (hI:∀ w,I w→Mx w):ConOK Tryz.prog I 15 cChk:=by
  intro args E n w T hw ha hT hp
  unfold cChk at hT
  split at hT
  · rename_i q0 l0 h0 q1 l1 h1 q2 l2 h2 q3 l3 h3 c1 c2 c3
    split at hT
    · rename_i k1 x1 k2 x2 k3 x3 e1 e2 e3
      obtain ⟨hb,rfl⟩:=tr_some hT
      simp only [Bool.and_eq_true,Nat.ble_eq] at hb
      obtain ⟨⟨⟨⟨⟨⟨b0,b1⟩,b2⟩,b3⟩,b4⟩,b5⟩,b6⟩:=hb
      have g:=fun c hc=>ha _ (List.mem_singleton.2 rfl) c hc
      obtain ⟨d1,s1⟩:=txC_ok e1 (g c1 (by simp))
      obtain ⟨d2,s2⟩:=txC_ok e2 (g c2 (by simp))
      obtain ⟨d3,s3⟩:=txC_ok e3 (g c3 (by simp))
      have s1:=s1.mono b4
      have s2:=s2.mono b5
      have s3:=s3.mono b6
      have le:∀ {x:Rat},RS 64 x→((ratL x).length:Int)≤400:=fun h=>by have:=ratL_len h.1 h.2;omega
      show Calls _ _ #[.agg #[.int .i64 q0,.int .i64 q1,.int .i64 q2,.int .i64 q3,c1.den E,c2.den E,c3.den E]] w _
      rw [d1,d2,d3]
      refine (mcheckr (in12_ok b0 (g (.ci .i64 q0 l0 h0) (by simp)).2) (in12_ok b1 (g (.ci .i64 q1 l1 h1) (by simp)).2) (in12_ok b2 (g (.ci .i64 q2 l2 h2) (by simp)).2) (in12_ok b3 (g (.ci .i64 q3 l3 h3) (by simp)).2) x1 x2 x3 s1 s2 s3 (le s1) (le s2) (le s3) w (hI w hw)).mono fun e w' he=>?_
      rw [of_decide_eq_true hp.1] at he
      exact val_holds he ⟨rfl,Int.le_refl _,Int.le_refl _⟩
    · cases hT
  · cases hT
/-- the greatest magnitude between bounds -/
def mag4 (l h:Int):Int:=max (-l) h
def inP (l h:Int):Bool:=ile (-1099511627776) l&&ile h 1099511627776
theorem inP_ok {z lo hi:Int} (h:inP lo hi=true) (h0:lo≤z∧z≤hi):-1099511627776≤z∧z≤1099511627776:=by
  unfold inP at h
  simp only [ile_eq,Bool.and_eq_true,decide_eq_true_eq] at h
  omega
def primC (q0 q1 q2 q3 q l h:Int):Cl:=.ci .i64 (qprim q0 q1 q2 q3 q) (-mag4 l h) (mag4 l h)
theorem primC_ok {n:Nn} {X:Env} {w:World} {q0 q1 q2 q3 q l h:Int} (hn:¬(q0=0∧q1=0∧q2=0∧q3=0)) (h0:l≤q∧q≤h):(primC q0 q1 q2 q3 q l h).ok n X w:=by
  refine ⟨rfl,?_⟩
  have:=qprim_le (n:=q) hn
  show -mag4 l h≤_∧_≤mag4 l h
  unfold mag4
  omega
def cPrim:ConT:=fun args _ _=>match args with
  | [.so (.vg [.ci .i64 q0 l0 h0,.ci .i64 q1 l1 h1,.ci .i64 q2 l2 h2,.ci .i64 q3 l3 h3])]=>
    tr (inP l0 h0&&inP l1 h1&&inP l2 h2&&inP l3 h3) (.as (decide (¬(q0=0∧q1=0∧q2=0∧q3=0))) (.leaf (.so (.vg [primC q0 q1 q2 q3 q0 l0 h0,primC q0 q1 q2 q3 q1 l1 h1,primC q0 q1 q2 q3 q2 l2 h2,primC q0 q1 q2 q3 q3 l3 h3])) 0 0))
  | _=>none
theorem cPrim_ok {I:World→Prop}:ConOK Tryz.prog I 66 cPrim:=by
  intro args E n w T _ ha hT hp
  unfold cPrim at hT
  split at hT
  · rename_i q0 l0 h0 q1 l1 h1 q2 l2 h2 q3 l3 h3
    obtain ⟨hb,rfl⟩:=tr_some hT
    simp only [Bool.and_eq_true] at hb
    obtain ⟨⟨⟨b0,b1⟩,b2⟩,b3⟩:=hb
    have h:=ha _ (List.mem_singleton.2 rfl)
    have g:=fun c hc=>h c hc
    have hn:=of_decide_eq_true hp.1
    have g0:=(g (.ci .i64 q0 l0 h0) (by simp)).2
    have g1:=(g (.ci .i64 q1 l1 h1) (by simp)).2
    have g2:=(g (.ci .i64 q2 l2 h2) (by simp)).2
    have g3:=(g (.ci .i64 q3 l3 h3) (by simp)).2
    refine (r7_primitive q0 q1 q2 q3 (inP_ok b0 g0) (inP_ok b1 g1) (inP_ok b2 g2) (inP_ok b3 g3) hn w).mono fun e w' he=>val_holds he fun c hc=>?_
    simp only [List.mem_cons,List.not_mem_nil,or_false] at hc
    rcases hc with rfl | rfl | rfl | rfl
    · exact primC_ok hn g0
    · exact primC_ok hn g1
    · exact primC_ok hn g2
    · exact primC_ok hn g3
  · cases hT
end Go.Proofs.YtaldbfflkpgfoaaGreatDoor
/- A run on symbols:described placements and their rotations,by name. -/
namespace Go.Proofs.YtaldbfflkpgfoaaGreatDoor
open Go.RowKit

theorem tmod13 (t:Int):-12≤Int.tmod t 13∧Int.tmod t 13≤12:=by
  have h1:=Int.tmod_lt_of_pos t (show (0:Int)<13 by decide)
  have h2:=Int.tmod_lt_of_pos (-t) (show (0:Int)<13 by decide)
  rw [Int.neg_tmod] at h2
  omega
/-- the numbers of a described turn,at first and primitive -/
def mq0 (t0 t1 t2 t3:Int):Int:=if conjL [Int.tmod t0 13,Int.tmod t1 13,Int.tmod t2 13,Int.tmod t3 13] [0,0,0,0] then 1 else Int.tmod t0 13
def qd (t0 t1 t2 t3:Int):Nat→Int
  | 0=>qprim (mq0 t0 t1 t2 t3) (Int.tmod t1 13) (Int.tmod t2 13) (Int.tmod t3 13) (mq0 t0 t1 t2 t3)
  | 1=>qprim (mq0 t0 t1 t2 t3) (Int.tmod t1 13) (Int.tmod t2 13) (Int.tmod t3 13) (Int.tmod t1 13)
  | 2=>qprim (mq0 t0 t1 t2 t3) (Int.tmod t1 13) (Int.tmod t2 13) (Int.tmod t3 13) (Int.tmod t2 13)
  | _=>qprim (mq0 t0 t1 t2 t3) (Int.tmod t1 13) (Int.tmod t2 13) (Int.tmod t3 13) (Int.tmod t3 13)
theorem conj4 (a b c d:Int):conjL [a,b,c,d] [0,0,0,0]=decide (a=0∧b=0∧c=0∧d=0):=by
  rw [Bool.eq_iff_iff,decide_eq_true_eq]
  simp [conjL,eqL,and_assoc]
theorem mq_ne (t0 t1 t2 t3:Int):¬(mq0 t0 t1 t2 t3=0∧Int.tmod t1 13=0∧Int.tmod t2 13=0∧Int.tmod t3 13=0):=by
  unfold mq0
  rw [conj4]
  split
  · rintro ⟨h,_⟩;exact absurd h (by decide)
  · rename_i h;exact fun g=>h (decide_eq_true g)
theorem mq0_le (t0 t1 t2 t3:Int):-12≤mq0 t0 t1 t2 t3∧mq0 t0 t1 t2 t3≤12:=by
  unfold mq0
  split
  · decide
  · exact tmod13 t0
theorem qd_vt (t0 t1 t2 t3:Int):VT (qd t0 t1 t2 t3 0) (qd t0 t1 t2 t3 1) (qd t0 t1 t2 t3 2) (qd t0 t1 t2 t3 3):=by
  have hn:=mq_ne t0 t1 t2 t3
  have b0:=mq0_le t0 t1 t2 t3
  have b1:=tmod13 t1
  have b2:=tmod13 t2
  have b3:=tmod13 t3
  simp only [qd]
  generalize mq0 t0 t1 t2 t3=m0 at*
  have l0:=qprim_le (n:=m0) hn
  have l1:=qprim_le (n:=Int.tmod t1 13) hn
  have l2:=qprim_le (n:=Int.tmod t2 13) hn
  have l3:=qprim_le (n:=Int.tmod t3 13) hn
  obtain ⟨g,s⟩:=qprim_ok hn
  exact ⟨by omega,by omega,by omega,by omega,g,s⟩
/-- a small number -/
def sq (i d:Int):Rat:=(i:Rat)/((1+d % 6:Int):Rat)
/-- the entries of a rotation -/
def roN (w x y z:Int):Nat→Int
  | 0=>w*w+x*x - y*y - z*z
  | 1=>2*(x*y - w*z)
  | 2=>2*(x*z+w*y)
  | 3=>2*(x*y+w*z)
  | 4=>w*w - x*x+y*y - z*z
  | 5=>2*(y*z - w*x)
  | 6=>2*(x*z - w*y)
  | 7=>2*(y*z+w*x)
  | _=>w*w - x*x - y*y+z*z
def roE (w x y z:Int) (k:Nat):Rat:=((roN w x y z k:Int):Rat)/((w*w+x*x+y*y+z*z:Int):Rat)
theorem nn_ne {w x y z:Int} (h:VT w x y z):((w*w+x*x+y*y+z*z:Int):Rat)≠0:=by
  have:=nq_posI h.ne
  intro e
  have:w*w+x*x+y*y+z*z=0:=by exact_mod_cast e
  omega
theorem roE_rot {w x y z:Int} (h:VT w x y z):RotQ (roE w x y z 0) (roE w x y z 1) (roE w x y z 2) (roE w x y z 3) (roE w x y z 4) (roE w x y z 5) (roE w x y z 6) (roE w x y z 7) (roE w x y z 8) w x y z:=by
  have hn:=nn_ne h
  have c:((w*w+x*x+y*y+z*z:Int):Rat)=(w:Rat)*w+x*x+y*y+z*z:=by simp only [Rat.intCast_add,Rat.intCast_mul]
  have key:∀ k,roE w x y z k*((w:Rat)*w+x*x+y*y+z*z)=((roN w x y z k:Int):Rat):=fun k=>by
    unfold roE
    rw [← c,Rat.div_mul_cancel hn]
  constructor<;>rw [key]<;>simp only [roN,Rat.intCast_add,Rat.intCast_sub,Rat.intCast_mul]<;>rfl
theorem roE_rs {w x y z:Int} (h:VT w x y z):∀ k,RS 50 (roE w x y z k):=by
  have b0:=h.b0;have b1:=h.b1;have b2:=h.b2;have b3:=h.b3
  obtain ⟨h0,h1,h2,h3,h4,h5,h6,h7,h8⟩:=rotq_rs h.ne (by omega) (by omega) (by omega) (by omega) (roE_rot h)
  intro k
  match k with
  | 0=>exact h0
  | 1=>exact h1
  | 2=>exact h2
  | 3=>exact h3
  | 4=>exact h4
  | 5=>exact h5
  | 6=>exact h6
  | 7=>exact h7
  | k+8=>exact h8
theorem one_div {N n:Rat}:((1:Int):Rat)/N*n=n/N:=by
  rw [Rat.div_def,Rat.div_def,Rat.mul_comm n]
  congr 1
  exact Rat.one_mul _

/-! ### rows of rationals that come back -/
def Conv:List (Nat × Rat)→List (Nat × Rat)→Prop
  | [],[]=>True
  | (_,q)::l,(m,r)::l'=>(q=r∧RS m r∧64≤m)∧Conv l l'
  | _,_=>False
theorem IsRats.conv {w:World}:∀ {vs:List Value} {l l':List (Nat × Rat)},IsRats w vs l→Conv l l'→IsRats w vs l'
  | [],[],[],_,_=>trivial
  | a::b::c::d::vs,(k,q)::l,(m,r)::l',h,hc=>by
    obtain ⟨⟨rfl,h1,h2⟩,h3⟩:=hc
    exact ⟨h.1.tight h1 h2,IsRats.conv h.2 h3⟩
  | [],[],_::_,_,h=>by cases h
  | _,_::_,[],_,h=>by cases h
  | [],_::_,_::_,h,_=>by cases h
  | [_],_::_,_::_,h,_=>by cases h
  | [_,_],_::_,_::_,h,_=>by cases h
  | [_,_,_],_::_,_::_,h,_=>by cases h
  | _::_,[],_,h,_=>by simp [IsRats] at h
def cellsR:Nat→List (Nat × Rat)→List Cl
  | _,[]=>[]
  | j,(k,q)::l=>.cr j 0 k q::.cr j 1 k q::.cr j 2 k q::.cr j 3 k q::cellsR (j+1) l
def envV (X:Env) (n:Nat) (vs:List Value):Env:={X with R:=fun i c=>if i<n then X.R i c else vs.getD (4*(i - n)+c) undef}
theorem cellsR_ok {w:World} {X:Env} {n:Nn} (vs:List Value):∀ (l:List (Nat × Rat)) (us:List Value) (j m:Nat),IsRats w us l→vs.drop (4*j)=us→m=n.r+j+l.length→
    (cellsR (n.r+j) l).map (Cl.den (envV X n.r vs))=us∧okL ⟨n.b,m,n.z⟩ (envV X n.r vs) w (cellsR (n.r+j) l)
  | [],[],j,m,_,_,_=>⟨rfl,fun _ h=>by cases h⟩
  | (k,q)::l,a::b::c::d::us,j,m,h,hd,hm=>by
    have hR:∀ t,(envV X n.r vs).R (n.r+j) t=vs.getD (4*j+t) undef:=fun t=>by
      show (if n.r+j<n.r then _ else _)=_
      rw [if_neg (by omega),Nat.add_sub_cancel_left]
    have hg:∀ t,vs.getD (4*j+t) undef=(a::b::c::d::us).getD t undef:=fun t=>by
      rw [← hd,List.getD_eq_getElem?_getD,List.getD_eq_getElem?_getD,List.getElem?_drop]
    have e0:(envV X n.r vs).R (n.r+j) 0=a:=by rw [hR,hg];rfl
    have e1:(envV X n.r vs).R (n.r+j) 1=b:=by rw [hR,hg];rfl
    have e2:(envV X n.r vs).R (n.r+j) 2=c:=by rw [hR,hg];rfl
    have e3:(envV X n.r vs).R (n.r+j) 3=d:=by rw [hR,hg];rfl
    simp only [List.length_cons] at hm
    obtain ⟨i1,i2⟩:=cellsR_ok (X:=X) (n:=n) vs l us (j+1) m h.2 (by
      have:=congrArg (List.drop 4) hd
      rw [List.drop_drop] at this
      simpa [Nat.mul_add] using this) (by omega)
    refine ⟨?_,fun x hx=>?_⟩
    · simp only [cellsR,List.map_cons,Cl.den,e0,e1,e2,e3]
      rw [show n.r+j+1=n.r+(j+1) by omega,i1]
    · have hl:Nat.blt (n.r+j) m=true:=blt_to (by omega)
      have hq:IsRat w k ((envV X n.r vs).R (n.r+j) 0) ((envV X n.r vs).R (n.r+j) 1) ((envV X n.r vs).R (n.r+j) 2) ((envV X n.r vs).R (n.r+j) 3) q:=by rw [e0,e1,e2,e3];exact h.1
      simp only [cellsR,List.mem_cons] at hx
      rcases hx with rfl | rfl | rfl | rfl | hx
      · exact ⟨by simp only [Cl.lt,hl];rfl,hq⟩
      · exact ⟨by simp only [Cl.lt,hl];rfl,hq⟩
      · exact ⟨by simp only [Cl.lt,hl];rfl,hq⟩
      · exact ⟨by simp only [Cl.lt,hl];rfl,hq⟩
      · exact i2 x (by rw [show n.r+(j+1)=n.r+j+1 by omega];exact hx)
  | _::_,[],_,_,h,_,_=>by cases h
  | _::_,[_],_,_,h,_,_=>by cases h
  | _::_,[_,_],_,_,h,_,_=>by cases h
  | _::_,[_,_,_],_,_,h,_,_=>by cases h
  | [],_::_,_,_,h,_,_=>by simp [IsRats] at h
theorem envV_agr (X:Env) (n:Nn) (vs:List Value):Agr n X (envV X n.r vs):=⟨fun _ _=>rfl,fun _ _ hi=>(if_pos hi).symm,fun _ _ _=>rfl,rfl⟩
end Go.Proofs.YtaldbfflkpgfoaaGreatDoor
/- Printed by a program of the prover's:described placements. -/
namespace Go.Proofs.YtaldbfflkpgfoaaGreatDoor
open Go.RowKit

/-- how the regions that draw their order are run -/
noncomputable def tabQ:List (Nat × List (Nat × Ent)):=[(21,[(12,.ord [(true,0),(true,1),(true,2),(true,3),(true,4),(true,5),(true,6),(true,8),(true,9),(true,10),(true,11),(true,12),(true,13),(false,7),(false,14),(false,15),(true,16),(false,17)] [5]),(13,.ord [(true,0),(true,2),(false,1),(false,3),(true,4),(false,5)] [2])]),
 (45,[])]
noncomputable def conQ:List (Nat × ConT):=[(103,conRR 100000 (fun k m=>k+m+1) (fun a b=>a+b)),
 (75,conRR 100000 (fun k m=>k+m+1) (fun a b=>a - b)),
 (82,conRR 100000 (fun k m=>k+m) (fun a b=>a*b)),
 (108,cNeg),
 (59,cFrom),
 (37,cComp),
 (76,cSign),
 (87,cNumb),
 (130,cNum),
 (81,cDen),
 (58,cDiv),
 (96,cZFrom),
 (80,cZMul),
 (122,cZGcd),
 (123,cZDiv),
 (68,cZInt),
 (105,cTT (fun k m=>k+m+1) fun a b=>a+b),
 (132,cTT (fun k m=>k+m+1) fun a b=>a - b),
 (106,cTT (fun k m=>k+m) fun a b=>a*b),
 (64,cTDiv),
 (115,cTNeg),
 (65,cTFrom),
 (94,cPars 400),
 (107,cPars 65536),
 (15,cChk),
 (66,cPrim)]
noncomputable def sysQ:Sys:=⟨Tryz.prog,2,199,tabQ,conQ,fun w=>Tab w∧Mx w⟩
theorem sysQ_ok:sysQ.OK where
  mixed:=by kernel_rfl
  calls:=fun f h0 h1=>by
    have:(List.range 199).all (fun f=>Nat.blt f 2||okCall Tryz.prog f)=true:=by kernel_rfl
    have:=List.all_eq_true.1 this f (List.mem_range.2 h1)
    simp only [Bool.or_eq_true] at this
    exact this.resolve_left (fun e=>by have:=blt_of e;exact absurd h0 (by show ¬ 2≤f;omega))
  tab:=by
    have:tabQ.all (okTab Tryz.prog)=true:=by kernel_rfl
    exact fun x hx=>List.all_eq_true.1 this x hx
  con:=fun x hx=>by
    simp only [sysQ,conQ,List.mem_cons,List.not_mem_nil,or_false] at hx
    rcases hx with rfl | rfl | rfl | rfl | rfl | rfl | rfl | rfl | rfl | rfl | rfl | rfl | rfl | rfl | rfl | rfl | rfl | rfl | rfl | rfl | rfl | rfl | rfl | rfl | rfl | rfl
    · exact conRR_ok fun h1 h2 h3=>add_r h1 h2 h3
    · exact conRR_ok fun h1 h2 h3=>sub_r h1 h2 h3
    · exact conRR_ok fun h1 h2 h3=>mul_r h1 h2 h3
    · exact cNeg_ok
    · exact cFrom_ok
    · exact cComp_ok
    · exact cSign_ok
    · exact cNumb_ok fun w h=>h.1
    · exact cNum_ok
    · exact cDen_ok
    · exact cDiv_ok
    · exact cZFrom_ok
    · exact cZMul_ok
    · exact cZGcd_ok
    · exact cZDiv_ok
    · exact cZInt_ok
    · exact cTAdd_ok
    · exact cTSub_ok
    · exact cTMul_ok
    · exact cTDiv_ok
    · exact cTNeg_ok
    · exact cTFrom_ok
    · exact cPars_ok fun w h=>h.2
    · exact cRead_ok fun w h=>h.2
    · exact cChk_ok fun w h=>h.2
    · exact cPrim_ok
  inv:=fun w w' h g=>⟨h.1.gr g,h.2.gr g⟩
def treeP (t0 t1 t2 t3 i1 i2 i3 d:Int):Lf:=.br (conjL [Int.tmod t0 13,Int.tmod t1 13,Int.tmod t2 13,Int.tmod t3 13] [0,0,0,0])
  (.as (decide (((1+d % 6:Int):Rat)≠0)) true (.as (decide (((1+d % 6:Int):Rat)≠0)) true (.as (decide (((1+d % 6:Int):Rat)≠0)) true (.as (decide ¬((1:Int)=0∧Int.tmod t1 13=0∧Int.tmod t2 13=0∧Int.tmod t3 13=0)) true (.ret (.so (.vg [primC 1 (Int.tmod t1 13) (Int.tmod t2 13) (Int.tmod t3 13) 1 1 1,primC 1 (Int.tmod t1 13) (Int.tmod t2 13) (Int.tmod t3 13) (Int.tmod t1 13) (-12) 12,primC 1 (Int.tmod t1 13) (Int.tmod t2 13) (Int.tmod t3 13) (Int.tmod t2 13) (-12) 12,primC 1 (Int.tmod t1 13) (Int.tmod t2 13) (Int.tmod t3 13) (Int.tmod t3 13) (-12) 12,.cw (ratL (sq i1 d)) (some (128,sq i1 d)),.cw (ratL (sq i2 d)) (some (128,sq i2 d)),.cw (ratL (sq i3 d)) (some (128,sq i3 d))])))))))
  (.as (decide (((1+d % 6:Int):Rat)≠0)) true (.as (decide (((1+d % 6:Int):Rat)≠0)) true (.as (decide (((1+d % 6:Int):Rat)≠0)) true (.as (decide ¬(Int.tmod t0 13=0∧Int.tmod t1 13=0∧Int.tmod t2 13=0∧Int.tmod t3 13=0)) true (.ret (.so (.vg [primC (Int.tmod t0 13) (Int.tmod t1 13) (Int.tmod t2 13) (Int.tmod t3 13) (Int.tmod t0 13) (-12) 12,primC (Int.tmod t0 13) (Int.tmod t1 13) (Int.tmod t2 13) (Int.tmod t3 13) (Int.tmod t1 13) (-12) 12,primC (Int.tmod t0 13) (Int.tmod t1 13) (Int.tmod t2 13) (Int.tmod t3 13) (Int.tmod t2 13) (-12) 12,primC (Int.tmod t0 13) (Int.tmod t1 13) (Int.tmod t2 13) (Int.tmod t3 13) (Int.tmod t3 13) (-12) 12,.cw (ratL (sq i1 d)) (some (128,sq i1 d)),.cw (ratL (sq i2 d)) (some (128,sq i2 d)),.cw (ratL (sq i3 d)) (some (128,sq i3 d))])))))))
theorem runP (t0 t1 t2 t3 i1 i2 i3 d:Int):runF sysQ 21 [.so (.vg [.ci .i8 t0 (-128) 127,.ci .i8 t1 (-128) 127,.ci .i8 t2 (-128) 127,.ci .i8 t3 (-128) 127,.ci .i8 i1 (-128) 127,.ci .i8 i2 (-128) 127,.ci .i8 i3 (-128) 127,.ci .u8 d 0 255])] 0 0 (.s .e .e)=some (treeP t0 t1 t2 t3 i1 i2 i3 d):=by kernel_rfl
theorem den6 (d:Int):decide (((1+d % 6:Int):Rat)≠0)=true:=decide_eq_true fun e=>by
  have:(1+d % 6:Int)=0:=by exact_mod_cast e
  omega
def postP (t0 t1 t2 t3 i1 i2 i3 d:Int) (v:SV):Prop:=∃ a b c e f g h k m n o,v=.so (.vg [.ci .i64 (qd t0 t1 t2 t3 0) a b,.ci .i64 (qd t0 t1 t2 t3 1) c e,.ci .i64 (qd t0 t1 t2 t3 2) f g,.ci .i64 (qd t0 t1 t2 t3 3) h k,.cw (ratL (sq i1 d)) m,.cw (ratL (sq i2 d)) n,.cw (ratL (sq i3 d)) o])
theorem treeP_ok (t0 t1 t2 t3 i1 i2 i3 d:Int):LOK (postP t0 t1 t2 t3 i1 i2 i3 d) (treeP t0 t1 t2 t3 i1 i2 i3 d):=by
  have hn:=mq_ne t0 t1 t2 t3
  refine ⟨fun h=>?_,fun h=>?_⟩
  · have e:mq0 t0 t1 t2 t3=1:=if_pos h
    rw [e] at hn
    refine ⟨den6 d,den6 d,den6 d,decide_eq_true hn,?_⟩
    unfold LOK postP
    simp only [qd,e]
    exact ⟨_,_,_,_,_,_,_,_,_,_,_,rfl⟩
  · have e:mq0 t0 t1 t2 t3=Int.tmod t0 13:=if_neg (by rw [h];decide)
    rw [e] at hn
    refine ⟨den6 d,den6 d,den6 d,decide_eq_true hn,?_⟩
    unfold LOK postP
    simp only [qd,e]
    exact ⟨_,_,_,_,_,_,_,_,_,_,_,rfl⟩
theorem place_c {t0 t1 t2 t3 i1 i2 i3 d:Int} (ht:(-128≤t0∧t0≤127)∧(-128≤t1∧t1≤127)∧(-128≤t2∧t2≤127)∧(-128≤t3∧t3≤127)∧(-128≤i1∧i1≤127)∧(-128≤i2∧i2≤127)∧(-128≤i3∧i3≤127)∧0≤d∧d≤255) (w:World) (hI:Tab w∧Mx w):
    Calls Tryz.prog 21 #[.agg #[.int .i8 t0,.int .i8 t1,.int .i8 t2,.int .i8 t3,.int .i8 i1,.int .i8 i2,.int .i8 i3,.int .u8 d]] w fun e w'=>e=.returned (.agg #[.int .i64 (qd t0 t1 t2 t3 0),.int .i64 (qd t0 t1 t2 t3 1),.int .i64 (qd t0 t1 t2 t3 2),.int .i64 (qd t0 t1 t2 t3 3),.string ⟨(ratL (sq i1 d)).toArray⟩,.string ⟨(ratL (sq i2 d)).toArray⟩,.string ⟨(ratL (sq i3 d)).toArray⟩])∧Gr w w':=by
  obtain ⟨h0,h1,h2,h3,h4,h5,h6,h7⟩:=ht
  refine (run_calls sysQ sysQ_ok (runP t0 t1 t2 t3 i1 i2 i3 d) (X:=envR []) hI (okF1 (okA_ok ⟨⟨rfl,h0⟩,⟨rfl,h1⟩,⟨rfl,h2⟩,⟨rfl,h3⟩,⟨rfl,h4⟩,⟨rfl,h5⟩,⟨rfl,h6⟩,⟨rfl,h7⟩,trivial⟩)) (treeP_ok t0 t1 t2 t3 i1 i2 i3 d)).mono fun e w' he=>?_
  obtain ⟨v,X',n,rfl,g,_,_,_,_,_,_,_,_,_,_,_,_,_,rfl⟩:=he
  exact ⟨rfl,g⟩
def in8 (l h:Int):Bool:=ile (-128) l&&ile h 127
theorem in8_ok {z lo hi:Int} (h:in8 lo hi=true) (h0:lo≤z∧z≤hi):-128≤z∧z≤127:=by
  unfold in8 at h
  simp only [ile_eq,Bool.and_eq_true,decide_eq_true_eq] at h
  omega
def inu8 (l h:Int):Bool:=ile 0 l&&ile h 255
theorem inu8_ok {z lo hi:Int} (h:inu8 lo hi=true) (h0:lo≤z∧z≤hi):0≤z∧z≤255:=by
  unfold inu8 at h
  simp only [ile_eq,Bool.and_eq_true,decide_eq_true_eq] at h
  omega
def q12 (t0 t1 t2 t3:Int) (k:Nat):Cl:=.ci .i64 (qd t0 t1 t2 t3 k) (-12) 12
def txs (i d:Int):Cl:=.cw (ratL (sq i d)) (some (16,sq i d))
theorem txs_ok {i d:Int} (hi:-128≤i∧i≤127) (hd:0≤d∧d≤255) (n:Nn) (X:Env) (w:World):(txs i d).ok n X w:=⟨rfl,fun k q e=>by cases e;exact ⟨rfl,small_rs hi hd rfl⟩⟩
def cPlc:ConT:=fun args _ _=>match args with
  | [.so (.vg [.ci .i8 t0 a0 b0,.ci .i8 t1 a1 b1,.ci .i8 t2 a2 b2,.ci .i8 t3 a3 b3,.ci .i8 i1 a4 b4,.ci .i8 i2 a5 b5,.ci .i8 i3 a6 b6,.ci .u8 d a7 b7])]=>
    tr (in8 a0 b0&&in8 a1 b1&&in8 a2 b2&&in8 a3 b3&&in8 a4 b4&&in8 a5 b5&&in8 a6 b6&&inu8 a7 b7) (.leaf (.so (.vg [q12 t0 t1 t2 t3 0,q12 t0 t1 t2 t3 1,q12 t0 t1 t2 t3 2,q12 t0 t1 t2 t3 3,txs i1 d,txs i2 d,txs i3 d])) 0 0)
  | _=>none
theorem cPlc_ok {I:World→Prop} (hI:∀ w,I w→Tab w∧Mx w):ConOK Tryz.prog I 21 cPlc:=by
  intro args E n w T hw ha hT _
  unfold cPlc at hT
  split at hT
  · rename_i t0 a0 b0 t1 a1 b1 t2 a2 b2 t3 a3 b3 i1 a4 b4 i2 a5 b5 i3 a6 b6 d a7 b7
    obtain ⟨hb,rfl⟩:=tr_some hT
    simp only [Bool.and_eq_true] at hb
    obtain ⟨⟨⟨⟨⟨⟨⟨c0,c1⟩,c2⟩,c3⟩,c4⟩,c5⟩,c6⟩,c7⟩:=hb
    have h:=ha _ (List.mem_singleton.2 rfl)
    have g:=fun c hc=>h c hc
    have g0:=in8_ok c0 (g (.ci .i8 t0 a0 b0) (by simp)).2
    have g1:=in8_ok c1 (g (.ci .i8 t1 a1 b1) (by simp)).2
    have g2:=in8_ok c2 (g (.ci .i8 t2 a2 b2) (by simp)).2
    have g3:=in8_ok c3 (g (.ci .i8 t3 a3 b3) (by simp)).2
    have g4:=in8_ok c4 (g (.ci .i8 i1 a4 b4) (by simp)).2
    have g5:=in8_ok c5 (g (.ci .i8 i2 a5 b5) (by simp)).2
    have g6:=in8_ok c6 (g (.ci .i8 i3 a6 b6) (by simp)).2
    have g7:=inu8_ok c7 (g (.ci .u8 d a7 b7) (by simp)).2
    refine (place_c ⟨g0,g1,g2,g3,g4,g5,g6,g7⟩ w (hI w hw)).mono fun e w' he=>val_holds he fun c hc=>?_
    have v:=qd_vt t0 t1 t2 t3
    have v0:=v.b0;have v1:=v.b1;have v2:=v.b2;have v3:=v.b3
    simp only [List.mem_cons,List.not_mem_nil,or_false] at hc
    rcases hc with rfl | rfl | rfl | rfl | rfl | rfl | rfl
    · exact ⟨rfl,v0⟩
    · exact ⟨rfl,v1⟩
    · exact ⟨rfl,v2⟩
    · exact ⟨rfl,v3⟩
    · exact txs_ok g4 g7 n E w'
    · exact txs_ok g5 g7 n E w'
    · exact txs_ok g6 g7 n E w'
  · cases hT
end Go.Proofs.YtaldbfflkpgfoaaGreatDoor
/- Printed by a program of the prover's:the motion of a placement. -/
namespace Go.Proofs.YtaldbfflkpgfoaaGreatDoor
open Go.RowKit

/-- how the regions that draw their order are run -/
noncomputable def tabO:List (Nat × List (Nat × Ent)):=[(14,[(5,.ord [(true,0),(true,1),(true,2),(true,3),(true,4),(true,5),(true,6),(true,7),(true,8),(true,9),(true,10),(true,11),(true,12),(true,13),(true,14),(true,15)] []),(12,.ord [(true,0),(true,1),(true,3),(true,5),(false,2),(false,4),(true,6),(false,7)] [14])]),
 (53,[]),
 (57,[]),
 (60,[]),
 (74,[(5,.ord [(true,0),(true,1),(true,2),(true,3),(true,4),(true,5),(true,6),(true,7),(false,8),(true,9),(false,10)] [7])]),
 (93,[]),
 (97,[])]
noncomputable def conO:List (Nat × ConT):=[(103,conRR 100000 (fun k m=>k+m+1) (fun a b=>a+b)),
 (75,conRR 100000 (fun k m=>k+m+1) (fun a b=>a - b)),
 (82,conRR 100000 (fun k m=>k+m) (fun a b=>a*b)),
 (108,cNeg),
 (59,cFrom),
 (37,cComp),
 (76,cSign),
 (87,cNumb),
 (130,cNum),
 (81,cDen),
 (58,cDiv),
 (96,cZFrom),
 (80,cZMul),
 (122,cZGcd),
 (123,cZDiv),
 (68,cZInt),
 (105,cTT (fun k m=>k+m+1) fun a b=>a+b),
 (132,cTT (fun k m=>k+m+1) fun a b=>a - b),
 (106,cTT (fun k m=>k+m) fun a b=>a*b),
 (64,cTDiv),
 (115,cTNeg),
 (65,cTFrom),
 (94,cPars 400),
 (107,cPars 65536),
 (15,cChk),
 (66,cPrim)]
noncomputable def sysO:Sys:=⟨Tryz.prog,2,199,tabO,conO,fun w=>Tab w∧Mx w⟩
theorem sysO_ok:sysO.OK where
  mixed:=by kernel_rfl
  calls:=fun f h0 h1=>by
    have:(List.range 199).all (fun f=>Nat.blt f 2||okCall Tryz.prog f)=true:=by kernel_rfl
    have:=List.all_eq_true.1 this f (List.mem_range.2 h1)
    simp only [Bool.or_eq_true] at this
    exact this.resolve_left (fun e=>by have:=blt_of e;exact absurd h0 (by show ¬ 2≤f;omega))
  tab:=by
    have:tabO.all (okTab Tryz.prog)=true:=by kernel_rfl
    exact fun x hx=>List.all_eq_true.1 this x hx
  con:=fun x hx=>by
    simp only [sysO,conO,List.mem_cons,List.not_mem_nil,or_false] at hx
    rcases hx with rfl | rfl | rfl | rfl | rfl | rfl | rfl | rfl | rfl | rfl | rfl | rfl | rfl | rfl | rfl | rfl | rfl | rfl | rfl | rfl | rfl | rfl | rfl | rfl | rfl | rfl
    · exact conRR_ok fun h1 h2 h3=>add_r h1 h2 h3
    · exact conRR_ok fun h1 h2 h3=>sub_r h1 h2 h3
    · exact conRR_ok fun h1 h2 h3=>mul_r h1 h2 h3
    · exact cNeg_ok
    · exact cFrom_ok
    · exact cComp_ok
    · exact cSign_ok
    · exact cNumb_ok fun w h=>h.1
    · exact cNum_ok
    · exact cDen_ok
    · exact cDiv_ok
    · exact cZFrom_ok
    · exact cZMul_ok
    · exact cZGcd_ok
    · exact cZDiv_ok
    · exact cZInt_ok
    · exact cTAdd_ok
    · exact cTSub_ok
    · exact cTMul_ok
    · exact cTDiv_ok
    · exact cTNeg_ok
    · exact cTFrom_ok
    · exact cPars_ok fun w h=>h.2
    · exact cRead_ok fun w h=>h.2
    · exact cChk_ok fun w h=>h.2
    · exact cPrim_ok
  inv:=fun w w' h g=>⟨h.1.gr g,h.2.gr g⟩
def rowC:List Nat→List (Nat × Rat)→List Cl
  | j::l,(k,q)::r=>.cr j 0 k q::.cr j 1 k q::.cr j 2 k q::.cr j 3 k q::rowC l r
  | _,_=>[]
def nN (w x y z:Int):Rat:=((w*w+x*x+y*y+z*z:Int):Rat)
def mOf (w x y z:Int) (k:Nat):Rat:=((1:Int):Rat)/nN w x y z*((roN w x y z k:Int):Rat)
def oRaw (q0 q1 q2 q3:Int) (x1 x2 x3:Rat):List (Nat × Rat):=[(192,mOf q0 q1 q2 q3 0),(192,mOf q0 q1 q2 q3 1),(192,mOf q0 q1 q2 q3 2),(192,mOf q0 q1 q2 q3 3),(192,mOf q0 q1 q2 q3 4),(192,mOf q0 q1 q2 q3 5),(192,mOf q0 q1 q2 q3 6),(192,mOf q0 q1 q2 q3 7),(192,mOf q0 q1 q2 q3 8),(64,x1),(64,x2),(64,x3)]
def oList (q0 q1 q2 q3:Int) (x1 x2 x3:Rat):List (Nat × Rat):=[(64,roE q0 q1 q2 q3 0),(64,roE q0 q1 q2 q3 1),(64,roE q0 q1 q2 q3 2),(64,roE q0 q1 q2 q3 3),(64,roE q0 q1 q2 q3 4),(64,roE q0 q1 q2 q3 5),(64,roE q0 q1 q2 q3 6),(64,roE q0 q1 q2 q3 7),(64,roE q0 q1 q2 q3 8),(64,x1),(64,x2),(64,x3)]
def treeO (q0 q1 q2 q3:Int) (x1 x2 x3:Rat):Lf:=
  .as (decide (chk q0 q1 q2 q3 0=0)) true
  (.as (decide (nN q0 q1 q2 q3=0)) false
  (.ret (.st [.vg (rowC [9,10,11,15,16,17,21,22,23,0,1,2] (oRaw q0 q1 q2 q3 x1 x2 x3)),.vc (.ci .i64 0 0 0)])))
theorem runO (q0 q1 q2 q3:Int) (x1 x2 x3:Rat):runF sysO 14 [.so (.vg [.ci .i64 q0 (-12) 12,.ci .i64 q1 (-12) 12,.ci .i64 q2 (-12) 12,.ci .i64 q3 (-12) 12,.cw (ratL x1) (some (64,x1)),.cw (ratL x2) (some (64,x2)),.cw (ratL x3) (some (64,x3))])] 0 0 (.f .e)=some (treeO q0 q1 q2 q3 x1 x2 x3):=by kernel_rfl
theorem of_c {q0 q1 q2 q3:Int} {x1 x2 x3:Rat} (hv:VT q0 q1 q2 q3) (s1:RS 64 x1) (s2:RS 64 x2) (s3:RS 64 x3) (w:World) (hI:Tab w∧Mx w):
    Calls Tryz.prog 14 #[.agg #[.int .i64 q0,.int .i64 q1,.int .i64 q2,.int .i64 q3,.string ⟨(ratL x1).toArray⟩,.string ⟨(ratL x2).toArray⟩,.string ⟨(ratL x3).toArray⟩]] w fun e w'=>(∃ vs:List Value,e=.returned (.tuple #[.agg vs.toArray,.int .i64 0])∧IsRats w' vs (oList q0 q1 q2 q3 x1 x2 x3))∧Gr w w':=by
  have hl:LOK (fun v=>∃ l,v=.st [.vg l,.vc (.ci .i64 0 0 0)]∧rats l=some (oRaw q0 q1 q2 q3 x1 x2 x3)) (treeO q0 q1 q2 q3 x1 x2 x3):=⟨decide_eq_true (hv.chk 0),decide_eq_false (nn_ne hv),_,rfl,rfl⟩
  have tx:∀ {x},RS 64 x→(Cl.cw (ratL x) (some (64,x))).ok ⟨0,0,0⟩ (envR []) w:=fun h=>⟨rfl,fun k q e=>by cases e;exact ⟨rfl,h⟩⟩
  refine (run_calls sysO sysO_ok (runO q0 q1 q2 q3 x1 x2 x3) (X:=envR []) hI (okF1 (okA_ok ⟨⟨rfl,hv.b0⟩,⟨rfl,hv.b1⟩,⟨rfl,hv.b2⟩,⟨rfl,hv.b3⟩,tx s1,tx s2,tx s3,trivial⟩)) hl).mono fun e w' he=>?_
  obtain ⟨v,X',n,rfl,g,_,hv',l,rfl,hr⟩:=he
  have h:=rats_ok hr (hv' (.vg l) (by simp))
  have rs:=fun k=>(roE_rs hv k).mono (show 50≤64 by decide)
  have one:=fun k=>@one_div (nN q0 q1 q2 q3) ((roN q0 q1 q2 q3 k:Int):Rat)
  exact ⟨⟨_,rfl,h.conv ⟨⟨one 0,rs 0,Nat.le_refl _⟩,⟨one 1,rs 1,Nat.le_refl _⟩,⟨one 2,rs 2,Nat.le_refl _⟩,⟨one 3,rs 3,Nat.le_refl _⟩,⟨one 4,rs 4,Nat.le_refl _⟩,⟨one 5,rs 5,Nat.le_refl _⟩,⟨one 6,rs 6,Nat.le_refl _⟩,⟨one 7,rs 7,Nat.le_refl _⟩,⟨one 8,rs 8,Nat.le_refl _⟩,⟨rfl,s1,Nat.le_refl _⟩,⟨rfl,s2,Nat.le_refl _⟩,⟨rfl,s3,Nat.le_refl _⟩,trivial⟩⟩,g⟩
def cOf:ConT:=fun args nr _=>match args with
  | [.so (.vg [.ci .i64 q0 _ _,.ci .i64 q1 _ _,.ci .i64 q2 _ _,.ci .i64 q3 _ _,c1,c2,c3])]=>match txC c1,txC c2,txC c3 with
    | some (k1,x1),some (k2,x2),some (k3,x3)=>tr (Nat.ble k1 64&&Nat.ble k2 64&&Nat.ble k3 64) (.as (decide (chk q0 q1 q2 q3 0=0)) (.leaf (.st [.vg (cellsR nr (oList q0 q1 q2 q3 x1 x2 x3)),.vc (.ci .i64 0 0 0)]) 12 0))
    | _,_,_=>none
  | _=>none
theorem rats_holds1 {n:Nn} {X:Env} {w w':World} {e:Ending} {l:List (Nat × Rat)} {t:IntKind} {z:Int} (h:(∃ vs:List Value,e=.returned (.tuple #[.agg vs.toArray,.int t z])∧IsRats w' vs l)∧Gr w w'):(Tr.leaf (.st [.vg (cellsR n.r l),.vc (.ci t z z z)]) l.length 0).holds n X w e w':=by
  obtain ⟨⟨vs,rfl,h1⟩,g⟩:=h
  obtain ⟨a,b⟩:=cellsR_ok (X:=X) (n:=n) vs l vs 0 (n.r+l.length) h1 rfl (by omega)
  refine ⟨envV X n.r vs,?_,g,envV_agr X n vs,fun x hx=>?_⟩
  · simp only [SV.den,TV.den,List.map,Cl.den,dnL]
    rw [show cellsR n.r l=cellsR (n.r+0) l from rfl,a]
  · simp only [List.mem_cons,List.not_mem_nil,or_false] at hx
    rcases hx with rfl | rfl
    · exact b
    · exact ⟨rfl,Int.le_refl _,Int.le_refl _⟩
theorem cOf_ok {I:World→Prop} (hI:∀ w,I w→Tab w∧Mx w):ConOK Tryz.prog I 14 cOf:=by
  intro args E n w T hw ha hT hp
  unfold cOf at hT
  split at hT
  · rename_i q0 _ _ q1 _ _ q2 _ _ q3 _ _ c1 c2 c3
    split at hT
    · rename_i k1 x1 k2 x2 k3 x3 e1 e2 e3
      obtain ⟨hb,rfl⟩:=tr_some hT
      simp only [Bool.and_eq_true,Nat.ble_eq] at hb
      obtain ⟨⟨l1,l2⟩,l3⟩:=hb
      have g:=fun c hc=>ha _ (List.mem_singleton.2 rfl) c hc
      obtain ⟨d1,s1⟩:=txC_ok e1 (g c1 (by simp))
      obtain ⟨d2,s2⟩:=txC_ok e2 (g c2 (by simp))
      obtain ⟨d3,s3⟩:=txC_ok e3 (g c3 (by simp))
      show Calls _ _ #[.agg #[.int .i64 q0,.int .i64 q1,.int .i64 q2,.int .i64 q3,c1.den E,c2.den E,c3.den E]] w _
      rw [d1,d2,d3]
      refine (of_c (chk_ok (of_decide_eq_true hp.1)).1 (s1.mono l1) (s2.mono l2) (s3.mono l3) w (hI w hw)).mono fun e w' he=>rats_holds1 he
    · cases hT
  · cases hT
end Go.Proofs.YtaldbfflkpgfoaaGreatDoor
/- Printed by a program of the prover's:a rotation's quaternion. -/
namespace Go.Proofs.YtaldbfflkpgfoaaGreatDoor
open Go.RowKit

set_option maxRecDepth 100000 in
set_option maxHeartbeats 1000000 in
theorem sum_4 {k:Nat} {ab:Nat} {u0 u1 u2 u3:Value} {a:Rat} {v0 v1 v2 v3:Value} {b:Rat} {x0 x1 x2 x3:Value} {c:Rat} {z0 z1 z2 z3:Value} {d:Rat} {w:World} (ha:IsRat w k u0 u1 u2 u3 a) (hb:IsRat w k v0 v1 v2 v3 b) (hc:IsRat w k x0 x1 x2 x3 c) (hd:IsRat w k z0 z1 z2 z3 d) (hL:Lc w ab #[u0,u1,u2,u3,v0,v1,v2,v3,x0,x1,x2,x3,z0,z1,z2,z3] 36) (_hk:k≤20000):
    Calls Tryz.prog 83 #[(.slice (some ⟨ab,0,none⟩) 4 4)] w fun e w'=>(∃ z0 z1 z2 z3,e=.returned (.agg #[z0,z1,z2,z3])∧IsRat w' ((((64+k+1)+k+1)+k+1)+k+1) z0 z1 z2 z3 (((((0+a)+b)+c)+d)))∧Gr w w':=by
 have hbig:=ha.big
 go_enter Tryz.func83,Tryz.ntmps83
 have hB:=Gr.refl w
 refine wp_seq_k (fun K1 k1=>?_)
 refine rg [0] ?_
 refine se ?_
 refine ea 36 #[(.bool false),(.slice none 0 0),(.bool false),(.slice none 0 0)] 2 hB fun b2 w2 g2 L2 o2 q2 hB=>?_
 simp only [p3,p4]
 refine sq_nil ?_
 refine k1 _ _ ?_
 try clear k1 K1
 refine wp_seq_k (fun K3 k3=>?_)
 refine rg [0] ?_
 refine se ?_
 refine ea 36 #[(.bool false),(.slice none 0 0),(.bool false),(.slice none 0 0)] 3 hB fun b4 w4 g4 L4 o4 q4 hB=>?_
 replace hL:=hL.gr g2
 have ne0_4:=hL.ne o4
 have ne2_4:=L2.ne o4
 simp only [p3,p4]
 refine sq_nil ?_
 refine k3 _ _ ?_
 try clear k3 K3
 refine wp_seq_k (fun K5 k5=>?_)
 refine wp_seq_k (fun K6 k6=>?_)
 refine rg [0,1,2] ?_
 refine sv 6 (.slice (some ⟨ab,0,none⟩) 4 4) ?_
 refine sv 7 (.int .i64 4) ?_
 refine sv 8 (.int .i64 0) ?_
 refine sq_nil ?_
 refine k6 _ _ ?_
 try clear k6 K6
 refine wp_block ?_
 refine wp_loop_rounds 5 ?_
 show Code.wp _ _ _ _ _
 refine wp_seq_k (fun K7 k7=>?_)
 refine rg [0] ?_
 refine sv 9 (.bool true) ?_
 refine sq_nil ?_
 refine k7 _ _ ?_
 try clear k7 K7
 refine wp_seq_k (fun K8 k8=>?_)
 refine wp_cond_true rfl ?_
 refine wp_skip ?_
 refine k8 _ _ ?_
 try clear k8 K8
 refine wp_seq_k (fun K9 k9=>?_)
 refine wp_block ?_
 refine wp_seq_k (fun K10 k10=>?_)
 refine rg [0,1,2,3] ?_
 refine sv 10 (.pointer (some ⟨ab,0,none⟩)) ?_
 replace hL:=hL.gr g4
 refine sw 11 (.agg #[u0,u1,u2,u3]) rfl (rl 36 0 [u0,u1,u2,u3] hL) ?_
 refine se ?_
 refine ea 36 #[(.bool false),(.slice none 0 0),(.bool false),(.slice none 0 0)] 5 hB fun b11 w11 g11 L11 o11 q11 hB=>?_
 have ne0_11:=hL.ne o11
 replace L2:=L2.gr g4
 have ne2_11:=L2.ne o11
 have ne4_11:=L4.ne o11
 simp only [p3,p4]
 refine se ?_
 refine es 36 0 (.agg #[u0,u1,u2,u3]) [u0,u1,u2,u3] #[u0,u1,u2,u3] L11 hB q11 ⟨ha.one0,ha.one1,ha.one2,ha.one3,trivial⟩ fun w12 st12 kp12 L11 hB=>?_
 refine sq_nil ?_
 refine k10 _ _ ?_
 try clear k10 K10
 refine rg [0,1,2,3] ?_
 replace L4:=st12.lc (L4.gr g11) ne4_11
 refine sw 12 (.agg #[(.bool false),(.slice none 0 0),(.bool false),(.slice none 0 0)]) rfl (rl 36 0 [(.bool false),(.slice none 0 0),(.bool false),(.slice none 0 0)] L4) ?_
 refine sw 13 (.agg #[u0,u1,u2,u3]) rfl (rl 36 0 [u0,u1,u2,u3] L11) ?_
 refine se ?_
 have kq14:=g2.kp.trans (g4.kp.trans (g11.kp.trans kp12))
 replace ha:=ha.kp kq14
 refine ec 14 (add_r (IsRat.zero _ (k:=64) (Nat.le_refl _)) ha (by omega)) ?_
 rintro e13 w13 ⟨⟨p13,q13,r13,s13,rfl,h13⟩,g13⟩
 refine ⟨_,rfl,?_⟩
 replace hB:=hB.trans g13
 simp only [p3,p4]
 refine se ?_
 replace L4:=L4.gr g13
 refine es 36 0 (.agg #[p13,q13,r13,s13]) [p13,q13,r13,s13] #[p13,q13,r13,s13] L4 hB q4 ⟨h13.one0,h13.one1,h13.one2,h13.one3,trivial⟩ fun w15 st15 kp15 L4 hB=>?_
 refine sq_nil ?_
 refine k9 _ _ ?_
 try clear k9 K9
 refine rg [0,1] ?_
 refine sv 15 (.int .i64 1) ?_
 refine sv 8 (.int .i64 1) ?_
 refine sq_nil ?_
 show Code.rounds _ _ _ _ _ _
 show Code.wp _ _ _ _ _
 refine wp_seq_k (fun K16 k16=>?_)
 refine rg [0] ?_
 refine sv 9 (.bool true) ?_
 refine sq_nil ?_
 refine k16 _ _ ?_
 try clear k16 K16
 refine wp_seq_k (fun K17 k17=>?_)
 refine wp_cond_true rfl ?_
 refine wp_skip ?_
 refine k17 _ _ ?_
 try clear k17 K17
 refine wp_seq_k (fun K18 k18=>?_)
 refine wp_block ?_
 refine wp_seq_k (fun K19 k19=>?_)
 refine rg [0,1,2,3] ?_
 refine sv 10 (.pointer (some ⟨ab,4,none⟩)) ?_
 replace hL:=st15.lc ((st12.lc (hL.gr g11) ne0_11).gr g13) ne0_4
 refine sw 11 (.agg #[v0,v1,v2,v3]) rfl (rl 36 4 [v0,v1,v2,v3] hL) ?_
 refine se ?_
 refine ea 36 #[(.bool false),(.slice none 0 0),(.bool false),(.slice none 0 0)] 5 hB fun b20 w20 g20 L20 o20 q20 hB=>?_
 have ne0_20:=hL.ne o20
 replace L2:=st15.lc ((st12.lc (L2.gr g11) ne2_11).gr g13) ne2_4
 have ne2_20:=L2.ne o20
 have ne4_20:=L4.ne o20
 simp only [p3,p4]
 refine se ?_
 refine es 36 0 (.agg #[v0,v1,v2,v3]) [v0,v1,v2,v3] #[v0,v1,v2,v3] L20 hB q20 ⟨hb.one0,hb.one1,hb.one2,hb.one3,trivial⟩ fun w21 st21 kp21 L20 hB=>?_
 refine sq_nil ?_
 refine k19 _ _ ?_
 try clear k19 K19
 refine rg [0,1,2,3] ?_
 replace L4:=st21.lc (L4.gr g20) ne4_20
 refine sw 12 (.agg #[p13,q13,r13,s13]) rfl (rl 36 0 [p13,q13,r13,s13] L4) ?_
 refine sw 13 (.agg #[v0,v1,v2,v3]) rfl (rl 36 0 [v0,v1,v2,v3] L20) ?_
 refine se ?_
 have kq23:=kp15.trans (g20.kp.trans kp21)
 replace h13:=h13.kp kq23
 have kq24:=g2.kp.trans (g4.kp.trans (g11.kp.trans (kp12.trans (g13.kp.trans (kp15.trans (g20.kp.trans kp21))))))
 replace hb:=hb.kp kq24
 refine ec 14 (add_r h13 hb (by omega)) ?_
 rintro e22 w22 ⟨⟨p22,q22,r22,s22,rfl,h22⟩,g22⟩
 refine ⟨_,rfl,?_⟩
 replace hB:=hB.trans g22
 simp only [p3,p4]
 refine se ?_
 replace L4:=L4.gr g22
 refine es 36 0 (.agg #[p22,q22,r22,s22]) [p22,q22,r22,s22] #[p22,q22,r22,s22] L4 hB q4 ⟨h22.one0,h22.one1,h22.one2,h22.one3,trivial⟩ fun w25 st25 kp25 L4 hB=>?_
 refine sq_nil ?_
 refine k18 _ _ ?_
 try clear k18 K18
 refine rg [0,1] ?_
 refine sv 15 (.int .i64 2) ?_
 refine sv 8 (.int .i64 2) ?_
 refine sq_nil ?_
 show Code.rounds _ _ _ _ _ _
 show Code.wp _ _ _ _ _
 refine wp_seq_k (fun K26 k26=>?_)
 refine rg [0] ?_
 refine sv 9 (.bool true) ?_
 refine sq_nil ?_
 refine k26 _ _ ?_
 try clear k26 K26
 refine wp_seq_k (fun K27 k27=>?_)
 refine wp_cond_true rfl ?_
 refine wp_skip ?_
 refine k27 _ _ ?_
 try clear k27 K27
 refine wp_seq_k (fun K28 k28=>?_)
 refine wp_block ?_
 refine wp_seq_k (fun K29 k29=>?_)
 refine rg [0,1,2,3] ?_
 refine sv 10 (.pointer (some ⟨ab,8,none⟩)) ?_
 replace hL:=st25.lc ((st21.lc (hL.gr g20) ne0_20).gr g22) ne0_4
 refine sw 11 (.agg #[x0,x1,x2,x3]) rfl (rl 36 8 [x0,x1,x2,x3] hL) ?_
 refine se ?_
 refine ea 36 #[(.bool false),(.slice none 0 0),(.bool false),(.slice none 0 0)] 5 hB fun b30 w30 g30 L30 o30 q30 hB=>?_
 have ne0_30:=hL.ne o30
 replace L2:=st25.lc ((st21.lc (L2.gr g20) ne2_20).gr g22) ne2_4
 have ne2_30:=L2.ne o30
 have ne4_30:=L4.ne o30
 simp only [p3,p4]
 refine se ?_
 refine es 36 0 (.agg #[x0,x1,x2,x3]) [x0,x1,x2,x3] #[x0,x1,x2,x3] L30 hB q30 ⟨hc.one0,hc.one1,hc.one2,hc.one3,trivial⟩ fun w31 st31 kp31 L30 hB=>?_
 refine sq_nil ?_
 refine k29 _ _ ?_
 try clear k29 K29
 refine rg [0,1,2,3] ?_
 replace L4:=st31.lc (L4.gr g30) ne4_30
 refine sw 12 (.agg #[p22,q22,r22,s22]) rfl (rl 36 0 [p22,q22,r22,s22] L4) ?_
 refine sw 13 (.agg #[x0,x1,x2,x3]) rfl (rl 36 0 [x0,x1,x2,x3] L30) ?_
 refine se ?_
 have kq33:=kp25.trans (g30.kp.trans kp31)
 replace h22:=h22.kp kq33
 have kq34:=g2.kp.trans (g4.kp.trans (g11.kp.trans (kp12.trans (g13.kp.trans (kp15.trans (g20.kp.trans (kp21.trans (g22.kp.trans (kp25.trans (g30.kp.trans kp31))))))))))
 replace hc:=hc.kp kq34
 refine ec 14 (add_r h22 hc (by omega)) ?_
 rintro e32 w32 ⟨⟨p32,q32,r32,s32,rfl,h32⟩,g32⟩
 refine ⟨_,rfl,?_⟩
 replace hB:=hB.trans g32
 simp only [p3,p4]
 refine se ?_
 replace L4:=L4.gr g32
 refine es 36 0 (.agg #[p32,q32,r32,s32]) [p32,q32,r32,s32] #[p32,q32,r32,s32] L4 hB q4 ⟨h32.one0,h32.one1,h32.one2,h32.one3,trivial⟩ fun w35 st35 kp35 L4 hB=>?_
 refine sq_nil ?_
 refine k28 _ _ ?_
 try clear k28 K28
 refine rg [0,1] ?_
 refine sv 15 (.int .i64 3) ?_
 refine sv 8 (.int .i64 3) ?_
 refine sq_nil ?_
 show Code.rounds _ _ _ _ _ _
 show Code.wp _ _ _ _ _
 refine wp_seq_k (fun K36 k36=>?_)
 refine rg [0] ?_
 refine sv 9 (.bool true) ?_
 refine sq_nil ?_
 refine k36 _ _ ?_
 try clear k36 K36
 refine wp_seq_k (fun K37 k37=>?_)
 refine wp_cond_true rfl ?_
 refine wp_skip ?_
 refine k37 _ _ ?_
 try clear k37 K37
 refine wp_seq_k (fun K38 k38=>?_)
 refine wp_block ?_
 refine wp_seq_k (fun K39 k39=>?_)
 refine rg [0,1,2,3] ?_
 refine sv 10 (.pointer (some ⟨ab,12,none⟩)) ?_
 replace hL:=st35.lc ((st31.lc (hL.gr g30) ne0_30).gr g32) ne0_4
 refine sw 11 (.agg #[z0,z1,z2,z3]) rfl (rl 36 12 [z0,z1,z2,z3] hL) ?_
 refine se ?_
 refine ea 36 #[(.bool false),(.slice none 0 0),(.bool false),(.slice none 0 0)] 5 hB fun b40 w40 g40 L40 o40 q40 hB=>?_
 replace L2:=st35.lc ((st31.lc (L2.gr g30) ne2_30).gr g32) ne2_4
 have ne2_40:=L2.ne o40
 have ne4_40:=L4.ne o40
 simp only [p3,p4]
 refine se ?_
 refine es 36 0 (.agg #[z0,z1,z2,z3]) [z0,z1,z2,z3] #[z0,z1,z2,z3] L40 hB q40 ⟨hd.one0,hd.one1,hd.one2,hd.one3,trivial⟩ fun w41 st41 kp41 L40 hB=>?_
 refine sq_nil ?_
 refine k39 _ _ ?_
 try clear k39 K39
 refine rg [0,1,2,3] ?_
 replace L4:=st41.lc (L4.gr g40) ne4_40
 refine sw 12 (.agg #[p32,q32,r32,s32]) rfl (rl 36 0 [p32,q32,r32,s32] L4) ?_
 refine sw 13 (.agg #[z0,z1,z2,z3]) rfl (rl 36 0 [z0,z1,z2,z3] L40) ?_
 refine se ?_
 have kq43:=kp35.trans (g40.kp.trans kp41)
 replace h32:=h32.kp kq43
 have kq44:=g2.kp.trans (g4.kp.trans (g11.kp.trans (kp12.trans (g13.kp.trans (kp15.trans (g20.kp.trans (kp21.trans (g22.kp.trans (kp25.trans (g30.kp.trans (kp31.trans (g32.kp.trans (kp35.trans (g40.kp.trans kp41))))))))))))))
 replace hd:=hd.kp kq44
 refine ec 14 (add_r h32 hd (by omega)) ?_
 rintro e42 w42 ⟨⟨p42,q42,r42,s42,rfl,h42⟩,g42⟩
 refine ⟨_,rfl,?_⟩
 replace hB:=hB.trans g42
 simp only [p3,p4]
 refine se ?_
 replace L4:=L4.gr g42
 refine es 36 0 (.agg #[p42,q42,r42,s42]) [p42,q42,r42,s42] #[p42,q42,r42,s42] L4 hB q4 ⟨h42.one0,h42.one1,h42.one2,h42.one3,trivial⟩ fun w45 st45 kp45 L4 hB=>?_
 refine sq_nil ?_
 refine k38 _ _ ?_
 try clear k38 K38
 refine rg [0,1] ?_
 refine sv 15 (.int .i64 4) ?_
 refine sv 8 (.int .i64 4) ?_
 refine sq_nil ?_
 show Code.rounds _ _ _ _ _ _
 show Code.wp _ _ _ _ _
 refine wp_seq_k (fun K46 k46=>?_)
 refine rg [0] ?_
 refine sv 9 (.bool false) ?_
 refine sq_nil ?_
 refine k46 _ _ ?_
 try clear k46 K46
 refine wp_seq_k (fun K47 k47=>?_)
 refine wp_cond_false rfl ?_
 refine wp_exit ?_
 simp only [Exit.then,Exit.inBlock,↓reduceIte]
 refine k5 _ _ ?_
 try clear k5 K5
 refine wp_seq_k (fun K48 k48=>?_)
 refine rg [0,1] ?_
 refine sw 16 (.agg #[p42,q42,r42,s42]) rfl (rl 36 0 [p42,q42,r42,s42] L4) ?_
 refine se ?_
 replace L2:=st45.lc ((st41.lc (L2.gr g40) ne2_40).gr g42) ne2_4
 refine es 36 0 (.agg #[p42,q42,r42,s42]) [p42,q42,r42,s42] #[p42,q42,r42,s42] L2 hB q2 ⟨h42.one0,h42.one1,h42.one2,h42.one3,trivial⟩ fun w49 st49 kp49 L2 hB=>?_
 refine sq_nil ?_
 refine k48 _ _ ?_
 try clear k48 K48
 refine wp_ret ?_
 refine bodyPost_ret (v:=(.agg #[p42,q42,r42,s42])) (ret_cell _ _ _ rfl rfl L2 (by kernel_rfl)) rfl ⟨?_,hB⟩
 have kq50:=kp45.trans kp49
 replace h42:=h42.kp kq50
 exact ⟨_,_,_,_,rfl,h42⟩

set_option maxRecDepth 100000 in
set_option maxHeartbeats 16000000 in
theorem mturnq {k ks:Nat} {maax0 maax1 maax2 maax3 maay0 maay1 maay2 maay3 maaz0 maaz1 maaz2 maaz3 mabx0 mabx1 mabx2 mabx3 maby0 maby1 maby2 maby3 mabz0 mabz1 mabz2 mabz3 macx0 macx1 macx2 macx3 macy0 macy1 macy2 macy3 macz0 macz1 macz2 macz3 madx0 madx1 madx2 madx3 mady0 mady1 mady2 mady3 madz0 madz1 madz2 madz3:Value} {ma11 ma12 ma13 ma21 ma22 ma23 ma31 ma32 ma33 ma41 ma42 ma43:Rat} {w:World} (hma11:IsRat w k maax0 maax1 maax2 maax3 ma11) (hma12:IsRat w k maay0 maay1 maay2 maay3 ma12) (hma13:IsRat w k maaz0 maaz1 maaz2 maaz3 ma13) (hma21:IsRat w k mabx0 mabx1 mabx2 mabx3 ma21) (hma22:IsRat w k maby0 maby1 maby2 maby3 ma22) (hma23:IsRat w k mabz0 mabz1 mabz2 mabz3 ma23) (hma31:IsRat w k macx0 macx1 macx2 macx3 ma31) (hma32:IsRat w k macy0 macy1 macy2 macy3 ma32) (hma33:IsRat w k macz0 macz1 macz2 macz3 ma33) (hma41:IsRat w ks madx0 madx1 madx2 madx3 ma41) (hma42:IsRat w ks mady0 mady1 mady2 mady3 ma42) (hma43:IsRat w ks madz0 madz1 madz2 madz3 ma43) (_hk:k≤800) (h64:64≤k):
    Calls Tryz.prog 67 #[(.agg #[maax0,maax1,maax2,maax3,maay0,maay1,maay2,maay3,maaz0,maaz1,maaz2,maaz3,mabx0,mabx1,mabx2,mabx3,maby0,maby1,maby2,maby3,mabz0,mabz1,mabz2,mabz3,macx0,macx1,macx2,macx3,macy0,macy1,macy2,macy3,macz0,macz1,macz2,macz3,madx0,madx1,madx2,madx3,mady0,mady1,mady2,mady3,madz0,madz1,madz2,madz3])] w fun e w'=>(∃ t0 t1 t2 t3 t4 t5 t6 t7,e=.returned (.agg #[t0,t1,t2,t3,t4,t5,t6,t7])∧IsInt w' (40128) t0 t1 (wzq (qrow ma11 ma12 ma13 ma21 ma22 ma23 ma31 ma32 ma33) 0)∧IsInt w' (40128) t2 t3 (wzq (qrow ma11 ma12 ma13 ma21 ma22 ma23 ma31 ma32 ma33) 1)∧IsInt w' (40128) t4 t5 (wzq (qrow ma11 ma12 ma13 ma21 ma22 ma23 ma31 ma32 ma33) 2)∧IsInt w' (40128) t6 t7 (wzq (qrow ma11 ma12 ma13 ma21 ma22 ma23 ma31 ma32 ma33) 3))∧Gr w w':=by
 have hmaone:One1 [maax0,maax1,maax2,maax3,maay0,maay1,maay2,maay3,maaz0,maaz1,maaz2,maaz3,mabx0,mabx1,mabx2,mabx3,maby0,maby1,maby2,maby3,mabz0,mabz1,mabz2,mabz3,macx0,macx1,macx2,macx3,macy0,macy1,macy2,macy3,macz0,macz1,macz2,macz3,madx0,madx1,madx2,madx3,mady0,mady1,mady2,mady3,madz0,madz1,madz2,madz3]:=⟨hma11.one0,hma11.one1,hma11.one2,hma11.one3,hma12.one0,hma12.one1,hma12.one2,hma12.one3,hma13.one0,hma13.one1,hma13.one2,hma13.one3,hma21.one0,hma21.one1,hma21.one2,hma21.one3,hma22.one0,hma22.one1,hma22.one2,hma22.one3,hma23.one0,hma23.one1,hma23.one2,hma23.one3,hma31.one0,hma31.one1,hma31.one2,hma31.one3,hma32.one0,hma32.one1,hma32.one2,hma32.one3,hma33.one0,hma33.one1,hma33.one2,hma33.one3,hma41.one0,hma41.one1,hma41.one2,hma41.one3,hma42.one0,hma42.one1,hma42.one2,hma42.one3,hma43.one0,hma43.one1,hma43.one2,hma43.one3,trivial⟩
 refine enterN Tryz.func67 rfl ?_
 simp only [Tryz.ntmps67,List.size_toArray,List.length_cons,List.length_nil,Nat.reduceAdd,Nat.reduceSub,Array.replicate_succ,Array.replicate_zero,List.push_toArray,List.append_toArray,List.nil_append,List.cons_append]
 have hB:=Gr.refl w
 refine wp_seq_k (fun K1 k1=>?_)
 refine rg [0,1] ?_
 refine se ?_
 refine eb 41 #[maax0,maax1,maax2,maax3,maay0,maay1,maay2,maay3,maaz0,maaz1,maaz2,maaz3,mabx0,mabx1,mabx2,mabx3,maby0,maby1,maby2,maby3,mabz0,mabz1,mabz2,mabz3,macx0,macx1,macx2,macx3,macy0,macy1,macy2,macy3,macz0,macz1,macz2,macz3,madx0,madx1,madx2,madx3,mady0,mady1,mady2,mady3,madz0,madz1,madz2,madz3] 1 hB fun b2 w2 g2 L2 o2 q2 hB=>?_
 simp only [p3,p4]
 refine se ?_
 refine ea 125 #[(.bool false),(.slice none 0 0),(.bool false),(.slice none 0 0),(.bool false),(.slice none 0 0),(.bool false),(.slice none 0 0)] 2 hB fun b3 w3 g3 L3 o3 q3 hB=>?_
 simp only [p3,p4]
 refine sq_nil ?_
 refine k1 _ _ ?_
 try clear k1 K1
 refine wp_seq_k (fun K4 k4=>?_)
 refine rg [0] ?_
 refine se ?_
 refine ea 156 #[(.bool false),(.slice none 0 0),(.bool false),(.slice none 0 0),(.bool false),(.slice none 0 0),(.bool false),(.slice none 0 0),(.bool false),(.slice none 0 0),(.bool false),(.slice none 0 0),(.bool false),(.slice none 0 0),(.bool false),(.slice none 0 0),(.bool false),(.slice none 0 0),(.bool false),(.slice none 0 0),(.bool false),(.slice none 0 0),(.bool false),(.slice none 0 0),(.bool false),(.slice none 0 0),(.bool false),(.slice none 0 0),(.bool false),(.slice none 0 0),(.bool false),(.slice none 0 0),(.bool false),(.slice none 0 0),(.bool false),(.slice none 0 0)] 3 hB fun b5 w5 g5 L5 o5 q5 hB=>?_
 replace L2:=L2.gr g3
 have ne2_5:=L2.ne o5
 have ne3_5:=L3.ne o5
 simp only [p3,p4]
 refine sq_nil ?_
 refine k4 _ _ ?_
 try clear k4 K4
 refine wp_seq_k (fun K6 k6=>?_)
 refine wp_seq_k (fun K7 k7=>?_)
 refine rg [0,1] ?_
 replace L2:=L2.gr g5
 refine sw 9 (.agg #[maax0,maax1,maax2,maax3,maay0,maay1,maay2,maay3,maaz0,maaz1,maaz2,maaz3,mabx0,mabx1,mabx2,mabx3,maby0,maby1,maby2,maby3,mabz0,mabz1,mabz2,mabz3,macx0,macx1,macx2,macx3,macy0,macy1,macy2,macy3,macz0,macz1,macz2,macz3,madx0,madx1,madx2,madx3,mady0,mady1,mady2,mady3,madz0,madz1,madz2,madz3]) rfl (rl 41 0 [maax0,maax1,maax2,maax3,maay0,maay1,maay2,maay3,maaz0,maaz1,maaz2,maaz3,mabx0,mabx1,mabx2,mabx3,maby0,maby1,maby2,maby3,mabz0,mabz1,mabz2,mabz3,macx0,macx1,macx2,macx3,macy0,macy1,macy2,macy3,macz0,macz1,macz2,macz3,madx0,madx1,madx2,madx3,mady0,mady1,mady2,mady3,madz0,madz1,madz2,madz3] L2) ?_
 refine se ?_
 refine ec 10 (ments _ hma11.one0 hma11.one1 hma11.one2 hma11.one3 hma12.one0 hma12.one1 hma12.one2 hma12.one3 hma13.one0 hma13.one1 hma13.one2 hma13.one3 hma21.one0 hma21.one1 hma21.one2 hma21.one3 hma22.one0 hma22.one1 hma22.one2 hma22.one3 hma23.one0 hma23.one1 hma23.one2 hma23.one3 hma31.one0 hma31.one1 hma31.one2 hma31.one3 hma32.one0 hma32.one1 hma32.one2 hma32.one3 hma33.one0 hma33.one1 hma33.one2 hma33.one3 hma41.one0 hma41.one1 hma41.one2 hma41.one3 hma42.one0 hma42.one1 hma42.one2 hma42.one3 hma43.one0 hma43.one1 hma43.one2 hma43.one3) ?_
 rintro e8 w8 ⟨⟨bm8,rfl,hbm8⟩,g8⟩
 refine ⟨_,rfl,?_⟩
 replace hB:=hB.trans g8
 simp only [p3,p4]
 refine sq_nil ?_
 refine k7 _ _ ?_
 try clear k7 K7
 refine wp_block ?_
 replace L2:=L2.gr g8
 replace L3:=L3.gr (g5.trans g8)
 replace L5:=L5.gr g8
 refine rf_ent (Ds:=[]) (d1:=4) (d2:=5) (ent_stops _ bm8 maax0 maax1 maax2 maax3 maay0 maay1 maay2 maay3 maaz0 maaz1 maaz2 maaz3 mabx0 mabx1 mabx2 mabx3 maby0 maby1 maby2 maby3 mabz0 mabz1 mabz2 mabz3 macx0 macx1 macx2 macx3 macy0 macy1 macy2 macy3 macz0 macz1 macz2 macz3 madx0 madx1 madx2 madx3 mady0 mady1 mady2 mady3 madz0 madz1 madz2 madz3 hma11.one0 hma11.one1 hma11.one2 hma11.one3 hma12.one0 hma12.one1 hma12.one2 hma12.one3 hma13.one0 hma13.one1 hma13.one2 hma13.one3 hma21.one0 hma21.one1 hma21.one2 hma21.one3 hma22.one0 hma22.one1 hma22.one2 hma22.one3 hma23.one0 hma23.one1 hma23.one2 hma23.one3 hma31.one0 hma31.one1 hma31.one2 hma31.one3 hma32.one0 hma32.one1 hma32.one2 hma32.one3 hma33.one0 hma33.one1 hma33.one2 hma33.one3 hma41.one0 hma41.one1 hma41.one2 hma41.one3 hma42.one0 hma42.one1 hma42.one2 hma42.one3 hma43.one0 hma43.one1 hma43.one2 hma43.one3 _ hbm8) (fun prs W'=>Gr w W'∧Kp w8 W'∧Lc W' b2 #[maax0,maax1,maax2,maax3,maay0,maay1,maay2,maay3,maaz0,maaz1,maaz2,maaz3,mabx0,mabx1,mabx2,mabx3,maby0,maby1,maby2,maby3,mabz0,mabz1,mabz2,mabz3,macx0,macx1,macx2,macx3,macy0,macy1,macy2,macy3,macz0,macz1,macz2,macz3,madx0,madx1,madx2,madx3,mady0,mady1,mady2,mady3,madz0,madz1,madz2,madz3] 41∧Lc W' b3 #[(.bool false),(.slice none 0 0),(.bool false),(.slice none 0 0),(.bool false),(.slice none 0 0),(.bool false),(.slice none 0 0)] 125∧∃ xs,Fills 9 [maax0,maax1,maax2,maax3,maay0,maay1,maay2,maay3,maaz0,maaz1,maaz2,maaz3,mabx0,mabx1,mabx2,mabx3,maby0,maby1,maby2,maby3,mabz0,mabz1,mabz2,mabz3,macx0,macx1,macx2,macx3,macy0,macy1,macy2,macy3,macz0,macz1,macz2,macz3,madx0,madx1,madx2,madx3,mady0,mady1,mady2,mady3,madz0,madz1,madz2,madz3] prs xs∧Lc W' b5 xs.toArray 156) (fun _ _ _=>False) ((own_gr hB.size).and ((own_kp _ _).and ((own_lc _ _ _ _).and ((own_lc _ _ _ _).and (own_ex fun xs=>(ownFrom_pure _ _).and (own_lc _ _ _ _)))))) (fun _ _ _ _ _ h _ _=>h) ⟨hB,Kp.refl _,L2,L3,⟨_,⟨rfl,one1_all (by decide),fun _ h=>absurd h (by simp)⟩,L5⟩⟩ ?_ ?_ ?_ ?_ rfl (enters_of Tryz.func98 (by kernel_rfl) rfl)
 ·intro ll kk W K hK
  try simp only [p3,p4]
  refine wpIn_seq_k (fun K1 k1=>?_)
  refine rgI (wide_round ll) [0] ?_
  refine sv 4 (.int .i64 (kk.val:Int)) ?_
  try simp only [p3,p4]
  refine sq_nil ?_
  refine k1 _ _ ?_
  refine rgY [0,1] ?_
  refine alstY (wide_round ll) 5 36 (.agg #[(.bool false),(.slice none 0 0),(.bool false),(.slice none 0 0)]) (ent [maax0,maax1,maax2,maax3,maay0,maay1,maay2,maay3,maaz0,maaz1,maaz2,maaz3,mabx0,mabx1,mabx2,mabx3,maby0,maby1,maby2,maby3,mabz0,mabz1,mabz2,mabz3,macx0,macx1,macx2,macx3,macy0,macy1,macy2,macy3,macz0,macz1,macz2,macz3,madx0,madx1,madx2,madx3,mady0,mady1,mady2,mady3,madz0,madz1,madz2,madz3] kk) ?_ (ent_one hmaone rfl kk)
  try simp only [p3,p4]
  refine nilY ?_
  exact hK
 ·rintro ll bB prs kk W ⟨hB,hkW,L2,L3,xs,hF,L5⟩ hqB hLB
  try simp only [p3,p4]
  refine wpIn_block ?_
  refine wpIn_seq_k (fun K1 k1=>?_)
  refine rgI (wide_round ll) [0,1] ?_
  refine sv 13 (.int .i64 (kk.val:Int)) ?_
  try simp only [p3,p4]
  refine sv 14 (.bool (decide ((kk.val:Int)<9))) ?_
  try simp only [p3,p4]
  refine sq_nil ?_
  refine k1 _ _ ?_
  clear k1 K1
  refine wpIn_cond_split rfl (fun hb=>?_) (fun hb=>?_)
  ·have hlt:kk.val<9:=by have:=of_decide_eq_true hb;omega
   refine rgI (wide_round ll) [0,1,2,3] ?_
   refine sv 15 (.int .i64 (kk.val:Int)) ?_
   try simp only [p3,p4]
   refine sw 16 (.agg (ent [maax0,maax1,maax2,maax3,maay0,maay1,maay2,maay3,maaz0,maaz1,maaz2,maaz3,mabx0,mabx1,mabx2,mabx3,maby0,maby1,maby2,maby3,mabz0,mabz1,mabz2,mabz3,macx0,macx1,macx2,macx3,macy0,macy1,macy2,macy3,macz0,macz1,macz2,macz3,madx0,madx1,madx2,madx3,mady0,mady1,mady2,mady3,madz0,madz1,madz2,madz3] kk).toArray) rfl (rl 36 0 (ent [maax0,maax1,maax2,maax3,maay0,maay1,maay2,maay3,maaz0,maaz1,maaz2,maaz3,mabx0,mabx1,mabx2,mabx3,maby0,maby1,maby2,maby3,mabz0,mabz1,mabz2,mabz3,macx0,macx1,macx2,macx3,macy0,macy1,macy2,macy3,macz0,macz1,macz2,macz3,madx0,madx1,madx2,madx3,mady0,mady1,mady2,mady3,madz0,madz1,madz2,madz3] kk) hLB) ?_
   try simp only [p3,p4]
   refine sw 17 (.pointer (some ⟨b5,4*kk.val,none⟩)) rfl (rv_aix 156 _ _ b5 9 36 4 kk.val hlt) ?_
   try simp only [p3,p4]
   obtain ⟨ys,hys,hF2⟩:=hF.step hmaone rfl hlt
   refine se ?_
   refine es 36 (4*kk.val) _ (ent [maax0,maax1,maax2,maax3,maay0,maay1,maay2,maay3,maaz0,maaz1,maaz2,maaz3,mabx0,mabx1,mabx2,mabx3,maby0,maby1,maby2,maby3,mabz0,mabz1,mabz2,mabz3,macx0,macx1,macx2,macx3,macy0,macy1,macy2,macy3,macz0,macz1,macz2,macz3,madx0,madx1,madx2,madx3,mady0,mady1,mady2,mady3,madz0,madz1,madz2,madz3] kk) ys.toArray L5 hB q5 (ent_one hmaone rfl kk) ?_ (hoff:=by simp [hF.len,ent];omega) (hcs:=hys)
   intro w1 st kp N g
   refine sq_nil ?_
   have ho:=others_st st L5 (Nat.le_of_eq (by rw [st.size]))
   exact ⟨ho.from _,ho.walks,g,hkW.trans kp,st.lc L2 ne2_5,st.lc L3 ne3_5,ys,hF2,N⟩
  ·have hlt:¬ kk.val<9:=by have:=of_decide_eq_false hb;omega
   refine wpIn_skip ?_
   exact ⟨(KeepsOthers.refl _).from _,KeepsWalks.refl _,hB,hkW,L2,L3,xs,hF.skip hlt,L5⟩
 ·rintro D9 w9 Q9 ⟨hB2,hk9,L2_9,L3_9,xs,hF,L5_9⟩ L9
  have he9:=hF.done (by decide) rfl
  subst he9
  clear hF
  have ne3_9:=L3.ne Q9
  replace Q9:=Nat.le_trans (Below.size hB) Q9
  replace hB:=hB2
  replace L3:=L3_9
  replace L5:=L5_9
  change IsMk w9 D9 at L9
  change Lc w9 b5 #[maax0,maax1,maax2,maax3,maay0,maay1,maay2,maay3,maaz0,maaz1,maaz2,maaz3,mabx0,mabx1,mabx2,mabx3,maby0,maby1,maby2,maby3,mabz0,mabz1,mabz2,mabz3,macx0,macx1,macx2,macx3,macy0,macy1,macy2,macy3,macz0,macz1,macz2,macz3] 156 at L5
  refine k6 _ _ ?_
  try clear k6 K6
  refine wp_seq_k (fun K10 k10=>?_)
  refine rg [0,1,2] ?_
  refine se ?_
  refine ec 18 (from_r (1) (by omega) (by omega) _) ?_
  rintro e11 w11 ⟨⟨p11,q11,r11,s11,rfl,h11⟩,g11⟩
  refine ⟨_,rfl,?_⟩
  replace hB:=hB.trans g11
  simp only [p3,p4]
  refine se ?_
  refine ea 36 #[(.bool false),(.slice none 0 0),(.bool false),(.slice none 0 0)] 6 hB fun b12 w12 g12 L12 o12 q12 hB=>?_
  replace L3:=L3.gr g11
  have ne3_12:=L3.ne o12
  replace L5:=L5.gr g11
  have ne5_12:=L5.ne o12
  replace L9:=L9.gr g11
  have ne9_12:=L9.ne o12
  simp only [p3,p4]
  refine se ?_
  refine es 36 0 (.agg #[p11,q11,r11,s11]) [p11,q11,r11,s11] #[p11,q11,r11,s11] L12 hB q12 ⟨h11.one0,h11.one1,h11.one2,h11.one3,trivial⟩ fun w13 st13 kp13 L12 hB=>?_
  refine sq_nil ?_
  refine k10 _ _ ?_
  try clear k10 K10
  refine wp_seq_k (fun K14 k14=>?_)
  have hz15:=Below.size hB
  replace L3:=st13.lc (L3.gr g12) ne3_12
  have lt3_15:=L3.lt
  replace L5:=st13.lc (L5.gr g12) ne5_12
  have lt5_15:=L5.lt
  have lt12_15:=L12.lt
  replace L9:=(L9.gr g12).st st13 ne9_12
  have lt9_15:=L9.lt
  have gd15:=Gr.drew w13
  replace hB:=hB.trans gd15
  replace L5:=L5.gr gd15
  replace L12:=L12.gr gd15
  refine wp_region_floM (fun w'=>Lc w' b5 #[maax0,maax1,maax2,maax3,maay0,maay1,maay2,maay3,maaz0,maaz1,maaz2,maaz3,mabx0,mabx1,mabx2,mabx3,maby0,maby1,maby2,maby3,mabz0,mabz1,mabz2,mabz3,macx0,macx1,macx2,macx3,macy0,macy1,macy2,macy3,macz0,macz1,macz2,macz3] 156∧Lc w' b12 #[p11,q11,r11,s11] 36) [(true,0),(true,1),(true,2),(true,3),(true,4),(true,5),(true,6),(true,9),(true,10),(true,11),(true,12),(true,14),(true,15),(true,16),(true,17),(true,19),(true,20),(true,21),(true,22),(true,25),(true,26),(true,27),(true,28),(true,30),(true,31),(true,32),(true,34),(true,35),(true,36),(true,37),(true,40),(true,41),(true,42),(true,43),(true,45),(true,46),(true,47),(true,48),(true,51),(true,52),(true,53),(true,54),(true,56),(true,57),(true,58),(true,59),(true,61),(true,62),(true,63),(true,65),(true,66),(true,67),(true,68),(true,71),(true,72),(true,73),(true,74),(true,77),(true,78),(true,79),(true,80),(true,82),(true,83),(true,84),(true,85),(true,87),(true,88),(true,89),(true,90),(true,92),(true,93),(true,94),(true,96),(true,97),(true,98),(true,99),(false,7),(false,8),(false,13),(false,18),(false,23),(true,24),(false,29),(false,33),(false,38),(false,39),(false,44),(false,49),(true,50),(false,55),(false,60),(false,64),(false,69),(false,70),(false,75),(true,76),(false,81),(false,86),(false,91),(false,95),(false,100),(false,101),(true,102),(true,103)] [⟨104,7,158,#[(.bool false),(.slice none 0 0),(.bool false),(.slice none 0 0),(.bool false),(.slice none 0 0),(.bool false),(.slice none 0 0),(.bool false),(.slice none 0 0),(.bool false),(.slice none 0 0),(.bool false),(.slice none 0 0),(.bool false),(.slice none 0 0),(.bool false),(.slice none 0 0),(.bool false),(.slice none 0 0),(.bool false),(.slice none 0 0),(.bool false),(.slice none 0 0),(.bool false),(.slice none 0 0),(.bool false),(.slice none 0 0),(.bool false),(.slice none 0 0),(.bool false),(.slice none 0 0),(.bool false),(.slice none 0 0),(.bool false),(.slice none 0 0),(.bool false),(.slice none 0 0),(.bool false),(.slice none 0 0),(.bool false),(.slice none 0 0),(.bool false),(.slice none 0 0),(.bool false),(.slice none 0 0),(.bool false),(.slice none 0 0),(.bool false),(.slice none 0 0),(.bool false),(.slice none 0 0),(.bool false),(.slice none 0 0),(.bool false),(.slice none 0 0),(.bool false),(.slice none 0 0),(.bool false),(.slice none 0 0),(.bool false),(.slice none 0 0),(.bool false),(.slice none 0 0)]⟩] [(false,105)] (by kernel_rfl) (by kernel_rfl) (by kernel_rfl) (by kernel_rfl) (by kernel_rfl) (by decide) (fun _ _ _ _ _ h=>h) (fun _ _ _ _ _ h=>h) (fun w' o h=>⟨Lc.gr h.1 (Gr.alloc w' o),Lc.gr h.2 (Gr.alloc w' o)⟩) ⟨L5,L12⟩ (by intro f hf;simp only [List.mem_cons,List.not_mem_nil,or_false] at hf;rcases hf with rfl<;>first | exact alloc_zero (z:=(.agg #[(.bool false),(.slice none 0 0),(.bool false),(.slice none 0 0),(.bool false),(.slice none 0 0),(.bool false),(.slice none 0 0),(.bool false),(.slice none 0 0),(.bool false),(.slice none 0 0),(.bool false),(.slice none 0 0),(.bool false),(.slice none 0 0),(.bool false),(.slice none 0 0),(.bool false),(.slice none 0 0),(.bool false),(.slice none 0 0),(.bool false),(.slice none 0 0),(.bool false),(.slice none 0 0),(.bool false),(.slice none 0 0),(.bool false),(.slice none 0 0),(.bool false),(.slice none 0 0),(.bool false),(.slice none 0 0),(.bool false),(.slice none 0 0),(.bool false),(.slice none 0 0),(.bool false),(.slice none 0 0),(.bool false),(.slice none 0 0),(.bool false),(.slice none 0 0),(.bool false),(.slice none 0 0),(.bool false),(.slice none 0 0),(.bool false),(.slice none 0 0),(.bool false),(.slice none 0 0),(.bool false),(.slice none 0 0),(.bool false),(.slice none 0 0),(.bool false),(.slice none 0 0),(.bool false),(.slice none 0 0),(.bool false),(.slice none 0 0),(.bool false),(.slice none 0 0)])) (by kernel_rfl) rfl) ?_
  refine fw 19 (.agg #[p11,q11,r11,s11]) rfl (fun w' hS=>(rl 36 0 [p11,q11,r11,s11] hS.2)) ?_
  refine fv 20 (.pointer (some ⟨b5,0,none⟩)) ?_
  refine fw 21 (.agg #[maax0,maax1,maax2,maax3]) rfl (fun w' hS=>(rl 36 0 [maax0,maax1,maax2,maax3] hS.1)) ?_
  refine fv 22 (.pointer (some ⟨b5,16,none⟩)) ?_
  refine fw 23 (.agg #[maby0,maby1,maby2,maby3]) rfl (fun w' hS=>(rl 36 16 [maby0,maby1,maby2,maby3] hS.1)) ?_
  refine fv 24 (.pointer (some ⟨b5,32,none⟩)) ?_
  refine fw 25 (.agg #[macz0,macz1,macz2,macz3]) rfl (fun w' hS=>(rl 36 32 [macz0,macz1,macz2,macz3] hS.1)) ?_
  refine fv 28 (.pointer (some ⟨b5,28,none⟩)) ?_
  refine fw 29 (.agg #[macy0,macy1,macy2,macy3]) rfl (fun w' hS=>(rl 36 28 [macy0,macy1,macy2,macy3] hS.1)) ?_
  refine fv 30 (.pointer (some ⟨b5,20,none⟩)) ?_
  refine fw 31 (.agg #[mabz0,mabz1,mabz2,mabz3]) rfl (fun w' hS=>(rl 36 20 [mabz0,mabz1,mabz2,mabz3] hS.1)) ?_
  refine fv 33 (.pointer (some ⟨b5,8,none⟩)) ?_
  refine fw 34 (.agg #[maaz0,maaz1,maaz2,maaz3]) rfl (fun w' hS=>(rl 36 8 [maaz0,maaz1,maaz2,maaz3] hS.1)) ?_
  refine fv 35 (.pointer (some ⟨b5,24,none⟩)) ?_
  refine fw 36 (.agg #[macx0,macx1,macx2,macx3]) rfl (fun w' hS=>(rl 36 24 [macx0,macx1,macx2,macx3] hS.1)) ?_
  refine fv 38 (.pointer (some ⟨b5,12,none⟩)) ?_
  refine fw 39 (.agg #[mabx0,mabx1,mabx2,mabx3]) rfl (fun w' hS=>(rl 36 12 [mabx0,mabx1,mabx2,mabx3] hS.1)) ?_
  refine fv 40 (.pointer (some ⟨b5,4,none⟩)) ?_
  refine fw 41 (.agg #[maay0,maay1,maay2,maay3]) rfl (fun w' hS=>(rl 36 4 [maay0,maay1,maay2,maay3] hS.1)) ?_
  refine fv 44 (.pointer (some ⟨b5,28,none⟩)) ?_
  refine fw 45 (.agg #[macy0,macy1,macy2,macy3]) rfl (fun w' hS=>(rl 36 28 [macy0,macy1,macy2,macy3] hS.1)) ?_
  refine fv 46 (.pointer (some ⟨b5,20,none⟩)) ?_
  refine fw 47 (.agg #[mabz0,mabz1,mabz2,mabz3]) rfl (fun w' hS=>(rl 36 20 [mabz0,mabz1,mabz2,mabz3] hS.1)) ?_
  refine fw 49 (.agg #[p11,q11,r11,s11]) rfl (fun w' hS=>(rl 36 0 [p11,q11,r11,s11] hS.2)) ?_
  refine fv 50 (.pointer (some ⟨b5,0,none⟩)) ?_
  refine fw 51 (.agg #[maax0,maax1,maax2,maax3]) rfl (fun w' hS=>(rl 36 0 [maax0,maax1,maax2,maax3] hS.1)) ?_
  refine fv 53 (.pointer (some ⟨b5,16,none⟩)) ?_
  refine fw 54 (.agg #[maby0,maby1,maby2,maby3]) rfl (fun w' hS=>(rl 36 16 [maby0,maby1,maby2,maby3] hS.1)) ?_
  refine fv 55 (.pointer (some ⟨b5,32,none⟩)) ?_
  refine fw 56 (.agg #[macz0,macz1,macz2,macz3]) rfl (fun w' hS=>(rl 36 32 [macz0,macz1,macz2,macz3] hS.1)) ?_
  refine fv 59 (.pointer (some ⟨b5,4,none⟩)) ?_
  refine fw 60 (.agg #[maay0,maay1,maay2,maay3]) rfl (fun w' hS=>(rl 36 4 [maay0,maay1,maay2,maay3] hS.1)) ?_
  refine fv 61 (.pointer (some ⟨b5,12,none⟩)) ?_
  refine fw 62 (.agg #[mabx0,mabx1,mabx2,mabx3]) rfl (fun w' hS=>(rl 36 12 [mabx0,mabx1,mabx2,mabx3] hS.1)) ?_
  refine fv 64 (.pointer (some ⟨b5,8,none⟩)) ?_
  refine fw 65 (.agg #[maaz0,maaz1,maaz2,maaz3]) rfl (fun w' hS=>(rl 36 8 [maaz0,maaz1,maaz2,maaz3] hS.1)) ?_
  refine fv 66 (.pointer (some ⟨b5,24,none⟩)) ?_
  refine fw 67 (.agg #[macx0,macx1,macx2,macx3]) rfl (fun w' hS=>(rl 36 24 [macx0,macx1,macx2,macx3] hS.1)) ?_
  refine fv 70 (.pointer (some ⟨b5,8,none⟩)) ?_
  refine fw 71 (.agg #[maaz0,maaz1,maaz2,maaz3]) rfl (fun w' hS=>(rl 36 8 [maaz0,maaz1,maaz2,maaz3] hS.1)) ?_
  refine fv 72 (.pointer (some ⟨b5,24,none⟩)) ?_
  refine fw 73 (.agg #[macx0,macx1,macx2,macx3]) rfl (fun w' hS=>(rl 36 24 [macx0,macx1,macx2,macx3] hS.1)) ?_
  refine fv 75 (.pointer (some ⟨b5,4,none⟩)) ?_
  refine fw 76 (.agg #[maay0,maay1,maay2,maay3]) rfl (fun w' hS=>(rl 36 4 [maay0,maay1,maay2,maay3] hS.1)) ?_
  refine fv 77 (.pointer (some ⟨b5,12,none⟩)) ?_
  refine fw 78 (.agg #[mabx0,mabx1,mabx2,mabx3]) rfl (fun w' hS=>(rl 36 12 [mabx0,mabx1,mabx2,mabx3] hS.1)) ?_
  refine fw 80 (.agg #[p11,q11,r11,s11]) rfl (fun w' hS=>(rl 36 0 [p11,q11,r11,s11] hS.2)) ?_
  refine fv 81 (.pointer (some ⟨b5,16,none⟩)) ?_
  refine fw 82 (.agg #[maby0,maby1,maby2,maby3]) rfl (fun w' hS=>(rl 36 16 [maby0,maby1,maby2,maby3] hS.1)) ?_
  refine fv 84 (.pointer (some ⟨b5,0,none⟩)) ?_
  refine fw 85 (.agg #[maax0,maax1,maax2,maax3]) rfl (fun w' hS=>(rl 36 0 [maax0,maax1,maax2,maax3] hS.1)) ?_
  refine fv 86 (.pointer (some ⟨b5,32,none⟩)) ?_
  refine fw 87 (.agg #[macz0,macz1,macz2,macz3]) rfl (fun w' hS=>(rl 36 32 [macz0,macz1,macz2,macz3] hS.1)) ?_
  refine fv 90 (.pointer (some ⟨b5,20,none⟩)) ?_
  refine fw 91 (.agg #[mabz0,mabz1,mabz2,mabz3]) rfl (fun w' hS=>(rl 36 20 [mabz0,mabz1,mabz2,mabz3] hS.1)) ?_
  refine fv 92 (.pointer (some ⟨b5,28,none⟩)) ?_
  refine fw 93 (.agg #[macy0,macy1,macy2,macy3]) rfl (fun w' hS=>(rl 36 28 [macy0,macy1,macy2,macy3] hS.1)) ?_
  refine fv 96 (.pointer (some ⟨b5,12,none⟩)) ?_
  refine fw 97 (.agg #[mabx0,mabx1,mabx2,mabx3]) rfl (fun w' hS=>(rl 36 12 [mabx0,mabx1,mabx2,mabx3] hS.1)) ?_
  refine fv 98 (.pointer (some ⟨b5,4,none⟩)) ?_
  refine fw 99 (.agg #[maay0,maay1,maay2,maay3]) rfl (fun w' hS=>(rl 36 4 [maay0,maay1,maay2,maay3] hS.1)) ?_
  refine fv 101 (.pointer (some ⟨b5,8,none⟩)) ?_
  refine fw 102 (.agg #[maaz0,maaz1,maaz2,maaz3]) rfl (fun w' hS=>(rl 36 8 [maaz0,maaz1,maaz2,maaz3] hS.1)) ?_
  refine fv 103 (.pointer (some ⟨b5,24,none⟩)) ?_
  refine fw 104 (.agg #[macx0,macx1,macx2,macx3]) rfl (fun w' hS=>(rl 36 24 [macx0,macx1,macx2,macx3] hS.1)) ?_
  refine fv 106 (.pointer (some ⟨b5,20,none⟩)) ?_
  refine fw 107 (.agg #[mabz0,mabz1,mabz2,mabz3]) rfl (fun w' hS=>(rl 36 20 [mabz0,mabz1,mabz2,mabz3] hS.1)) ?_
  refine fv 108 (.pointer (some ⟨b5,28,none⟩)) ?_
  refine fw 109 (.agg #[macy0,macy1,macy2,macy3]) rfl (fun w' hS=>(rl 36 28 [macy0,macy1,macy2,macy3] hS.1)) ?_
  refine fw 111 (.agg #[p11,q11,r11,s11]) rfl (fun w' hS=>(rl 36 0 [p11,q11,r11,s11] hS.2)) ?_
  refine fv 112 (.pointer (some ⟨b5,32,none⟩)) ?_
  refine fw 113 (.agg #[macz0,macz1,macz2,macz3]) rfl (fun w' hS=>(rl 36 32 [macz0,macz1,macz2,macz3] hS.1)) ?_
  refine fv 115 (.pointer (some ⟨b5,0,none⟩)) ?_
  refine fw 116 (.agg #[maax0,maax1,maax2,maax3]) rfl (fun w' hS=>(rl 36 0 [maax0,maax1,maax2,maax3] hS.1)) ?_
  refine fv 117 (.pointer (some ⟨b5,16,none⟩)) ?_
  refine fw 118 (.agg #[maby0,maby1,maby2,maby3]) rfl (fun w' hS=>(rl 36 16 [maby0,maby1,maby2,maby3] hS.1)) ?_
  refine flo_eff rfl rfl (fun w16 g16 _ K16 k16=>?_)
  replace hB:=hB.trans g16
  refine eff_bs 36 4 #[p11,q11,r11,s11,maax0,maax1,maax2,maax3,maby0,maby1,maby2,maby3,macz0,macz1,macz2,macz3] (some 26) rfl (fun _=>by kernel_rfl) (fun b17 w17 g17 L17 q17=>?_)
  replace L3:=L3.gr (gd15.trans g16)
  replace L5:=L5.gr g16
  replace L12:=L12.gr g16
  replace L9:=(L9.gr gd15).gr g16
  replace hB:=hB.trans g17
  replace L5:=L5.gr g17
  replace L12:=L12.gr g17
  refine k16 _ _ g17 ⟨L5,L12⟩ ?_
  try clear k16 K16
  simp only [putl,p3,p4]
  refine flo_eff rfl rfl (fun w18 g18 _ K18 k18=>?_)
  replace hB:=hB.trans g18
  replace L17:=L17.gr g18
  have kq20:=g12.kp.trans (kp13.trans (gd15.kp.trans (g16.kp.trans (g17.kp.trans g18.kp))))
  replace h11:=h11.kp kq20
  have kq21:=g2.kp.trans (g3.kp.trans (g5.kp.trans (g8.kp.trans (hk9.trans (g11.kp.trans (g12.kp.trans (kp13.trans (gd15.kp.trans (g16.kp.trans (g17.kp.trans g18.kp))))))))))
  replace hma11:=hma11.kp kq21
  replace hma22:=hma22.kp kq21
  replace hma33:=hma33.kp kq21
  refine ec 27 (sum_4 (k:=k+64) (h11.mono (by omega)) (hma11.mono (by omega)) (hma22.mono (by omega)) (hma33.mono (by omega)) L17 (by omega)) ?_
  rintro e19 w19 ⟨⟨p19,q19,r19,s19,rfl,h19⟩,g19⟩
  refine ⟨_,rfl,?_⟩
  replace hB:=hB.trans g19
  replace L5:=L5.gr (g18.trans g19)
  replace L12:=L12.gr (g18.trans g19)
  refine k18 _ _ g19 ⟨L5,L12⟩ ?_
  try clear k18 K18
  simp only [p3,p4]
  refine flo_eff rfl rfl (fun w22 g22 _ K22 k22=>?_)
  replace hB:=hB.trans g22
  have kq24:=g2.kp.trans (g3.kp.trans (g5.kp.trans (g8.kp.trans (hk9.trans (g11.kp.trans (g12.kp.trans (kp13.trans (gd15.kp.trans (g16.kp.trans (g17.kp.trans (g18.kp.trans (g19.kp.trans g22.kp))))))))))))
  replace hma32:=hma32.kp kq24
  replace hma23:=hma23.kp kq24
  refine ec 32 (sub_r hma32 hma23 (by omega)) ?_
  rintro e23 w23 ⟨⟨p23,q23,r23,s23,rfl,h23⟩,g23⟩
  refine ⟨_,rfl,?_⟩
  replace hB:=hB.trans g23
  replace L5:=L5.gr (g22.trans g23)
  replace L12:=L12.gr (g22.trans g23)
  refine k22 _ _ g23 ⟨L5,L12⟩ ?_
  try clear k22 K22
  simp only [p3,p4]
  refine flo_eff rfl rfl (fun w25 g25 _ K25 k25=>?_)
  replace hB:=hB.trans g25
  have kq27:=g2.kp.trans (g3.kp.trans (g5.kp.trans (g8.kp.trans (hk9.trans (g11.kp.trans (g12.kp.trans (kp13.trans (gd15.kp.trans (g16.kp.trans (g17.kp.trans (g18.kp.trans (g19.kp.trans (g22.kp.trans (g23.kp.trans g25.kp))))))))))))))
  replace hma13:=hma13.kp kq27
  replace hma31:=hma31.kp kq27
  refine ec 37 (sub_r hma13 hma31 (by omega)) ?_
  rintro e26 w26 ⟨⟨p26,q26,r26,s26,rfl,h26⟩,g26⟩
  refine ⟨_,rfl,?_⟩
  replace hB:=hB.trans g26
  replace L5:=L5.gr (g25.trans g26)
  replace L12:=L12.gr (g25.trans g26)
  refine k25 _ _ g26 ⟨L5,L12⟩ ?_
  try clear k25 K25
  simp only [p3,p4]
  refine flo_eff rfl rfl (fun w28 g28 _ K28 k28=>?_)
  replace hB:=hB.trans g28
  have kq30:=g2.kp.trans (g3.kp.trans (g5.kp.trans (g8.kp.trans (hk9.trans (g11.kp.trans (g12.kp.trans (kp13.trans (gd15.kp.trans (g16.kp.trans (g17.kp.trans (g18.kp.trans (g19.kp.trans (g22.kp.trans (g23.kp.trans (g25.kp.trans (g26.kp.trans g28.kp))))))))))))))))
  replace hma21:=hma21.kp kq30
  replace hma12:=hma12.kp kq30
  refine ec 42 (sub_r hma21 hma12 (by omega)) ?_
  rintro e29 w29 ⟨⟨p29,q29,r29,s29,rfl,h29⟩,g29⟩
  refine ⟨_,rfl,?_⟩
  replace hB:=hB.trans g29
  replace L5:=L5.gr (g28.trans g29)
  replace L12:=L12.gr (g28.trans g29)
  refine k28 _ _ g29 ⟨L5,L12⟩ ?_
  try clear k28 K28
  simp only [p3,p4]
  refine fv 43 (.agg #[p19,q19,r19,s19,p23,q23,r23,s23,p26,q26,r26,s26,p29,q29,r29,s29]) ?_
  refine flo_eff rfl rfl (fun w31 g31 _ K31 k31=>?_)
  replace hB:=hB.trans g31
  have kq33:=g23.kp.trans (g25.kp.trans (g26.kp.trans (g28.kp.trans (g29.kp.trans g31.kp))))
  replace hma32:=hma32.kp kq33
  replace hma23:=hma23.kp kq33
  refine ec 48 (sub_r hma32 hma23 (by omega)) ?_
  rintro e32 w32 ⟨⟨p32,q32,r32,s32,rfl,h32⟩,g32⟩
  refine ⟨_,rfl,?_⟩
  replace hB:=hB.trans g32
  replace L5:=L5.gr (g31.trans g32)
  replace L12:=L12.gr (g31.trans g32)
  refine k31 _ _ g32 ⟨L5,L12⟩ ?_
  try clear k31 K31
  simp only [p3,p4]
  refine flo_eff rfl rfl (fun w34 g34 _ K34 k34=>?_)
  replace hB:=hB.trans g34
  have kq36:=g19.kp.trans (g22.kp.trans (g23.kp.trans (g25.kp.trans (g26.kp.trans (g28.kp.trans (g29.kp.trans (g31.kp.trans (g32.kp.trans g34.kp))))))))
  replace h11:=h11.kp kq36
  replace hma11:=hma11.kp kq36
  refine ec 52 (add_r h11 hma11 (by omega)) ?_
  rintro e35 w35 ⟨⟨p35,q35,r35,s35,rfl,h35⟩,g35⟩
  refine ⟨_,rfl,?_⟩
  replace hB:=hB.trans g35
  replace L5:=L5.gr (g34.trans g35)
  replace L12:=L12.gr (g34.trans g35)
  refine k34 _ _ g35 ⟨L5,L12⟩ ?_
  try clear k34 K34
  simp only [p3,p4]
  refine flo_eff rfl rfl (fun w37 g37 _ K37 k37=>?_)
  replace hB:=hB.trans g37
  have kq39:=g19.kp.trans (g22.kp.trans (g23.kp.trans (g25.kp.trans (g26.kp.trans (g28.kp.trans (g29.kp.trans (g31.kp.trans (g32.kp.trans (g34.kp.trans (g35.kp.trans g37.kp))))))))))
  replace hma22:=hma22.kp kq39
  replace hma33:=hma33.kp kq39
  refine ec 57 (add_r hma22 hma33 (by omega)) ?_
  rintro e38 w38 ⟨⟨p38,q38,r38,s38,rfl,h38⟩,g38⟩
  refine ⟨_,rfl,?_⟩
  replace hB:=hB.trans g38
  replace L5:=L5.gr (g37.trans g38)
  replace L12:=L12.gr (g37.trans g38)
  refine k37 _ _ g38 ⟨L5,L12⟩ ?_
  try clear k37 K37
  simp only [p3,p4]
  refine flo_eff rfl rfl (fun w40 g40 _ K40 k40=>?_)
  replace hB:=hB.trans g40
  have kq42:=g37.kp.trans (g38.kp.trans g40.kp)
  replace h35:=h35.kp kq42
  replace h38:=h38.kp g40.kp
  refine ec 58 (sub_r h35 h38 (by omega)) ?_
  rintro e41 w41 ⟨⟨p41,q41,r41,s41,rfl,h41⟩,g41⟩
  refine ⟨_,rfl,?_⟩
  replace hB:=hB.trans g41
  replace L5:=L5.gr (g40.trans g41)
  replace L12:=L12.gr (g40.trans g41)
  refine k40 _ _ g41 ⟨L5,L12⟩ ?_
  try clear k40 K40
  simp only [p3,p4]
  refine flo_eff rfl rfl (fun w43 g43 _ K43 k43=>?_)
  replace hB:=hB.trans g43
  have kq45:=g29.kp.trans (g31.kp.trans (g32.kp.trans (g34.kp.trans (g35.kp.trans (g37.kp.trans (g38.kp.trans (g40.kp.trans (g41.kp.trans g43.kp))))))))
  replace hma12:=hma12.kp kq45
  replace hma21:=hma21.kp kq45
  refine ec 63 (add_r hma12 hma21 (by omega)) ?_
  rintro e44 w44 ⟨⟨p44,q44,r44,s44,rfl,h44⟩,g44⟩
  refine ⟨_,rfl,?_⟩
  replace hB:=hB.trans g44
  replace L5:=L5.gr (g43.trans g44)
  replace L12:=L12.gr (g43.trans g44)
  refine k43 _ _ g44 ⟨L5,L12⟩ ?_
  try clear k43 K43
  simp only [p3,p4]
  refine flo_eff rfl rfl (fun w46 g46 _ K46 k46=>?_)
  replace hB:=hB.trans g46
  have kq48:=g26.kp.trans (g28.kp.trans (g29.kp.trans (g31.kp.trans (g32.kp.trans (g34.kp.trans (g35.kp.trans (g37.kp.trans (g38.kp.trans (g40.kp.trans (g41.kp.trans (g43.kp.trans (g44.kp.trans g46.kp))))))))))))
  replace hma13:=hma13.kp kq48
  replace hma31:=hma31.kp kq48
  refine ec 68 (add_r hma13 hma31 (by omega)) ?_
  rintro e47 w47 ⟨⟨p47,q47,r47,s47,rfl,h47⟩,g47⟩
  refine ⟨_,rfl,?_⟩
  replace hB:=hB.trans g47
  replace L5:=L5.gr (g46.trans g47)
  replace L12:=L12.gr (g46.trans g47)
  refine k46 _ _ g47 ⟨L5,L12⟩ ?_
  try clear k46 K46
  simp only [p3,p4]
  refine fv 69 (.agg #[p32,q32,r32,s32,p41,q41,r41,s41,p44,q44,r44,s44,p47,q47,r47,s47]) ?_
  refine flo_eff rfl rfl (fun w49 g49 _ K49 k49=>?_)
  replace hB:=hB.trans g49
  have kq51:=g47.kp.trans g49.kp
  replace hma13:=hma13.kp kq51
  replace hma31:=hma31.kp kq51
  refine ec 74 (sub_r hma13 hma31 (by omega)) ?_
  rintro e50 w50 ⟨⟨p50,q50,r50,s50,rfl,h50⟩,g50⟩
  refine ⟨_,rfl,?_⟩
  replace hB:=hB.trans g50
  replace L5:=L5.gr (g49.trans g50)
  replace L12:=L12.gr (g49.trans g50)
  refine k49 _ _ g50 ⟨L5,L12⟩ ?_
  try clear k49 K49
  simp only [p3,p4]
  refine flo_eff rfl rfl (fun w52 g52 _ K52 k52=>?_)
  replace hB:=hB.trans g52
  have kq54:=g44.kp.trans (g46.kp.trans (g47.kp.trans (g49.kp.trans (g50.kp.trans g52.kp))))
  replace hma12:=hma12.kp kq54
  replace hma21:=hma21.kp kq54
  refine ec 79 (add_r hma12 hma21 (by omega)) ?_
  rintro e53 w53 ⟨⟨p53,q53,r53,s53,rfl,h53⟩,g53⟩
  refine ⟨_,rfl,?_⟩
  replace hB:=hB.trans g53
  replace L5:=L5.gr (g52.trans g53)
  replace L12:=L12.gr (g52.trans g53)
  refine k52 _ _ g53 ⟨L5,L12⟩ ?_
  try clear k52 K52
  simp only [p3,p4]
  refine flo_eff rfl rfl (fun w55 g55 _ K55 k55=>?_)
  replace hB:=hB.trans g55
  have kq57:=g35.kp.trans (g37.kp.trans (g38.kp.trans (g40.kp.trans (g41.kp.trans (g43.kp.trans (g44.kp.trans (g46.kp.trans (g47.kp.trans (g49.kp.trans (g50.kp.trans (g52.kp.trans (g53.kp.trans g55.kp))))))))))))
  replace h11:=h11.kp kq57
  have kq58:=g38.kp.trans (g40.kp.trans (g41.kp.trans (g43.kp.trans (g44.kp.trans (g46.kp.trans (g47.kp.trans (g49.kp.trans (g50.kp.trans (g52.kp.trans (g53.kp.trans g55.kp))))))))))
  replace hma22:=hma22.kp kq58
  refine ec 83 (add_r h11 hma22 (by omega)) ?_
  rintro e56 w56 ⟨⟨p56,q56,r56,s56,rfl,h56⟩,g56⟩
  refine ⟨_,rfl,?_⟩
  replace hB:=hB.trans g56
  replace L5:=L5.gr (g55.trans g56)
  replace L12:=L12.gr (g55.trans g56)
  refine k55 _ _ g56 ⟨L5,L12⟩ ?_
  try clear k55 K55
  simp only [p3,p4]
  refine flo_eff rfl rfl (fun w59 g59 _ K59 k59=>?_)
  replace hB:=hB.trans g59
  have kq61:=g35.kp.trans (g37.kp.trans (g38.kp.trans (g40.kp.trans (g41.kp.trans (g43.kp.trans (g44.kp.trans (g46.kp.trans (g47.kp.trans (g49.kp.trans (g50.kp.trans (g52.kp.trans (g53.kp.trans (g55.kp.trans (g56.kp.trans g59.kp))))))))))))))
  replace hma11:=hma11.kp kq61
  have kq62:=g38.kp.trans (g40.kp.trans (g41.kp.trans (g43.kp.trans (g44.kp.trans (g46.kp.trans (g47.kp.trans (g49.kp.trans (g50.kp.trans (g52.kp.trans (g53.kp.trans (g55.kp.trans (g56.kp.trans g59.kp))))))))))))
  replace hma33:=hma33.kp kq62
  refine ec 88 (add_r hma11 hma33 (by omega)) ?_
  rintro e60 w60 ⟨⟨p60,q60,r60,s60,rfl,h60⟩,g60⟩
  refine ⟨_,rfl,?_⟩
  replace hB:=hB.trans g60
  replace L5:=L5.gr (g59.trans g60)
  replace L12:=L12.gr (g59.trans g60)
  refine k59 _ _ g60 ⟨L5,L12⟩ ?_
  try clear k59 K59
  simp only [p3,p4]
  refine flo_eff rfl rfl (fun w63 g63 _ K63 k63=>?_)
  replace hB:=hB.trans g63
  have kq65:=g59.kp.trans (g60.kp.trans g63.kp)
  replace h56:=h56.kp kq65
  replace h60:=h60.kp g63.kp
  refine ec 89 (sub_r h56 h60 (by omega)) ?_
  rintro e64 w64 ⟨⟨p64,q64,r64,s64,rfl,h64⟩,g64⟩
  refine ⟨_,rfl,?_⟩
  replace hB:=hB.trans g64
  replace L5:=L5.gr (g63.trans g64)
  replace L12:=L12.gr (g63.trans g64)
  refine k63 _ _ g64 ⟨L5,L12⟩ ?_
  try clear k63 K63
  simp only [p3,p4]
  refine flo_eff rfl rfl (fun w66 g66 _ K66 k66=>?_)
  replace hB:=hB.trans g66
  have kq68:=g32.kp.trans (g34.kp.trans (g35.kp.trans (g37.kp.trans (g38.kp.trans (g40.kp.trans (g41.kp.trans (g43.kp.trans (g44.kp.trans (g46.kp.trans (g47.kp.trans (g49.kp.trans (g50.kp.trans (g52.kp.trans (g53.kp.trans (g55.kp.trans (g56.kp.trans (g59.kp.trans (g60.kp.trans (g63.kp.trans (g64.kp.trans g66.kp))))))))))))))))))))
  replace hma23:=hma23.kp kq68
  replace hma32:=hma32.kp kq68
  refine ec 94 (add_r hma23 hma32 (by omega)) ?_
  rintro e67 w67 ⟨⟨p67,q67,r67,s67,rfl,h67⟩,g67⟩
  refine ⟨_,rfl,?_⟩
  replace hB:=hB.trans g67
  replace L5:=L5.gr (g66.trans g67)
  replace L12:=L12.gr (g66.trans g67)
  refine k66 _ _ g67 ⟨L5,L12⟩ ?_
  try clear k66 K66
  simp only [p3,p4]
  refine fv 95 (.agg #[p50,q50,r50,s50,p53,q53,r53,s53,p64,q64,r64,s64,p67,q67,r67,s67]) ?_
  refine flo_eff rfl rfl (fun w69 g69 _ K69 k69=>?_)
  replace hB:=hB.trans g69
  have kq71:=g53.kp.trans (g55.kp.trans (g56.kp.trans (g59.kp.trans (g60.kp.trans (g63.kp.trans (g64.kp.trans (g66.kp.trans (g67.kp.trans g69.kp))))))))
  replace hma21:=hma21.kp kq71
  replace hma12:=hma12.kp kq71
  refine ec 100 (sub_r hma21 hma12 (by omega)) ?_
  rintro e70 w70 ⟨⟨p70,q70,r70,s70,rfl,h70⟩,g70⟩
  refine ⟨_,rfl,?_⟩
  replace hB:=hB.trans g70
  replace L5:=L5.gr (g69.trans g70)
  replace L12:=L12.gr (g69.trans g70)
  refine k69 _ _ g70 ⟨L5,L12⟩ ?_
  try clear k69 K69
  simp only [p3,p4]
  refine flo_eff rfl rfl (fun w72 g72 _ K72 k72=>?_)
  replace hB:=hB.trans g72
  have kq74:=g50.kp.trans (g52.kp.trans (g53.kp.trans (g55.kp.trans (g56.kp.trans (g59.kp.trans (g60.kp.trans (g63.kp.trans (g64.kp.trans (g66.kp.trans (g67.kp.trans (g69.kp.trans (g70.kp.trans g72.kp))))))))))))
  replace hma13:=hma13.kp kq74
  replace hma31:=hma31.kp kq74
  refine ec 105 (add_r hma13 hma31 (by omega)) ?_
  rintro e73 w73 ⟨⟨p73,q73,r73,s73,rfl,h73⟩,g73⟩
  refine ⟨_,rfl,?_⟩
  replace hB:=hB.trans g73
  replace L5:=L5.gr (g72.trans g73)
  replace L12:=L12.gr (g72.trans g73)
  refine k72 _ _ g73 ⟨L5,L12⟩ ?_
  try clear k72 K72
  simp only [p3,p4]
  refine flo_eff rfl rfl (fun w75 g75 _ K75 k75=>?_)
  replace hB:=hB.trans g75
  have kq77:=g67.kp.trans (g69.kp.trans (g70.kp.trans (g72.kp.trans (g73.kp.trans g75.kp))))
  replace hma23:=hma23.kp kq77
  replace hma32:=hma32.kp kq77
  refine ec 110 (add_r hma23 hma32 (by omega)) ?_
  rintro e76 w76 ⟨⟨p76,q76,r76,s76,rfl,h76⟩,g76⟩
  refine ⟨_,rfl,?_⟩
  replace hB:=hB.trans g76
  replace L5:=L5.gr (g75.trans g76)
  replace L12:=L12.gr (g75.trans g76)
  refine k75 _ _ g76 ⟨L5,L12⟩ ?_
  try clear k75 K75
  simp only [p3,p4]
  refine flo_eff rfl rfl (fun w78 g78 _ K78 k78=>?_)
  replace hB:=hB.trans g78
  have kq80:=g56.kp.trans (g59.kp.trans (g60.kp.trans (g63.kp.trans (g64.kp.trans (g66.kp.trans (g67.kp.trans (g69.kp.trans (g70.kp.trans (g72.kp.trans (g73.kp.trans (g75.kp.trans (g76.kp.trans g78.kp))))))))))))
  replace h11:=h11.kp kq80
  have kq81:=g60.kp.trans (g63.kp.trans (g64.kp.trans (g66.kp.trans (g67.kp.trans (g69.kp.trans (g70.kp.trans (g72.kp.trans (g73.kp.trans (g75.kp.trans (g76.kp.trans g78.kp))))))))))
  replace hma33:=hma33.kp kq81
  refine ec 114 (add_r h11 hma33 (by omega)) ?_
  rintro e79 w79 ⟨⟨p79,q79,r79,s79,rfl,h79⟩,g79⟩
  refine ⟨_,rfl,?_⟩
  replace hB:=hB.trans g79
  replace L5:=L5.gr (g78.trans g79)
  replace L12:=L12.gr (g78.trans g79)
  refine k78 _ _ g79 ⟨L5,L12⟩ ?_
  try clear k78 K78
  simp only [p3,p4]
  refine flo_eff rfl rfl (fun w82 g82 _ K82 k82=>?_)
  replace hB:=hB.trans g82
  have kq84:=g60.kp.trans (g63.kp.trans (g64.kp.trans (g66.kp.trans (g67.kp.trans (g69.kp.trans (g70.kp.trans (g72.kp.trans (g73.kp.trans (g75.kp.trans (g76.kp.trans (g78.kp.trans (g79.kp.trans g82.kp))))))))))))
  replace hma11:=hma11.kp kq84
  have kq85:=g56.kp.trans (g59.kp.trans (g60.kp.trans (g63.kp.trans (g64.kp.trans (g66.kp.trans (g67.kp.trans (g69.kp.trans (g70.kp.trans (g72.kp.trans (g73.kp.trans (g75.kp.trans (g76.kp.trans (g78.kp.trans (g79.kp.trans g82.kp))))))))))))))
  replace hma22:=hma22.kp kq85
  refine ec 119 (add_r hma11 hma22 (by omega)) ?_
  rintro e83 w83 ⟨⟨p83,q83,r83,s83,rfl,h83⟩,g83⟩
  refine ⟨_,rfl,?_⟩
  replace hB:=hB.trans g83
  replace L5:=L5.gr (g82.trans g83)
  replace L12:=L12.gr (g82.trans g83)
  refine k82 _ _ g83 ⟨L5,L12⟩ ?_
  try clear k82 K82
  simp only [p3,p4]
  refine flo_eff rfl rfl (fun w86 g86 _ K86 k86=>?_)
  replace hB:=hB.trans g86
  have kq88:=g82.kp.trans (g83.kp.trans g86.kp)
  replace h79:=h79.kp kq88
  replace h83:=h83.kp g86.kp
  refine ec 120 (sub_r h79 h83 (by omega)) ?_
  rintro e87 w87 ⟨⟨p87,q87,r87,s87,rfl,h87⟩,g87⟩
  refine ⟨_,rfl,?_⟩
  replace hB:=hB.trans g87
  replace L5:=L5.gr (g86.trans g87)
  replace L12:=L12.gr (g86.trans g87)
  refine k86 _ _ g87 ⟨L5,L12⟩ ?_
  try clear k86 K86
  simp only [p3,p4]
  refine fv 121 (.agg #[p70,q70,r70,s70,p73,q73,r73,s73,p76,q76,r76,s76,p87,q87,r87,s87]) ?_
  refine fv 122 (.agg #[p19,q19,r19,s19,p23,q23,r23,s23,p26,q26,r26,s26,p29,q29,r29,s29,p32,q32,r32,s32,p41,q41,r41,s41,p44,q44,r44,s44,p47,q47,r47,s47,p50,q50,r50,s50,p53,q53,r53,s53,p64,q64,r64,s64,p67,q67,r67,s67,p70,q70,r70,s70,p73,q73,r73,s73,p76,q76,r76,s76,p87,q87,r87,s87]) ?_
  refine flo_nil (fun w89 g89 _=>?_)
  replace hB:=hB.trans g89
  refine floFin1 (fun b90 L90 q90=>?_)
  replace L90:Lc _ _ _ _:=L90
  have ne3_90:b3≠b90:=Nat.ne_of_lt (Nat.lt_of_lt_of_le lt3_15 q90)
  have ne5_90:b5≠b90:=Nat.ne_of_lt (Nat.lt_of_lt_of_le lt5_15 q90)
  have ne12_90:b12≠b90:=Nat.ne_of_lt (Nat.lt_of_lt_of_le lt12_15 q90)
  have ne9_90:D9≠b90:=Nat.ne_of_lt (Nat.lt_of_lt_of_le lt9_15 q90)
  replace q90:=Nat.le_trans hz15 q90
  simp only [putl,p3,p4]
  refine oe ?_
  refine es 158 0 (.agg #[p19,q19,r19,s19,p23,q23,r23,s23,p26,q26,r26,s26,p29,q29,r29,s29,p32,q32,r32,s32,p41,q41,r41,s41,p44,q44,r44,s44,p47,q47,r47,s47,p50,q50,r50,s50,p53,q53,r53,s53,p64,q64,r64,s64,p67,q67,r67,s67,p70,q70,r70,s70,p73,q73,r73,s73,p76,q76,r76,s76,p87,q87,r87,s87]) [p19,q19,r19,s19,p23,q23,r23,s23,p26,q26,r26,s26,p29,q29,r29,s29,p32,q32,r32,s32,p41,q41,r41,s41,p44,q44,r44,s44,p47,q47,r47,s47,p50,q50,r50,s50,p53,q53,r53,s53,p64,q64,r64,s64,p67,q67,r67,s67,p70,q70,r70,s70,p73,q73,r73,s73,p76,q76,r76,s76,p87,q87,r87,s87] #[p19,q19,r19,s19,p23,q23,r23,s23,p26,q26,r26,s26,p29,q29,r29,s29,p32,q32,r32,s32,p41,q41,r41,s41,p44,q44,r44,s44,p47,q47,r47,s47,p50,q50,r50,s50,p53,q53,r53,s53,p64,q64,r64,s64,p67,q67,r67,s67,p70,q70,r70,s70,p73,q73,r73,s73,p76,q76,r76,s76,p87,q87,r87,s87] L90 hB q90 ⟨h19.one0,h19.one1,h19.one2,h19.one3,h23.one0,h23.one1,h23.one2,h23.one3,h26.one0,h26.one1,h26.one2,h26.one3,h29.one0,h29.one1,h29.one2,h29.one3,h32.one0,h32.one1,h32.one2,h32.one3,h41.one0,h41.one1,h41.one2,h41.one3,h44.one0,h44.one1,h44.one2,h44.one3,h47.one0,h47.one1,h47.one2,h47.one3,h50.one0,h50.one1,h50.one2,h50.one3,h53.one0,h53.one1,h53.one2,h53.one3,h64.one0,h64.one1,h64.one2,h64.one3,h67.one0,h67.one1,h67.one2,h67.one3,h70.one0,h70.one1,h70.one2,h70.one3,h73.one0,h73.one1,h73.one2,h73.one3,h76.one0,h76.one1,h76.one2,h76.one3,h87.one0,h87.one1,h87.one2,h87.one3,trivial⟩ fun w92 st92 kp92 L90 hB=>?_
  replace L5:=st92.lc (L5.gr g89) ne5_90
  replace L12:=st92.lc (L12.gr g89) ne12_90
  refine ⟨⟨L5,L12⟩,?_⟩
  refine ord_nil ?_
  refine k14 _ _ ?_
  try clear k14 K14
  refine wp_seq_k (fun K93 k93=>?_)
  refine rg [0] ?_
  refine sv 8 (.int .i64 0) ?_
  refine sq_nil ?_
  refine k93 _ _ ?_
  try clear k93 K93
  refine wp_seq_k (fun K94 k94=>?_)
  refine wp_block ?_
  refine wp_loop_rounds 4 ?_
  show Code.wp _ _ _ _ _
  refine wp_seq_k (fun K95 k95=>?_)
  refine wp_seq_k (fun K96 k96=>?_)
  refine rg [0,1,2,3,4,5,6,7,8,9,10] ?_
  refine sv 123 (.int .i64 0) ?_
  refine sv 124 (.bool true) ?_
  refine sv 125 (.bool true) ?_
  refine sv 126 (.int .i64 0) ?_
  refine sv 127 (.int .i64 0) ?_
  refine sv 128 (.pointer (some ⟨b90,0,none⟩)) ?_
  refine sv 129 (.pointer (some ⟨b90,0,none⟩)) ?_
  refine sw 130 (.agg #[p19,q19,r19,s19]) rfl (rl 36 0 [p19,q19,r19,s19] L90) ?_
  refine se ?_
  have kq98:=g22.kp.trans (g23.kp.trans (g25.kp.trans (g26.kp.trans (g28.kp.trans (g29.kp.trans (g31.kp.trans (g32.kp.trans (g34.kp.trans (g35.kp.trans (g37.kp.trans (g38.kp.trans (g40.kp.trans (g41.kp.trans (g43.kp.trans (g44.kp.trans (g46.kp.trans (g47.kp.trans (g49.kp.trans (g50.kp.trans (g52.kp.trans (g53.kp.trans (g55.kp.trans (g56.kp.trans (g59.kp.trans (g60.kp.trans (g63.kp.trans (g64.kp.trans (g66.kp.trans (g67.kp.trans (g69.kp.trans (g70.kp.trans (g72.kp.trans (g73.kp.trans (g75.kp.trans (g76.kp.trans (g78.kp.trans (g79.kp.trans (g82.kp.trans (g83.kp.trans (g86.kp.trans (g87.kp.trans (g89.kp.trans kp92))))))))))))))))))))))))))))))))))))))))))
  replace h19:=h19.kp kq98
  refine ec 131 (sign_r h19) ?_
  rintro e97 w97 ⟨rfl,g97⟩
  refine ⟨_,rfl,?_⟩
  replace hB:=hB.trans g97
  simp only [p3,p4]
  refine sv 132 (.bool ((sgn (((((0+1)+ma11)+ma22)+ma33)).num==(0:Int)))) ?_
  refine sv 133 (.bool ((sgn (((((0+1)+ma11)+ma22)+ma33)).num==(0:Int)))) ?_
  refine sq_nil ?_
  refine k96 _ _ ?_
  try clear k96 K96
  refine wp_cond_split (t:=(sgn (((((0+1)+ma11)+ma22)+ma33)).num==(0:Int))) rfl (fun hb99=>?_) (fun hb99=>?_)
  ·refine wp_skip ?_
   refine k95 _ _ ?_
   try clear k95 K95
   refine wp_block ?_
   refine rg [0,1,2] ?_
   refine sv 134 (.int .i64 0) ?_
   refine sv 135 (.int .i64 1) ?_
   refine sv 8 (.int .i64 1) ?_
   refine sq_nil ?_
   show Code.rounds _ _ _ _ _ _
   show Code.wp _ _ _ _ _
   refine wp_seq_k (fun K100 k100=>?_)
   refine wp_seq_k (fun K101 k101=>?_)
   refine rg [0,1,2,3,4,5,6,7,8,9,10] ?_
   refine sv 123 (.int .i64 1) ?_
   refine sv 124 (.bool true) ?_
   refine sv 125 (.bool true) ?_
   refine sv 126 (.int .i64 1) ?_
   refine sv 127 (.int .i64 1) ?_
   refine sv 128 (.pointer (some ⟨b90,16,none⟩)) ?_
   refine sv 129 (.pointer (some ⟨b90,20,none⟩)) ?_
   replace L90:=L90.gr g97
   refine sw 130 (.agg #[p41,q41,r41,s41]) rfl (rl 36 20 [p41,q41,r41,s41] L90) ?_
   refine se ?_
   have kq103:=g43.kp.trans (g44.kp.trans (g46.kp.trans (g47.kp.trans (g49.kp.trans (g50.kp.trans (g52.kp.trans (g53.kp.trans (g55.kp.trans (g56.kp.trans (g59.kp.trans (g60.kp.trans (g63.kp.trans (g64.kp.trans (g66.kp.trans (g67.kp.trans (g69.kp.trans (g70.kp.trans (g72.kp.trans (g73.kp.trans (g75.kp.trans (g76.kp.trans (g78.kp.trans (g79.kp.trans (g82.kp.trans (g83.kp.trans (g86.kp.trans (g87.kp.trans (g89.kp.trans (kp92.trans g97.kp)))))))))))))))))))))))))))))
   replace h41:=h41.kp kq103
   refine ec 131 (sign_r h41) ?_
   rintro e102 w102 ⟨rfl,g102⟩
   refine ⟨_,rfl,?_⟩
   replace hB:=hB.trans g102
   simp only [p3,p4]
   refine sv 132 (.bool ((sgn (((1+ma11) - (ma22+ma33))).num==(0:Int)))) ?_
   refine sv 133 (.bool ((sgn (((1+ma11) - (ma22+ma33))).num==(0:Int)))) ?_
   refine sq_nil ?_
   refine k101 _ _ ?_
   try clear k101 K101
   refine wp_cond_split (t:=(sgn (((1+ma11) - (ma22+ma33))).num==(0:Int))) rfl (fun hb104=>?_) (fun hb104=>?_)
   ·refine wp_skip ?_
    refine k100 _ _ ?_
    try clear k100 K100
    refine wp_block ?_
    refine rg [0,1,2] ?_
    refine sv 134 (.int .i64 1) ?_
    refine sv 135 (.int .i64 2) ?_
    refine sv 8 (.int .i64 2) ?_
    refine sq_nil ?_
    show Code.rounds _ _ _ _ _ _
    show Code.wp _ _ _ _ _
    refine wp_seq_k (fun K105 k105=>?_)
    refine wp_seq_k (fun K106 k106=>?_)
    refine rg [0,1,2,3,4,5,6,7,8,9,10] ?_
    refine sv 123 (.int .i64 2) ?_
    refine sv 124 (.bool true) ?_
    refine sv 125 (.bool true) ?_
    refine sv 126 (.int .i64 2) ?_
    refine sv 127 (.int .i64 2) ?_
    refine sv 128 (.pointer (some ⟨b90,32,none⟩)) ?_
    refine sv 129 (.pointer (some ⟨b90,40,none⟩)) ?_
    replace L90:=L90.gr g102
    refine sw 130 (.agg #[p64,q64,r64,s64]) rfl (rl 36 40 [p64,q64,r64,s64] L90) ?_
    refine se ?_
    have kq108:=g66.kp.trans (g67.kp.trans (g69.kp.trans (g70.kp.trans (g72.kp.trans (g73.kp.trans (g75.kp.trans (g76.kp.trans (g78.kp.trans (g79.kp.trans (g82.kp.trans (g83.kp.trans (g86.kp.trans (g87.kp.trans (g89.kp.trans (kp92.trans (g97.kp.trans g102.kp))))))))))))))))
    replace h64:=h64.kp kq108
    refine ec 131 (sign_r h64) ?_
    rintro e107 w107 ⟨rfl,g107⟩
    refine ⟨_,rfl,?_⟩
    replace hB:=hB.trans g107
    simp only [p3,p4]
    refine sv 132 (.bool ((sgn (((1+ma22) - (ma11+ma33))).num==(0:Int)))) ?_
    refine sv 133 (.bool ((sgn (((1+ma22) - (ma11+ma33))).num==(0:Int)))) ?_
    refine sq_nil ?_
    refine k106 _ _ ?_
    try clear k106 K106
    refine wp_cond_split (t:=(sgn (((1+ma22) - (ma11+ma33))).num==(0:Int))) rfl (fun hb109=>?_) (fun hb109=>?_)
    ·refine wp_skip ?_
     refine k105 _ _ ?_
     try clear k105 K105
     refine wp_block ?_
     refine rg [0,1,2] ?_
     refine sv 134 (.int .i64 2) ?_
     refine sv 135 (.int .i64 3) ?_
     refine sv 8 (.int .i64 3) ?_
     refine sq_nil ?_
     show Code.rounds _ _ _ _ _ _
     show Code.wp _ _ _ _ _
     refine wp_seq_k (fun K110 k110=>?_)
     refine wp_seq_k (fun K111 k111=>?_)
     refine rg [0,1,2,3,4,5,6,7,8,9,10] ?_
     refine sv 123 (.int .i64 3) ?_
     refine sv 124 (.bool false) ?_
     refine sv 125 (.bool false) ?_
     refine ss 126 ?_
     refine ss 127 ?_
     refine ss 128 ?_
     refine ss 129 ?_
     refine ss 130 ?_
     refine ss 131 ?_
     refine ss 132 ?_
     refine sv 133 (.bool false) ?_
     refine sq_nil ?_
     refine k111 _ _ ?_
     try clear k111 K111
     refine wp_cond_false rfl ?_
     refine wp_exit ?_
     simp only [Exit.then,Exit.inBlock,↓reduceIte]
     refine k94 _ _ ?_
     try clear k94 K94
     refine wp_seq_k (fun K112 k112=>?_)
     refine rg [0,1,2,3,4] ?_
     refine sv 136 (.int .i64 3) ?_
     refine sv 137 (.pointer (some ⟨b90,48,none⟩)) ?_
     replace L90:=L90.gr g107
     refine sw 138 (.agg #[p70,q70,r70,s70,p73,q73,r73,s73,p76,q76,r76,s76,p87,q87,r87,s87]) rfl (rl 157 48 [p70,q70,r70,s70,p73,q73,r73,s73,p76,q76,r76,s76,p87,q87,r87,s87] L90) ?_
     refine se ?_
     have kq114:=g72.kp.trans (g73.kp.trans (g75.kp.trans (g76.kp.trans (g78.kp.trans (g79.kp.trans (g82.kp.trans (g83.kp.trans (g86.kp.trans (g87.kp.trans (g89.kp.trans (kp92.trans (g97.kp.trans (g102.kp.trans g107.kp)))))))))))))
     replace h70:=h70.kp kq114
     have kq115:=g75.kp.trans (g76.kp.trans (g78.kp.trans (g79.kp.trans (g82.kp.trans (g83.kp.trans (g86.kp.trans (g87.kp.trans (g89.kp.trans (kp92.trans (g97.kp.trans (g102.kp.trans g107.kp)))))))))))
     replace h73:=h73.kp kq115
     have kq116:=g78.kp.trans (g79.kp.trans (g82.kp.trans (g83.kp.trans (g86.kp.trans (g87.kp.trans (g89.kp.trans (kp92.trans (g97.kp.trans (g102.kp.trans g107.kp)))))))))
     replace h76:=h76.kp kq116
     have kq117:=g89.kp.trans (kp92.trans (g97.kp.trans (g102.kp.trans g107.kp)))
     replace h87:=h87.kp kq117
     refine ec 139 (mwhole (k:=8*k+900) (h70.mono (by omega)) (h73.mono (by omega)) (h76.mono (by omega)) (h87.mono (by omega)) (row_pos3t hb99 hb104 hb109) (by omega)) ?_
     rintro e113 w113 ⟨⟨z113_0,z113_1,z113_2,z113_3,z113_4,z113_5,z113_6,z113_7,rfl,hw113_0,hw113_1,hw113_2,hw113_3⟩,g113⟩
     refine ⟨_,rfl,?_⟩
     replace hB:=hB.trans g113
     simp only [p3,p4]
     refine se ?_
     replace L3:=(st92.lc (L3.gr (g17.trans (g18.trans (g19.trans (g22.trans (g23.trans (g25.trans (g26.trans (g28.trans (g29.trans (g31.trans (g32.trans (g34.trans (g35.trans (g37.trans (g38.trans (g40.trans (g41.trans (g43.trans (g44.trans (g46.trans (g47.trans (g49.trans (g50.trans (g52.trans (g53.trans (g55.trans (g56.trans (g59.trans (g60.trans (g63.trans (g64.trans (g66.trans (g67.trans (g69.trans (g70.trans (g72.trans (g73.trans (g75.trans (g76.trans (g78.trans (g79.trans (g82.trans (g83.trans (g86.trans (g87.trans g89)))))))))))))))))))))))))))))))))))))))))))))) ne3_90).gr (g97.trans (g102.trans (g107.trans g113)))
     refine es 125 0 (.agg #[z113_0,z113_1,z113_2,z113_3,z113_4,z113_5,z113_6,z113_7]) [z113_0,z113_1,z113_2,z113_3,z113_4,z113_5,z113_6,z113_7] #[z113_0,z113_1,z113_2,z113_3,z113_4,z113_5,z113_6,z113_7] L3 hB q3 ⟨hw113_0.one0,hw113_0.one1,hw113_1.one0,hw113_1.one1,hw113_2.one0,hw113_2.one1,hw113_3.one0,hw113_3.one1,trivial⟩ fun w118 st118 kp118 L3 hB=>?_
     refine sq_nil ?_
     refine k112 _ _ ?_
     try clear k112 K112
     refine wp_ret ?_
     replace L9:=(((((((((((((((((((((((((((((((((((((((((((((((((((L9.gr g17).gr g18).gr g19).gr g22).gr g23).gr g25).gr g26).gr g28).gr g29).gr g31).gr g32).gr g34).gr g35).gr g37).gr g38).gr g40).gr g41).gr g43).gr g44).gr g46).gr g47).gr g49).gr g50).gr g52).gr g53).gr g55).gr g56).gr g59).gr g60).gr g63).gr g64).gr g66).gr g67).gr g69).gr g70).gr g72).gr g73).gr g75).gr g76).gr g78).gr g79).gr g82).gr g83).gr g86).gr g87).gr g89).st st92 ne9_90).gr g97).gr g102).gr g107).gr g113).st st118 (Ne.symm ne3_9)
     refine endN [D9] _ (List.Pairwise.cons (fun _ h=>absurd h (by simp)) List.Pairwise.nil) (List.forall_mem_cons.2 ⟨⟨Q9,L9⟩,(fun _ h=>absurd h (by simp))⟩) hB (fun w119 wt119 hB=>?_)
     replace L3:=wt119.lc L3 (by decide)
     refine ⟨(.agg #[z113_0,z113_1,z113_2,z113_3,z113_4,z113_5,z113_6,z113_7]),(ret_cell _ _ _ rfl rfl L3 (by kernel_rfl)),?_,hB⟩
     have kq120:=kp118.trans (wt119.kp (by decide))
     replace hw113_0:=hw113_0.kp kq120
     replace hw113_1:=hw113_1.kp kq120
     replace hw113_2:=hw113_2.kp kq120
     replace hw113_3:=hw113_3.kp kq120
     exact (by rw [qrow3t hb99 hb104 hb109];exact ⟨_,_,_,_,_,_,_,_,rfl,hw113_0.mono (by omega),hw113_1.mono (by omega),hw113_2.mono (by omega),hw113_3.mono (by omega)⟩)
    ·refine wp_exit ?_
     simp only [Exit.then,Exit.inBlock,↓reduceIte]
     refine k94 _ _ ?_
     try clear k94 K94
     refine wp_seq_k (fun K121 k121=>?_)
     refine rg [0,1,2,3,4] ?_
     refine sv 136 (.int .i64 2) ?_
     refine sv 137 (.pointer (some ⟨b90,32,none⟩)) ?_
     replace L90:=L90.gr g107
     refine sw 138 (.agg #[p50,q50,r50,s50,p53,q53,r53,s53,p64,q64,r64,s64,p67,q67,r67,s67]) rfl (rl 157 32 [p50,q50,r50,s50,p53,q53,r53,s53,p64,q64,r64,s64,p67,q67,r67,s67] L90) ?_
     refine se ?_
     have kq123:=g52.kp.trans (g53.kp.trans (g55.kp.trans (g56.kp.trans (g59.kp.trans (g60.kp.trans (g63.kp.trans (g64.kp.trans (g66.kp.trans (g67.kp.trans (g69.kp.trans (g70.kp.trans (g72.kp.trans (g73.kp.trans (g75.kp.trans (g76.kp.trans (g78.kp.trans (g79.kp.trans (g82.kp.trans (g83.kp.trans (g86.kp.trans (g87.kp.trans (g89.kp.trans (kp92.trans (g97.kp.trans (g102.kp.trans g107.kp)))))))))))))))))))))))))
     replace h50:=h50.kp kq123
     have kq124:=g55.kp.trans (g56.kp.trans (g59.kp.trans (g60.kp.trans (g63.kp.trans (g64.kp.trans (g66.kp.trans (g67.kp.trans (g69.kp.trans (g70.kp.trans (g72.kp.trans (g73.kp.trans (g75.kp.trans (g76.kp.trans (g78.kp.trans (g79.kp.trans (g82.kp.trans (g83.kp.trans (g86.kp.trans (g87.kp.trans (g89.kp.trans (kp92.trans (g97.kp.trans (g102.kp.trans g107.kp)))))))))))))))))))))))
     replace h53:=h53.kp kq124
     replace h64:=h64.kp g107.kp
     have kq125:=g69.kp.trans (g70.kp.trans (g72.kp.trans (g73.kp.trans (g75.kp.trans (g76.kp.trans (g78.kp.trans (g79.kp.trans (g82.kp.trans (g83.kp.trans (g86.kp.trans (g87.kp.trans (g89.kp.trans (kp92.trans (g97.kp.trans (g102.kp.trans g107.kp)))))))))))))))
     replace h67:=h67.kp kq125
     refine ec 139 (mwhole (k:=8*k+900) (h50.mono (by omega)) (h53.mono (by omega)) (h64.mono (by omega)) (h67.mono (by omega)) (row_pos3f hb99 hb104 hb109) (by omega)) ?_
     rintro e122 w122 ⟨⟨z122_0,z122_1,z122_2,z122_3,z122_4,z122_5,z122_6,z122_7,rfl,hw122_0,hw122_1,hw122_2,hw122_3⟩,g122⟩
     refine ⟨_,rfl,?_⟩
     replace hB:=hB.trans g122
     simp only [p3,p4]
     refine se ?_
     replace L3:=(st92.lc (L3.gr (g17.trans (g18.trans (g19.trans (g22.trans (g23.trans (g25.trans (g26.trans (g28.trans (g29.trans (g31.trans (g32.trans (g34.trans (g35.trans (g37.trans (g38.trans (g40.trans (g41.trans (g43.trans (g44.trans (g46.trans (g47.trans (g49.trans (g50.trans (g52.trans (g53.trans (g55.trans (g56.trans (g59.trans (g60.trans (g63.trans (g64.trans (g66.trans (g67.trans (g69.trans (g70.trans (g72.trans (g73.trans (g75.trans (g76.trans (g78.trans (g79.trans (g82.trans (g83.trans (g86.trans (g87.trans g89)))))))))))))))))))))))))))))))))))))))))))))) ne3_90).gr (g97.trans (g102.trans (g107.trans g122)))
     refine es 125 0 (.agg #[z122_0,z122_1,z122_2,z122_3,z122_4,z122_5,z122_6,z122_7]) [z122_0,z122_1,z122_2,z122_3,z122_4,z122_5,z122_6,z122_7] #[z122_0,z122_1,z122_2,z122_3,z122_4,z122_5,z122_6,z122_7] L3 hB q3 ⟨hw122_0.one0,hw122_0.one1,hw122_1.one0,hw122_1.one1,hw122_2.one0,hw122_2.one1,hw122_3.one0,hw122_3.one1,trivial⟩ fun w126 st126 kp126 L3 hB=>?_
     refine sq_nil ?_
     refine k121 _ _ ?_
     try clear k121 K121
     refine wp_ret ?_
     replace L9:=(((((((((((((((((((((((((((((((((((((((((((((((((((L9.gr g17).gr g18).gr g19).gr g22).gr g23).gr g25).gr g26).gr g28).gr g29).gr g31).gr g32).gr g34).gr g35).gr g37).gr g38).gr g40).gr g41).gr g43).gr g44).gr g46).gr g47).gr g49).gr g50).gr g52).gr g53).gr g55).gr g56).gr g59).gr g60).gr g63).gr g64).gr g66).gr g67).gr g69).gr g70).gr g72).gr g73).gr g75).gr g76).gr g78).gr g79).gr g82).gr g83).gr g86).gr g87).gr g89).st st92 ne9_90).gr g97).gr g102).gr g107).gr g122).st st126 (Ne.symm ne3_9)
     refine endN [D9] _ (List.Pairwise.cons (fun _ h=>absurd h (by simp)) List.Pairwise.nil) (List.forall_mem_cons.2 ⟨⟨Q9,L9⟩,(fun _ h=>absurd h (by simp))⟩) hB (fun w127 wt127 hB=>?_)
     replace L3:=wt127.lc L3 (by decide)
     refine ⟨(.agg #[z122_0,z122_1,z122_2,z122_3,z122_4,z122_5,z122_6,z122_7]),(ret_cell _ _ _ rfl rfl L3 (by kernel_rfl)),?_,hB⟩
     have kq128:=kp126.trans (wt127.kp (by decide))
     replace hw122_0:=hw122_0.kp kq128
     replace hw122_1:=hw122_1.kp kq128
     replace hw122_2:=hw122_2.kp kq128
     replace hw122_3:=hw122_3.kp kq128
     exact (by rw [qrow3f hb99 hb104 hb109];exact ⟨_,_,_,_,_,_,_,_,rfl,hw122_0.mono (by omega),hw122_1.mono (by omega),hw122_2.mono (by omega),hw122_3.mono (by omega)⟩)
   ·refine wp_exit ?_
    simp only [Exit.then,Exit.inBlock,↓reduceIte]
    refine k94 _ _ ?_
    try clear k94 K94
    refine wp_seq_k (fun K129 k129=>?_)
    refine rg [0,1,2,3,4] ?_
    refine sv 136 (.int .i64 1) ?_
    refine sv 137 (.pointer (some ⟨b90,16,none⟩)) ?_
    replace L90:=L90.gr g102
    refine sw 138 (.agg #[p32,q32,r32,s32,p41,q41,r41,s41,p44,q44,r44,s44,p47,q47,r47,s47]) rfl (rl 157 16 [p32,q32,r32,s32,p41,q41,r41,s41,p44,q44,r44,s44,p47,q47,r47,s47] L90) ?_
    refine se ?_
    have kq131:=g34.kp.trans (g35.kp.trans (g37.kp.trans (g38.kp.trans (g40.kp.trans (g41.kp.trans (g43.kp.trans (g44.kp.trans (g46.kp.trans (g47.kp.trans (g49.kp.trans (g50.kp.trans (g52.kp.trans (g53.kp.trans (g55.kp.trans (g56.kp.trans (g59.kp.trans (g60.kp.trans (g63.kp.trans (g64.kp.trans (g66.kp.trans (g67.kp.trans (g69.kp.trans (g70.kp.trans (g72.kp.trans (g73.kp.trans (g75.kp.trans (g76.kp.trans (g78.kp.trans (g79.kp.trans (g82.kp.trans (g83.kp.trans (g86.kp.trans (g87.kp.trans (g89.kp.trans (kp92.trans (g97.kp.trans g102.kp))))))))))))))))))))))))))))))))))))
    replace h32:=h32.kp kq131
    replace h41:=h41.kp g102.kp
    have kq132:=g46.kp.trans (g47.kp.trans (g49.kp.trans (g50.kp.trans (g52.kp.trans (g53.kp.trans (g55.kp.trans (g56.kp.trans (g59.kp.trans (g60.kp.trans (g63.kp.trans (g64.kp.trans (g66.kp.trans (g67.kp.trans (g69.kp.trans (g70.kp.trans (g72.kp.trans (g73.kp.trans (g75.kp.trans (g76.kp.trans (g78.kp.trans (g79.kp.trans (g82.kp.trans (g83.kp.trans (g86.kp.trans (g87.kp.trans (g89.kp.trans (kp92.trans (g97.kp.trans g102.kp))))))))))))))))))))))))))))
    replace h44:=h44.kp kq132
    have kq133:=g49.kp.trans (g50.kp.trans (g52.kp.trans (g53.kp.trans (g55.kp.trans (g56.kp.trans (g59.kp.trans (g60.kp.trans (g63.kp.trans (g64.kp.trans (g66.kp.trans (g67.kp.trans (g69.kp.trans (g70.kp.trans (g72.kp.trans (g73.kp.trans (g75.kp.trans (g76.kp.trans (g78.kp.trans (g79.kp.trans (g82.kp.trans (g83.kp.trans (g86.kp.trans (g87.kp.trans (g89.kp.trans (kp92.trans (g97.kp.trans g102.kp))))))))))))))))))))))))))
    replace h47:=h47.kp kq133
    refine ec 139 (mwhole (k:=8*k+900) (h32.mono (by omega)) (h41.mono (by omega)) (h44.mono (by omega)) (h47.mono (by omega)) (row_pos2f hb99 hb104) (by omega)) ?_
    rintro e130 w130 ⟨⟨z130_0,z130_1,z130_2,z130_3,z130_4,z130_5,z130_6,z130_7,rfl,hw130_0,hw130_1,hw130_2,hw130_3⟩,g130⟩
    refine ⟨_,rfl,?_⟩
    replace hB:=hB.trans g130
    simp only [p3,p4]
    refine se ?_
    replace L3:=(st92.lc (L3.gr (g17.trans (g18.trans (g19.trans (g22.trans (g23.trans (g25.trans (g26.trans (g28.trans (g29.trans (g31.trans (g32.trans (g34.trans (g35.trans (g37.trans (g38.trans (g40.trans (g41.trans (g43.trans (g44.trans (g46.trans (g47.trans (g49.trans (g50.trans (g52.trans (g53.trans (g55.trans (g56.trans (g59.trans (g60.trans (g63.trans (g64.trans (g66.trans (g67.trans (g69.trans (g70.trans (g72.trans (g73.trans (g75.trans (g76.trans (g78.trans (g79.trans (g82.trans (g83.trans (g86.trans (g87.trans g89)))))))))))))))))))))))))))))))))))))))))))))) ne3_90).gr (g97.trans (g102.trans g130))
    refine es 125 0 (.agg #[z130_0,z130_1,z130_2,z130_3,z130_4,z130_5,z130_6,z130_7]) [z130_0,z130_1,z130_2,z130_3,z130_4,z130_5,z130_6,z130_7] #[z130_0,z130_1,z130_2,z130_3,z130_4,z130_5,z130_6,z130_7] L3 hB q3 ⟨hw130_0.one0,hw130_0.one1,hw130_1.one0,hw130_1.one1,hw130_2.one0,hw130_2.one1,hw130_3.one0,hw130_3.one1,trivial⟩ fun w134 st134 kp134 L3 hB=>?_
    refine sq_nil ?_
    refine k129 _ _ ?_
    try clear k129 K129
    refine wp_ret ?_
    replace L9:=((((((((((((((((((((((((((((((((((((((((((((((((((L9.gr g17).gr g18).gr g19).gr g22).gr g23).gr g25).gr g26).gr g28).gr g29).gr g31).gr g32).gr g34).gr g35).gr g37).gr g38).gr g40).gr g41).gr g43).gr g44).gr g46).gr g47).gr g49).gr g50).gr g52).gr g53).gr g55).gr g56).gr g59).gr g60).gr g63).gr g64).gr g66).gr g67).gr g69).gr g70).gr g72).gr g73).gr g75).gr g76).gr g78).gr g79).gr g82).gr g83).gr g86).gr g87).gr g89).st st92 ne9_90).gr g97).gr g102).gr g130).st st134 (Ne.symm ne3_9)
    refine endN [D9] _ (List.Pairwise.cons (fun _ h=>absurd h (by simp)) List.Pairwise.nil) (List.forall_mem_cons.2 ⟨⟨Q9,L9⟩,(fun _ h=>absurd h (by simp))⟩) hB (fun w135 wt135 hB=>?_)
    replace L3:=wt135.lc L3 (by decide)
    refine ⟨(.agg #[z130_0,z130_1,z130_2,z130_3,z130_4,z130_5,z130_6,z130_7]),(ret_cell _ _ _ rfl rfl L3 (by kernel_rfl)),?_,hB⟩
    have kq136:=kp134.trans (wt135.kp (by decide))
    replace hw130_0:=hw130_0.kp kq136
    replace hw130_1:=hw130_1.kp kq136
    replace hw130_2:=hw130_2.kp kq136
    replace hw130_3:=hw130_3.kp kq136
    exact (by rw [qrow2f hb99 hb104];exact ⟨_,_,_,_,_,_,_,_,rfl,hw130_0.mono (by omega),hw130_1.mono (by omega),hw130_2.mono (by omega),hw130_3.mono (by omega)⟩)
  ·refine wp_exit ?_
   simp only [Exit.then,Exit.inBlock,↓reduceIte]
   refine k94 _ _ ?_
   try clear k94 K94
   refine wp_seq_k (fun K137 k137=>?_)
   refine rg [0,1,2,3,4] ?_
   refine sv 136 (.int .i64 0) ?_
   refine sv 137 (.pointer (some ⟨b90,0,none⟩)) ?_
   replace L90:=L90.gr g97
   refine sw 138 (.agg #[p19,q19,r19,s19,p23,q23,r23,s23,p26,q26,r26,s26,p29,q29,r29,s29]) rfl (rl 157 0 [p19,q19,r19,s19,p23,q23,r23,s23,p26,q26,r26,s26,p29,q29,r29,s29] L90) ?_
   refine se ?_
   replace h19:=h19.kp g97.kp
   have kq139:=g25.kp.trans (g26.kp.trans (g28.kp.trans (g29.kp.trans (g31.kp.trans (g32.kp.trans (g34.kp.trans (g35.kp.trans (g37.kp.trans (g38.kp.trans (g40.kp.trans (g41.kp.trans (g43.kp.trans (g44.kp.trans (g46.kp.trans (g47.kp.trans (g49.kp.trans (g50.kp.trans (g52.kp.trans (g53.kp.trans (g55.kp.trans (g56.kp.trans (g59.kp.trans (g60.kp.trans (g63.kp.trans (g64.kp.trans (g66.kp.trans (g67.kp.trans (g69.kp.trans (g70.kp.trans (g72.kp.trans (g73.kp.trans (g75.kp.trans (g76.kp.trans (g78.kp.trans (g79.kp.trans (g82.kp.trans (g83.kp.trans (g86.kp.trans (g87.kp.trans (g89.kp.trans (kp92.trans g97.kp)))))))))))))))))))))))))))))))))))))))))
   replace h23:=h23.kp kq139
   have kq140:=g28.kp.trans (g29.kp.trans (g31.kp.trans (g32.kp.trans (g34.kp.trans (g35.kp.trans (g37.kp.trans (g38.kp.trans (g40.kp.trans (g41.kp.trans (g43.kp.trans (g44.kp.trans (g46.kp.trans (g47.kp.trans (g49.kp.trans (g50.kp.trans (g52.kp.trans (g53.kp.trans (g55.kp.trans (g56.kp.trans (g59.kp.trans (g60.kp.trans (g63.kp.trans (g64.kp.trans (g66.kp.trans (g67.kp.trans (g69.kp.trans (g70.kp.trans (g72.kp.trans (g73.kp.trans (g75.kp.trans (g76.kp.trans (g78.kp.trans (g79.kp.trans (g82.kp.trans (g83.kp.trans (g86.kp.trans (g87.kp.trans (g89.kp.trans (kp92.trans g97.kp)))))))))))))))))))))))))))))))))))))))
   replace h26:=h26.kp kq140
   have kq141:=g31.kp.trans (g32.kp.trans (g34.kp.trans (g35.kp.trans (g37.kp.trans (g38.kp.trans (g40.kp.trans (g41.kp.trans (g43.kp.trans (g44.kp.trans (g46.kp.trans (g47.kp.trans (g49.kp.trans (g50.kp.trans (g52.kp.trans (g53.kp.trans (g55.kp.trans (g56.kp.trans (g59.kp.trans (g60.kp.trans (g63.kp.trans (g64.kp.trans (g66.kp.trans (g67.kp.trans (g69.kp.trans (g70.kp.trans (g72.kp.trans (g73.kp.trans (g75.kp.trans (g76.kp.trans (g78.kp.trans (g79.kp.trans (g82.kp.trans (g83.kp.trans (g86.kp.trans (g87.kp.trans (g89.kp.trans (kp92.trans g97.kp)))))))))))))))))))))))))))))))))))))
   replace h29:=h29.kp kq141
   refine ec 139 (mwhole (k:=8*k+900) (h19.mono (by omega)) (h23.mono (by omega)) (h26.mono (by omega)) (h29.mono (by omega)) (row_pos1f hb99) (by omega)) ?_
   rintro e138 w138 ⟨⟨z138_0,z138_1,z138_2,z138_3,z138_4,z138_5,z138_6,z138_7,rfl,hw138_0,hw138_1,hw138_2,hw138_3⟩,g138⟩
   refine ⟨_,rfl,?_⟩
   replace hB:=hB.trans g138
   simp only [p3,p4]
   refine se ?_
   replace L3:=(st92.lc (L3.gr (g17.trans (g18.trans (g19.trans (g22.trans (g23.trans (g25.trans (g26.trans (g28.trans (g29.trans (g31.trans (g32.trans (g34.trans (g35.trans (g37.trans (g38.trans (g40.trans (g41.trans (g43.trans (g44.trans (g46.trans (g47.trans (g49.trans (g50.trans (g52.trans (g53.trans (g55.trans (g56.trans (g59.trans (g60.trans (g63.trans (g64.trans (g66.trans (g67.trans (g69.trans (g70.trans (g72.trans (g73.trans (g75.trans (g76.trans (g78.trans (g79.trans (g82.trans (g83.trans (g86.trans (g87.trans g89)))))))))))))))))))))))))))))))))))))))))))))) ne3_90).gr (g97.trans g138)
   refine es 125 0 (.agg #[z138_0,z138_1,z138_2,z138_3,z138_4,z138_5,z138_6,z138_7]) [z138_0,z138_1,z138_2,z138_3,z138_4,z138_5,z138_6,z138_7] #[z138_0,z138_1,z138_2,z138_3,z138_4,z138_5,z138_6,z138_7] L3 hB q3 ⟨hw138_0.one0,hw138_0.one1,hw138_1.one0,hw138_1.one1,hw138_2.one0,hw138_2.one1,hw138_3.one0,hw138_3.one1,trivial⟩ fun w142 st142 kp142 L3 hB=>?_
   refine sq_nil ?_
   refine k137 _ _ ?_
   try clear k137 K137
   refine wp_ret ?_
   replace L9:=(((((((((((((((((((((((((((((((((((((((((((((((((L9.gr g17).gr g18).gr g19).gr g22).gr g23).gr g25).gr g26).gr g28).gr g29).gr g31).gr g32).gr g34).gr g35).gr g37).gr g38).gr g40).gr g41).gr g43).gr g44).gr g46).gr g47).gr g49).gr g50).gr g52).gr g53).gr g55).gr g56).gr g59).gr g60).gr g63).gr g64).gr g66).gr g67).gr g69).gr g70).gr g72).gr g73).gr g75).gr g76).gr g78).gr g79).gr g82).gr g83).gr g86).gr g87).gr g89).st st92 ne9_90).gr g97).gr g138).st st142 (Ne.symm ne3_9)
   refine endN [D9] _ (List.Pairwise.cons (fun _ h=>absurd h (by simp)) List.Pairwise.nil) (List.forall_mem_cons.2 ⟨⟨Q9,L9⟩,(fun _ h=>absurd h (by simp))⟩) hB (fun w143 wt143 hB=>?_)
   replace L3:=wt143.lc L3 (by decide)
   refine ⟨(.agg #[z138_0,z138_1,z138_2,z138_3,z138_4,z138_5,z138_6,z138_7]),(ret_cell _ _ _ rfl rfl L3 (by kernel_rfl)),?_,hB⟩
   have kq144:=kp142.trans (wt143.kp (by decide))
   replace hw138_0:=hw138_0.kp kq144
   replace hw138_1:=hw138_1.kp kq144
   replace hw138_2:=hw138_2.kp kq144
   replace hw138_3:=hw138_3.kp kq144
   exact (by rw [qrow1f hb99];exact ⟨_,_,_,_,_,_,_,_,rfl,hw138_0.mono (by omega),hw138_1.mono (by omega),hw138_2.mono (by omega),hw138_3.mono (by omega)⟩)
 ·intro D c prs W _ h;exact h.elim

end Go.Proofs.YtaldbfflkpgfoaaGreatDoor
/- Printed by a program of the prover's:contracts of motions. -/
namespace Go.Proofs.YtaldbfflkpgfoaaGreatDoor
open Go.RowKit

def cMEq:ConT:=con2 asRats asRats fun
  | [(k0,a0),(k1,a1),(k2,a2),(k3,a3),(k4,a4),(k5,a5),(k6,a6),(k7,a7),(k8,a8),(k9,a9),(k10,a10),(k11,a11)],[(m0,b0),(m1,b1),(m2,b2),(m3,b3),(m4,b4),(m5,b5),(m6,b6),(m7,b7),(m8,b8),(m9,b9),(m10,b10),(m11,b11)],_,_=>tr (Nat.ble k0 40000&&Nat.ble k1 40000&&Nat.ble k2 40000&&Nat.ble k3 40000&&Nat.ble k4 40000&&Nat.ble k5 40000&&Nat.ble k6 40000&&Nat.ble k7 40000&&Nat.ble k8 40000&&Nat.ble k9 40000&&Nat.ble k10 40000&&Nat.ble k11 40000&&Nat.ble m0 40000&&Nat.ble m1 40000&&Nat.ble m2 40000&&Nat.ble m3 40000&&Nat.ble m4 40000&&Nat.ble m5 40000&&Nat.ble m6 40000&&Nat.ble m7 40000&&Nat.ble m8 40000&&Nat.ble m9 40000&&Nat.ble m10 40000&&Nat.ble m11 40000) (.leaf (.so (.vc (.cb (decide ([a0,a1,a2,a3,a4,a5,a6,a7,a8,a9,a10,a11]=[b0,b1,b2,b3,b4,b5,b6,b7,b8,b9,b10,b11])) none))) 0 0)
  | _,_,_,_=>none
def cTurn:ConT:=con1 asRats fun
  | [(k0,a0),(k1,a1),(k2,a2),(k3,a3),(k4,a4),(k5,a5),(k6,a6),(k7,a7),(k8,a8),(k9,_a9),(k10,_a10),(k11,_a11)],_,nz=>tr (Nat.ble k0 800&&Nat.ble k1 800&&Nat.ble k2 800&&Nat.ble k3 800&&Nat.ble k4 800&&Nat.ble k5 800&&Nat.ble k6 800&&Nat.ble k7 800&&Nat.ble k8 800&&Nat.ble k9 800&&Nat.ble k10 800&&Nat.ble k11 800) (.leaf (newInts nz 40128 (wzq (qrow a0 a1 a2 a3 a4 a5 a6 a7 a8) 0) (wzq (qrow a0 a1 a2 a3 a4 a5 a6 a7 a8) 1) (wzq (qrow a0 a1 a2 a3 a4 a5 a6 a7 a8) 2) (wzq (qrow a0 a1 a2 a3 a4 a5 a6 a7 a8) 3)) 0 4)
  | _,_,_=>none
section
variable {I:World→Prop}
theorem cMEq_ok:ConOK Tryz.prog I 16 cMEq:=con2_ok fun _ _ _ _ _ _ _ _ _ h1 h2 hx hy hT _=>by
  split at hT
  · obtain ⟨hb,rfl⟩:=tr_some hT
    simp only [Bool.and_eq_true,Nat.ble_eq] at hb
    obtain ⟨vs,e1,hA⟩:=asRats_ok h1 hx
    obtain ⟨us,e2,hB⟩:=asRats_ok h2 hy
    rw [e1,e2]
    obtain ⟨pa0,pb0,pc0,pd0,pr0,rfl,hA0,hA⟩:=hA.cons
    obtain ⟨pa1,pb1,pc1,pd1,pr1,rfl,hA1,hA⟩:=hA.cons
    obtain ⟨pa2,pb2,pc2,pd2,pr2,rfl,hA2,hA⟩:=hA.cons
    obtain ⟨pa3,pb3,pc3,pd3,pr3,rfl,hA3,hA⟩:=hA.cons
    obtain ⟨pa4,pb4,pc4,pd4,pr4,rfl,hA4,hA⟩:=hA.cons
    obtain ⟨pa5,pb5,pc5,pd5,pr5,rfl,hA5,hA⟩:=hA.cons
    obtain ⟨pa6,pb6,pc6,pd6,pr6,rfl,hA6,hA⟩:=hA.cons
    obtain ⟨pa7,pb7,pc7,pd7,pr7,rfl,hA7,hA⟩:=hA.cons
    obtain ⟨pa8,pb8,pc8,pd8,pr8,rfl,hA8,hA⟩:=hA.cons
    obtain ⟨pa9,pb9,pc9,pd9,pr9,rfl,hA9,hA⟩:=hA.cons
    obtain ⟨pa10,pb10,pc10,pd10,pr10,rfl,hA10,hA⟩:=hA.cons
    obtain ⟨pa11,pb11,pc11,pd11,pr11,rfl,hA11,hA⟩:=hA.cons
    obtain rfl:=hA.nil
    replace hA0:=hA0.mono (m:=40000) (by omega)
    replace hA1:=hA1.mono (m:=40000) (by omega)
    replace hA2:=hA2.mono (m:=40000) (by omega)
    replace hA3:=hA3.mono (m:=40000) (by omega)
    replace hA4:=hA4.mono (m:=40000) (by omega)
    replace hA5:=hA5.mono (m:=40000) (by omega)
    replace hA6:=hA6.mono (m:=40000) (by omega)
    replace hA7:=hA7.mono (m:=40000) (by omega)
    replace hA8:=hA8.mono (m:=40000) (by omega)
    replace hA9:=hA9.mono (m:=40000) (by omega)
    replace hA10:=hA10.mono (m:=40000) (by omega)
    replace hA11:=hA11.mono (m:=40000) (by omega)
    obtain ⟨qa0,qb0,qc0,qd0,qr0,rfl,hB0,hB⟩:=hB.cons
    obtain ⟨qa1,qb1,qc1,qd1,qr1,rfl,hB1,hB⟩:=hB.cons
    obtain ⟨qa2,qb2,qc2,qd2,qr2,rfl,hB2,hB⟩:=hB.cons
    obtain ⟨qa3,qb3,qc3,qd3,qr3,rfl,hB3,hB⟩:=hB.cons
    obtain ⟨qa4,qb4,qc4,qd4,qr4,rfl,hB4,hB⟩:=hB.cons
    obtain ⟨qa5,qb5,qc5,qd5,qr5,rfl,hB5,hB⟩:=hB.cons
    obtain ⟨qa6,qb6,qc6,qd6,qr6,rfl,hB6,hB⟩:=hB.cons
    obtain ⟨qa7,qb7,qc7,qd7,qr7,rfl,hB7,hB⟩:=hB.cons
    obtain ⟨qa8,qb8,qc8,qd8,qr8,rfl,hB8,hB⟩:=hB.cons
    obtain ⟨qa9,qb9,qc9,qd9,qr9,rfl,hB9,hB⟩:=hB.cons
    obtain ⟨qa10,qb10,qc10,qd10,qr10,rfl,hB10,hB⟩:=hB.cons
    obtain ⟨qa11,qb11,qc11,qd11,qr11,rfl,hB11,hB⟩:=hB.cons
    obtain rfl:=hB.nil
    replace hB0:=hB0.mono (m:=40000) (by omega)
    replace hB1:=hB1.mono (m:=40000) (by omega)
    replace hB2:=hB2.mono (m:=40000) (by omega)
    replace hB3:=hB3.mono (m:=40000) (by omega)
    replace hB4:=hB4.mono (m:=40000) (by omega)
    replace hB5:=hB5.mono (m:=40000) (by omega)
    replace hB6:=hB6.mono (m:=40000) (by omega)
    replace hB7:=hB7.mono (m:=40000) (by omega)
    replace hB8:=hB8.mono (m:=40000) (by omega)
    replace hB9:=hB9.mono (m:=40000) (by omega)
    replace hB10:=hB10.mono (m:=40000) (by omega)
    replace hB11:=hB11.mono (m:=40000) (by omega)
    exact (mequal (k:=40000) (m:=40000) hA0 hA1 hA2 hA3 hA4 hA5 hA6 hA7 hA8 hA9 hA10 hA11 hB0 hB1 hB2 hB3 hB4 hB5 hB6 hB7 hB8 hB9 hB10 hB11 (by decide)).mono fun e w' he=>val_holds he ⟨rfl,fun v hv=>by cases hv⟩
  · cases hT
theorem cTurn_ok:ConOK Tryz.prog I 67 cTurn:=con1_ok fun _ _ _ _ _ _ _ h1 h2 hT _=>by
  split at hT
  · obtain ⟨hb,rfl⟩:=tr_some hT
    simp only [Bool.and_eq_true,Nat.ble_eq] at hb
    obtain ⟨vs,e1,hA⟩:=asRats_ok h1 h2
    rw [e1]
    obtain ⟨pa0,pb0,pc0,pd0,pr0,rfl,hA0,hA⟩:=hA.cons
    obtain ⟨pa1,pb1,pc1,pd1,pr1,rfl,hA1,hA⟩:=hA.cons
    obtain ⟨pa2,pb2,pc2,pd2,pr2,rfl,hA2,hA⟩:=hA.cons
    obtain ⟨pa3,pb3,pc3,pd3,pr3,rfl,hA3,hA⟩:=hA.cons
    obtain ⟨pa4,pb4,pc4,pd4,pr4,rfl,hA4,hA⟩:=hA.cons
    obtain ⟨pa5,pb5,pc5,pd5,pr5,rfl,hA5,hA⟩:=hA.cons
    obtain ⟨pa6,pb6,pc6,pd6,pr6,rfl,hA6,hA⟩:=hA.cons
    obtain ⟨pa7,pb7,pc7,pd7,pr7,rfl,hA7,hA⟩:=hA.cons
    obtain ⟨pa8,pb8,pc8,pd8,pr8,rfl,hA8,hA⟩:=hA.cons
    obtain ⟨pa9,pb9,pc9,pd9,pr9,rfl,hA9,hA⟩:=hA.cons
    obtain ⟨pa10,pb10,pc10,pd10,pr10,rfl,hA10,hA⟩:=hA.cons
    obtain ⟨pa11,pb11,pc11,pd11,pr11,rfl,hA11,hA⟩:=hA.cons
    obtain rfl:=hA.nil
    replace hA0:=hA0.mono (m:=800) (by omega)
    replace hA1:=hA1.mono (m:=800) (by omega)
    replace hA2:=hA2.mono (m:=800) (by omega)
    replace hA3:=hA3.mono (m:=800) (by omega)
    replace hA4:=hA4.mono (m:=800) (by omega)
    replace hA5:=hA5.mono (m:=800) (by omega)
    replace hA6:=hA6.mono (m:=800) (by omega)
    replace hA7:=hA7.mono (m:=800) (by omega)
    replace hA8:=hA8.mono (m:=800) (by omega)
    replace hA9:=hA9.mono (m:=800) (by omega)
    replace hA10:=hA10.mono (m:=800) (by omega)
    replace hA11:=hA11.mono (m:=800) (by omega)
    exact (mturnq (k:=800) (ks:=800) hA0 hA1 hA2 hA3 hA4 hA5 hA6 hA7 hA8 hA9 hA10 hA11 (by decide) (by decide)).mono fun e w' he=>newInts_holds he
  · cases hT
end
end Go.Proofs.YtaldbfflkpgfoaaGreatDoor
/- Printed by a program of the prover's:what known needs. -/
namespace Go.Proofs.YtaldbfflkpgfoaaGreatDoor
open Go.RowKit

/-- how the regions that draw their order are run -/
noncomputable def tabN:List (Nat × List (Nat × Ent)):=[(19,[(5,.ord [(true,0),(true,1),(true,3),(true,4),(false,2),(true,5),(false,6)] [1])]),
 (22,[]),
 (24,[(9,.ord [(true,0),(true,1),(true,2),(true,3),(true,5),(true,6),(false,4),(true,7),(false,8)] [5])]),
 (30,[(1,.flo [(true,0),(true,1),(true,2),(true,3),(false,4),(true,5),(false,6)] [(7,3,41)] [(false,8)] []),(2,.ord [(true,0),(false,1),(false,2),(true,3),(true,4),(true,5),(true,6),(true,7),(true,8),(true,9),(true,10),(true,11),(true,12),(false,13),(false,14),(true,15),(true,16),(true,17)] [])]),
 (32,[]),
 (36,[]),
 (38,[]),
 (39,[(1,.ord [(true,0),(true,1),(true,2),(false,3),(false,4),(false,5)] [6])]),
 (41,[(6,.ord [(true,0),(true,1),(true,2),(true,3),(true,4),(true,5),(true,6),(true,8),(true,9),(true,10),(true,11),(true,12),(true,13),(false,7),(false,14),(false,15),(true,16),(false,17)] [5])]),
 (43,[(1,.ord [(true,0),(true,1),(true,3),(true,4),(false,2),(false,5),(false,6)] [4])]),
 (44,[]),
 (69,[(8,.ord [(true,0),(true,1),(true,2),(true,3),(true,4),(false,5)] [3])]),
 (74,[(5,.ord [(true,0),(true,1),(true,2),(true,3),(true,4),(true,5),(true,6),(true,7),(false,8),(true,9),(false,10)] [7])]),
 (83,[]),
 (86,[])]
noncomputable def conN:List (Nat × ConT):=[(103,conRR 100000 (fun k m=>k+m+1) (fun a b=>a+b)),
 (75,conRR 100000 (fun k m=>k+m+1) (fun a b=>a - b)),
 (82,conRR 100000 (fun k m=>k+m) (fun a b=>a*b)),
 (108,cNeg),
 (59,cFrom),
 (37,cComp),
 (76,cSign),
 (87,cNumb),
 (130,cNum),
 (81,cDen),
 (58,cDiv),
 (96,cZFrom),
 (80,cZMul),
 (122,cZGcd),
 (123,cZDiv),
 (68,cZInt),
 (105,cTT (fun k m=>k+m+1) fun a b=>a+b),
 (132,cTT (fun k m=>k+m+1) fun a b=>a - b),
 (106,cTT (fun k m=>k+m) fun a b=>a*b),
 (64,cTDiv),
 (115,cTNeg),
 (65,cTFrom),
 (94,cPars 400),
 (107,cPars 65536),
 (15,cChk),
 (66,cPrim),
 (14,cOf),
 (16,cMEq),
 (67,cTurn)]
noncomputable def sysN:Sys:=⟨Tryz.prog,2,199,tabN,conN,fun w=>Tab w∧Mx w⟩
theorem sysN_ok:sysN.OK where
  mixed:=by kernel_rfl
  calls:=fun f h0 h1=>by
    have:(List.range 199).all (fun f=>Nat.blt f 2||okCall Tryz.prog f)=true:=by kernel_rfl
    have:=List.all_eq_true.1 this f (List.mem_range.2 h1)
    simp only [Bool.or_eq_true] at this
    exact this.resolve_left (fun e=>by have:=blt_of e;exact absurd h0 (by show ¬ 2≤f;omega))
  tab:=by
    have:tabN.all (okTab Tryz.prog)=true:=by kernel_rfl
    exact fun x hx=>List.all_eq_true.1 this x hx
  con:=fun x hx=>by
    simp only [sysN,conN,List.mem_cons,List.not_mem_nil,or_false] at hx
    rcases hx with rfl | rfl | rfl | rfl | rfl | rfl | rfl | rfl | rfl | rfl | rfl | rfl | rfl | rfl | rfl | rfl | rfl | rfl | rfl | rfl | rfl | rfl | rfl | rfl | rfl | rfl | rfl | rfl | rfl
    · exact conRR_ok fun h1 h2 h3=>add_r h1 h2 h3
    · exact conRR_ok fun h1 h2 h3=>sub_r h1 h2 h3
    · exact conRR_ok fun h1 h2 h3=>mul_r h1 h2 h3
    · exact cNeg_ok
    · exact cFrom_ok
    · exact cComp_ok
    · exact cSign_ok
    · exact cNumb_ok fun w h=>h.1
    · exact cNum_ok
    · exact cDen_ok
    · exact cDiv_ok
    · exact cZFrom_ok
    · exact cZMul_ok
    · exact cZGcd_ok
    · exact cZDiv_ok
    · exact cZInt_ok
    · exact cTAdd_ok
    · exact cTSub_ok
    · exact cTMul_ok
    · exact cTDiv_ok
    · exact cTNeg_ok
    · exact cTFrom_ok
    · exact cPars_ok fun w h=>h.2
    · exact cRead_ok fun w h=>h.2
    · exact cChk_ok fun w h=>h.2
    · exact cPrim_ok
    · exact cOf_ok fun w h=>h
    · exact cMEq_ok
    · exact cTurn_ok
  inv:=fun w w' h g=>⟨h.1.gr g,h.2.gr g⟩
/-- a run on closed numbers:what it comes to -/
def okLf (p:SV→Bool):Lf→Bool
  | .ret v=>p v
  | .br t a b=>match t with
    | true=>okLf p a
    | false=>okLf p b
  | .as t v a=>match t,v with
    | true,true=>okLf p a
    | false,false=>okLf p a
    | _,_=>false
theorem okLf_ok {p:SV→Bool}:∀ {L:Lf},okLf p L=true→LOK (fun v=>p v=true) L
  | .ret v,h=>h
  | .br t a b,h=>by
    cases t with
    | true=>exact ⟨fun _=>okLf_ok (L:=a) h,fun e=>by cases e⟩
    | false=>exact ⟨fun e=>(by cases e),fun _=>okLf_ok (L:=b) h⟩
  | .as t v a,h=>by
    cases t<;>cases v<;>first | exact absurd h (by show ¬(false=true);decide) | exact ⟨rfl,okLf_ok (L:=a) h⟩
def okRun (p:SV→Bool):Rs→Bool
  | some L=>okLf p L
  | none=>false
theorem okRun_ok {p:SV→Bool} {r:Rs} (h:okRun p r=true):∃ L,r=some L∧LOK (fun v=>p v=true) L:=by
  cases r with
  | none=>cases h
  | some L=>exact ⟨L,rfl,okLf_ok h⟩
def tz0 (c:Cl):Bool:=match txC c with
  | some (_,q)=>decide (q=0)
  | none=>false
def tzE:Cl→Bool
  | .cw [] _=>true
  | _=>false
def pJ (z e:Int) (tz:Cl→Bool):SV→Bool
  | .st [.vg [.ci .i64 a _ _,.ci .i64 b _ _,.ci .i64 c _ _,.ci .i64 d _ _,t1,t2,t3],.vc (.ci .i64 f _ _)]=>decide (a=0)&&decide (b=0)&&decide (c=0)&&decide (d=z)&&decide (f=e)&&tz t1&&tz t2&&tz t3
  | _=>false
theorem runJ1:okRun (pJ 1 0 tz0) (runF sysN 32 [.so (.vg [.ci .i64 1 1 1,.ci .i64 0 0 0,.ci .i64 0 0 0,.ci .i64 1 1 1,.cw (ratL 0) (some (64,0)),.cw (ratL 0) (some (64,0)),.cw (ratL 0) (some (64,0))]),.so (.vg [.ci .i64 1 1 1,.ci .i64 0 0 0,.ci .i64 0 0 0,.ci .i64 1 1 1,.cw (ratL 0) (some (64,0)),.cw (ratL 0) (some (64,0)),.cw (ratL 0) (some (64,0))])] 0 0 .c)=true:=by kernel_rfl
theorem runJ2:okRun (pJ 0 2 tzE) (runF sysN 32 [.so (.vg [.ci .i64 12 12 12,.ci .i64 1 1 1,.ci .i64 0 0 0,.ci .i64 0 0 0,.cw (ratL 0) (some (64,0)),.cw (ratL 0) (some (64,0)),.cw (ratL 0) (some (64,0))]),.so (.vg [.ci .i64 12 12 12,.ci .i64 1 1 1,.ci .i64 0 0 0,.ci .i64 0 0 0,.cw (ratL 0) (some (64,0)),.cw (ratL 0) (some (64,0)),.cw (ratL 0) (some (64,0))])] 0 0 .c)=true:=by kernel_rfl
theorem tz0_ok {n:Nn} {X:Env} {w:World} {c:Cl} (h:tz0 c=true) (hc:c.ok n X w):c.den X=.string ⟨([48]:List UInt8).toArray⟩:=by
  unfold tz0 at h
  split at h
  · rename_i k q e
    rw [(txC_ok e hc).1,of_decide_eq_true h,ratL0]
  · cases h
theorem tzE_ok {X:Env} {c:Cl} (h:tzE c=true):c.den X=.string ⟨([]:List UInt8).toArray⟩:=by
  unfold tzE at h
  split at h
  · rfl
  · cases h
theorem pJ_ok {n:Nn} {X:Env} {w:World} {z e:Int} {tz:Cl→Bool} {v:SV} (h:pJ z e tz v=true) (hv:v.ok n X w):∃ c1 c2 c3:Cl,v.den X=.tuple #[.agg #[.int .i64 0,.int .i64 0,.int .i64 0,.int .i64 z,c1.den X,c2.den X,c3.den X],.int .i64 e]∧(tz c1=true∧c1.ok n X w)∧(tz c2=true∧c2.ok n X w)∧(tz c3=true∧c3.ok n X w):=by
  unfold pJ at h
  split at h
  · rename_i a _ _ b _ _ c _ _ d _ _ t1 t2 t3 f _ _
    simp only [Bool.and_eq_true,decide_eq_true_eq] at h
    obtain ⟨⟨⟨⟨⟨⟨⟨rfl,rfl⟩,rfl⟩,rfl⟩,rfl⟩,h1⟩,h2⟩,h3⟩:=h
    have g:=hv (.vg _) (.head _)
    exact ⟨t1,t2,t3,rfl,⟨h1,g t1 (by simp)⟩,⟨h2,g t2 (by simp)⟩,⟨h3,g t3 (by simp)⟩⟩
  · cases h
theorem tx0 (w:World):(Cl.cw (ratL 0) (some (64,0))).ok ⟨0,0,0⟩ (envR []) w:=⟨rfl,fun k q e=>by cases e;exact ⟨rfl,Nat.two_pow_pos _,Nat.one_lt_two_pow (by decide)⟩⟩
theorem ci0 (z:Int) (w:World):(Cl.ci .i64 z z z).ok ⟨0,0,0⟩ (envR []) w:=⟨rfl,Int.le_refl _,Int.le_refl _⟩
theorem okq (a b c d:Int) (w:World):SV.ok ⟨0,0,0⟩ (envR []) w (.so (.vg [.ci .i64 a a a,.ci .i64 b b b,.ci .i64 c c c,.ci .i64 d d d,.cw (ratL 0) (some (64,0)),.cw (ratL 0) (some (64,0)),.cw (ratL 0) (some (64,0))])):=okA_ok ⟨ci0 _ _,ci0 _ _,ci0 _ _,ci0 _ _,tx0 _,tx0 _,tx0 _,trivial⟩
theorem okF2 {n:Nn} {X:Env} {W:World} {u v:SV} (h1:u.ok n X W) (h2:v.ok n X W):okF n X W [u,v]:=fun x hx=>by
  simp only [List.mem_cons,List.not_mem_nil,or_false] at hx
  rcases hx with rfl | rfl
  · exact h1
  · exact h2
theorem join_k1 (w:World) (hm:Mx w) (ht:Tab w):
    Calls Tryz.prog 32 #[.agg #[.int .i64 1,.int .i64 0,.int .i64 0,.int .i64 1,.string ⟨([48]:List UInt8).toArray⟩,.string ⟨([48]:List UInt8).toArray⟩,.string ⟨([48]:List UInt8).toArray⟩],.agg #[.int .i64 1,.int .i64 0,.int .i64 0,.int .i64 1,.string ⟨([48]:List UInt8).toArray⟩,.string ⟨([48]:List UInt8).toArray⟩,.string ⟨([48]:List UInt8).toArray⟩]] w fun e w'=>e=.returned (.tuple #[.agg #[.int .i64 0,.int .i64 0,.int .i64 0,.int .i64 1,.string ⟨([48]:List UInt8).toArray⟩,.string ⟨([48]:List UInt8).toArray⟩,.string ⟨([48]:List UInt8).toArray⟩],.int .i64 0])∧Gr w w':=by
  obtain ⟨L,hr,hL⟩:=okRun_ok runJ1
  have:=(run_calls sysN sysN_ok hr (X:=envR []) ⟨ht,hm⟩ (okF2 (okq 1 0 0 1 w) (okq 1 0 0 1 w)) hL)
  rw [show ([.so (.vg [.ci .i64 1 1 1,.ci .i64 0 0 0,.ci .i64 0 0 0,.ci .i64 1 1 1,.cw (ratL 0) (some (64,0)),.cw (ratL 0) (some (64,0)),.cw (ratL 0) (some (64,0))]),.so (.vg [.ci .i64 1 1 1,.ci .i64 0 0 0,.ci .i64 0 0 0,.ci .i64 1 1 1,.cw (ratL 0) (some (64,0)),.cw (ratL 0) (some (64,0)),.cw (ratL 0) (some (64,0))])].map (SV.den (envR []))).toArray=#[.agg #[.int .i64 1,.int .i64 0,.int .i64 0,.int .i64 1,.string ⟨(ratL 0).toArray⟩,.string ⟨(ratL 0).toArray⟩,.string ⟨(ratL 0).toArray⟩],.agg #[.int .i64 1,.int .i64 0,.int .i64 0,.int .i64 1,.string ⟨(ratL 0).toArray⟩,.string ⟨(ratL 0).toArray⟩,.string ⟨(ratL 0).toArray⟩]] from rfl,ratL0] at this
  refine this.mono fun e w' he=>?_
  obtain ⟨v,X',n,rfl,g,_,hv,hp⟩:=he
  obtain ⟨c1,c2,c3,e,h1,h2,h3⟩:=pJ_ok hp hv
  exact ⟨by rw [e,tz0_ok h1.1 h1.2,tz0_ok h2.1 h2.2,tz0_ok h3.1 h3.2],g⟩
theorem join_k2 (w:World) (hm:Mx w) (ht:Tab w):
    Calls Tryz.prog 32 #[.agg #[.int .i64 12,.int .i64 1,.int .i64 0,.int .i64 0,.string ⟨([48]:List UInt8).toArray⟩,.string ⟨([48]:List UInt8).toArray⟩,.string ⟨([48]:List UInt8).toArray⟩],.agg #[.int .i64 12,.int .i64 1,.int .i64 0,.int .i64 0,.string ⟨([48]:List UInt8).toArray⟩,.string ⟨([48]:List UInt8).toArray⟩,.string ⟨([48]:List UInt8).toArray⟩]] w fun e w'=>e=.returned (.tuple #[.agg #[.int .i64 0,.int .i64 0,.int .i64 0,.int .i64 0,.string ⟨([]:List UInt8).toArray⟩,.string ⟨([]:List UInt8).toArray⟩,.string ⟨([]:List UInt8).toArray⟩],.int .i64 2])∧Gr w w':=by
  obtain ⟨L,hr,hL⟩:=okRun_ok runJ2
  have:=(run_calls sysN sysN_ok hr (X:=envR []) ⟨ht,hm⟩ (okF2 (okq 12 1 0 0 w) (okq 12 1 0 0 w)) hL)
  rw [show ([.so (.vg [.ci .i64 12 12 12,.ci .i64 1 1 1,.ci .i64 0 0 0,.ci .i64 0 0 0,.cw (ratL 0) (some (64,0)),.cw (ratL 0) (some (64,0)),.cw (ratL 0) (some (64,0))]),.so (.vg [.ci .i64 12 12 12,.ci .i64 1 1 1,.ci .i64 0 0 0,.ci .i64 0 0 0,.cw (ratL 0) (some (64,0)),.cw (ratL 0) (some (64,0)),.cw (ratL 0) (some (64,0))])].map (SV.den (envR []))).toArray=#[.agg #[.int .i64 12,.int .i64 1,.int .i64 0,.int .i64 0,.string ⟨(ratL 0).toArray⟩,.string ⟨(ratL 0).toArray⟩,.string ⟨(ratL 0).toArray⟩],.agg #[.int .i64 12,.int .i64 1,.int .i64 0,.int .i64 0,.string ⟨(ratL 0).toArray⟩,.string ⟨(ratL 0).toArray⟩,.string ⟨(ratL 0).toArray⟩]] from rfl,ratL0] at this
  refine this.mono fun e w' he=>?_
  obtain ⟨v,X',n,rfl,g,_,hv,hp⟩:=he
  obtain ⟨c1,c2,c3,e,h1,h2,h3⟩:=pJ_ok hp hv
  exact ⟨by rw [e,tzE_ok h1.1,tzE_ok h2.1,tzE_ok h3.1],g⟩
theorem IsRats.open12 {w':World} {vs:List Value} {r0 r1 r2 r3 r4 r5 r6 r7 r8 r9 r10 r11:Rat} (h:IsRats w' vs [(64,r0),(64,r1),(64,r2),(64,r3),(64,r4),(64,r5),(64,r6),(64,r7),(64,r8),(64,r9),(64,r10),(64,r11)]):∃ t0 t1 t2 t3 t4 t5 t6 t7 t8 t9 t10 t11 t12 t13 t14 t15 t16 t17 t18 t19 t20 t21 t22 t23 t24 t25 t26 t27 t28 t29 t30 t31 t32 t33 t34 t35 t36 t37 t38 t39 t40 t41 t42 t43 t44 t45 t46 t47,vs=[t0,t1,t2,t3,t4,t5,t6,t7,t8,t9,t10,t11,t12,t13,t14,t15,t16,t17,t18,t19,t20,t21,t22,t23,t24,t25,t26,t27,t28,t29,t30,t31,t32,t33,t34,t35,t36,t37,t38,t39,t40,t41,t42,t43,t44,t45,t46,t47]∧IsRat w' 64 t0 t1 t2 t3 r0∧IsRat w' 64 t4 t5 t6 t7 r1∧IsRat w' 64 t8 t9 t10 t11 r2∧IsRat w' 64 t12 t13 t14 t15 r3∧IsRat w' 64 t16 t17 t18 t19 r4∧IsRat w' 64 t20 t21 t22 t23 r5∧IsRat w' 64 t24 t25 t26 t27 r6∧IsRat w' 64 t28 t29 t30 t31 r7∧IsRat w' 64 t32 t33 t34 t35 r8∧IsRat w' 64 t36 t37 t38 t39 r9∧IsRat w' 64 t40 t41 t42 t43 r10∧IsRat w' 64 t44 t45 t46 t47 r11:=by
  obtain ⟨t0,t1,t2,t3,u0,rfl,h0,g0⟩:=h.cons
  obtain ⟨t4,t5,t6,t7,u1,rfl,h1,g1⟩:=g0.cons
  obtain ⟨t8,t9,t10,t11,u2,rfl,h2,g2⟩:=g1.cons
  obtain ⟨t12,t13,t14,t15,u3,rfl,h3,g3⟩:=g2.cons
  obtain ⟨t16,t17,t18,t19,u4,rfl,h4,g4⟩:=g3.cons
  obtain ⟨t20,t21,t22,t23,u5,rfl,h5,g5⟩:=g4.cons
  obtain ⟨t24,t25,t26,t27,u6,rfl,h6,g6⟩:=g5.cons
  obtain ⟨t28,t29,t30,t31,u7,rfl,h7,g7⟩:=g6.cons
  obtain ⟨t32,t33,t34,t35,u8,rfl,h8,g8⟩:=g7.cons
  obtain ⟨t36,t37,t38,t39,u9,rfl,h9,g9⟩:=g8.cons
  obtain ⟨t40,t41,t42,t43,u10,rfl,h10,g10⟩:=g9.cons
  obtain ⟨t44,t45,t46,t47,u11,rfl,h11,g11⟩:=g10.cons
  obtain rfl:=g11.nil
  exact ⟨t0,t1,t2,t3,t4,t5,t6,t7,t8,t9,t10,t11,t12,t13,t14,t15,t16,t17,t18,t19,t20,t21,t22,t23,t24,t25,t26,t27,t28,t29,t30,t31,t32,t33,t34,t35,t36,t37,t38,t39,t40,t41,t42,t43,t44,t45,t46,t47,rfl,h0,h1,h2,h3,h4,h5,h6,h7,h8,h9,h10,h11⟩
theorem vk1:VT 1 0 0 1:=⟨by decide,by decide,by decide,by decide,by decide+kernel,by decide+kernel⟩
theorem mof_k1 (w:World) (hm:Mx w) (ht:Tab w):
    Calls Tryz.prog 14 #[.agg #[.int .i64 1,.int .i64 0,.int .i64 0,.int .i64 1,.string ⟨([48]:List UInt8).toArray⟩,.string ⟨([48]:List UInt8).toArray⟩,.string ⟨([48]:List UInt8).toArray⟩]] w fun e w'=>(∃ t0 t1 t2 t3 t4 t5 t6 t7 t8 t9 t10 t11 t12 t13 t14 t15 t16 t17 t18 t19 t20 t21 t22 t23 t24 t25 t26 t27 t28 t29 t30 t31 t32 t33 t34 t35 t36 t37 t38 t39 t40 t41 t42 t43 t44 t45 t46 t47,e=.returned (.tuple #[.agg #[t0,t1,t2,t3,t4,t5,t6,t7,t8,t9,t10,t11,t12,t13,t14,t15,t16,t17,t18,t19,t20,t21,t22,t23,t24,t25,t26,t27,t28,t29,t30,t31,t32,t33,t34,t35,t36,t37,t38,t39,t40,t41,t42,t43,t44,t45,t46,t47],.int .i64 0])∧IsRat w' 64 t0 t1 t2 t3 0∧IsRat w' 64 t4 t5 t6 t7 (-1)∧IsRat w' 64 t8 t9 t10 t11 0∧IsRat w' 64 t12 t13 t14 t15 1∧IsRat w' 64 t16 t17 t18 t19 0∧IsRat w' 64 t20 t21 t22 t23 0∧IsRat w' 64 t24 t25 t26 t27 0∧IsRat w' 64 t28 t29 t30 t31 0∧IsRat w' 64 t32 t33 t34 t35 1∧IsRat w' 64 t36 t37 t38 t39 0∧IsRat w' 64 t40 t41 t42 t43 0∧IsRat w' 64 t44 t45 t46 t47 0)∧Gr w w':=by
  have z:RS 64 (0:Rat):=⟨Nat.two_pow_pos _,Nat.one_lt_two_pow (by decide)⟩
  have:=of_c vk1 z z z w ⟨ht,hm⟩
  rw [ratL0,show oList 1 0 0 1 0 0 0=[(64,0),(64,(-1)),(64,0),(64,1),(64,0),(64,0),(64,0),(64,0),(64,1),(64,0),(64,0),(64,0)] by decide+kernel] at this
  refine this.mono fun e w' he=>?_
  obtain ⟨⟨vs,rfl,h⟩,g⟩:=he
  obtain ⟨t0,t1,t2,t3,t4,t5,t6,t7,t8,t9,t10,t11,t12,t13,t14,t15,t16,t17,t18,t19,t20,t21,t22,t23,t24,t25,t26,t27,t28,t29,t30,t31,t32,t33,t34,t35,t36,t37,t38,t39,t40,t41,t42,t43,t44,t45,t46,t47,rfl,k⟩:=h.open12
  exact ⟨⟨t0,t1,t2,t3,t4,t5,t6,t7,t8,t9,t10,t11,t12,t13,t14,t15,t16,t17,t18,t19,t20,t21,t22,t23,t24,t25,t26,t27,t28,t29,t30,t31,t32,t33,t34,t35,t36,t37,t38,t39,t40,t41,t42,t43,t44,t45,t46,t47,rfl,k⟩,g⟩
theorem vk2:VT 2 1 0 0:=⟨by decide,by decide,by decide,by decide,by decide+kernel,by decide+kernel⟩
theorem mof_k2 (w:World) (hm:Mx w) (ht:Tab w):
    Calls Tryz.prog 14 #[.agg #[.int .i64 2,.int .i64 1,.int .i64 0,.int .i64 0,.string ⟨([48]:List UInt8).toArray⟩,.string ⟨([48]:List UInt8).toArray⟩,.string ⟨([48]:List UInt8).toArray⟩]] w fun e w'=>(∃ t0 t1 t2 t3 t4 t5 t6 t7 t8 t9 t10 t11 t12 t13 t14 t15 t16 t17 t18 t19 t20 t21 t22 t23 t24 t25 t26 t27 t28 t29 t30 t31 t32 t33 t34 t35 t36 t37 t38 t39 t40 t41 t42 t43 t44 t45 t46 t47,e=.returned (.tuple #[.agg #[t0,t1,t2,t3,t4,t5,t6,t7,t8,t9,t10,t11,t12,t13,t14,t15,t16,t17,t18,t19,t20,t21,t22,t23,t24,t25,t26,t27,t28,t29,t30,t31,t32,t33,t34,t35,t36,t37,t38,t39,t40,t41,t42,t43,t44,t45,t46,t47],.int .i64 0])∧IsRat w' 64 t0 t1 t2 t3 1∧IsRat w' 64 t4 t5 t6 t7 0∧IsRat w' 64 t8 t9 t10 t11 0∧IsRat w' 64 t12 t13 t14 t15 0∧IsRat w' 64 t16 t17 t18 t19 (3/5)∧IsRat w' 64 t20 t21 t22 t23 (-4/5)∧IsRat w' 64 t24 t25 t26 t27 0∧IsRat w' 64 t28 t29 t30 t31 (4/5)∧IsRat w' 64 t32 t33 t34 t35 (3/5)∧IsRat w' 64 t36 t37 t38 t39 0∧IsRat w' 64 t40 t41 t42 t43 0∧IsRat w' 64 t44 t45 t46 t47 0)∧Gr w w':=by
  have z:RS 64 (0:Rat):=⟨Nat.two_pow_pos _,Nat.one_lt_two_pow (by decide)⟩
  have:=of_c vk2 z z z w ⟨ht,hm⟩
  rw [ratL0,show oList 2 1 0 0 0 0 0=[(64,1),(64,0),(64,0),(64,0),(64,(3/5)),(64,(-4/5)),(64,0),(64,(4/5)),(64,(3/5)),(64,0),(64,0),(64,0)] by decide+kernel] at this
  refine this.mono fun e w' he=>?_
  obtain ⟨⟨vs,rfl,h⟩,g⟩:=he
  obtain ⟨t0,t1,t2,t3,t4,t5,t6,t7,t8,t9,t10,t11,t12,t13,t14,t15,t16,t17,t18,t19,t20,t21,t22,t23,t24,t25,t26,t27,t28,t29,t30,t31,t32,t33,t34,t35,t36,t37,t38,t39,t40,t41,t42,t43,t44,t45,t46,t47,rfl,k⟩:=h.open12
  exact ⟨⟨t0,t1,t2,t3,t4,t5,t6,t7,t8,t9,t10,t11,t12,t13,t14,t15,t16,t17,t18,t19,t20,t21,t22,t23,t24,t25,t26,t27,t28,t29,t30,t31,t32,t33,t34,t35,t36,t37,t38,t39,t40,t41,t42,t43,t44,t45,t46,t47,rfl,k⟩,g⟩
theorem runA (r0 r1 r2 r3 r4 r5 r6 r7 r8 r9 r10 r11 v1 v2 v3:Rat):runF sysN 43 [.so (.vg [.cr 0 0 64 r0,.cr 0 1 64 r0,.cr 0 2 64 r0,.cr 0 3 64 r0,.cr 1 0 64 r1,.cr 1 1 64 r1,.cr 1 2 64 r1,.cr 1 3 64 r1,.cr 2 0 64 r2,.cr 2 1 64 r2,.cr 2 2 64 r2,.cr 2 3 64 r2,.cr 3 0 64 r3,.cr 3 1 64 r3,.cr 3 2 64 r3,.cr 3 3 64 r3,.cr 4 0 64 r4,.cr 4 1 64 r4,.cr 4 2 64 r4,.cr 4 3 64 r4,.cr 5 0 64 r5,.cr 5 1 64 r5,.cr 5 2 64 r5,.cr 5 3 64 r5,.cr 6 0 64 r6,.cr 6 1 64 r6,.cr 6 2 64 r6,.cr 6 3 64 r6,.cr 7 0 64 r7,.cr 7 1 64 r7,.cr 7 2 64 r7,.cr 7 3 64 r7,.cr 8 0 64 r8,.cr 8 1 64 r8,.cr 8 2 64 r8,.cr 8 3 64 r8,.cr 9 0 64 r9,.cr 9 1 64 r9,.cr 9 2 64 r9,.cr 9 3 64 r9,.cr 10 0 64 r10,.cr 10 1 64 r10,.cr 10 2 64 r10,.cr 10 3 64 r10,.cr 11 0 64 r11,.cr 11 1 64 r11,.cr 11 2 64 r11,.cr 11 3 64 r11]),.so (.vg [.cr 12 0 64 v1,.cr 12 1 64 v1,.cr 12 2 64 v1,.cr 12 3 64 v1,.cr 13 0 64 v2,.cr 13 1 64 v2,.cr 13 2 64 v2,.cr 13 3 64 v2,.cr 14 0 64 v3,.cr 14 1 64 v3,.cr 14 2 64 v3,.cr 14 3 64 v3])] 15 0 .e=some (.ret (.so (.vg (rowC [33,34,35] [(516,0+r0*v1+r1*v2+r2*v3+r9),(516,0+r3*v1+r4*v2+r5*v3+r10),(516,0+r6*v1+r7*v2+r8*v3+r11)])))):=by kernel_rfl
theorem mapply64 {c0 c1 c2 c3 c4 c5 c6 c7 c8 c9 c10 c11 c12 c13 c14 c15 c16 c17 c18 c19 c20 c21 c22 c23 c24 c25 c26 c27 c28 c29 c30 c31 c32 c33 c34 c35 c36 c37 c38 c39 c40 c41 c42 c43 c44 c45 c46 c47 c48 c49 c50 c51 c52 c53 c54 c55 c56 c57 c58 c59:Value} {r0 r1 r2 r3 r4 r5 r6 r7 r8 r9 r10 r11 v1 v2 v3:Rat} {w:World} (h0:IsRat w 64 c0 c1 c2 c3 r0) (h1:IsRat w 64 c4 c5 c6 c7 r1) (h2:IsRat w 64 c8 c9 c10 c11 r2) (h3:IsRat w 64 c12 c13 c14 c15 r3) (h4:IsRat w 64 c16 c17 c18 c19 r4) (h5:IsRat w 64 c20 c21 c22 c23 r5) (h6:IsRat w 64 c24 c25 c26 c27 r6) (h7:IsRat w 64 c28 c29 c30 c31 r7) (h8:IsRat w 64 c32 c33 c34 c35 r8) (h9:IsRat w 64 c36 c37 c38 c39 r9) (h10:IsRat w 64 c40 c41 c42 c43 r10) (h11:IsRat w 64 c44 c45 c46 c47 r11) (h12:IsRat w 64 c48 c49 c50 c51 v1) (h13:IsRat w 64 c52 c53 c54 c55 v2) (h14:IsRat w 64 c56 c57 c58 c59 v3) (ht:Tab w) (hm:Mx w):
    Calls Tryz.prog 43 #[.agg #[c0,c1,c2,c3,c4,c5,c6,c7,c8,c9,c10,c11,c12,c13,c14,c15,c16,c17,c18,c19,c20,c21,c22,c23,c24,c25,c26,c27,c28,c29,c30,c31,c32,c33,c34,c35,c36,c37,c38,c39,c40,c41,c42,c43,c44,c45,c46,c47],.agg #[c48,c49,c50,c51,c52,c53,c54,c55,c56,c57,c58,c59]] w fun e w'=>(∃ t0 t1 t2 t3 t4 t5 t6 t7 t8 t9 t10 t11,e=.returned (.agg #[t0,t1,t2,t3,t4,t5,t6,t7,t8,t9,t10,t11])∧IsRat w' 516 t0 t1 t2 t3 ((0+r0*v1+r1*v2+r2*v3)+r9)∧IsRat w' 516 t4 t5 t6 t7 ((0+r3*v1+r4*v2+r5*v3)+r10)∧IsRat w' 516 t8 t9 t10 t11 ((0+r6*v1+r7*v2+r8*v3)+r11))∧Gr w w':=by
  refine (run_calls sysN sysN_ok (runA r0 r1 r2 r3 r4 r5 r6 r7 r8 r9 r10 r11 v1 v2 v3) (X:=envR [c0,c1,c2,c3,c4,c5,c6,c7,c8,c9,c10,c11,c12,c13,c14,c15,c16,c17,c18,c19,c20,c21,c22,c23,c24,c25,c26,c27,c28,c29,c30,c31,c32,c33,c34,c35,c36,c37,c38,c39,c40,c41,c42,c43,c44,c45,c46,c47,c48,c49,c50,c51,c52,c53,c54,c55,c56,c57,c58,c59]) ⟨ht,hm⟩ (okF2 (okA_ok ⟨⟨rfl,h0⟩,⟨rfl,h0⟩,⟨rfl,h0⟩,⟨rfl,h0⟩,⟨rfl,h1⟩,⟨rfl,h1⟩,⟨rfl,h1⟩,⟨rfl,h1⟩,⟨rfl,h2⟩,⟨rfl,h2⟩,⟨rfl,h2⟩,⟨rfl,h2⟩,⟨rfl,h3⟩,⟨rfl,h3⟩,⟨rfl,h3⟩,⟨rfl,h3⟩,⟨rfl,h4⟩,⟨rfl,h4⟩,⟨rfl,h4⟩,⟨rfl,h4⟩,⟨rfl,h5⟩,⟨rfl,h5⟩,⟨rfl,h5⟩,⟨rfl,h5⟩,⟨rfl,h6⟩,⟨rfl,h6⟩,⟨rfl,h6⟩,⟨rfl,h6⟩,⟨rfl,h7⟩,⟨rfl,h7⟩,⟨rfl,h7⟩,⟨rfl,h7⟩,⟨rfl,h8⟩,⟨rfl,h8⟩,⟨rfl,h8⟩,⟨rfl,h8⟩,⟨rfl,h9⟩,⟨rfl,h9⟩,⟨rfl,h9⟩,⟨rfl,h9⟩,⟨rfl,h10⟩,⟨rfl,h10⟩,⟨rfl,h10⟩,⟨rfl,h10⟩,⟨rfl,h11⟩,⟨rfl,h11⟩,⟨rfl,h11⟩,⟨rfl,h11⟩,trivial⟩) (okA_ok ⟨⟨rfl,h12⟩,⟨rfl,h12⟩,⟨rfl,h12⟩,⟨rfl,h12⟩,⟨rfl,h13⟩,⟨rfl,h13⟩,⟨rfl,h13⟩,⟨rfl,h13⟩,⟨rfl,h14⟩,⟨rfl,h14⟩,⟨rfl,h14⟩,⟨rfl,h14⟩,trivial⟩)) (Post:=fun v=>asRats v=some [(516,0+r0*v1+r1*v2+r2*v3+r9),(516,0+r3*v1+r4*v2+r5*v3+r10),(516,0+r6*v1+r7*v2+r8*v3+r11)]) rfl).mono fun e w' he=>?_
  obtain ⟨v,X',n,rfl,g,_,hv,hr⟩:=he
  obtain ⟨vs,e1,h⟩:=asRats_ok hr hv
  obtain ⟨t0,t1,t2,t3,u0,rfl,h0,g0⟩:=h.cons
  obtain ⟨t4,t5,t6,t7,u1,rfl,h1,g1⟩:=g0.cons
  obtain ⟨t8,t9,t10,t11,u2,rfl,h2,g2⟩:=g1.cons
  obtain rfl:=g2.nil
  exact ⟨⟨_,_,_,_,_,_,_,_,_,_,_,_,by rw [e1],h0,h1,h2⟩,g⟩
end Go.Proofs.YtaldbfflkpgfoaaGreatDoor
/- The rotations of the cube:a list of quaternions. -/
namespace Go.Proofs.YtaldbfflkpgfoaaGreatDoor
open Go.RowKit
/-- four ints -/
def EQ4 (_:World) (z:Int × Int × Int × Int) (vs:List Value):Prop:=vs=[.int .i64 z.1,.int .i64 z.2.1,.int .i64 z.2.2.1,.int .i64 z.2.2.2]
theorem stab_q4:Stab EQ4 []:=fun _ _ _ _ _ h=>h
def qAt (n:Nat):Int × Int × Int × Int:=((n:Int)/27 - 1,(n:Int)/9 % 3 - 1,(n:Int)/3 % 3 - 1,(n:Int) % 3 - 1)
def qSq (z:Int × Int × Int × Int):Int:=0+z.1*z.1+z.2.1*z.2.1+z.2.2.1*z.2.2.1+z.2.2.2*z.2.2.2
def qOk (z:Int × Int × Int × Int):Bool:=(qSq z !=3)&&(chk z.1 z.2.1 z.2.2.1 z.2.2.2 0==0)
def qUpto (n:Nat):List (Int × Int × Int × Int):=((List.range n).map qAt).filter qOk
theorem qUpto_yes {n:Nat} {z:Int × Int × Int × Int} (hz:qAt n=z) (h:qOk z=true):qUpto (n+1)=qUpto n++[z]:=by
  unfold qUpto
  rw [List.range_succ,List.map_append,List.filter_append,List.map_cons,List.map_nil,hz]
  simp [h]
theorem qUpto_no {n:Nat} {z:Int × Int × Int × Int} (hz:qAt n=z) (h:qOk z=false):qUpto (n+1)=qUpto n:=by
  unfold qUpto
  rw [List.range_succ,List.map_append,List.filter_append,List.map_cons,List.map_nil,hz]
  simp [h]
theorem qUpto_len (n:Nat):(qUpto n).length≤n:=by
  unfold qUpto
  refine Nat.le_trans (List.length_filter_le ..) ?_
  simp
/-- the 24 rotations of the cube -/
def quarters:List (Int × Int × Int × Int):=qUpto 81
theorem quarters_len:quarters.length=24:=by decide+kernel
theorem mcheck0 {q0 q1 q2 q3:Int} (j0:-12≤q0∧q0≤12) (j1:-12≤q1∧q1≤12) (j2:-12≤q2∧q2≤12) (j3:-12≤q3∧q3≤12) (w:World) (hm:Mx w):
    Calls Tryz.prog 15 #[.agg #[.int .i64 q0,.int .i64 q1,.int .i64 q2,.int .i64 q3,.string ⟨([48]:List UInt8).toArray⟩,.string ⟨([48]:List UInt8).toArray⟩,.string ⟨([48]:List UInt8).toArray⟩]] w fun e w'=>e=.returned (.int .i64 (chk q0 q1 q2 q3 0))∧Gr w w':=by
  have z:RS 64 (0:Rat):=⟨Nat.two_pow_pos _,Nat.one_lt_two_pow (by decide)⟩
  have l:((ratL 0).length:Int)≤400:=by rw [ratL0];decide
  have:=mcheckr j0 j1 j2 j3 0 0 0 z z z l l l w hm
  rw [ratL0] at this
  exact this
end Go.Proofs.YtaldbfflkpgfoaaGreatDoor
