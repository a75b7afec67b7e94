/- Joined of: Gen98, Syd, Sye, Gen124, Gen125, Gen94, Gen122, Gen126, Qu, Gen100. -/
import Derived.Test.YtaldbfflkpgfoaaGreatDoorPartF
import Derived.Test.YtaldbfflkpgfoaaGreatDoorPartE
/- Printed by a program of the prover's:the reference of layer 7,its integers. -/
namespace Go.Proofs.YtaldbfflkpgfoaaGreatDoor
open Go.RowKit

set_option maxRecDepth 100000 in
set_option maxHeartbeats 1000000 in
theorem r7_mag (z:Int) (_hz:-4611686018427387904≤z∧z≤4611686018427387904) (w:World):
    Calls Tryz.prog 72 #[(.int .i64 (z))] w fun e w'=>e=.returned (.int .i64 ((z.natAbs:Int)))∧Gr w w':=by
 go_enter Tryz.func72,Tryz.ntmps72
 have hB:=Gr.refl w
 refine wp_seq_k (fun K1 k1=>?_)
 refine rg [0] ?_
 refine sv 2 (.int .i64 0) ?_
 refine sq_nil ?_
 refine k1 _ _ ?_
 try clear k1 K1
 refine wp_seq_k (fun K2 k2=>?_)
 refine wp_seq_k (fun K3 k3=>?_)
 refine rg [0,1] ?_
 refine sv 3 (.int .i64 (z)) ?_
 refine sv 4 (.bool (decide (z<(0:Int)))) ?_
 refine sq_nil ?_
 refine k3 _ _ ?_
 try clear k3 K3
 refine wp_cond_split (t:=decide (z<(0:Int))) rfl (fun aa=>?_) (fun aa=>?_)
 ·refine wp_seq_k (fun K5 k5=>?_)
  refine rg [0,1,2] ?_
  refine sv 5 (.int .i64 (z)) ?_
  refine sw 6 (.int .i64 ((0 - z))) rfl (RunV.int (x:=IntKind.i64.wrap ((0 - z))) (y:=(0 - z)) (rvk (by kernel_rfl)) (by first | rfl | (rw [IntKind.wrap_i64];omega))) ?_
  refine sv 2 (.int .i64 ((0 - z))) ?_
  refine sq_nil ?_
  refine k5 _ _ ?_
  try clear k5 K5
  refine wp_ret ?_
  simp only [Exit.then]
  refine bodyPost_ret (v:=(.int .i64 ((0 - z)))) (ret_tmp rfl rfl) rfl ⟨?_,hB⟩
  exact (congrArg (fun z=>Ending.returned (.int .i64 z)) (by have:=of_decide_eq_true aa;omega))
 ·refine wp_skip ?_
  refine k2 _ _ ?_
  try clear k2 K2
  refine wp_seq_k (fun K6 k6=>?_)
  refine rg [0,1] ?_
  refine sv 7 (.int .i64 (z)) ?_
  refine sv 2 (.int .i64 (z)) ?_
  refine sq_nil ?_
  refine k6 _ _ ?_
  try clear k6 K6
  refine wp_ret ?_
  refine bodyPost_ret (v:=(.int .i64 (z))) (ret_tmp rfl rfl) rfl ⟨?_,hB⟩
  exact (congrArg (fun z=>Ending.returned (.int .i64 z)) (by have:=of_decide_eq_false aa;omega))

set_option maxRecDepth 100000 in
set_option maxHeartbeats 1000000 in
theorem r7_gcd (ga gb:Int) (h1:0≤ga) (h2:0≤gb) (w:World):
    Calls Tryz.prog 91 #[(.int .i64 (ga)),(.int .i64 (gb))] w fun e w'=>e=.returned (.int .i64 ((Int.gcd ga gb:Int)))∧Gr w w':=by
 go_enter Tryz.func91,Tryz.ntmps91
 have hB:=Gr.refl w
 refine wp_seq_k (fun K1 k1=>?_)
 refine rg [0] ?_
 refine sv 4 (.int .i64 0) ?_
 refine sq_nil ?_
 refine k1 _ _ ?_
 try clear k1 K1
 refine wp_seq_k (fun K2 k2=>?_)
 refine wp_block ?_
 refine wp_loop_inv (a:=⟨List.toArray ?l3,[]⟩) (fun n a w'=>∃ (ab:Int) (aa:Int) (u3:Nat→Value),aa.toNat=n∧a=⟨[(.int .i64 (ab)),(.int .i64 (aa)),undef,undef,(.int .i64 0),(u3 5),(u3 6),(u3 7),(u3 8),(u3 9),(u3 10),undef].toArray,[]⟩∧Int.gcd ab aa=Int.gcd ga gb∧0≤ab∧0≤aa∧Gr w w') (gb.toNat) ?_ ?_
 ·exact ⟨_,_,(fun i=>List.getD ?l3 i undef),rfl,rfl,rfl,h1,h2,hB⟩
 rintro n3 a3 w3 ⟨ab,aa,u3,rfl,rfl,ai,ad,ak,hB⟩ K3 k3
 refine wp_seq_k (fun K5 k5=>?_)
 refine wp_seq_k (fun K6 k6=>?_)
 refine rg [0,1] ?_
 refine sv 5 (.int .i64 (aa)) ?_
 refine sv 6 (.bool (decide ((0:Int)<aa))) ?_
 refine sq_nil ?_
 refine k6 _ _ ?_
 try clear k6 K6
 refine wp_cond_split (t:=decide ((0:Int)<aa)) rfl (fun ae=>?_) (fun ae=>?_)
 ·have af:=of_decide_eq_true ae
  refine wp_skip ?_
  refine k5 _ _ ?_
  try clear k5 K5
  refine wp_block ?_
  have al:=Gr.drew w3
  replace hB:=hB.trans al
  refine wp_region_ord (fun _=>True) [(true,0),(true,1),(true,2),(true,3),(true,4),(true,5)] (by kernel_rfl) (by kernel_rfl) (by kernel_rfl) (by decide) (fun _ _ _ _ _ h=>h) trivial ?_
  refine ov 7 (.int .i64 (aa)) ?_
  refine ov 8 (.int .i64 (ab)) ?_
  refine ov 9 (.int .i64 (aa)) ?_
  refine ow 10 (.int .i64 ((ab % aa))) rfl (fun w' hS=>(rv_rem 3 3 _ _ ab aa rfl rfl rfl ad af)) ?_
  refine ov 0 (.int .i64 (aa)) ?_
  refine ov 1 (.int .i64 ((ab % aa))) ?_
  refine ord_nil ?_
  refine k3 ((ab % aa).toNat) ⟨List.toArray ?l10,[]⟩ _ (by have:=Int.emod_lt_of_pos ab af;omega) ?_
  exact ⟨_,_,(fun i=>List.getD ?l10 i undef),rfl,rfl,(by rw [gcd_stepZ ad af];exact ai),(by omega),(Int.emod_nonneg _ (by omega)),hB⟩
 ·have ac:=gcd_end0 ai ae ad ak
  refine wp_exit ?_
  simp only [Exit.then,Exit.inBlock,↓reduceIte]
  refine k2 _ _ ?_
  try clear k2 K2
  refine wp_seq_k (fun aj ah=>?_)
  refine rg [0,1] ?_
  refine sv 11 (.int .i64 (ab)) ?_
  refine sv 4 (.int .i64 (ab)) ?_
  refine sq_nil ?_
  refine ah _ _ ?_
  try clear ah aj
  refine wp_ret ?_
  refine bodyPost_ret (v:=(.int .i64 (ab))) (ret_tmp rfl rfl) rfl ⟨?_,hB⟩
  exact (congrArg (fun z=>Ending.returned (.int .i64 z)) ac)

set_option maxRecDepth 100000 in
set_option maxHeartbeats 1000000 in
theorem r7_common (qq0 qq1 qq2 qq3:Int) (_j0:-1099511627776≤qq0∧qq0≤1099511627776) (_j1:-1099511627776≤qq1∧qq1≤1099511627776) (_j2:-1099511627776≤qq2∧qq2≤1099511627776) (_j3:-1099511627776≤qq3∧qq3≤1099511627776) (w:World):
    Calls Tryz.prog 54 #[(.agg #[(.int .i64 (qq0)),(.int .i64 (qq1)),(.int .i64 (qq2)),(.int .i64 (qq3))])] w fun e w'=>e=.returned (.int .i64 (qgcd qq0 qq1 qq2 qq3))∧Gr w w':=by
 go_enter Tryz.func54,Tryz.ntmps54
 have hB:=Gr.refl w
 refine wp_seq_k (fun K1 k1=>?_)
 refine rg [0,1] ?_
 refine se ?_
 refine eb 22 #[(.int .i64 (qq0)),(.int .i64 (qq1)),(.int .i64 (qq2)),(.int .i64 (qq3))] 1 hB fun b2 w2 g2 L2 o2 q2 hB=>?_
 simp only [p3,p4]
 refine sv 2 (.int .i64 0) ?_
 refine sq_nil ?_
 refine k1 _ _ ?_
 try clear k1 K1
 refine wp_seq_k (fun K3 k3=>?_)
 refine rg [0] ?_
 refine sv 3 (.int .i64 0) ?_
 refine sq_nil ?_
 refine k3 _ _ ?_
 try clear k3 K3
 refine wp_seq_k (fun K4 k4=>?_)
 refine wp_seq_k (fun K5 k5=>?_)
 refine rg [0] ?_
 refine sv 4 (.int .i64 0) ?_
 refine sq_nil ?_
 refine k5 _ _ ?_
 try clear k5 K5
 refine wp_block ?_
 refine wp_loop_rounds 6 ?_
 show Code.wp _ _ _ _ _
 refine wp_seq_k (fun K6 k6=>?_)
 refine wp_seq_k (fun K7 k7=>?_)
 refine rg [0,1] ?_
 refine sv 5 (.int .i64 0) ?_
 refine sv 6 (.bool true) ?_
 refine sq_nil ?_
 refine k7 _ _ ?_
 try clear k7 K7
 refine wp_cond_true rfl ?_
 refine wp_skip ?_
 refine k6 _ _ ?_
 try clear k6 K6
 refine wp_seq_k (fun K8 k8=>?_)
 refine wp_block ?_
 refine rg [0,1,2,3,4,5,6] ?_
 refine sv 9 (.int .i64 0) ?_
 refine sv 10 (.int .i64 0) ?_
 refine sv 11 (.pointer (some ⟨b2,0,none⟩)) ?_
 refine sw 12 (.int .i64 (qq0)) rfl (rk 3 0 L2) ?_
 refine se ?_
 refine ec 13 (r7_mag (qq0) (by omega) _) ?_
 rintro e9 w9 ⟨rfl,g9⟩
 refine ⟨_,rfl,?_⟩
 replace hB:=hB.trans g9
 simp only [p3,p4]
 refine se ?_
 refine ec 14 (r7_gcd (0:Int) (((qq0).natAbs:Int)) (by omega) (by omega) _) ?_
 rintro aO aX ⟨rfl,ar⟩
 refine ⟨_,rfl,?_⟩
 replace hB:=hB.trans ar
 simp only [p3,p4]
 refine sv 3 (.int .i64 ((Int.gcd (0:Int) (((qq0).natAbs:Int)):Int))) ?_
 refine sq_nil ?_
 refine k8 _ _ ?_
 try clear k8 K8
 refine rg [0,1,2] ?_
 refine sv 7 (.int .i64 0) ?_
 refine sv 8 (.int .i64 1) ?_
 refine sv 4 (.int .i64 1) ?_
 refine sq_nil ?_
 show Code.rounds _ _ _ _ _ _
 show Code.wp _ _ _ _ _
 refine wp_seq_k (fun ax aa=>?_)
 refine wp_seq_k (fun aC ae=>?_)
 refine rg [0,1] ?_
 refine sv 5 (.int .i64 1) ?_
 refine sv 6 (.bool true) ?_
 refine sq_nil ?_
 refine ae _ _ ?_
 try clear ae aC
 refine wp_cond_true rfl ?_
 refine wp_skip ?_
 refine aa _ _ ?_
 try clear aa ax
 refine wp_seq_k (fun az af=>?_)
 refine wp_block ?_
 refine rg [0,1,2,3,4,5,6] ?_
 refine sv 9 (.int .i64 ((Int.gcd (0:Int) (((qq0).natAbs:Int)):Int))) ?_
 refine sv 10 (.int .i64 1) ?_
 refine sv 11 (.pointer (some ⟨b2,1,none⟩)) ?_
 replace L2:=L2.gr (g9.trans ar)
 refine sw 12 (.int .i64 (qq1)) rfl (rk 3 1 L2) ?_
 refine se ?_
 refine ec 13 (r7_mag (qq1) (by omega) _) ?_
 rintro aK aW ⟨rfl,ai⟩
 refine ⟨_,rfl,?_⟩
 replace hB:=hB.trans ai
 simp only [p3,p4]
 refine se ?_
 refine ec 14 (r7_gcd ((Int.gcd (0:Int) (((qq0).natAbs:Int)):Int)) (((qq1).natAbs:Int)) (by omega) (by omega) _) ?_
 rintro aJ aU ⟨rfl,ap⟩
 refine ⟨_,rfl,?_⟩
 replace hB:=hB.trans ap
 simp only [p3,p4]
 refine sv 3 (.int .i64 ((Int.gcd ((Int.gcd (0:Int) (((qq0).natAbs:Int)):Int)) (((qq1).natAbs:Int)):Int))) ?_
 refine sq_nil ?_
 refine af _ _ ?_
 try clear af az
 refine rg [0,1,2] ?_
 refine sv 7 (.int .i64 1) ?_
 refine sv 8 (.int .i64 2) ?_
 refine sv 4 (.int .i64 2) ?_
 refine sq_nil ?_
 show Code.rounds _ _ _ _ _ _
 show Code.wp _ _ _ _ _
 refine wp_seq_k (fun aD ad=>?_)
 refine wp_seq_k (fun aH ab=>?_)
 refine rg [0,1] ?_
 refine sv 5 (.int .i64 2) ?_
 refine sv 6 (.bool true) ?_
 refine sq_nil ?_
 refine ab _ _ ?_
 try clear ab aH
 refine wp_cond_true rfl ?_
 refine wp_skip ?_
 refine ad _ _ ?_
 try clear ad aD
 refine wp_seq_k (fun aG aq=>?_)
 refine wp_block ?_
 refine rg [0,1,2,3,4,5,6] ?_
 refine sv 9 (.int .i64 ((Int.gcd ((Int.gcd (0:Int) (((qq0).natAbs:Int)):Int)) (((qq1).natAbs:Int)):Int))) ?_
 refine sv 10 (.int .i64 2) ?_
 refine sv 11 (.pointer (some ⟨b2,2,none⟩)) ?_
 replace L2:=L2.gr (ai.trans ap)
 refine sw 12 (.int .i64 (qq2)) rfl (rk 3 2 L2) ?_
 refine se ?_
 refine ec 13 (r7_mag (qq2) (by omega) _) ?_
 rintro aL aN ⟨rfl,av⟩
 refine ⟨_,rfl,?_⟩
 replace hB:=hB.trans av
 simp only [p3,p4]
 refine se ?_
 refine ec 14 (r7_gcd ((Int.gcd ((Int.gcd (0:Int) (((qq0).natAbs:Int)):Int)) (((qq1).natAbs:Int)):Int)) (((qq2).natAbs:Int)) (by omega) (by omega) _) ?_
 rintro aQ aR ⟨rfl,ak⟩
 refine ⟨_,rfl,?_⟩
 replace hB:=hB.trans ak
 simp only [p3,p4]
 refine sv 3 (.int .i64 ((Int.gcd ((Int.gcd ((Int.gcd (0:Int) (((qq0).natAbs:Int)):Int)) (((qq1).natAbs:Int)):Int)) (((qq2).natAbs:Int)):Int))) ?_
 refine sq_nil ?_
 refine aq _ _ ?_
 try clear aq aG
 refine rg [0,1,2] ?_
 refine sv 7 (.int .i64 2) ?_
 refine sv 8 (.int .i64 3) ?_
 refine sv 4 (.int .i64 3) ?_
 refine sq_nil ?_
 show Code.rounds _ _ _ _ _ _
 show Code.wp _ _ _ _ _
 refine wp_seq_k (fun aA ac=>?_)
 refine wp_seq_k (fun ay aj=>?_)
 refine rg [0,1] ?_
 refine sv 5 (.int .i64 3) ?_
 refine sv 6 (.bool true) ?_
 refine sq_nil ?_
 refine aj _ _ ?_
 try clear aj ay
 refine wp_cond_true rfl ?_
 refine wp_skip ?_
 refine ac _ _ ?_
 try clear ac aA
 refine wp_seq_k (fun aw ah=>?_)
 refine wp_block ?_
 refine rg [0,1,2,3,4,5,6] ?_
 refine sv 9 (.int .i64 ((Int.gcd ((Int.gcd ((Int.gcd (0:Int) (((qq0).natAbs:Int)):Int)) (((qq1).natAbs:Int)):Int)) (((qq2).natAbs:Int)):Int))) ?_
 refine sv 10 (.int .i64 3) ?_
 refine sv 11 (.pointer (some ⟨b2,3,none⟩)) ?_
 replace L2:=L2.gr (av.trans ak)
 refine sw 12 (.int .i64 (qq3)) rfl (rk 3 3 L2) ?_
 refine se ?_
 refine ec 13 (r7_mag (qq3) (by omega) _) ?_
 rintro aV aY ⟨rfl,aI⟩
 refine ⟨_,rfl,?_⟩
 replace hB:=hB.trans aI
 simp only [p3,p4]
 refine se ?_
 refine ec 14 (r7_gcd ((Int.gcd ((Int.gcd ((Int.gcd (0:Int) (((qq0).natAbs:Int)):Int)) (((qq1).natAbs:Int)):Int)) (((qq2).natAbs:Int)):Int)) (((qq3).natAbs:Int)) (by omega) (by omega) _) ?_
 rintro aS aP ⟨rfl,aF⟩
 refine ⟨_,rfl,?_⟩
 replace hB:=hB.trans aF
 simp only [p3,p4]
 refine sv 3 (.int .i64 ((Int.gcd ((Int.gcd ((Int.gcd ((Int.gcd (0:Int) (((qq0).natAbs:Int)):Int)) (((qq1).natAbs:Int)):Int)) (((qq2).natAbs:Int)):Int)) (((qq3).natAbs:Int)):Int))) ?_
 refine sq_nil ?_
 refine ah _ _ ?_
 try clear ah aw
 refine rg [0,1,2] ?_
 refine sv 7 (.int .i64 3) ?_
 refine sv 8 (.int .i64 4) ?_
 refine sv 4 (.int .i64 4) ?_
 refine sq_nil ?_
 show Code.rounds _ _ _ _ _ _
 show Code.wp _ _ _ _ _
 refine wp_seq_k (fun aM aT=>?_)
 refine wp_seq_k (fun aE au=>?_)
 refine rg [0,1] ?_
 refine sv 5 (.int .i64 4) ?_
 refine sv 6 (.bool false) ?_
 refine sq_nil ?_
 refine au _ _ ?_
 try clear au aE
 refine wp_cond_false rfl ?_
 refine wp_exit ?_
 simp only [Exit.then,Exit.inBlock,↓reduceIte]
 refine k4 _ _ ?_
 try clear k4 K4
 refine wp_seq_k (fun aB al=>?_)
 refine rg [0,1] ?_
 refine sv 15 (.int .i64 ((Int.gcd ((Int.gcd ((Int.gcd ((Int.gcd (0:Int) (((qq0).natAbs:Int)):Int)) (((qq1).natAbs:Int)):Int)) (((qq2).natAbs:Int)):Int)) (((qq3).natAbs:Int)):Int))) ?_
 refine sv 2 (.int .i64 ((Int.gcd ((Int.gcd ((Int.gcd ((Int.gcd (0:Int) (((qq0).natAbs:Int)):Int)) (((qq1).natAbs:Int)):Int)) (((qq2).natAbs:Int)):Int)) (((qq3).natAbs:Int)):Int))) ?_
 refine sq_nil ?_
 refine al _ _ ?_
 try clear al aB
 refine wp_ret ?_
 refine bodyPost_ret (v:=(.int .i64 ((Int.gcd ((Int.gcd ((Int.gcd ((Int.gcd (0:Int) (((qq0).natAbs:Int)):Int)) (((qq1).natAbs:Int)):Int)) (((qq2).natAbs:Int)):Int)) (((qq3).natAbs:Int)):Int)))) (ret_tmp rfl rfl) rfl ⟨?_,hB⟩
 exact (congrArg (fun z=>Ending.returned (.int .i64 z)) common_eq)

set_option maxRecDepth 100000 in
set_option maxHeartbeats 1000000 in
theorem r7_positive (qq0 qq1 qq2 qq3:Int) (w:World):
    Calls Tryz.prog 55 #[(.agg #[(.int .i64 (qq0)),(.int .i64 (qq1)),(.int .i64 (qq2)),(.int .i64 (qq3))])] w fun e w'=>e=.returned (.bool (decide (qsgn qq0 qq1 qq2 qq3=1)))∧Gr w w':=by
 go_enter Tryz.func55,Tryz.ntmps55
 have hB:=Gr.refl w
 refine wp_seq_k (fun K1 k1=>?_)
 refine rg [0,1] ?_
 refine se ?_
 refine eb 22 #[(.int .i64 (qq0)),(.int .i64 (qq1)),(.int .i64 (qq2)),(.int .i64 (qq3))] 1 hB fun b2 w2 g2 L2 o2 q2 hB=>?_
 simp only [p3,p4]
 refine sv 2 (.bool false) ?_
 refine sq_nil ?_
 refine k1 _ _ ?_
 try clear k1 K1
 refine wp_seq_k (fun K3 k3=>?_)
 refine wp_seq_k (fun K4 k4=>?_)
 refine rg [0] ?_
 refine sv 3 (.int .i64 0) ?_
 refine sq_nil ?_
 refine k4 _ _ ?_
 try clear k4 K4
 refine wp_block ?_
 refine wp_loop_rounds 6 ?_
 show Code.wp _ _ _ _ _
 refine wp_seq_k (fun K5 k5=>?_)
 refine wp_seq_k (fun K6 k6=>?_)
 refine rg [0,1] ?_
 refine sv 4 (.int .i64 0) ?_
 refine sv 5 (.bool true) ?_
 refine sq_nil ?_
 refine k6 _ _ ?_
 try clear k6 K6
 refine wp_cond_true rfl ?_
 refine wp_skip ?_
 refine k5 _ _ ?_
 try clear k5 K5
 refine wp_seq_k (fun K7 k7=>?_)
 refine wp_block ?_
 refine wp_seq_k (fun K8 k8=>?_)
 refine rg [0,1,2,3] ?_
 refine sv 8 (.int .i64 0) ?_
 refine sv 9 (.pointer (some ⟨b2,0,none⟩)) ?_
 refine sw 10 (.int .i64 (qq0)) rfl (rk 3 0 L2) ?_
 refine sv 11 (.bool ((qq0 !=(0:Int)))) ?_
 refine sq_nil ?_
 refine k8 _ _ ?_
 try clear k8 K8
 refine wp_cond_split (t:=(qq0 !=(0:Int))) rfl (fun ad=>?_) (fun ad=>?_)
 ·refine wp_seq_k (fun aM aw=>?_)
  refine rg [0,1,2,3,4] ?_
  refine sv 12 (.int .i64 0) ?_
  refine sv 13 (.pointer (some ⟨b2,0,none⟩)) ?_
  refine sw 14 (.int .i64 (qq0)) rfl (rk 3 0 L2) ?_
  refine sv 15 (.bool (decide ((0:Int)<qq0))) ?_
  refine sv 2 (.bool (decide ((0:Int)<qq0))) ?_
  refine sq_nil ?_
  refine aw _ _ ?_
  try clear aw aM
  refine wp_ret ?_
  simp only [Exit.then,Exit.inBlock]
  refine bodyPost_ret (v:=(.bool (decide ((0:Int)<qq0)))) (ret_tmp rfl rfl) rfl ⟨?_,hB⟩
  exact (congrArg (fun z=>Ending.returned (.bool z)) (posq0 ad))
 ·refine wp_skip ?_
  refine k7 _ _ ?_
  try clear k7 K7
  refine rg [0,1,2] ?_
  refine sv 6 (.int .i64 0) ?_
  refine sv 7 (.int .i64 1) ?_
  refine sv 3 (.int .i64 1) ?_
  refine sq_nil ?_
  show Code.rounds _ _ _ _ _ _
  show Code.wp _ _ _ _ _
  refine wp_seq_k (fun aD ap=>?_)
  refine wp_seq_k (fun aT az=>?_)
  refine rg [0,1] ?_
  refine sv 4 (.int .i64 1) ?_
  refine sv 5 (.bool true) ?_
  refine sq_nil ?_
  refine az _ _ ?_
  try clear az aT
  refine wp_cond_true rfl ?_
  refine wp_skip ?_
  refine ap _ _ ?_
  try clear ap aD
  refine wp_seq_k (fun aN aA=>?_)
  refine wp_block ?_
  refine wp_seq_k (fun aK aj=>?_)
  refine rg [0,1,2,3] ?_
  refine sv 8 (.int .i64 1) ?_
  refine sv 9 (.pointer (some ⟨b2,1,none⟩)) ?_
  refine sw 10 (.int .i64 (qq1)) rfl (rk 3 1 L2) ?_
  refine sv 11 (.bool ((qq1 !=(0:Int)))) ?_
  refine sq_nil ?_
  refine aj _ _ ?_
  try clear aj aK
  refine wp_cond_split (t:=(qq1 !=(0:Int))) rfl (fun aa=>?_) (fun aa=>?_)
  ·refine wp_seq_k (fun aF ay=>?_)
   refine rg [0,1,2,3,4] ?_
   refine sv 12 (.int .i64 1) ?_
   refine sv 13 (.pointer (some ⟨b2,1,none⟩)) ?_
   refine sw 14 (.int .i64 (qq1)) rfl (rk 3 1 L2) ?_
   refine sv 15 (.bool (decide ((0:Int)<qq1))) ?_
   refine sv 2 (.bool (decide ((0:Int)<qq1))) ?_
   refine sq_nil ?_
   refine ay _ _ ?_
   try clear ay aF
   refine wp_ret ?_
   simp only [Exit.then,Exit.inBlock]
   refine bodyPost_ret (v:=(.bool (decide ((0:Int)<qq1)))) (ret_tmp rfl rfl) rfl ⟨?_,hB⟩
   exact (congrArg (fun z=>Ending.returned (.bool z)) (posq1 ad aa))
  ·refine wp_skip ?_
   refine aA _ _ ?_
   try clear aA aN
   refine rg [0,1,2] ?_
   refine sv 6 (.int .i64 1) ?_
   refine sv 7 (.int .i64 2) ?_
   refine sv 3 (.int .i64 2) ?_
   refine sq_nil ?_
   show Code.rounds _ _ _ _ _ _
   show Code.wp _ _ _ _ _
   refine wp_seq_k (fun aO au=>?_)
   refine wp_seq_k (fun aH ar=>?_)
   refine rg [0,1] ?_
   refine sv 4 (.int .i64 2) ?_
   refine sv 5 (.bool true) ?_
   refine sq_nil ?_
   refine ar _ _ ?_
   try clear ar aH
   refine wp_cond_true rfl ?_
   refine wp_skip ?_
   refine au _ _ ?_
   try clear au aO
   refine wp_seq_k (fun aG ae=>?_)
   refine wp_block ?_
   refine wp_seq_k (fun aP av=>?_)
   refine rg [0,1,2,3] ?_
   refine sv 8 (.int .i64 2) ?_
   refine sv 9 (.pointer (some ⟨b2,2,none⟩)) ?_
   refine sw 10 (.int .i64 (qq2)) rfl (rk 3 2 L2) ?_
   refine sv 11 (.bool ((qq2 !=(0:Int)))) ?_
   refine sq_nil ?_
   refine av _ _ ?_
   try clear av aP
   refine wp_cond_split (t:=(qq2 !=(0:Int))) rfl (fun ab=>?_) (fun ab=>?_)
   ·refine wp_seq_k (fun aE ah=>?_)
    refine rg [0,1,2,3,4] ?_
    refine sv 12 (.int .i64 2) ?_
    refine sv 13 (.pointer (some ⟨b2,2,none⟩)) ?_
    refine sw 14 (.int .i64 (qq2)) rfl (rk 3 2 L2) ?_
    refine sv 15 (.bool (decide ((0:Int)<qq2))) ?_
    refine sv 2 (.bool (decide ((0:Int)<qq2))) ?_
    refine sq_nil ?_
    refine ah _ _ ?_
    try clear ah aE
    refine wp_ret ?_
    simp only [Exit.then,Exit.inBlock]
    refine bodyPost_ret (v:=(.bool (decide ((0:Int)<qq2)))) (ret_tmp rfl rfl) rfl ⟨?_,hB⟩
    exact (congrArg (fun z=>Ending.returned (.bool z)) (posq2 ad aa ab))
   ·refine wp_skip ?_
    refine ae _ _ ?_
    try clear ae aG
    refine rg [0,1,2] ?_
    refine sv 6 (.int .i64 2) ?_
    refine sv 7 (.int .i64 3) ?_
    refine sv 3 (.int .i64 3) ?_
    refine sq_nil ?_
    show Code.rounds _ _ _ _ _ _
    show Code.wp _ _ _ _ _
    refine wp_seq_k (fun aC af=>?_)
    refine wp_seq_k (fun aI ai=>?_)
    refine rg [0,1] ?_
    refine sv 4 (.int .i64 3) ?_
    refine sv 5 (.bool true) ?_
    refine sq_nil ?_
    refine ai _ _ ?_
    try clear ai aI
    refine wp_cond_true rfl ?_
    refine wp_skip ?_
    refine af _ _ ?_
    try clear af aC
    refine wp_seq_k (fun aR ak=>?_)
    refine wp_block ?_
    refine wp_seq_k (fun aQ al=>?_)
    refine rg [0,1,2,3] ?_
    refine sv 8 (.int .i64 3) ?_
    refine sv 9 (.pointer (some ⟨b2,3,none⟩)) ?_
    refine sw 10 (.int .i64 (qq3)) rfl (rk 3 3 L2) ?_
    refine sv 11 (.bool ((qq3 !=(0:Int)))) ?_
    refine sq_nil ?_
    refine al _ _ ?_
    try clear al aQ
    refine wp_cond_split (t:=(qq3 !=(0:Int))) rfl (fun ac=>?_) (fun ac=>?_)
    ·refine wp_seq_k (fun aS aq=>?_)
     refine rg [0,1,2,3,4] ?_
     refine sv 12 (.int .i64 3) ?_
     refine sv 13 (.pointer (some ⟨b2,3,none⟩)) ?_
     refine sw 14 (.int .i64 (qq3)) rfl (rk 3 3 L2) ?_
     refine sv 15 (.bool (decide ((0:Int)<qq3))) ?_
     refine sv 2 (.bool (decide ((0:Int)<qq3))) ?_
     refine sq_nil ?_
     refine aq _ _ ?_
     try clear aq aS
     refine wp_ret ?_
     simp only [Exit.then,Exit.inBlock]
     refine bodyPost_ret (v:=(.bool (decide ((0:Int)<qq3)))) (ret_tmp rfl rfl) rfl ⟨?_,hB⟩
     exact (congrArg (fun z=>Ending.returned (.bool z)) (posq3 ad aa ab ac))
    ·refine wp_skip ?_
     refine ak _ _ ?_
     try clear ak aR
     refine rg [0,1,2] ?_
     refine sv 6 (.int .i64 3) ?_
     refine sv 7 (.int .i64 4) ?_
     refine sv 3 (.int .i64 4) ?_
     refine sq_nil ?_
     show Code.rounds _ _ _ _ _ _
     show Code.wp _ _ _ _ _
     refine wp_seq_k (fun aU aV=>?_)
     refine wp_seq_k (fun aL ax=>?_)
     refine rg [0,1] ?_
     refine sv 4 (.int .i64 4) ?_
     refine sv 5 (.bool false) ?_
     refine sq_nil ?_
     refine ax _ _ ?_
     try clear ax aL
     refine wp_cond_false rfl ?_
     refine wp_exit ?_
     simp only [Exit.then,Exit.inBlock,↓reduceIte]
     refine k3 _ _ ?_
     try clear k3 K3
     refine wp_seq_k (fun aJ aB=>?_)
     refine rg [0] ?_
     refine sv 2 (.bool false) ?_
     refine sq_nil ?_
     refine aB _ _ ?_
     try clear aB aJ
     refine wp_ret ?_
     refine bodyPost_ret (v:=(.bool false)) (ret_tmp rfl rfl) rfl ⟨?_,hB⟩
     exact (congrArg (fun z=>Ending.returned (.bool z)) (posq4 ad aa ab ac))

set_option maxRecDepth 100000 in
set_option maxHeartbeats 1000000 in
theorem r7_prim_p (qq0 qq1 qq2 qq3:Int) (j0:-1099511627776≤qq0∧qq0≤1099511627776) (j1:-1099511627776≤qq1∧qq1≤1099511627776) (j2:-1099511627776≤qq2∧qq2≤1099511627776) (j3:-1099511627776≤qq3∧qq3≤1099511627776) (hn:¬(qq0=0∧qq1=0∧qq2=0∧qq3=0)) (hs:qsgn qq0 qq1 qq2 qq3=1) (w:World):
    Calls Tryz.prog 66 #[(.agg #[(.int .i64 (qq0)),(.int .i64 (qq1)),(.int .i64 (qq2)),(.int .i64 (qq3))])] w fun e w'=>e=.returned (.agg #[.int .i64 (qprim qq0 qq1 qq2 qq3 qq0),.int .i64 (qprim qq0 qq1 qq2 qq3 qq1),.int .i64 (qprim qq0 qq1 qq2 qq3 qq2),.int .i64 (qprim qq0 qq1 qq2 qq3 qq3)])∧Gr w w':=by
 have hsb:decide (qsgn qq0 qq1 qq2 qq3=1)=true:=by rw [hs];rfl
 have hd:=qgcd_dvd qq0 qq1 qq2 qq3
 have hgp:=qgcd_pos hn
 have aV:=qprim_le (n:=qq0) hn
 have a2:=qprim_le (n:=qq1) hn
 have a5:=qprim_le (n:=qq2) hn
 have a0:=qprim_le (n:=qq3) hn
 have hgm:qgcd qq0 qq1 qq2 qq3≤1099511627776:=by
    have h1:=hd.1;have h2:=hd.2.1;have h3:=hd.2.2.1;have h4:=hd.2.2.2
    have le:∀ x:Int,x≠0→-1099511627776≤x∧x≤1099511627776→qgcd qq0 qq1 qq2 qq3∣x→qgcd qq0 qq1 qq2 qq3≤1099511627776:=by
      intro x hx hb hdx
      have:=Nat.le_of_dvd (by omega) (Int.natAbs_dvd_natAbs.2 hdx)
      omega
    by_cases z0:qq0=0
    · by_cases z1:qq1=0
      · by_cases z2:qq2=0
        · exact le qq3 (fun z3=>hn ⟨z0,z1,z2,z3⟩) j3 h4
        · exact le qq2 z2 j2 h3
      · exact le qq1 z1 j1 h2
    · exact le qq0 z0 j0 h1
 go_enter Tryz.func66,Tryz.ntmps66
 have hB:=Gr.refl w
 refine wp_seq_k (fun K1 k1=>?_)
 refine rg [0,1] ?_
 refine se ?_
 refine eb 22 #[(.int .i64 (qq0)),(.int .i64 (qq1)),(.int .i64 (qq2)),(.int .i64 (qq3))] 1 hB fun b2 w2 g2 L2 o2 q2 hB=>?_
 simp only [p3,p4]
 refine se ?_
 refine ea 22 #[(.int .i64 0),(.int .i64 0),(.int .i64 0),(.int .i64 0)] 2 hB fun b3 w3 g3 L3 o3 q3 hB=>?_
 have aa:=L2.ne o3
 simp only [p3,p4]
 refine sq_nil ?_
 refine k1 _ _ ?_
 try clear k1 K1
 refine wp_seq_k (fun K4 k4=>?_)
 refine rg [0,1,2] ?_
 replace L2:=L2.gr g3
 refine sw 5 (.agg #[(.int .i64 (qq0)),(.int .i64 (qq1)),(.int .i64 (qq2)),(.int .i64 (qq3))]) rfl (rl 22 0 [(.int .i64 (qq0)),(.int .i64 (qq1)),(.int .i64 (qq2)),(.int .i64 (qq3))] L2) ?_
 refine se ?_
 refine ec 6 (r7_common qq0 qq1 qq2 qq3 (by omega) (by omega) (by omega) (by omega) _) ?_
 rintro e5 w5 ⟨rfl,g5⟩
 refine ⟨_,rfl,?_⟩
 replace hB:=hB.trans g5
 simp only [p3,p4]
 refine sv 3 (.int .i64 (qgcd qq0 qq1 qq2 qq3)) ?_
 refine sq_nil ?_
 refine k4 _ _ ?_
 try clear k4 K4
 refine wp_seq_k (fun K6 k6=>?_)
 refine wp_seq_k (fun K7 k7=>?_)
 refine rg [0,1,2] ?_
 replace L2:=L2.gr g5
 refine sw 7 (.agg #[(.int .i64 (qq0)),(.int .i64 (qq1)),(.int .i64 (qq2)),(.int .i64 (qq3))]) rfl (rl 22 0 [(.int .i64 (qq0)),(.int .i64 (qq1)),(.int .i64 (qq2)),(.int .i64 (qq3))] L2) ?_
 refine se ?_
 refine ec 8 (r7_positive qq0 qq1 qq2 qq3 _) ?_
 rintro e8 w8 ⟨rfl,g8⟩
 refine ⟨_,rfl,?_⟩
 replace hB:=hB.trans g8
 simp only [p3,p4]
 refine sw 9 (.bool false) rfl (RunV.bool (x:=!(decide (qsgn qq0 qq1 qq2 qq3=1))) (rvk (by kernel_rfl)) (show (!(decide (qsgn qq0 qq1 qq2 qq3=1)))=false by rw [hsb];rfl)) ?_
 refine sq_nil ?_
 refine k7 _ _ ?_
 try clear k7 K7
 refine wp_cond_false rfl ?_
 refine wp_skip ?_
 refine k6 _ _ ?_
 try clear k6 K6
 refine wp_seq_k (fun K9 k9=>?_)
 refine wp_seq_k (fun aP al=>?_)
 refine rg [0] ?_
 refine sv 4 (.int .i64 0) ?_
 refine sq_nil ?_
 refine al _ _ ?_
 try clear al aP
 refine wp_block ?_
 refine wp_loop_rounds 6 ?_
 show Code.wp _ _ _ _ _
 refine wp_seq_k (fun aB ah=>?_)
 refine wp_seq_k (fun aI aq=>?_)
 refine rg [0,1] ?_
 refine sv 12 (.int .i64 0) ?_
 refine sv 13 (.bool true) ?_
 refine sq_nil ?_
 refine aq _ _ ?_
 try clear aq aI
 refine wp_cond_true rfl ?_
 refine wp_skip ?_
 refine ah _ _ ?_
 try clear ah aB
 refine wp_seq_k (fun aE ar=>?_)
 refine wp_block ?_
 refine rg [0,1,2,3,4,5,6,7] ?_
 refine sv 16 (.int .i64 0) ?_
 refine sv 17 (.int .i64 0) ?_
 refine sv 18 (.pointer (some ⟨b2,0,none⟩)) ?_
 replace L2:=L2.gr g8
 refine sw 19 (.int .i64 (qq0)) rfl (rk 3 0 L2) ?_
 refine sv 20 (.int .i64 (qgcd qq0 qq1 qq2 qq3)) ?_
 refine sw 21 (.int .i64 (qprim qq0 qq1 qq2 qq3 qq0)) rfl (rv_quon 3 3 _ _ qq0 (qgcd qq0 qq1 qq2 qq3) (qprim qq0 qq1 qq2 qq3 qq0) rfl rfl rfl (prim_td hn hd.1 hs) (by omega) (by omega) (by omega)) ?_
 refine sv 22 (.pointer (some ⟨b2,0,none⟩)) ?_
 refine se ?_
 refine es 3 0 (.int .i64 (qprim qq0 qq1 qq2 qq3 qq0)) [(.int .i64 (qprim qq0 qq1 qq2 qq3 qq0))] #[(.int .i64 (qprim qq0 qq1 qq2 qq3 qq0)),(.int .i64 (qq1)),(.int .i64 (qq2)),(.int .i64 (qq3))] L2 hB q2 ⟨rfl,trivial⟩ fun a3 ac aJ L2 hB=>?_
 refine sq_nil ?_
 refine ar _ _ ?_
 try clear ar aE
 refine rg [0,1,2] ?_
 refine sv 14 (.int .i64 0) ?_
 refine sv 15 (.int .i64 1) ?_
 refine sv 4 (.int .i64 1) ?_
 refine sq_nil ?_
 show Code.rounds _ _ _ _ _ _
 show Code.wp _ _ _ _ _
 refine wp_seq_k (fun aM ak=>?_)
 refine wp_seq_k (fun aL ap=>?_)
 refine rg [0,1] ?_
 refine sv 12 (.int .i64 1) ?_
 refine sv 13 (.bool true) ?_
 refine sq_nil ?_
 refine ap _ _ ?_
 try clear ap aL
 refine wp_cond_true rfl ?_
 refine wp_skip ?_
 refine ak _ _ ?_
 try clear ak aM
 refine wp_seq_k (fun aQ ai=>?_)
 refine wp_block ?_
 refine rg [0,1,2,3,4,5,6,7] ?_
 refine sv 16 (.int .i64 1) ?_
 refine sv 17 (.int .i64 1) ?_
 refine sv 18 (.pointer (some ⟨b2,1,none⟩)) ?_
 refine sw 19 (.int .i64 (qq1)) rfl (rk 3 1 L2) ?_
 refine sv 20 (.int .i64 (qgcd qq0 qq1 qq2 qq3)) ?_
 refine sw 21 (.int .i64 (qprim qq0 qq1 qq2 qq3 qq1)) rfl (rv_quon 3 3 _ _ qq1 (qgcd qq0 qq1 qq2 qq3) (qprim qq0 qq1 qq2 qq3 qq1) rfl rfl rfl (prim_td hn hd.2.1 hs) (by omega) (by omega) (by omega)) ?_
 refine sv 22 (.pointer (some ⟨b2,1,none⟩)) ?_
 refine se ?_
 refine es 3 1 (.int .i64 (qprim qq0 qq1 qq2 qq3 qq1)) [(.int .i64 (qprim qq0 qq1 qq2 qq3 qq1))] #[(.int .i64 (qprim qq0 qq1 qq2 qq3 qq0)),(.int .i64 (qprim qq0 qq1 qq2 qq3 qq1)),(.int .i64 (qq2)),(.int .i64 (qq3))] L2 hB q2 ⟨rfl,trivial⟩ fun aW ab aR L2 hB=>?_
 refine sq_nil ?_
 refine ai _ _ ?_
 try clear ai aQ
 refine rg [0,1,2] ?_
 refine sv 14 (.int .i64 1) ?_
 refine sv 15 (.int .i64 2) ?_
 refine sv 4 (.int .i64 2) ?_
 refine sq_nil ?_
 show Code.rounds _ _ _ _ _ _
 show Code.wp _ _ _ _ _
 refine wp_seq_k (fun aC af=>?_)
 refine wp_seq_k (fun aS az=>?_)
 refine rg [0,1] ?_
 refine sv 12 (.int .i64 2) ?_
 refine sv 13 (.bool true) ?_
 refine sq_nil ?_
 refine az _ _ ?_
 try clear az aS
 refine wp_cond_true rfl ?_
 refine wp_skip ?_
 refine af _ _ ?_
 try clear af aC
 refine wp_seq_k (fun aF aj=>?_)
 refine wp_block ?_
 refine rg [0,1,2,3,4,5,6,7] ?_
 refine sv 16 (.int .i64 2) ?_
 refine sv 17 (.int .i64 2) ?_
 refine sv 18 (.pointer (some ⟨b2,2,none⟩)) ?_
 refine sw 19 (.int .i64 (qq2)) rfl (rk 3 2 L2) ?_
 refine sv 20 (.int .i64 (qgcd qq0 qq1 qq2 qq3)) ?_
 refine sw 21 (.int .i64 (qprim qq0 qq1 qq2 qq3 qq2)) rfl (rv_quon 3 3 _ _ qq2 (qgcd qq0 qq1 qq2 qq3) (qprim qq0 qq1 qq2 qq3 qq2) rfl rfl rfl (prim_td hn hd.2.2.1 hs) (by omega) (by omega) (by omega)) ?_
 refine sv 22 (.pointer (some ⟨b2,2,none⟩)) ?_
 refine se ?_
 refine es 3 2 (.int .i64 (qprim qq0 qq1 qq2 qq3 qq2)) [(.int .i64 (qprim qq0 qq1 qq2 qq3 qq2))] #[(.int .i64 (qprim qq0 qq1 qq2 qq3 qq0)),(.int .i64 (qprim qq0 qq1 qq2 qq3 qq1)),(.int .i64 (qprim qq0 qq1 qq2 qq3 qq2)),(.int .i64 (qq3))] L2 hB q2 ⟨rfl,trivial⟩ fun aZ ad aK L2 hB=>?_
 refine sq_nil ?_
 refine aj _ _ ?_
 try clear aj aF
 refine rg [0,1,2] ?_
 refine sv 14 (.int .i64 2) ?_
 refine sv 15 (.int .i64 3) ?_
 refine sv 4 (.int .i64 3) ?_
 refine sq_nil ?_
 show Code.rounds _ _ _ _ _ _
 show Code.wp _ _ _ _ _
 refine wp_seq_k (fun aA av=>?_)
 refine wp_seq_k (fun aD aw=>?_)
 refine rg [0,1] ?_
 refine sv 12 (.int .i64 3) ?_
 refine sv 13 (.bool true) ?_
 refine sq_nil ?_
 refine aw _ _ ?_
 try clear aw aD
 refine wp_cond_true rfl ?_
 refine wp_skip ?_
 refine av _ _ ?_
 try clear av aA
 refine wp_seq_k (fun aG ax=>?_)
 refine wp_block ?_
 refine rg [0,1,2,3,4,5,6,7] ?_
 refine sv 16 (.int .i64 3) ?_
 refine sv 17 (.int .i64 3) ?_
 refine sv 18 (.pointer (some ⟨b2,3,none⟩)) ?_
 refine sw 19 (.int .i64 (qq3)) rfl (rk 3 3 L2) ?_
 refine sv 20 (.int .i64 (qgcd qq0 qq1 qq2 qq3)) ?_
 refine sw 21 (.int .i64 (qprim qq0 qq1 qq2 qq3 qq3)) rfl (rv_quon 3 3 _ _ qq3 (qgcd qq0 qq1 qq2 qq3) (qprim qq0 qq1 qq2 qq3 qq3) rfl rfl rfl (prim_td hn hd.2.2.2 hs) (by omega) (by omega) (by omega)) ?_
 refine sv 22 (.pointer (some ⟨b2,3,none⟩)) ?_
 refine se ?_
 refine es 3 3 (.int .i64 (qprim qq0 qq1 qq2 qq3 qq3)) [(.int .i64 (qprim qq0 qq1 qq2 qq3 qq3))] #[(.int .i64 (qprim qq0 qq1 qq2 qq3 qq0)),(.int .i64 (qprim qq0 qq1 qq2 qq3 qq1)),(.int .i64 (qprim qq0 qq1 qq2 qq3 qq2)),(.int .i64 (qprim qq0 qq1 qq2 qq3 qq3))] L2 hB q2 ⟨rfl,trivial⟩ fun a1 ae aT L2 hB=>?_
 refine sq_nil ?_
 refine ax _ _ ?_
 try clear ax aG
 refine rg [0,1,2] ?_
 refine sv 14 (.int .i64 3) ?_
 refine sv 15 (.int .i64 4) ?_
 refine sv 4 (.int .i64 4) ?_
 refine sq_nil ?_
 show Code.rounds _ _ _ _ _ _
 show Code.wp _ _ _ _ _
 refine wp_seq_k (fun aX a4=>?_)
 refine wp_seq_k (fun aH ay=>?_)
 refine rg [0,1] ?_
 refine sv 12 (.int .i64 4) ?_
 refine sv 13 (.bool false) ?_
 refine sq_nil ?_
 refine ay _ _ ?_
 try clear ay aH
 refine wp_cond_false rfl ?_
 refine wp_exit ?_
 simp only [Exit.then,Exit.inBlock,↓reduceIte]
 refine k9 _ _ ?_
 try clear k9 K9
 refine wp_seq_k (fun aU au=>?_)
 refine rg [0,1] ?_
 refine sw 23 (.agg #[(.int .i64 (qprim qq0 qq1 qq2 qq3 qq0)),(.int .i64 (qprim qq0 qq1 qq2 qq3 qq1)),(.int .i64 (qprim qq0 qq1 qq2 qq3 qq2)),(.int .i64 (qprim qq0 qq1 qq2 qq3 qq3))]) rfl (rl 22 0 [(.int .i64 (qprim qq0 qq1 qq2 qq3 qq0)),(.int .i64 (qprim qq0 qq1 qq2 qq3 qq1)),(.int .i64 (qprim qq0 qq1 qq2 qq3 qq2)),(.int .i64 (qprim qq0 qq1 qq2 qq3 qq3))] L2) ?_
 refine se ?_
 replace L3:=ae.lc (ad.lc (ab.lc (ac.lc (L3.gr (g5.trans g8)) (Ne.symm aa)) (Ne.symm aa)) (Ne.symm aa)) (Ne.symm aa)
 refine es 22 0 (.agg #[(.int .i64 (qprim qq0 qq1 qq2 qq3 qq0)),(.int .i64 (qprim qq0 qq1 qq2 qq3 qq1)),(.int .i64 (qprim qq0 qq1 qq2 qq3 qq2)),(.int .i64 (qprim qq0 qq1 qq2 qq3 qq3))]) [(.int .i64 (qprim qq0 qq1 qq2 qq3 qq0)),(.int .i64 (qprim qq0 qq1 qq2 qq3 qq1)),(.int .i64 (qprim qq0 qq1 qq2 qq3 qq2)),(.int .i64 (qprim qq0 qq1 qq2 qq3 qq3))] #[(.int .i64 (qprim qq0 qq1 qq2 qq3 qq0)),(.int .i64 (qprim qq0 qq1 qq2 qq3 qq1)),(.int .i64 (qprim qq0 qq1 qq2 qq3 qq2)),(.int .i64 (qprim qq0 qq1 qq2 qq3 qq3))] L3 hB q3 ⟨rfl,rfl,rfl,rfl,trivial⟩ fun aY aN aO L3 hB=>?_
 refine sq_nil ?_
 refine au _ _ ?_
 try clear au aU
 refine wp_ret ?_
 refine bodyPost_ret (v:=(.agg #[(.int .i64 (qprim qq0 qq1 qq2 qq3 qq0)),(.int .i64 (qprim qq0 qq1 qq2 qq3 qq1)),(.int .i64 (qprim qq0 qq1 qq2 qq3 qq2)),(.int .i64 (qprim qq0 qq1 qq2 qq3 qq3))])) (ret_cell _ _ _ rfl rfl L3 (by kernel_rfl)) rfl ⟨?_,hB⟩
 exact rfl

set_option maxRecDepth 100000 in
set_option maxHeartbeats 1000000 in
theorem r7_prim_m (qq0 qq1 qq2 qq3:Int) (j0:-1099511627776≤qq0∧qq0≤1099511627776) (j1:-1099511627776≤qq1∧qq1≤1099511627776) (j2:-1099511627776≤qq2∧qq2≤1099511627776) (j3:-1099511627776≤qq3∧qq3≤1099511627776) (hn:¬(qq0=0∧qq1=0∧qq2=0∧qq3=0)) (hs:qsgn qq0 qq1 qq2 qq3=-1) (w:World):
    Calls Tryz.prog 66 #[(.agg #[(.int .i64 (qq0)),(.int .i64 (qq1)),(.int .i64 (qq2)),(.int .i64 (qq3))])] w fun e w'=>e=.returned (.agg #[.int .i64 (qprim qq0 qq1 qq2 qq3 qq0),.int .i64 (qprim qq0 qq1 qq2 qq3 qq1),.int .i64 (qprim qq0 qq1 qq2 qq3 qq2),.int .i64 (qprim qq0 qq1 qq2 qq3 qq3)])∧Gr w w':=by
 have hsb:decide (qsgn qq0 qq1 qq2 qq3=1)=false:=by rw [hs];rfl
 have hd:=qgcd_dvd qq0 qq1 qq2 qq3
 have hgp:=qgcd_pos hn
 have aV:=qprim_le (n:=qq0) hn
 have a2:=qprim_le (n:=qq1) hn
 have a5:=qprim_le (n:=qq2) hn
 have a0:=qprim_le (n:=qq3) hn
 have hgm:qgcd qq0 qq1 qq2 qq3≤1099511627776:=by
    have h1:=hd.1;have h2:=hd.2.1;have h3:=hd.2.2.1;have h4:=hd.2.2.2
    have le:∀ x:Int,x≠0→-1099511627776≤x∧x≤1099511627776→qgcd qq0 qq1 qq2 qq3∣x→qgcd qq0 qq1 qq2 qq3≤1099511627776:=by
      intro x hx hb hdx
      have:=Nat.le_of_dvd (by omega) (Int.natAbs_dvd_natAbs.2 hdx)
      omega
    by_cases z0:qq0=0
    · by_cases z1:qq1=0
      · by_cases z2:qq2=0
        · exact le qq3 (fun z3=>hn ⟨z0,z1,z2,z3⟩) j3 h4
        · exact le qq2 z2 j2 h3
      · exact le qq1 z1 j1 h2
    · exact le qq0 z0 j0 h1
 go_enter Tryz.func66,Tryz.ntmps66
 have hB:=Gr.refl w
 refine wp_seq_k (fun K1 k1=>?_)
 refine rg [0,1] ?_
 refine se ?_
 refine eb 22 #[(.int .i64 (qq0)),(.int .i64 (qq1)),(.int .i64 (qq2)),(.int .i64 (qq3))] 1 hB fun b2 w2 g2 L2 o2 q2 hB=>?_
 simp only [p3,p4]
 refine se ?_
 refine ea 22 #[(.int .i64 0),(.int .i64 0),(.int .i64 0),(.int .i64 0)] 2 hB fun b3 w3 g3 L3 o3 q3 hB=>?_
 have aa:=L2.ne o3
 simp only [p3,p4]
 refine sq_nil ?_
 refine k1 _ _ ?_
 try clear k1 K1
 refine wp_seq_k (fun K4 k4=>?_)
 refine rg [0,1,2] ?_
 replace L2:=L2.gr g3
 refine sw 5 (.agg #[(.int .i64 (qq0)),(.int .i64 (qq1)),(.int .i64 (qq2)),(.int .i64 (qq3))]) rfl (rl 22 0 [(.int .i64 (qq0)),(.int .i64 (qq1)),(.int .i64 (qq2)),(.int .i64 (qq3))] L2) ?_
 refine se ?_
 refine ec 6 (r7_common qq0 qq1 qq2 qq3 (by omega) (by omega) (by omega) (by omega) _) ?_
 rintro e5 w5 ⟨rfl,g5⟩
 refine ⟨_,rfl,?_⟩
 replace hB:=hB.trans g5
 simp only [p3,p4]
 refine sv 3 (.int .i64 (qgcd qq0 qq1 qq2 qq3)) ?_
 refine sq_nil ?_
 refine k4 _ _ ?_
 try clear k4 K4
 refine wp_seq_k (fun K6 k6=>?_)
 refine wp_seq_k (fun K7 k7=>?_)
 refine rg [0,1,2] ?_
 replace L2:=L2.gr g5
 refine sw 7 (.agg #[(.int .i64 (qq0)),(.int .i64 (qq1)),(.int .i64 (qq2)),(.int .i64 (qq3))]) rfl (rl 22 0 [(.int .i64 (qq0)),(.int .i64 (qq1)),(.int .i64 (qq2)),(.int .i64 (qq3))] L2) ?_
 refine se ?_
 refine ec 8 (r7_positive qq0 qq1 qq2 qq3 _) ?_
 rintro e8 w8 ⟨rfl,g8⟩
 refine ⟨_,rfl,?_⟩
 replace hB:=hB.trans g8
 simp only [p3,p4]
 refine sw 9 (.bool true) rfl (RunV.bool (x:=!(decide (qsgn qq0 qq1 qq2 qq3=1))) (rvk (by kernel_rfl)) (show (!(decide (qsgn qq0 qq1 qq2 qq3=1)))=true by rw [hsb];rfl)) ?_
 refine sq_nil ?_
 refine k7 _ _ ?_
 try clear k7 K7
 refine wp_cond_true rfl ?_
 refine rg [0,1,2] ?_
 refine sv 10 (.int .i64 (qgcd qq0 qq1 qq2 qq3)) ?_
 refine sw 11 (.int .i64 ((0 - qgcd qq0 qq1 qq2 qq3))) rfl (RunV.int (x:=IntKind.i64.wrap ((0 - qgcd qq0 qq1 qq2 qq3))) (y:=(0 - qgcd qq0 qq1 qq2 qq3)) (rvk (by kernel_rfl)) (by first | rfl | (rw [IntKind.wrap_i64];omega))) ?_
 refine sv 3 (.int .i64 ((0 - qgcd qq0 qq1 qq2 qq3))) ?_
 refine sq_nil ?_
 refine k6 _ _ ?_
 try clear k6 K6
 refine wp_seq_k (fun K9 k9=>?_)
 refine wp_seq_k (fun aP al=>?_)
 refine rg [0] ?_
 refine sv 4 (.int .i64 0) ?_
 refine sq_nil ?_
 refine al _ _ ?_
 try clear al aP
 refine wp_block ?_
 refine wp_loop_rounds 6 ?_
 show Code.wp _ _ _ _ _
 refine wp_seq_k (fun aB ah=>?_)
 refine wp_seq_k (fun aI aq=>?_)
 refine rg [0,1] ?_
 refine sv 12 (.int .i64 0) ?_
 refine sv 13 (.bool true) ?_
 refine sq_nil ?_
 refine aq _ _ ?_
 try clear aq aI
 refine wp_cond_true rfl ?_
 refine wp_skip ?_
 refine ah _ _ ?_
 try clear ah aB
 refine wp_seq_k (fun aE ar=>?_)
 refine wp_block ?_
 refine rg [0,1,2,3,4,5,6,7] ?_
 refine sv 16 (.int .i64 0) ?_
 refine sv 17 (.int .i64 0) ?_
 refine sv 18 (.pointer (some ⟨b2,0,none⟩)) ?_
 replace L2:=L2.gr g8
 refine sw 19 (.int .i64 (qq0)) rfl (rk 3 0 L2) ?_
 refine sv 20 (.int .i64 ((0 - qgcd qq0 qq1 qq2 qq3))) ?_
 refine sw 21 (.int .i64 (qprim qq0 qq1 qq2 qq3 qq0)) rfl (rv_quon 3 3 _ _ qq0 ((0 - qgcd qq0 qq1 qq2 qq3)) (qprim qq0 qq1 qq2 qq3 qq0) rfl rfl rfl (prim_tm hn hd.1 hs) (by omega) (by omega) (by omega)) ?_
 refine sv 22 (.pointer (some ⟨b2,0,none⟩)) ?_
 refine se ?_
 refine es 3 0 (.int .i64 (qprim qq0 qq1 qq2 qq3 qq0)) [(.int .i64 (qprim qq0 qq1 qq2 qq3 qq0))] #[(.int .i64 (qprim qq0 qq1 qq2 qq3 qq0)),(.int .i64 (qq1)),(.int .i64 (qq2)),(.int .i64 (qq3))] L2 hB q2 ⟨rfl,trivial⟩ fun a3 ac aJ L2 hB=>?_
 refine sq_nil ?_
 refine ar _ _ ?_
 try clear ar aE
 refine rg [0,1,2] ?_
 refine sv 14 (.int .i64 0) ?_
 refine sv 15 (.int .i64 1) ?_
 refine sv 4 (.int .i64 1) ?_
 refine sq_nil ?_
 show Code.rounds _ _ _ _ _ _
 show Code.wp _ _ _ _ _
 refine wp_seq_k (fun aM ak=>?_)
 refine wp_seq_k (fun aL ap=>?_)
 refine rg [0,1] ?_
 refine sv 12 (.int .i64 1) ?_
 refine sv 13 (.bool true) ?_
 refine sq_nil ?_
 refine ap _ _ ?_
 try clear ap aL
 refine wp_cond_true rfl ?_
 refine wp_skip ?_
 refine ak _ _ ?_
 try clear ak aM
 refine wp_seq_k (fun aQ ai=>?_)
 refine wp_block ?_
 refine rg [0,1,2,3,4,5,6,7] ?_
 refine sv 16 (.int .i64 1) ?_
 refine sv 17 (.int .i64 1) ?_
 refine sv 18 (.pointer (some ⟨b2,1,none⟩)) ?_
 refine sw 19 (.int .i64 (qq1)) rfl (rk 3 1 L2) ?_
 refine sv 20 (.int .i64 ((0 - qgcd qq0 qq1 qq2 qq3))) ?_
 refine sw 21 (.int .i64 (qprim qq0 qq1 qq2 qq3 qq1)) rfl (rv_quon 3 3 _ _ qq1 ((0 - qgcd qq0 qq1 qq2 qq3)) (qprim qq0 qq1 qq2 qq3 qq1) rfl rfl rfl (prim_tm hn hd.2.1 hs) (by omega) (by omega) (by omega)) ?_
 refine sv 22 (.pointer (some ⟨b2,1,none⟩)) ?_
 refine se ?_
 refine es 3 1 (.int .i64 (qprim qq0 qq1 qq2 qq3 qq1)) [(.int .i64 (qprim qq0 qq1 qq2 qq3 qq1))] #[(.int .i64 (qprim qq0 qq1 qq2 qq3 qq0)),(.int .i64 (qprim qq0 qq1 qq2 qq3 qq1)),(.int .i64 (qq2)),(.int .i64 (qq3))] L2 hB q2 ⟨rfl,trivial⟩ fun aW ab aR L2 hB=>?_
 refine sq_nil ?_
 refine ai _ _ ?_
 try clear ai aQ
 refine rg [0,1,2] ?_
 refine sv 14 (.int .i64 1) ?_
 refine sv 15 (.int .i64 2) ?_
 refine sv 4 (.int .i64 2) ?_
 refine sq_nil ?_
 show Code.rounds _ _ _ _ _ _
 show Code.wp _ _ _ _ _
 refine wp_seq_k (fun aC af=>?_)
 refine wp_seq_k (fun aS az=>?_)
 refine rg [0,1] ?_
 refine sv 12 (.int .i64 2) ?_
 refine sv 13 (.bool true) ?_
 refine sq_nil ?_
 refine az _ _ ?_
 try clear az aS
 refine wp_cond_true rfl ?_
 refine wp_skip ?_
 refine af _ _ ?_
 try clear af aC
 refine wp_seq_k (fun aF aj=>?_)
 refine wp_block ?_
 refine rg [0,1,2,3,4,5,6,7] ?_
 refine sv 16 (.int .i64 2) ?_
 refine sv 17 (.int .i64 2) ?_
 refine sv 18 (.pointer (some ⟨b2,2,none⟩)) ?_
 refine sw 19 (.int .i64 (qq2)) rfl (rk 3 2 L2) ?_
 refine sv 20 (.int .i64 ((0 - qgcd qq0 qq1 qq2 qq3))) ?_
 refine sw 21 (.int .i64 (qprim qq0 qq1 qq2 qq3 qq2)) rfl (rv_quon 3 3 _ _ qq2 ((0 - qgcd qq0 qq1 qq2 qq3)) (qprim qq0 qq1 qq2 qq3 qq2) rfl rfl rfl (prim_tm hn hd.2.2.1 hs) (by omega) (by omega) (by omega)) ?_
 refine sv 22 (.pointer (some ⟨b2,2,none⟩)) ?_
 refine se ?_
 refine es 3 2 (.int .i64 (qprim qq0 qq1 qq2 qq3 qq2)) [(.int .i64 (qprim qq0 qq1 qq2 qq3 qq2))] #[(.int .i64 (qprim qq0 qq1 qq2 qq3 qq0)),(.int .i64 (qprim qq0 qq1 qq2 qq3 qq1)),(.int .i64 (qprim qq0 qq1 qq2 qq3 qq2)),(.int .i64 (qq3))] L2 hB q2 ⟨rfl,trivial⟩ fun aZ ad aK L2 hB=>?_
 refine sq_nil ?_
 refine aj _ _ ?_
 try clear aj aF
 refine rg [0,1,2] ?_
 refine sv 14 (.int .i64 2) ?_
 refine sv 15 (.int .i64 3) ?_
 refine sv 4 (.int .i64 3) ?_
 refine sq_nil ?_
 show Code.rounds _ _ _ _ _ _
 show Code.wp _ _ _ _ _
 refine wp_seq_k (fun aA av=>?_)
 refine wp_seq_k (fun aD aw=>?_)
 refine rg [0,1] ?_
 refine sv 12 (.int .i64 3) ?_
 refine sv 13 (.bool true) ?_
 refine sq_nil ?_
 refine aw _ _ ?_
 try clear aw aD
 refine wp_cond_true rfl ?_
 refine wp_skip ?_
 refine av _ _ ?_
 try clear av aA
 refine wp_seq_k (fun aG ax=>?_)
 refine wp_block ?_
 refine rg [0,1,2,3,4,5,6,7] ?_
 refine sv 16 (.int .i64 3) ?_
 refine sv 17 (.int .i64 3) ?_
 refine sv 18 (.pointer (some ⟨b2,3,none⟩)) ?_
 refine sw 19 (.int .i64 (qq3)) rfl (rk 3 3 L2) ?_
 refine sv 20 (.int .i64 ((0 - qgcd qq0 qq1 qq2 qq3))) ?_
 refine sw 21 (.int .i64 (qprim qq0 qq1 qq2 qq3 qq3)) rfl (rv_quon 3 3 _ _ qq3 ((0 - qgcd qq0 qq1 qq2 qq3)) (qprim qq0 qq1 qq2 qq3 qq3) rfl rfl rfl (prim_tm hn hd.2.2.2 hs) (by omega) (by omega) (by omega)) ?_
 refine sv 22 (.pointer (some ⟨b2,3,none⟩)) ?_
 refine se ?_
 refine es 3 3 (.int .i64 (qprim qq0 qq1 qq2 qq3 qq3)) [(.int .i64 (qprim qq0 qq1 qq2 qq3 qq3))] #[(.int .i64 (qprim qq0 qq1 qq2 qq3 qq0)),(.int .i64 (qprim qq0 qq1 qq2 qq3 qq1)),(.int .i64 (qprim qq0 qq1 qq2 qq3 qq2)),(.int .i64 (qprim qq0 qq1 qq2 qq3 qq3))] L2 hB q2 ⟨rfl,trivial⟩ fun a1 ae aT L2 hB=>?_
 refine sq_nil ?_
 refine ax _ _ ?_
 try clear ax aG
 refine rg [0,1,2] ?_
 refine sv 14 (.int .i64 3) ?_
 refine sv 15 (.int .i64 4) ?_
 refine sv 4 (.int .i64 4) ?_
 refine sq_nil ?_
 show Code.rounds _ _ _ _ _ _
 show Code.wp _ _ _ _ _
 refine wp_seq_k (fun aX a4=>?_)
 refine wp_seq_k (fun aH ay=>?_)
 refine rg [0,1] ?_
 refine sv 12 (.int .i64 4) ?_
 refine sv 13 (.bool false) ?_
 refine sq_nil ?_
 refine ay _ _ ?_
 try clear ay aH
 refine wp_cond_false rfl ?_
 refine wp_exit ?_
 simp only [Exit.then,Exit.inBlock,↓reduceIte]
 refine k9 _ _ ?_
 try clear k9 K9
 refine wp_seq_k (fun aU au=>?_)
 refine rg [0,1] ?_
 refine sw 23 (.agg #[(.int .i64 (qprim qq0 qq1 qq2 qq3 qq0)),(.int .i64 (qprim qq0 qq1 qq2 qq3 qq1)),(.int .i64 (qprim qq0 qq1 qq2 qq3 qq2)),(.int .i64 (qprim qq0 qq1 qq2 qq3 qq3))]) rfl (rl 22 0 [(.int .i64 (qprim qq0 qq1 qq2 qq3 qq0)),(.int .i64 (qprim qq0 qq1 qq2 qq3 qq1)),(.int .i64 (qprim qq0 qq1 qq2 qq3 qq2)),(.int .i64 (qprim qq0 qq1 qq2 qq3 qq3))] L2) ?_
 refine se ?_
 replace L3:=ae.lc (ad.lc (ab.lc (ac.lc (L3.gr (g5.trans g8)) (Ne.symm aa)) (Ne.symm aa)) (Ne.symm aa)) (Ne.symm aa)
 refine es 22 0 (.agg #[(.int .i64 (qprim qq0 qq1 qq2 qq3 qq0)),(.int .i64 (qprim qq0 qq1 qq2 qq3 qq1)),(.int .i64 (qprim qq0 qq1 qq2 qq3 qq2)),(.int .i64 (qprim qq0 qq1 qq2 qq3 qq3))]) [(.int .i64 (qprim qq0 qq1 qq2 qq3 qq0)),(.int .i64 (qprim qq0 qq1 qq2 qq3 qq1)),(.int .i64 (qprim qq0 qq1 qq2 qq3 qq2)),(.int .i64 (qprim qq0 qq1 qq2 qq3 qq3))] #[(.int .i64 (qprim qq0 qq1 qq2 qq3 qq0)),(.int .i64 (qprim qq0 qq1 qq2 qq3 qq1)),(.int .i64 (qprim qq0 qq1 qq2 qq3 qq2)),(.int .i64 (qprim qq0 qq1 qq2 qq3 qq3))] L3 hB q3 ⟨rfl,rfl,rfl,rfl,trivial⟩ fun aY aN aO L3 hB=>?_
 refine sq_nil ?_
 refine au _ _ ?_
 try clear au aU
 refine wp_ret ?_
 refine bodyPost_ret (v:=(.agg #[(.int .i64 (qprim qq0 qq1 qq2 qq3 qq0)),(.int .i64 (qprim qq0 qq1 qq2 qq3 qq1)),(.int .i64 (qprim qq0 qq1 qq2 qq3 qq2)),(.int .i64 (qprim qq0 qq1 qq2 qq3 qq3))])) (ret_cell _ _ _ rfl rfl L3 (by kernel_rfl)) rfl ⟨?_,hB⟩
 exact rfl

theorem r7_primitive (qq0 qq1 qq2 qq3:Int) (j0:-1099511627776≤qq0∧qq0≤1099511627776) (j1:-1099511627776≤qq1∧qq1≤1099511627776) (j2:-1099511627776≤qq2∧qq2≤1099511627776) (j3:-1099511627776≤qq3∧qq3≤1099511627776) (hn:¬(qq0=0∧qq1=0∧qq2=0∧qq3=0)) (w:World):
  Calls Tryz.prog 66 #[(.agg #[(.int .i64 (qq0)),(.int .i64 (qq1)),(.int .i64 (qq2)),(.int .i64 (qq3))])] w fun e w'=>e=.returned (.agg #[.int .i64 (qprim qq0 qq1 qq2 qq3 qq0),.int .i64 (qprim qq0 qq1 qq2 qq3 qq1),.int .i64 (qprim qq0 qq1 qq2 qq3 qq2),.int .i64 (qprim qq0 qq1 qq2 qq3 qq3)])∧Gr w w':=by
 rcases qsgn_cases hn with hs | hs
 ·exact r7_prim_p qq0 qq1 qq2 qq3 j0 j1 j2 j3 hn hs w
 ·exact r7_prim_m qq0 qq1 qq2 qq3 j0 j1 j2 j3 hn hs w

end Go.Proofs.YtaldbfflkpgfoaaGreatDoor
/- A run on symbols:contracts of motions. -/
namespace Go.Proofs.YtaldbfflkpgfoaaGreatDoor
open Go.RowKit

def newInts (j k:Nat) (z0 z1 z2 z3:Int):SV:=.so (.vg [.cz j 0 k z0,.cz j 1 k z0,.cz (j+1) 0 k z1,.cz (j+1) 1 k z1,.cz (j+2) 0 k z2,.cz (j+2) 1 k z2,.cz (j+3) 0 k z3,.cz (j+3) 1 k z3])
theorem newInts_holds {n:Nn} {X:Env} {w w':World} {e:Ending} {k:Nat} {z0 z1 z2 z3:Int} (h:(∃ t0 t1 t2 t3 t4 t5 t6 t7,e=.returned (.agg #[t0,t1,t2,t3,t4,t5,t6,t7])∧IsInt w' k t0 t1 z0∧IsInt w' k t2 t3 z1∧IsInt w' k t4 t5 z2∧IsInt w' k t6 t7 z3)∧Gr w w'):
  (Tr.leaf (newInts n.z k z0 z1 z2 z3) 0 4).holds n X w e w':=by
 obtain ⟨⟨t0,t1,t2,t3,t4,t5,t6,t7,rfl,h0,h1,h2,h3⟩,g⟩:=h
 let Y:Env:={X with Z:=fun i c=>if i<n.z then X.Z i c else ([t0,t1,t2,t3,t4,t5,t6,t7]:List Value).getD (2*(i - n.z)+c) undef}
 have e0:∀ i c,Y.Z (n.z+i) c=([t0,t1,t2,t3,t4,t5,t6,t7]:List Value).getD (2*i+c) undef:=fun i c=>by
  show (if n.z+i<n.z then _ else _)=_
  rw [if_neg (by omega),Nat.add_sub_cancel_left]
 have aa:∀ c,Y.Z n.z c=([t0,t1,t2,t3,t4,t5,t6,t7]:List Value).getD c undef:=fun c=>by have:=e0 0 c;simpa using this
 refine ⟨Y,?_,g,⟨fun _ _=>rfl,fun _ _ _=>rfl,fun i c hi=>(if_pos hi).symm,rfl⟩,fun c hc=>?_⟩
 ·simp [newInts,SV.den,TV.den,dnL,Cl.den,e0,aa]
 ·simp only [List.mem_cons,List.not_mem_nil,or_false] at hc
  have l0:Nat.blt n.z (n.z+4)=true:=blt_to (by omega)
  have l1:Nat.blt (n.z+1) (n.z+4)=true:=blt_to (by omega)
  have l2:Nat.blt (n.z+2) (n.z+4)=true:=blt_to (by omega)
  have l3:Nat.blt (n.z+3) (n.z+4)=true:=blt_to (by omega)
  rcases hc with rfl | rfl | rfl | rfl | rfl | rfl | rfl | rfl<;>refine ⟨by simp only [Cl.lt,l0,l1,l2,l3];rfl,?_⟩<;>simp only [Cl.good,e0,aa]<;>assumption
def in12 (lo hi:Int):Bool:=ile (-12) lo&&ile hi 12
theorem in12_ok {z lo hi:Int} (h:in12 lo hi=true) (h0:lo≤z∧z≤hi):-12≤z∧z≤12:=by
 unfold in12 at h
 simp only [ile_eq,Bool.and_eq_true,decide_eq_true_eq] at h
 omega
def cChk:ConT:=fun args _ _=>match args with
 | [.so (.vg [.ci .i64 q0 l0 h0,.ci .i64 q1 l1 h1,.ci .i64 q2 l2 h2,.ci .i64 q3 l3 h3,c1,c2,c3])]=>match txC c1,txC c2,txC c3 with
  | some (k1,_x1),some (k2,_x2),some (k3,_x3)=>tr (in12 l0 h0&&in12 l1 h1&&in12 l2 h2&&in12 l3 h3&&Nat.ble k1 64&&Nat.ble k2 64&&Nat.ble k3 64) (.as (decide (chk q0 q1 q2 q3 0=0)) (.leaf (.so (.vc (.ci .i64 0 0 0))) 0 0))
  | _,_,_=>none
 | _=>none
theorem cChk_ok {I:World→Prop} (hI:∀ w,I w→Mx w):ConOK Tryz.prog I 15 cChk:=by
 intro args E n w T hw ha hT hp
 unfold cChk at hT
 split at hT
 ·rename_i q0 l0 h0 q1 l1 h1 q2 l2 h2 q3 l3 h3 c1 c2 c3
  split at hT
  ·rename_i k1 x1 k2 x2 k3 x3 e1 e2 e3
   obtain ⟨hb,rfl⟩:=tr_some hT
   simp only [Bool.and_eq_true,Nat.ble_eq] at hb
   obtain ⟨⟨⟨⟨⟨⟨b0,b1⟩,b2⟩,b3⟩,b4⟩,b5⟩,b6⟩:=hb
   have g:=fun c hc=>ha _ (List.mem_singleton.2 rfl) c hc
   obtain ⟨d1,s1⟩:=txC_ok e1 (g c1 (by simp))
   obtain ⟨d2,s2⟩:=txC_ok e2 (g c2 (by simp))
   obtain ⟨d3,s3⟩:=txC_ok e3 (g c3 (by simp))
   have s1:=s1.mono b4
   have s2:=s2.mono b5
   have s3:=s3.mono b6
   show Calls _ _ #[.agg #[.int .i64 q0,.int .i64 q1,.int .i64 q2,.int .i64 q3,c1.den E,c2.den E,c3.den E]] w _
   rw [d1,d2,d3]
   refine (mcheckr (in12_ok b0 (g (.ci .i64 q0 l0 h0) (by simp)).2) (in12_ok b1 (g (.ci .i64 q1 l1 h1) (by simp)).2) (in12_ok b2 (g (.ci .i64 q2 l2 h2) (by simp)).2) (in12_ok b3 (g (.ci .i64 q3 l3 h3) (by simp)).2) x1 x2 x3 s1 s2 s3 w (hI w hw)).mono fun e w' he=>?_
   rw [of_decide_eq_true hp.1] at he
   exact val_holds he ⟨rfl,Int.le_refl _,Int.le_refl _⟩
  ·cases hT
 ·cases hT
def mag4 (l h:Int):Int:=max (-l) h
def inP (l h:Int):Bool:=ile (-1099511627776) l&&ile h 1099511627776
theorem inP_ok {z lo hi:Int} (h:inP lo hi=true) (h0:lo≤z∧z≤hi):-1099511627776≤z∧z≤1099511627776:=by
 unfold inP at h
 simp only [ile_eq,Bool.and_eq_true,decide_eq_true_eq] at h
 omega
def primC (q0 q1 q2 q3 q l h:Int):Cl:=.ci .i64 (qprim q0 q1 q2 q3 q) (-mag4 l h) (mag4 l h)
theorem primC_ok {n:Nn} {X:Env} {w:World} {q0 q1 q2 q3 q l h:Int} (hn:¬(q0=0∧q1=0∧q2=0∧q3=0)) (h0:l≤q∧q≤h):(primC q0 q1 q2 q3 q l h).ok n X w:=by
 refine ⟨rfl,?_⟩
 have:=qprim_le (n:=q) hn
 show -mag4 l h≤_∧_≤mag4 l h
 unfold mag4
 omega
def cPrim:ConT:=fun args _ _=>match args with
 | [.so (.vg [.ci .i64 q0 l0 h0,.ci .i64 q1 l1 h1,.ci .i64 q2 l2 h2,.ci .i64 q3 l3 h3])]=>
  tr (inP l0 h0&&inP l1 h1&&inP l2 h2&&inP l3 h3) (.as (decide (¬(q0=0∧q1=0∧q2=0∧q3=0))) (.leaf (.so (.vg [primC q0 q1 q2 q3 q0 l0 h0,primC q0 q1 q2 q3 q1 l1 h1,primC q0 q1 q2 q3 q2 l2 h2,primC q0 q1 q2 q3 q3 l3 h3])) 0 0))
 | _=>none
theorem cPrim_ok {I:World→Prop}:ConOK Tryz.prog I 66 cPrim:=by
 intro args E n w T _ ha hT hp
 unfold cPrim at hT
 split at hT
 ·rename_i q0 l0 h0 q1 l1 h1 q2 l2 h2 q3 l3 h3
  obtain ⟨hb,rfl⟩:=tr_some hT
  simp only [Bool.and_eq_true] at hb
  obtain ⟨⟨⟨b0,b1⟩,b2⟩,b3⟩:=hb
  have h:=ha _ (List.mem_singleton.2 rfl)
  have g:=fun c hc=>h c hc
  have hn:=of_decide_eq_true hp.1
  have g0:=(g (.ci .i64 q0 l0 h0) (by simp)).2
  have g1:=(g (.ci .i64 q1 l1 h1) (by simp)).2
  have g2:=(g (.ci .i64 q2 l2 h2) (by simp)).2
  have g3:=(g (.ci .i64 q3 l3 h3) (by simp)).2
  refine (r7_primitive q0 q1 q2 q3 (inP_ok b0 g0) (inP_ok b1 g1) (inP_ok b2 g2) (inP_ok b3 g3) hn w).mono fun e w' he=>val_holds he fun c hc=>?_
  simp only [List.mem_cons,List.not_mem_nil,or_false] at hc
  rcases hc with rfl | rfl | rfl | rfl
  ·exact primC_ok hn g0
  ·exact primC_ok hn g1
  ·exact primC_ok hn g2
  ·exact primC_ok hn g3
 ·cases hT
end Go.Proofs.YtaldbfflkpgfoaaGreatDoor
/- A run on symbols:described placements and their rotations,by name. -/
namespace Go.Proofs.YtaldbfflkpgfoaaGreatDoor
open Go.RowKit

theorem tmod13 (t:Int):-12≤Int.tmod t 13∧Int.tmod t 13≤12:=by
 have h1:=Int.tmod_lt_of_pos t (show (0:Int)<13 by decide)
 have h2:=Int.tmod_lt_of_pos (-t) (show (0:Int)<13 by decide)
 rw [Int.neg_tmod] at h2
 omega
def mq0 (t0 t1 t2 t3:Int):Int:=if conjL [Int.tmod t0 13,Int.tmod t1 13,Int.tmod t2 13,Int.tmod t3 13] [0,0,0,0] then 1 else Int.tmod t0 13
def qd (t0 t1 t2 t3:Int):Nat→Int
 | 0=>qprim (mq0 t0 t1 t2 t3) (Int.tmod t1 13) (Int.tmod t2 13) (Int.tmod t3 13) (mq0 t0 t1 t2 t3)
 | 1=>qprim (mq0 t0 t1 t2 t3) (Int.tmod t1 13) (Int.tmod t2 13) (Int.tmod t3 13) (Int.tmod t1 13)
 | 2=>qprim (mq0 t0 t1 t2 t3) (Int.tmod t1 13) (Int.tmod t2 13) (Int.tmod t3 13) (Int.tmod t2 13)
 | _=>qprim (mq0 t0 t1 t2 t3) (Int.tmod t1 13) (Int.tmod t2 13) (Int.tmod t3 13) (Int.tmod t3 13)
theorem conj4 (a b c d:Int):conjL [a,b,c,d] [0,0,0,0]=decide (a=0∧b=0∧c=0∧d=0):=by
 rw [Bool.eq_iff_iff,decide_eq_true_eq]
 simp [conjL,eqL,and_assoc]
theorem mq_ne (t0 t1 t2 t3:Int):¬(mq0 t0 t1 t2 t3=0∧Int.tmod t1 13=0∧Int.tmod t2 13=0∧Int.tmod t3 13=0):=by
 unfold mq0
 rw [conj4]
 split
 ·rintro ⟨h,_⟩;exact absurd h (by decide)
 ·rename_i h;exact fun g=>h (decide_eq_true g)
theorem mq0_le (t0 t1 t2 t3:Int):-12≤mq0 t0 t1 t2 t3∧mq0 t0 t1 t2 t3≤12:=by
 unfold mq0
 split
 ·decide
 ·exact tmod13 t0
theorem qd_vt (t0 t1 t2 t3:Int):VT (qd t0 t1 t2 t3 0) (qd t0 t1 t2 t3 1) (qd t0 t1 t2 t3 2) (qd t0 t1 t2 t3 3):=by
 have hn:=mq_ne t0 t1 t2 t3
 have b0:=mq0_le t0 t1 t2 t3
 have b1:=tmod13 t1
 have b2:=tmod13 t2
 have b3:=tmod13 t3
 simp only [qd]
 generalize mq0 t0 t1 t2 t3=m0 at*
 have l0:=qprim_le (n:=m0) hn
 have l1:=qprim_le (n:=Int.tmod t1 13) hn
 have l2:=qprim_le (n:=Int.tmod t2 13) hn
 have l3:=qprim_le (n:=Int.tmod t3 13) hn
 obtain ⟨g,s⟩:=qprim_ok hn
 exact ⟨by omega,by omega,by omega,by omega,g,s⟩
def sq (i d:Int):Rat:=(i:Rat)/((1+d % 6:Int):Rat)
def roN (w x y z:Int):Nat→Int
 | 0=>w*w+x*x - y*y - z*z
 | 1=>2*(x*y - w*z)
 | 2=>2*(x*z+w*y)
 | 3=>2*(x*y+w*z)
 | 4=>w*w - x*x+y*y - z*z
 | 5=>2*(y*z - w*x)
 | 6=>2*(x*z - w*y)
 | 7=>2*(y*z+w*x)
 | _=>w*w - x*x - y*y+z*z
def roE (w x y z:Int) (k:Nat):Rat:=((roN w x y z k:Int):Rat)/((w*w+x*x+y*y+z*z:Int):Rat)
theorem nn_ne {w x y z:Int} (h:VT w x y z):((w*w+x*x+y*y+z*z:Int):Rat)≠0:=by
 have:=nq_posI h.ne
 intro e
 have:w*w+x*x+y*y+z*z=0:=by exact_mod_cast e
 omega
theorem roE_rot {w x y z:Int} (h:VT w x y z):RotQ (roE w x y z 0) (roE w x y z 1) (roE w x y z 2) (roE w x y z 3) (roE w x y z 4) (roE w x y z 5) (roE w x y z 6) (roE w x y z 7) (roE w x y z 8) w x y z:=by
 have hn:=nn_ne h
 have c:((w*w+x*x+y*y+z*z:Int):Rat)=(w:Rat)*w+x*x+y*y+z*z:=by simp only [Rat.intCast_add,Rat.intCast_mul]
 have key:∀ k,roE w x y z k*((w:Rat)*w+x*x+y*y+z*z)=((roN w x y z k:Int):Rat):=fun k=>by
  unfold roE
  rw [← c,Rat.div_mul_cancel hn]
 constructor<;>rw [key]<;>simp only [roN,Rat.intCast_add,Rat.intCast_sub,Rat.intCast_mul]<;>rfl
theorem roE_rs {w x y z:Int} (h:VT w x y z):∀ k,RS 50 (roE w x y z k):=by
 have b0:=h.b0;have b1:=h.b1;have b2:=h.b2;have b3:=h.b3
 obtain ⟨h0,h1,h2,h3,h4,h5,h6,h7,h8⟩:=rotq_rs h.ne (by omega) (by omega) (by omega) (by omega) (roE_rot h)
 intro k
 match k with
 | 0=>exact h0
 | 1=>exact h1
 | 2=>exact h2
 | 3=>exact h3
 | 4=>exact h4
 | 5=>exact h5
 | 6=>exact h6
 | 7=>exact h7
 | k+8=>exact h8
theorem one_div {N n:Rat}:((1:Int):Rat)/N*n=n/N:=by
 rw [Rat.div_def,Rat.div_def,Rat.mul_comm n]
 congr 1
 exact Rat.one_mul _

end Go.Proofs.YtaldbfflkpgfoaaGreatDoor
/- Printed by a program of the prover's:described placements. -/
namespace Go.Proofs.YtaldbfflkpgfoaaGreatDoor
open Go.RowKit

noncomputable def tabQ:List (Nat × List (Nat × Ent)):=[(21,[(12,.ord [(true,0),(true,1),(true,2),(true,3),(true,4),(true,5),(true,6),(true,8),(true,9),(true,10),(true,11),(true,12),(true,13),(false,7),(false,14),(false,15),(true,16),(false,17)] [5]),(13,.ord [(true,0),(true,2),(false,1),(false,3),(true,4),(false,5)] [2])]),
 (45,[])]
noncomputable def conQ:List (Nat × ConT):=[(103,conRR 100000 (fun k m=>k+m+1) (fun a b=>a+b)),
 (75,conRR 100000 (fun k m=>k+m+1) (fun a b=>a - b)),
 (82,conRR 100000 (fun k m=>k+m) (fun a b=>a*b)),
 (108,cNeg),
 (59,cFrom),
 (37,cComp),
 (76,cSign),
 (87,cNumb),
 (130,cNum),
 (81,cDen),
 (58,cDiv),
 (96,cZFrom),
 (80,cZMul),
 (122,cZGcd),
 (123,cZDiv),
 (68,cZInt),
 (105,cTT (fun k m=>k+m+1) fun a b=>a+b),
 (132,cTT (fun k m=>k+m+1) fun a b=>a - b),
 (106,cTT (fun k m=>k+m) fun a b=>a*b),
 (64,cTDiv),
 (115,cTNeg),
 (65,cTFrom),
 (94,cPars 400),
 (107,cPars 65536),
 (15,cChk),
 (66,cPrim)]
noncomputable def sysQ:Sys:=⟨Tryz.prog,2,199,tabQ,conQ,fun w=>Tab w∧Mx w⟩
theorem sysQ_ok:sysQ.OK where
 mixed:=by kernel_rfl
 calls:=fun f h0 h1=>by
  have:(List.range 199).all (fun f=>Nat.blt f 2||okCall Tryz.prog f)=true:=by kernel_rfl
  have:=List.all_eq_true.1 this f (List.mem_range.2 h1)
  simp only [Bool.or_eq_true] at this
  exact this.resolve_left (fun e=>by have:=blt_of e;exact absurd h0 (by show ¬ 2≤f;omega))
 tab:=by
  have:tabQ.all (okTab Tryz.prog)=true:=by kernel_rfl
  exact fun x hx=>List.all_eq_true.1 this x hx
 lps:=lps_no (by kernel_rfl)
 con:=fun x hx=>by
  simp only [sysQ,conQ,List.mem_cons,List.not_mem_nil,or_false] at hx
  rcases hx with rfl | rfl | rfl | rfl | rfl | rfl | rfl | rfl | rfl | rfl | rfl | rfl | rfl | rfl | rfl | rfl | rfl | rfl | rfl | rfl | rfl | rfl | rfl | rfl | rfl | rfl
  ·exact conRR_ok fun h1 h2 h3=>add_r h1 h2 h3
  ·exact conRR_ok fun h1 h2 h3=>sub_r h1 h2 h3
  ·exact conRR_ok fun h1 h2 h3=>mul_r h1 h2 h3
  ·exact cNeg_ok
  ·exact cFrom_ok
  ·exact cComp_ok
  ·exact cSign_ok
  ·exact cNumb_ok fun w h=>h.1
  ·exact cNum_ok
  ·exact cDen_ok
  ·exact cDiv_ok
  ·exact cZFrom_ok
  ·exact cZMul_ok
  ·exact cZGcd_ok
  ·exact cZDiv_ok
  ·exact cZInt_ok
  ·exact cTAdd_ok
  ·exact cTSub_ok
  ·exact cTMul_ok
  ·exact cTDiv_ok
  ·exact cTNeg_ok
  ·exact cTFrom_ok
  ·exact cPars_ok fun w h=>h.2
  ·exact cRead_ok fun w h=>h.2
  ·exact cChk_ok fun w h=>h.2
  ·exact cPrim_ok
 inv:=fun w w' h g=>⟨h.1.gr g,h.2.gr g⟩
def treeP (t0 t1 t2 t3 i1 i2 i3 d:Int):Lf:=.br (conjL [Int.tmod t0 13,Int.tmod t1 13,Int.tmod t2 13,Int.tmod t3 13] [0,0,0,0])
 (.as (decide (((1+d % 6:Int):Rat)≠0)) true (.as (decide (((1+d % 6:Int):Rat)≠0)) true (.as (decide (((1+d % 6:Int):Rat)≠0)) true (.as (decide ¬((1:Int)=0∧Int.tmod t1 13=0∧Int.tmod t2 13=0∧Int.tmod t3 13=0)) true (.ret (.so (.vg [primC 1 (Int.tmod t1 13) (Int.tmod t2 13) (Int.tmod t3 13) 1 1 1,primC 1 (Int.tmod t1 13) (Int.tmod t2 13) (Int.tmod t3 13) (Int.tmod t1 13) (-12) 12,primC 1 (Int.tmod t1 13) (Int.tmod t2 13) (Int.tmod t3 13) (Int.tmod t2 13) (-12) 12,primC 1 (Int.tmod t1 13) (Int.tmod t2 13) (Int.tmod t3 13) (Int.tmod t3 13) (-12) 12,.cw (ratL (sq i1 d)) (some (128,sq i1 d)),.cw (ratL (sq i2 d)) (some (128,sq i2 d)),.cw (ratL (sq i3 d)) (some (128,sq i3 d))])))))))
 (.as (decide (((1+d % 6:Int):Rat)≠0)) true (.as (decide (((1+d % 6:Int):Rat)≠0)) true (.as (decide (((1+d % 6:Int):Rat)≠0)) true (.as (decide ¬(Int.tmod t0 13=0∧Int.tmod t1 13=0∧Int.tmod t2 13=0∧Int.tmod t3 13=0)) true (.ret (.so (.vg [primC (Int.tmod t0 13) (Int.tmod t1 13) (Int.tmod t2 13) (Int.tmod t3 13) (Int.tmod t0 13) (-12) 12,primC (Int.tmod t0 13) (Int.tmod t1 13) (Int.tmod t2 13) (Int.tmod t3 13) (Int.tmod t1 13) (-12) 12,primC (Int.tmod t0 13) (Int.tmod t1 13) (Int.tmod t2 13) (Int.tmod t3 13) (Int.tmod t2 13) (-12) 12,primC (Int.tmod t0 13) (Int.tmod t1 13) (Int.tmod t2 13) (Int.tmod t3 13) (Int.tmod t3 13) (-12) 12,.cw (ratL (sq i1 d)) (some (128,sq i1 d)),.cw (ratL (sq i2 d)) (some (128,sq i2 d)),.cw (ratL (sq i3 d)) (some (128,sq i3 d))])))))))
theorem runP (t0 t1 t2 t3 i1 i2 i3 d:Int):runF sysQ 21 [.so (.vg [.ci .i8 t0 (-128) 127,.ci .i8 t1 (-128) 127,.ci .i8 t2 (-128) 127,.ci .i8 t3 (-128) 127,.ci .i8 i1 (-128) 127,.ci .i8 i2 (-128) 127,.ci .i8 i3 (-128) 127,.ci .u8 d 0 255])] 0 0 (.s .e .e)=some (treeP t0 t1 t2 t3 i1 i2 i3 d):=by kernel_rfl
theorem den6 (d:Int):decide (((1+d % 6:Int):Rat)≠0)=true:=decide_eq_true fun e=>by
 have:(1+d % 6:Int)=0:=by exact_mod_cast e
 omega
def postP (t0 t1 t2 t3 i1 i2 i3 d:Int) (v:SV):Prop:=∃ a b c e f g h k m n o,v=.so (.vg [.ci .i64 (qd t0 t1 t2 t3 0) a b,.ci .i64 (qd t0 t1 t2 t3 1) c e,.ci .i64 (qd t0 t1 t2 t3 2) f g,.ci .i64 (qd t0 t1 t2 t3 3) h k,.cw (ratL (sq i1 d)) m,.cw (ratL (sq i2 d)) n,.cw (ratL (sq i3 d)) o])
theorem treeP_ok (t0 t1 t2 t3 i1 i2 i3 d:Int):LOK (postP t0 t1 t2 t3 i1 i2 i3 d) (treeP t0 t1 t2 t3 i1 i2 i3 d):=by
 have hn:=mq_ne t0 t1 t2 t3
 refine ⟨fun h=>?_,fun h=>?_⟩
 ·have e:mq0 t0 t1 t2 t3=1:=if_pos h
  rw [e] at hn
  refine ⟨den6 d,den6 d,den6 d,decide_eq_true hn,?_⟩
  unfold LOK postP
  simp only [qd,e]
  exact ⟨_,_,_,_,_,_,_,_,_,_,_,rfl⟩
 ·have e:mq0 t0 t1 t2 t3=Int.tmod t0 13:=if_neg (by rw [h];decide)
  rw [e] at hn
  refine ⟨den6 d,den6 d,den6 d,decide_eq_true hn,?_⟩
  unfold LOK postP
  simp only [qd,e]
  exact ⟨_,_,_,_,_,_,_,_,_,_,_,rfl⟩
theorem place_c {t0 t1 t2 t3 i1 i2 i3 d:Int} (ht:(-128≤t0∧t0≤127)∧(-128≤t1∧t1≤127)∧(-128≤t2∧t2≤127)∧(-128≤t3∧t3≤127)∧(-128≤i1∧i1≤127)∧(-128≤i2∧i2≤127)∧(-128≤i3∧i3≤127)∧0≤d∧d≤255) (w:World) (hI:Tab w∧Mx w):
  Calls Tryz.prog 21 #[.agg #[.int .i8 t0,.int .i8 t1,.int .i8 t2,.int .i8 t3,.int .i8 i1,.int .i8 i2,.int .i8 i3,.int .u8 d]] w fun e w'=>e=.returned (.agg #[.int .i64 (qd t0 t1 t2 t3 0),.int .i64 (qd t0 t1 t2 t3 1),.int .i64 (qd t0 t1 t2 t3 2),.int .i64 (qd t0 t1 t2 t3 3),.string ⟨(ratL (sq i1 d)).toArray⟩,.string ⟨(ratL (sq i2 d)).toArray⟩,.string ⟨(ratL (sq i3 d)).toArray⟩])∧Gr w w':=by
 obtain ⟨h0,h1,h2,h3,h4,h5,h6,h7⟩:=ht
 refine (run_calls sysQ sysQ_ok (runP t0 t1 t2 t3 i1 i2 i3 d) (X:=envR []) hI (okF1 (okA_ok ⟨⟨rfl,h0⟩,⟨rfl,h1⟩,⟨rfl,h2⟩,⟨rfl,h3⟩,⟨rfl,h4⟩,⟨rfl,h5⟩,⟨rfl,h6⟩,⟨rfl,h7⟩,trivial⟩)) (treeP_ok t0 t1 t2 t3 i1 i2 i3 d)).mono fun e w' he=>?_
 obtain ⟨v,X',n,rfl,g,_,_,_,_,_,_,_,_,_,_,_,_,_,rfl⟩:=he
 exact ⟨rfl,g⟩
def in8 (l h:Int):Bool:=ile (-128) l&&ile h 127
theorem in8_ok {z lo hi:Int} (h:in8 lo hi=true) (h0:lo≤z∧z≤hi):-128≤z∧z≤127:=by
 unfold in8 at h
 simp only [ile_eq,Bool.and_eq_true,decide_eq_true_eq] at h
 omega
def inu8 (l h:Int):Bool:=ile 0 l&&ile h 255
theorem inu8_ok {z lo hi:Int} (h:inu8 lo hi=true) (h0:lo≤z∧z≤hi):0≤z∧z≤255:=by
 unfold inu8 at h
 simp only [ile_eq,Bool.and_eq_true,decide_eq_true_eq] at h
 omega
def q12 (t0 t1 t2 t3:Int) (k:Nat):Cl:=.ci .i64 (qd t0 t1 t2 t3 k) (-12) 12
def txs (i d:Int):Cl:=.cw (ratL (sq i d)) (some (16,sq i d))
theorem txs_ok {i d:Int} (hi:-128≤i∧i≤127) (hd:0≤d∧d≤255) (n:Nn) (X:Env) (w:World):(txs i d).ok n X w:=⟨rfl,fun k q e=>by cases e;exact ⟨rfl,small_rs hi hd rfl⟩⟩
def cPlc:ConT:=fun args _ _=>match args with
 | [.so (.vg [.ci .i8 t0 a0 b0,.ci .i8 t1 a1 b1,.ci .i8 t2 a2 b2,.ci .i8 t3 a3 b3,.ci .i8 i1 a4 b4,.ci .i8 i2 a5 b5,.ci .i8 i3 a6 b6,.ci .u8 d a7 b7])]=>
  tr (in8 a0 b0&&in8 a1 b1&&in8 a2 b2&&in8 a3 b3&&in8 a4 b4&&in8 a5 b5&&in8 a6 b6&&inu8 a7 b7) (.leaf (.so (.vg [q12 t0 t1 t2 t3 0,q12 t0 t1 t2 t3 1,q12 t0 t1 t2 t3 2,q12 t0 t1 t2 t3 3,txs i1 d,txs i2 d,txs i3 d])) 0 0)
 | _=>none
theorem cPlc_ok {I:World→Prop} (hI:∀ w,I w→Tab w∧Mx w):ConOK Tryz.prog I 21 cPlc:=by
 intro args E n w T hw ha hT _
 unfold cPlc at hT
 split at hT
 ·rename_i t0 a0 b0 t1 a1 b1 t2 a2 b2 t3 a3 b3 i1 a4 b4 i2 a5 b5 i3 a6 b6 d a7 b7
  obtain ⟨hb,rfl⟩:=tr_some hT
  simp only [Bool.and_eq_true] at hb
  obtain ⟨⟨⟨⟨⟨⟨⟨c0,c1⟩,c2⟩,c3⟩,c4⟩,c5⟩,c6⟩,c7⟩:=hb
  have h:=ha _ (List.mem_singleton.2 rfl)
  have g:=fun c hc=>h c hc
  have g0:=in8_ok c0 (g (.ci .i8 t0 a0 b0) (by simp)).2
  have g1:=in8_ok c1 (g (.ci .i8 t1 a1 b1) (by simp)).2
  have g2:=in8_ok c2 (g (.ci .i8 t2 a2 b2) (by simp)).2
  have g3:=in8_ok c3 (g (.ci .i8 t3 a3 b3) (by simp)).2
  have g4:=in8_ok c4 (g (.ci .i8 i1 a4 b4) (by simp)).2
  have g5:=in8_ok c5 (g (.ci .i8 i2 a5 b5) (by simp)).2
  have g6:=in8_ok c6 (g (.ci .i8 i3 a6 b6) (by simp)).2
  have g7:=inu8_ok c7 (g (.ci .u8 d a7 b7) (by simp)).2
  refine (place_c ⟨g0,g1,g2,g3,g4,g5,g6,g7⟩ w (hI w hw)).mono fun e w' he=>val_holds he fun c hc=>?_
  have v:=qd_vt t0 t1 t2 t3
  have v0:=v.b0;have v1:=v.b1;have v2:=v.b2;have v3:=v.b3
  simp only [List.mem_cons,List.not_mem_nil,or_false] at hc
  rcases hc with rfl | rfl | rfl | rfl | rfl | rfl | rfl
  ·exact ⟨rfl,v0⟩
  ·exact ⟨rfl,v1⟩
  ·exact ⟨rfl,v2⟩
  ·exact ⟨rfl,v3⟩
  ·exact txs_ok g4 g7 n E w'
  ·exact txs_ok g5 g7 n E w'
  ·exact txs_ok g6 g7 n E w'
 ·cases hT
end Go.Proofs.YtaldbfflkpgfoaaGreatDoor
/- Printed by a program of the prover's:the motion of a placement. -/
namespace Go.Proofs.YtaldbfflkpgfoaaGreatDoor
open Go.RowKit

noncomputable def tabO:List (Nat × List (Nat × Ent)):=[(14,[(5,.ord [(true,0),(true,1),(true,2),(true,3),(true,4),(true,5),(true,6),(true,7),(true,8),(true,9),(true,10),(true,11),(true,12),(true,13),(true,14),(true,15)] []),(12,.ord [(true,0),(true,1),(true,3),(true,5),(false,2),(false,4),(true,6),(false,7)] [14])]),
 (53,[]),
 (57,[]),
 (60,[]),
 (74,[(5,.ord [(true,0),(true,1),(true,2),(true,3),(true,4),(true,5),(true,6),(true,7),(false,8),(true,9),(false,10)] [7])]),
 (93,[]),
 (97,[])]
noncomputable def conO:List (Nat × ConT):=[(103,conRR 100000 (fun k m=>k+m+1) (fun a b=>a+b)),
 (75,conRR 100000 (fun k m=>k+m+1) (fun a b=>a - b)),
 (82,conRR 100000 (fun k m=>k+m) (fun a b=>a*b)),
 (108,cNeg),
 (59,cFrom),
 (37,cComp),
 (76,cSign),
 (87,cNumb),
 (130,cNum),
 (81,cDen),
 (58,cDiv),
 (96,cZFrom),
 (80,cZMul),
 (122,cZGcd),
 (123,cZDiv),
 (68,cZInt),
 (105,cTT (fun k m=>k+m+1) fun a b=>a+b),
 (132,cTT (fun k m=>k+m+1) fun a b=>a - b),
 (106,cTT (fun k m=>k+m) fun a b=>a*b),
 (64,cTDiv),
 (115,cTNeg),
 (65,cTFrom),
 (94,cPars 400),
 (107,cPars 65536),
 (15,cChk),
 (66,cPrim)]
noncomputable def sysO:Sys:=⟨Tryz.prog,2,199,tabO,conO,fun w=>Tab w∧Mx w⟩
theorem sysO_ok:sysO.OK where
 mixed:=by kernel_rfl
 calls:=fun f h0 h1=>by
  have:(List.range 199).all (fun f=>Nat.blt f 2||okCall Tryz.prog f)=true:=by kernel_rfl
  have:=List.all_eq_true.1 this f (List.mem_range.2 h1)
  simp only [Bool.or_eq_true] at this
  exact this.resolve_left (fun e=>by have:=blt_of e;exact absurd h0 (by show ¬ 2≤f;omega))
 tab:=by
  have:tabO.all (okTab Tryz.prog)=true:=by kernel_rfl
  exact fun x hx=>List.all_eq_true.1 this x hx
 lps:=lps_no (by kernel_rfl)
 con:=fun x hx=>by
  simp only [sysO,conO,List.mem_cons,List.not_mem_nil,or_false] at hx
  rcases hx with rfl | rfl | rfl | rfl | rfl | rfl | rfl | rfl | rfl | rfl | rfl | rfl | rfl | rfl | rfl | rfl | rfl | rfl | rfl | rfl | rfl | rfl | rfl | rfl | rfl | rfl
  ·exact conRR_ok fun h1 h2 h3=>add_r h1 h2 h3
  ·exact conRR_ok fun h1 h2 h3=>sub_r h1 h2 h3
  ·exact conRR_ok fun h1 h2 h3=>mul_r h1 h2 h3
  ·exact cNeg_ok
  ·exact cFrom_ok
  ·exact cComp_ok
  ·exact cSign_ok
  ·exact cNumb_ok fun w h=>h.1
  ·exact cNum_ok
  ·exact cDen_ok
  ·exact cDiv_ok
  ·exact cZFrom_ok
  ·exact cZMul_ok
  ·exact cZGcd_ok
  ·exact cZDiv_ok
  ·exact cZInt_ok
  ·exact cTAdd_ok
  ·exact cTSub_ok
  ·exact cTMul_ok
  ·exact cTDiv_ok
  ·exact cTNeg_ok
  ·exact cTFrom_ok
  ·exact cPars_ok fun w h=>h.2
  ·exact cRead_ok fun w h=>h.2
  ·exact cChk_ok fun w h=>h.2
  ·exact cPrim_ok
 inv:=fun w w' h g=>⟨h.1.gr g,h.2.gr g⟩
def rowC:List Nat→List (Nat × Rat)→List Cl
 | j::l,(k,q)::r=>.cr j 0 k q::.cr j 1 k q::.cr j 2 k q::.cr j 3 k q::rowC l r
 | _,_=>[]
def nN (w x y z:Int):Rat:=((w*w+x*x+y*y+z*z:Int):Rat)
def mOf (w x y z:Int) (k:Nat):Rat:=((1:Int):Rat)/nN w x y z*((roN w x y z k:Int):Rat)
def oRaw (q0 q1 q2 q3:Int) (x1 x2 x3:Rat):List (Nat × Rat):=[(192,mOf q0 q1 q2 q3 0),(192,mOf q0 q1 q2 q3 1),(192,mOf q0 q1 q2 q3 2),(192,mOf q0 q1 q2 q3 3),(192,mOf q0 q1 q2 q3 4),(192,mOf q0 q1 q2 q3 5),(192,mOf q0 q1 q2 q3 6),(192,mOf q0 q1 q2 q3 7),(192,mOf q0 q1 q2 q3 8),(64,x1),(64,x2),(64,x3)]
def oList (q0 q1 q2 q3:Int) (x1 x2 x3:Rat):List (Nat × Rat):=[(64,roE q0 q1 q2 q3 0),(64,roE q0 q1 q2 q3 1),(64,roE q0 q1 q2 q3 2),(64,roE q0 q1 q2 q3 3),(64,roE q0 q1 q2 q3 4),(64,roE q0 q1 q2 q3 5),(64,roE q0 q1 q2 q3 6),(64,roE q0 q1 q2 q3 7),(64,roE q0 q1 q2 q3 8),(64,x1),(64,x2),(64,x3)]
def treeO (q0 q1 q2 q3:Int) (x1 x2 x3:Rat):Lf:=
 .as (decide (chk q0 q1 q2 q3 0=0)) true
 (.as (decide (nN q0 q1 q2 q3=0)) false
 (.ret (.st [.vg (rowC [9,10,11,15,16,17,21,22,23,0,1,2] (oRaw q0 q1 q2 q3 x1 x2 x3)),.vc (.ci .i64 0 0 0)])))
theorem runO (q0 q1 q2 q3:Int) (x1 x2 x3:Rat):runF sysO 14 [.so (.vg [.ci .i64 q0 (-12) 12,.ci .i64 q1 (-12) 12,.ci .i64 q2 (-12) 12,.ci .i64 q3 (-12) 12,.cw (ratL x1) (some (64,x1)),.cw (ratL x2) (some (64,x2)),.cw (ratL x3) (some (64,x3))])] 0 0 (.f .e)=some (treeO q0 q1 q2 q3 x1 x2 x3):=by kernel_rfl
theorem of_c {q0 q1 q2 q3:Int} {x1 x2 x3:Rat} (hv:VT q0 q1 q2 q3) (s1:RS 64 x1) (s2:RS 64 x2) (s3:RS 64 x3) (w:World) (hI:Tab w∧Mx w):
  Calls Tryz.prog 14 #[.agg #[.int .i64 q0,.int .i64 q1,.int .i64 q2,.int .i64 q3,.string ⟨(ratL x1).toArray⟩,.string ⟨(ratL x2).toArray⟩,.string ⟨(ratL x3).toArray⟩]] w fun e w'=>(∃ vs:List Value,e=.returned (.tuple #[.agg vs.toArray,.int .i64 0])∧IsRats w' vs (oList q0 q1 q2 q3 x1 x2 x3))∧Gr w w':=by
 have hl:LOK (fun v=>∃ l,v=.st [.vg l,.vc (.ci .i64 0 0 0)]∧rats l=some (oRaw q0 q1 q2 q3 x1 x2 x3)) (treeO q0 q1 q2 q3 x1 x2 x3):=⟨decide_eq_true (hv.chk 0),decide_eq_false (nn_ne hv),_,rfl,rfl⟩
 have tx:∀ {x},RS 64 x→(Cl.cw (ratL x) (some (64,x))).ok ⟨0,0,0⟩ (envR []) w:=fun h=>⟨rfl,fun k q e=>by cases e;exact ⟨rfl,h⟩⟩
 refine (run_calls sysO sysO_ok (runO q0 q1 q2 q3 x1 x2 x3) (X:=envR []) hI (okF1 (okA_ok ⟨⟨rfl,hv.b0⟩,⟨rfl,hv.b1⟩,⟨rfl,hv.b2⟩,⟨rfl,hv.b3⟩,tx s1,tx s2,tx s3,trivial⟩)) hl).mono fun e w' he=>?_
 obtain ⟨v,X',n,rfl,g,_,hv',l,rfl,hr⟩:=he
 have h:=rats_ok hr (hv' (.vg l) (by simp))
 have rs:=fun k=>(roE_rs hv k).mono (show 50≤64 by decide)
 have one:=fun k=>@one_div (nN q0 q1 q2 q3) ((roN q0 q1 q2 q3 k:Int):Rat)
 exact ⟨⟨_,rfl,h.conv ⟨⟨one 0,rs 0,Nat.le_refl _⟩,⟨one 1,rs 1,Nat.le_refl _⟩,⟨one 2,rs 2,Nat.le_refl _⟩,⟨one 3,rs 3,Nat.le_refl _⟩,⟨one 4,rs 4,Nat.le_refl _⟩,⟨one 5,rs 5,Nat.le_refl _⟩,⟨one 6,rs 6,Nat.le_refl _⟩,⟨one 7,rs 7,Nat.le_refl _⟩,⟨one 8,rs 8,Nat.le_refl _⟩,⟨rfl,s1,Nat.le_refl _⟩,⟨rfl,s2,Nat.le_refl _⟩,⟨rfl,s3,Nat.le_refl _⟩,trivial⟩⟩,g⟩
def cOf:ConT:=fun args nr _=>match args with
 | [.so (.vg [.ci .i64 q0 _ _,.ci .i64 q1 _ _,.ci .i64 q2 _ _,.ci .i64 q3 _ _,c1,c2,c3])]=>match txC c1,txC c2,txC c3 with
  | some (k1,x1),some (k2,x2),some (k3,x3)=>tr (Nat.ble k1 64&&Nat.ble k2 64&&Nat.ble k3 64) (.as (decide (chk q0 q1 q2 q3 0=0)) (.leaf (.st [.vg (cellsR nr (oList q0 q1 q2 q3 x1 x2 x3)),.vc (.ci .i64 0 0 0)]) 12 0))
  | _,_,_=>none
 | _=>none
theorem cOf_ok {I:World→Prop} (hI:∀ w,I w→Tab w∧Mx w):ConOK Tryz.prog I 14 cOf:=by
 intro args E n w T hw ha hT hp
 unfold cOf at hT
 split at hT
 ·rename_i q0 _ _ q1 _ _ q2 _ _ q3 _ _ c1 c2 c3
  split at hT
  ·rename_i k1 x1 k2 x2 k3 x3 e1 e2 e3
   obtain ⟨hb,rfl⟩:=tr_some hT
   simp only [Bool.and_eq_true,Nat.ble_eq] at hb
   obtain ⟨⟨l1,l2⟩,l3⟩:=hb
   have g:=fun c hc=>ha _ (List.mem_singleton.2 rfl) c hc
   obtain ⟨d1,s1⟩:=txC_ok e1 (g c1 (by simp))
   obtain ⟨d2,s2⟩:=txC_ok e2 (g c2 (by simp))
   obtain ⟨d3,s3⟩:=txC_ok e3 (g c3 (by simp))
   show Calls _ _ #[.agg #[.int .i64 q0,.int .i64 q1,.int .i64 q2,.int .i64 q3,c1.den E,c2.den E,c3.den E]] w _
   rw [d1,d2,d3]
   refine (of_c (chk_ok (of_decide_eq_true hp.1)).1 (s1.mono l1) (s2.mono l2) (s3.mono l3) w (hI w hw)).mono fun e w' he=>rats_holds1 he
  ·cases hT
 ·cases hT
end Go.Proofs.YtaldbfflkpgfoaaGreatDoor
/- Printed by a program of the prover's:a rotation's quaternion. -/
namespace Go.Proofs.YtaldbfflkpgfoaaGreatDoor
open Go.RowKit

set_option maxRecDepth 100000 in
set_option maxHeartbeats 1000000 in
theorem sum_4 {k:Nat} {ab:Nat} {u0 u1 u2 u3:Value} {a:Rat} {v0 v1 v2 v3:Value} {b:Rat} {x0 x1 x2 x3:Value} {c:Rat} {z0 z1 z2 z3:Value} {d:Rat} {w:World} (ha:IsRat w k u0 u1 u2 u3 a) (hb:IsRat w k v0 v1 v2 v3 b) (hc:IsRat w k x0 x1 x2 x3 c) (hd:IsRat w k z0 z1 z2 z3 d) (hL:Lc w ab #[u0,u1,u2,u3,v0,v1,v2,v3,x0,x1,x2,x3,z0,z1,z2,z3] 36) (_hk:k≤20000):
    Calls Tryz.prog 83 #[(.slice (some ⟨ab,0,none⟩) 4 4)] w fun e w'=>(∃ z0 z1 z2 z3,e=.returned (.agg #[z0,z1,z2,z3])∧IsRat w' ((((64+k+1)+k+1)+k+1)+k+1) z0 z1 z2 z3 (((((0+a)+b)+c)+d)))∧Gr w w':=by
 have hbig:=ha.big
 go_enter Tryz.func83,Tryz.ntmps83
 have hB:=Gr.refl w
 refine wp_seq_k (fun K1 k1=>?_)
 refine rg [0] ?_
 refine se ?_
 refine ea 36 #[(.bool false),(.slice none 0 0),(.bool false),(.slice none 0 0)] 2 hB fun b2 w2 g2 L2 o2 q2 hB=>?_
 simp only [p3,p4]
 refine sq_nil ?_
 refine k1 _ _ ?_
 try clear k1 K1
 refine wp_seq_k (fun K3 k3=>?_)
 refine rg [0] ?_
 refine se ?_
 refine ea 36 #[(.bool false),(.slice none 0 0),(.bool false),(.slice none 0 0)] 3 hB fun b4 w4 g4 L4 o4 q4 hB=>?_
 replace hL:=hL.gr g2
 have ad:=hL.ne o4
 have aa:=L2.ne o4
 simp only [p3,p4]
 refine sq_nil ?_
 refine k3 _ _ ?_
 try clear k3 K3
 refine wp_seq_k (fun K5 k5=>?_)
 refine wp_seq_k (fun K6 k6=>?_)
 refine rg [0,1,2] ?_
 refine sv 6 (.slice (some ⟨ab,0,none⟩) 4 4) ?_
 refine sv 7 (.int .i64 4) ?_
 refine sv 8 (.int .i64 0) ?_
 refine sq_nil ?_
 refine k6 _ _ ?_
 try clear k6 K6
 refine wp_block ?_
 refine wp_loop_rounds 5 ?_
 show Code.wp _ _ _ _ _
 refine wp_seq_k (fun K7 k7=>?_)
 refine rg [0] ?_
 refine sv 9 (.bool true) ?_
 refine sq_nil ?_
 refine k7 _ _ ?_
 try clear k7 K7
 refine wp_seq_k (fun K8 k8=>?_)
 refine wp_cond_true rfl ?_
 refine wp_skip ?_
 refine k8 _ _ ?_
 try clear k8 K8
 refine wp_seq_k (fun K9 k9=>?_)
 refine wp_block ?_
 refine wp_seq_k (fun b9 bH=>?_)
 refine rg [0,1,2,3] ?_
 refine sv 10 (.pointer (some ⟨ab,0,none⟩)) ?_
 replace hL:=hL.gr g4
 refine sw 11 (.agg #[u0,u1,u2,u3]) rfl (rl 36 0 [u0,u1,u2,u3] hL) ?_
 refine se ?_
 refine ea 36 #[(.bool false),(.slice none 0 0),(.bool false),(.slice none 0 0)] 5 hB fun cA ce aE bj bf bX hB=>?_
 have aH:=hL.ne bf
 replace L2:=L2.gr g4
 have aB:=L2.ne bf
 have aL:=L4.ne bf
 simp only [p3,p4]
 refine se ?_
 refine es 36 0 (.agg #[u0,u1,u2,u3]) [u0,u1,u2,u3] #[u0,u1,u2,u3] bj hB bX ⟨ha.one0,ha.one1,ha.one2,ha.one3,trivial⟩ fun cl aw ae bj hB=>?_
 refine sq_nil ?_
 refine bH _ _ ?_
 try clear bH b9
 refine rg [0,1,2,3] ?_
 replace L4:=aw.lc (L4.gr aE) aL
 refine sw 12 (.agg #[(.bool false),(.slice none 0 0),(.bool false),(.slice none 0 0)]) rfl (rl 36 0 [(.bool false),(.slice none 0 0),(.bool false),(.slice none 0 0)] L4) ?_
 refine sw 13 (.agg #[u0,u1,u2,u3]) rfl (rl 36 0 [u0,u1,u2,u3] bj) ?_
 refine se ?_
 have bc:=g2.kp.trans (g4.kp.trans (aE.kp.trans ae))
 replace ha:=ha.kp bc
 refine ec 14 (add_r (IsRat.zero _ (k:=64) (Nat.le_refl _)) ha (by omega)) ?_
 rintro e13 ct ⟨⟨a1,aX,aT,a2,rfl,ar⟩,aq⟩
 refine ⟨_,rfl,?_⟩
 replace hB:=hB.trans aq
 simp only [p3,p4]
 refine se ?_
 replace L4:=L4.gr aq
 refine es 36 0 (.agg #[a1,aX,aT,a2]) [a1,aX,aT,a2] #[a1,aX,aT,a2] L4 hB q4 ⟨ar.one0,ar.one1,ar.one2,ar.one3,trivial⟩ fun co aY ah L4 hB=>?_
 refine sq_nil ?_
 refine k9 _ _ ?_
 try clear k9 K9
 refine rg [0,1] ?_
 refine sv 15 (.int .i64 1) ?_
 refine sv 8 (.int .i64 1) ?_
 refine sq_nil ?_
 show Code.rounds _ _ _ _ _ _
 show Code.wp _ _ _ _ _
 refine wp_seq_k (fun bR bw=>?_)
 refine rg [0] ?_
 refine sv 9 (.bool true) ?_
 refine sq_nil ?_
 refine bw _ _ ?_
 try clear bw bR
 refine wp_seq_k (fun bV bE=>?_)
 refine wp_cond_true rfl ?_
 refine wp_skip ?_
 refine bE _ _ ?_
 try clear bE bV
 refine wp_seq_k (fun b8 bL=>?_)
 refine wp_block ?_
 refine wp_seq_k (fun bO bD=>?_)
 refine rg [0,1,2,3] ?_
 refine sv 10 (.pointer (some ⟨ab,4,none⟩)) ?_
 replace hL:=aY.lc ((aw.lc (hL.gr aE) aH).gr aq) ad
 refine sw 11 (.agg #[v0,v1,v2,v3]) rfl (rl 36 4 [v0,v1,v2,v3] hL) ?_
 refine se ?_
 refine ea 36 #[(.bool false),(.slice none 0 0),(.bool false),(.slice none 0 0)] 5 hB fun cn cB aK bg bb b5 hB=>?_
 have aF:=hL.ne bb
 replace L2:=aY.lc ((aw.lc (L2.gr aE) aB).gr aq) aa
 have aD:=L2.ne bb
 have aA:=L4.ne bb
 simp only [p3,p4]
 refine se ?_
 refine es 36 0 (.agg #[v0,v1,v2,v3]) [v0,v1,v2,v3] #[v0,v1,v2,v3] bg hB b5 ⟨hb.one0,hb.one1,hb.one2,hb.one3,trivial⟩ fun cF aC ai bg hB=>?_
 refine sq_nil ?_
 refine bD _ _ ?_
 try clear bD bO
 refine rg [0,1,2,3] ?_
 replace L4:=aC.lc (L4.gr aK) aA
 refine sw 12 (.agg #[a1,aX,aT,a2]) rfl (rl 36 0 [a1,aX,aT,a2] L4) ?_
 refine sw 13 (.agg #[v0,v1,v2,v3]) rfl (rl 36 0 [v0,v1,v2,v3] bg) ?_
 refine se ?_
 have bv:=ah.trans (aK.kp.trans ai)
 replace ar:=ar.kp bv
 have bu:=g2.kp.trans (g4.kp.trans (aE.kp.trans (ae.trans (aq.kp.trans (ah.trans (aK.kp.trans ai))))))
 replace hb:=hb.kp bu
 refine ec 14 (add_r ar hb (by omega)) ?_
 rintro e22 cH ⟨⟨aV,a7,aU,a5,rfl,aG⟩,aO⟩
 refine ⟨_,rfl,?_⟩
 replace hB:=hB.trans aO
 simp only [p3,p4]
 refine se ?_
 replace L4:=L4.gr aO
 refine es 36 0 (.agg #[aV,a7,aU,a5]) [aV,a7,aU,a5] #[aV,a7,aU,a5] L4 hB q4 ⟨aG.one0,aG.one1,aG.one2,aG.one3,trivial⟩ fun ck aQ aM L4 hB=>?_
 refine sq_nil ?_
 refine bL _ _ ?_
 try clear bL b8
 refine rg [0,1] ?_
 refine sv 15 (.int .i64 2) ?_
 refine sv 8 (.int .i64 2) ?_
 refine sq_nil ?_
 show Code.rounds _ _ _ _ _ _
 show Code.wp _ _ _ _ _
 refine wp_seq_k (fun bQ bA=>?_)
 refine rg [0] ?_
 refine sv 9 (.bool true) ?_
 refine sq_nil ?_
 refine bA _ _ ?_
 try clear bA bQ
 refine wp_seq_k (fun bT bM=>?_)
 refine wp_cond_true rfl ?_
 refine wp_skip ?_
 refine bM _ _ ?_
 try clear bM bT
 refine wp_seq_k (fun bZ bK=>?_)
 refine wp_block ?_
 refine wp_seq_k (fun cd bz=>?_)
 refine rg [0,1,2,3] ?_
 refine sv 10 (.pointer (some ⟨ab,8,none⟩)) ?_
 replace hL:=aQ.lc ((aC.lc (hL.gr aK) aF).gr aO) ad
 refine sw 11 (.agg #[x0,x1,x2,x3]) rfl (rl 36 8 [x0,x1,x2,x3] hL) ?_
 refine se ?_
 refine ea 36 #[(.bool false),(.slice none 0 0),(.bool false),(.slice none 0 0)] 5 hB fun cG cq aN ba bh b6 hB=>?_
 have ap:=hL.ne bh
 replace L2:=aQ.lc ((aC.lc (L2.gr aK) aD).gr aO) aa
 have au:=L2.ne bh
 have ay:=L4.ne bh
 simp only [p3,p4]
 refine se ?_
 refine es 36 0 (.agg #[x0,x1,x2,x3]) [x0,x1,x2,x3] #[x0,x1,x2,x3] ba hB b6 ⟨hc.one0,hc.one1,hc.one2,hc.one3,trivial⟩ fun cm ax az ba hB=>?_
 refine sq_nil ?_
 refine bz _ _ ?_
 try clear bz cd
 refine rg [0,1,2,3] ?_
 replace L4:=ax.lc (L4.gr aN) ay
 refine sw 12 (.agg #[aV,a7,aU,a5]) rfl (rl 36 0 [aV,a7,aU,a5] L4) ?_
 refine sw 13 (.agg #[x0,x1,x2,x3]) rfl (rl 36 0 [x0,x1,x2,x3] ba) ?_
 refine se ?_
 have bm:=aM.trans (aN.kp.trans az)
 replace aG:=aG.kp bm
 have bq:=g2.kp.trans (g4.kp.trans (aE.kp.trans (ae.trans (aq.kp.trans (ah.trans (aK.kp.trans (ai.trans (aO.kp.trans (aM.trans (aN.kp.trans az))))))))))
 replace hc:=hc.kp bq
 refine ec 14 (add_r aG hc (by omega)) ?_
 rintro e32 cu ⟨⟨aR,a4,aW,aS,rfl,aJ⟩,aZ⟩
 refine ⟨_,rfl,?_⟩
 replace hB:=hB.trans aZ
 simp only [p3,p4]
 refine se ?_
 replace L4:=L4.gr aZ
 refine es 36 0 (.agg #[aR,a4,aW,aS]) [aR,a4,aW,aS] #[aR,a4,aW,aS] L4 hB q4 ⟨aJ.one0,aJ.one1,aJ.one2,aJ.one3,trivial⟩ fun cK aP a0 L4 hB=>?_
 refine sq_nil ?_
 refine bK _ _ ?_
 try clear bK bZ
 refine rg [0,1] ?_
 refine sv 15 (.int .i64 3) ?_
 refine sv 8 (.int .i64 3) ?_
 refine sq_nil ?_
 show Code.rounds _ _ _ _ _ _
 show Code.wp _ _ _ _ _
 refine wp_seq_k (fun cc bF=>?_)
 refine rg [0] ?_
 refine sv 9 (.bool true) ?_
 refine sq_nil ?_
 refine bF _ _ ?_
 try clear bF cc
 refine wp_seq_k (fun bU bG=>?_)
 refine wp_cond_true rfl ?_
 refine wp_skip ?_
 refine bG _ _ ?_
 try clear bG bU
 refine wp_seq_k (fun bY bN=>?_)
 refine wp_block ?_
 refine wp_seq_k (fun bW bx=>?_)
 refine rg [0,1,2,3] ?_
 refine sv 10 (.pointer (some ⟨ab,12,none⟩)) ?_
 replace hL:=aP.lc ((ax.lc (hL.gr aN) ap).gr aZ) ad
 refine sw 11 (.agg #[z0,z1,z2,z3]) rfl (rl 36 12 [z0,z1,z2,z3] hL) ?_
 refine se ?_
 refine ea 36 #[(.bool false),(.slice none 0 0),(.bool false),(.slice none 0 0)] 5 hB fun cg cD a8 bn bC b7 hB=>?_
 replace L2:=aP.lc ((ax.lc (L2.gr aN) au).gr aZ) aa
 have av:=L2.ne bC
 have aI:=L4.ne bC
 simp only [p3,p4]
 refine se ?_
 refine es 36 0 (.agg #[z0,z1,z2,z3]) [z0,z1,z2,z3] #[z0,z1,z2,z3] bn hB b7 ⟨hd.one0,hd.one1,hd.one2,hd.one3,trivial⟩ fun cJ a3 a6 bn hB=>?_
 refine sq_nil ?_
 refine bx _ _ ?_
 try clear bx bW
 refine rg [0,1,2,3] ?_
 replace L4:=a3.lc (L4.gr a8) aI
 refine sw 12 (.agg #[aR,a4,aW,aS]) rfl (rl 36 0 [aR,a4,aW,aS] L4) ?_
 refine sw 13 (.agg #[z0,z1,z2,z3]) rfl (rl 36 0 [z0,z1,z2,z3] bn) ?_
 refine se ?_
 have bt:=a0.trans (a8.kp.trans a6)
 replace aJ:=aJ.kp bt
 have bo:=g2.kp.trans (g4.kp.trans (aE.kp.trans (ae.trans (aq.kp.trans (ah.trans (aK.kp.trans (ai.trans (aO.kp.trans (aM.trans (aN.kp.trans (az.trans (aZ.kp.trans (a0.trans (a8.kp.trans a6))))))))))))))
 replace hd:=hd.kp bo
 refine ec 14 (add_r aJ hd (by omega)) ?_
 rintro cj cy ⟨⟨al,aj,af,ak,rfl,ac⟩,a9⟩
 refine ⟨_,rfl,?_⟩
 replace hB:=hB.trans a9
 simp only [p3,p4]
 refine se ?_
 replace L4:=L4.gr a9
 refine es 36 0 (.agg #[al,aj,af,ak]) [al,aj,af,ak] #[al,aj,af,ak] L4 hB q4 ⟨ac.one0,ac.one1,ac.one2,ac.one3,trivial⟩ fun cC bp bd L4 hB=>?_
 refine sq_nil ?_
 refine bN _ _ ?_
 try clear bN bY
 refine rg [0,1] ?_
 refine sv 15 (.int .i64 4) ?_
 refine sv 8 (.int .i64 4) ?_
 refine sq_nil ?_
 show Code.rounds _ _ _ _ _ _
 show Code.wp _ _ _ _ _
 refine wp_seq_k (fun bP bJ=>?_)
 refine rg [0] ?_
 refine sv 9 (.bool false) ?_
 refine sq_nil ?_
 refine bJ _ _ ?_
 try clear bJ bP
 refine wp_seq_k (fun ch cE=>?_)
 refine wp_cond_false rfl ?_
 refine wp_exit ?_
 simp only [Exit.then,Exit.inBlock,↓reduceIte]
 refine k5 _ _ ?_
 try clear k5 K5
 refine wp_seq_k (fun bS bB=>?_)
 refine rg [0,1] ?_
 refine sw 16 (.agg #[al,aj,af,ak]) rfl (rl 36 0 [al,aj,af,ak] L4) ?_
 refine se ?_
 replace L2:=bp.lc ((a3.lc (L2.gr a8) av).gr a9) aa
 refine es 36 0 (.agg #[al,aj,af,ak]) [al,aj,af,ak] #[al,aj,af,ak] L2 hB q2 ⟨ac.one0,ac.one1,ac.one2,ac.one3,trivial⟩ fun cx ca bk L2 hB=>?_
 refine sq_nil ?_
 refine bB _ _ ?_
 try clear bB bS
 refine wp_ret ?_
 refine bodyPost_ret (v:=(.agg #[al,aj,af,ak])) (ret_cell _ _ _ rfl rfl L2 (by kernel_rfl)) rfl ⟨?_,hB⟩
 have bi:=bd.trans bk
 replace ac:=ac.kp bi
 exact ⟨_,_,_,_,rfl,ac⟩

set_option maxRecDepth 100000 in
set_option maxHeartbeats 16000000 in
theorem mturnq {k ks:Nat} {aB ax ah aw aH aK aS aV aI aU aW aX aN aG aM aT av al aA ae aQ aF aL aZ aE aC aD aP aJ aY aO aR ap ab ai ad a1 a7 bc bb a6 a9 ba a5 a8 a4 a2 a3:Value} {bJ dI dK dH bU dJ dG dM bA gL g4 gN:Rat} {w:World} (ay:IsRat w k aB ax ah aw bJ) (aj:IsRat w k aH aK aS aV dI) (ar:IsRat w k aI aU aW aX dK) (ac:IsRat w k aN aG aM aT dH) (ak:IsRat w k av al aA ae bU) (az:IsRat w k aQ aF aL aZ dJ) (aq:IsRat w k aE aC aD aP dG) (af:IsRat w k aJ aY aO aR dM) (au:IsRat w k ap ab ai ad bA) (bd:IsRat w ks a1 a7 bc bb gL) (bf:IsRat w ks a6 a9 ba a5 g4) (bg:IsRat w ks a8 a4 a2 a3 gN) (_hk:k≤800) (dL:64≤k):
    Calls Tryz.prog 67 #[(.agg #[aB,ax,ah,aw,aH,aK,aS,aV,aI,aU,aW,aX,aN,aG,aM,aT,av,al,aA,ae,aQ,aF,aL,aZ,aE,aC,aD,aP,aJ,aY,aO,aR,ap,ab,ai,ad,a1,a7,bc,bb,a6,a9,ba,a5,a8,a4,a2,a3])] w fun e w'=>(∃ t0 t1 t2 t3 t4 t5 t6 t7,e=.returned (.agg #[t0,t1,t2,t3,t4,t5,t6,t7])∧IsInt w' (40128) t0 t1 (wzq (qrow bJ dI dK dH bU dJ dG dM bA) 0)∧IsInt w' (40128) t2 t3 (wzq (qrow bJ dI dK dH bU dJ dG dM bA) 1)∧IsInt w' (40128) t4 t5 (wzq (qrow bJ dI dK dH bU dJ dG dM bA) 2)∧IsInt w' (40128) t6 t7 (wzq (qrow bJ dI dK dH bU dJ dG dM bA) 3))∧Gr w w':=by
 have hmaone:One1 [aB,ax,ah,aw,aH,aK,aS,aV,aI,aU,aW,aX,aN,aG,aM,aT,av,al,aA,ae,aQ,aF,aL,aZ,aE,aC,aD,aP,aJ,aY,aO,aR,ap,ab,ai,ad,a1,a7,bc,bb,a6,a9,ba,a5,a8,a4,a2,a3]:=⟨ay.one0,ay.one1,ay.one2,ay.one3,aj.one0,aj.one1,aj.one2,aj.one3,ar.one0,ar.one1,ar.one2,ar.one3,ac.one0,ac.one1,ac.one2,ac.one3,ak.one0,ak.one1,ak.one2,ak.one3,az.one0,az.one1,az.one2,az.one3,aq.one0,aq.one1,aq.one2,aq.one3,af.one0,af.one1,af.one2,af.one3,au.one0,au.one1,au.one2,au.one3,bd.one0,bd.one1,bd.one2,bd.one3,bf.one0,bf.one1,bf.one2,bf.one3,bg.one0,bg.one1,bg.one2,bg.one3,trivial⟩
 refine enterN Tryz.func67 rfl ?_
 simp only [Tryz.ntmps67,List.size_toArray,List.length_cons,List.length_nil,Nat.reduceAdd,Nat.reduceSub,Array.replicate_succ,Array.replicate_zero,List.push_toArray,List.append_toArray,List.nil_append,List.cons_append]
 have hB:=Gr.refl w
 refine wp_seq_k (fun K1 k1=>?_)
 refine rg [0,1] ?_
 refine se ?_
 refine eb 41 #[aB,ax,ah,aw,aH,aK,aS,aV,aI,aU,aW,aX,aN,aG,aM,aT,av,al,aA,ae,aQ,aF,aL,aZ,aE,aC,aD,aP,aJ,aY,aO,aR,ap,ab,ai,ad,a1,a7,bc,bb,a6,a9,ba,a5,a8,a4,a2,a3] 1 hB fun b2 w2 g2 L2 o2 q2 hB=>?_
 simp only [p3,p4]
 refine se ?_
 refine ea 125 #[(.bool false),(.slice none 0 0),(.bool false),(.slice none 0 0),(.bool false),(.slice none 0 0),(.bool false),(.slice none 0 0)] 2 hB fun b3 w3 g3 L3 o3 q3 hB=>?_
 simp only [p3,p4]
 refine sq_nil ?_
 refine k1 _ _ ?_
 try clear k1 K1
 refine wp_seq_k (fun K4 k4=>?_)
 refine rg [0] ?_
 refine se ?_
 refine ea 156 #[(.bool false),(.slice none 0 0),(.bool false),(.slice none 0 0),(.bool false),(.slice none 0 0),(.bool false),(.slice none 0 0),(.bool false),(.slice none 0 0),(.bool false),(.slice none 0 0),(.bool false),(.slice none 0 0),(.bool false),(.slice none 0 0),(.bool false),(.slice none 0 0),(.bool false),(.slice none 0 0),(.bool false),(.slice none 0 0),(.bool false),(.slice none 0 0),(.bool false),(.slice none 0 0),(.bool false),(.slice none 0 0),(.bool false),(.slice none 0 0),(.bool false),(.slice none 0 0),(.bool false),(.slice none 0 0),(.bool false),(.slice none 0 0)] 3 hB fun b5 w5 g5 L5 o5 q5 hB=>?_
 replace L2:=L2.gr g3
 have fL:=L2.ne o5
 have f6:=L3.ne o5
 simp only [p3,p4]
 refine sq_nil ?_
 refine k4 _ _ ?_
 try clear k4 K4
 refine wp_seq_k (fun K6 k6=>?_)
 refine wp_seq_k (fun K7 k7=>?_)
 refine rg [0,1] ?_
 replace L2:=L2.gr g5
 refine sw 9 (.agg #[aB,ax,ah,aw,aH,aK,aS,aV,aI,aU,aW,aX,aN,aG,aM,aT,av,al,aA,ae,aQ,aF,aL,aZ,aE,aC,aD,aP,aJ,aY,aO,aR,ap,ab,ai,ad,a1,a7,bc,bb,a6,a9,ba,a5,a8,a4,a2,a3]) rfl (rl 41 0 [aB,ax,ah,aw,aH,aK,aS,aV,aI,aU,aW,aX,aN,aG,aM,aT,av,al,aA,ae,aQ,aF,aL,aZ,aE,aC,aD,aP,aJ,aY,aO,aR,ap,ab,ai,ad,a1,a7,bc,bb,a6,a9,ba,a5,a8,a4,a2,a3] L2) ?_
 refine se ?_
 refine ec 10 (ments _ ay.one0 ay.one1 ay.one2 ay.one3 aj.one0 aj.one1 aj.one2 aj.one3 ar.one0 ar.one1 ar.one2 ar.one3 ac.one0 ac.one1 ac.one2 ac.one3 ak.one0 ak.one1 ak.one2 ak.one3 az.one0 az.one1 az.one2 az.one3 aq.one0 aq.one1 aq.one2 aq.one3 af.one0 af.one1 af.one2 af.one3 au.one0 au.one1 au.one2 au.one3 bd.one0 bd.one1 bd.one2 bd.one3 bf.one0 bf.one1 bf.one2 bf.one3 bg.one0 bg.one1 bg.one2 bg.one3) ?_
 rintro e8 w8 ⟨⟨hZ,rfl,g6⟩,g8⟩
 refine ⟨_,rfl,?_⟩
 replace hB:=hB.trans g8
 simp only [p3,p4]
 refine sq_nil ?_
 refine k7 _ _ ?_
 try clear k7 K7
 refine wp_block ?_
 replace L2:=L2.gr g8
 replace L3:=L3.gr (g5.trans g8)
 replace L5:=L5.gr g8
 refine rf_ent (Ds:=[]) (d1:=4) (d2:=5) (ent_stops _ hZ aB ax ah aw aH aK aS aV aI aU aW aX aN aG aM aT av al aA ae aQ aF aL aZ aE aC aD aP aJ aY aO aR ap ab ai ad a1 a7 bc bb a6 a9 ba a5 a8 a4 a2 a3 ay.one0 ay.one1 ay.one2 ay.one3 aj.one0 aj.one1 aj.one2 aj.one3 ar.one0 ar.one1 ar.one2 ar.one3 ac.one0 ac.one1 ac.one2 ac.one3 ak.one0 ak.one1 ak.one2 ak.one3 az.one0 az.one1 az.one2 az.one3 aq.one0 aq.one1 aq.one2 aq.one3 af.one0 af.one1 af.one2 af.one3 au.one0 au.one1 au.one2 au.one3 bd.one0 bd.one1 bd.one2 bd.one3 bf.one0 bf.one1 bf.one2 bf.one3 bg.one0 bg.one1 bg.one2 bg.one3 _ g6) (fun prs W'=>Gr w W'∧Kp w8 W'∧Lc W' b2 #[aB,ax,ah,aw,aH,aK,aS,aV,aI,aU,aW,aX,aN,aG,aM,aT,av,al,aA,ae,aQ,aF,aL,aZ,aE,aC,aD,aP,aJ,aY,aO,aR,ap,ab,ai,ad,a1,a7,bc,bb,a6,a9,ba,a5,a8,a4,a2,a3] 41∧Lc W' b3 #[(.bool false),(.slice none 0 0),(.bool false),(.slice none 0 0),(.bool false),(.slice none 0 0),(.bool false),(.slice none 0 0)] 125∧∃ xs,Fills 9 [aB,ax,ah,aw,aH,aK,aS,aV,aI,aU,aW,aX,aN,aG,aM,aT,av,al,aA,ae,aQ,aF,aL,aZ,aE,aC,aD,aP,aJ,aY,aO,aR,ap,ab,ai,ad,a1,a7,bc,bb,a6,a9,ba,a5,a8,a4,a2,a3] prs xs∧Lc W' b5 xs.toArray 156) (fun _ _ _=>False) ((own_gr hB.size).and ((own_kp _ _).and ((own_lc _ _ _ _).and ((own_lc _ _ _ _).and (own_ex fun xs=>(ownFrom_pure _ _).and (own_lc _ _ _ _)))))) (fun _ _ _ _ _ h _ _=>h) ⟨hB,Kp.refl _,L2,L3,⟨_,⟨rfl,one1_all (by decide),fun _ h=>absurd h (by simp)⟩,L5⟩⟩ ?_ ?_ ?_ ?_ rfl (enters_of Tryz.func98 (by kernel_rfl) rfl)
 ·intro ll kk W K hK
  try simp only [p3,p4]
  refine wpIn_seq_k (fun K1 k1=>?_)
  refine rgI (wide_round ll) [0] ?_
  refine sv 4 (.int .i64 (kk.val:Int)) ?_
  try simp only [p3,p4]
  refine sq_nil ?_
  refine k1 _ _ ?_
  refine rgY [0,1] ?_
  refine alstY (wide_round ll) 5 36 (.agg #[(.bool false),(.slice none 0 0),(.bool false),(.slice none 0 0)]) (ent [aB,ax,ah,aw,aH,aK,aS,aV,aI,aU,aW,aX,aN,aG,aM,aT,av,al,aA,ae,aQ,aF,aL,aZ,aE,aC,aD,aP,aJ,aY,aO,aR,ap,ab,ai,ad,a1,a7,bc,bb,a6,a9,ba,a5,a8,a4,a2,a3] kk) ?_ (ent_one hmaone rfl kk)
  try simp only [p3,p4]
  refine nilY ?_
  exact hK
 ·rintro ll bB prs kk W ⟨hB,hkW,L2,L3,xs,hF,L5⟩ hqB hLB
  try simp only [p3,p4]
  refine wpIn_block ?_
  refine wpIn_seq_k (fun K1 k1=>?_)
  refine rgI (wide_round ll) [0,1] ?_
  refine sv 13 (.int .i64 (kk.val:Int)) ?_
  try simp only [p3,p4]
  refine sv 14 (.bool (decide ((kk.val:Int)<9))) ?_
  try simp only [p3,p4]
  refine sq_nil ?_
  refine k1 _ _ ?_
  clear k1 K1
  refine wpIn_cond_split rfl (fun hb=>?_) (fun hb=>?_)
  ·have hlt:kk.val<9:=by have:=of_decide_eq_true hb;omega
   refine rgI (wide_round ll) [0,1,2,3] ?_
   refine sv 15 (.int .i64 (kk.val:Int)) ?_
   try simp only [p3,p4]
   refine sw 16 (.agg (ent [aB,ax,ah,aw,aH,aK,aS,aV,aI,aU,aW,aX,aN,aG,aM,aT,av,al,aA,ae,aQ,aF,aL,aZ,aE,aC,aD,aP,aJ,aY,aO,aR,ap,ab,ai,ad,a1,a7,bc,bb,a6,a9,ba,a5,a8,a4,a2,a3] kk).toArray) rfl (rl 36 0 (ent [aB,ax,ah,aw,aH,aK,aS,aV,aI,aU,aW,aX,aN,aG,aM,aT,av,al,aA,ae,aQ,aF,aL,aZ,aE,aC,aD,aP,aJ,aY,aO,aR,ap,ab,ai,ad,a1,a7,bc,bb,a6,a9,ba,a5,a8,a4,a2,a3] kk) hLB) ?_
   try simp only [p3,p4]
   refine sw 17 (.pointer (some ⟨b5,4*kk.val,none⟩)) rfl (rv_aix 156 _ _ b5 9 36 4 kk.val hlt) ?_
   try simp only [p3,p4]
   obtain ⟨ys,hys,ih⟩:=hF.step hmaone rfl hlt
   refine se ?_
   refine es 36 (4*kk.val) _ (ent [aB,ax,ah,aw,aH,aK,aS,aV,aI,aU,aW,aX,aN,aG,aM,aT,av,al,aA,ae,aQ,aF,aL,aZ,aE,aC,aD,aP,aJ,aY,aO,aR,ap,ab,ai,ad,a1,a7,bc,bb,a6,a9,ba,a5,a8,a4,a2,a3] kk) ys.toArray L5 hB q5 (ent_one hmaone rfl kk) ?_ (hoff:=by simp [hF.len,ent];omega) (hcs:=hys)
   intro w1 st kp N g
   refine sq_nil ?_
   have ho:=others_st st L5 (Nat.le_of_eq (by rw [st.size]))
   exact ⟨ho.from _,ho.walks,g,hkW.trans kp,st.lc L2 fL,st.lc L3 f6,ys,ih,N⟩
  ·have hlt:¬ kk.val<9:=by have:=of_decide_eq_false hb;omega
   refine wpIn_skip ?_
   exact ⟨(KeepsOthers.refl _).from _,KeepsWalks.refl _,hB,hkW,L2,L3,xs,hF.skip hlt,L5⟩
 ·rintro D9 w9 Q9 ⟨iK,gz,h9,g9,xs,hF,gH⟩ L9
  have h1:=hF.done (by decide) rfl
  subst h1
  clear hF
  have dv:=L3.ne Q9
  replace Q9:=Nat.le_trans (Below.size hB) Q9
  replace hB:=iK
  replace L3:=g9
  replace L5:=gH
  change IsMk w9 D9 at L9
  change Lc w9 b5 #[aB,ax,ah,aw,aH,aK,aS,aV,aI,aU,aW,aX,aN,aG,aM,aT,av,al,aA,ae,aQ,aF,aL,aZ,aE,aC,aD,aP,aJ,aY,aO,aR,ap,ab,ai,ad] 156 at L5
  refine k6 _ _ ?_
  try clear k6 K6
  refine wp_seq_k (fun iF hv=>?_)
  refine rg [0,1,2] ?_
  refine se ?_
  refine ec 18 (from_r (1) (by omega) (by omega) _) ?_
  rintro e11 iU ⟨⟨dD,dC,dF,dE,rfl,du⟩,eh⟩
  refine ⟨_,rfl,?_⟩
  replace hB:=hB.trans eh
  simp only [p3,p4]
  refine se ?_
  refine ea 36 #[(.bool false),(.slice none 0 0),(.bool false),(.slice none 0 0)] 6 hB fun hz jz d8 aa g1 q12 hB=>?_
  replace L3:=L3.gr eh
  have e5:=L3.ne g1
  replace L5:=L5.gr eh
  have fa:=L5.ne g1
  replace L9:=L9.gr eh
  have ej:=L9.ne g1
  simp only [p3,p4]
  refine se ?_
  refine es 36 0 (.agg #[dD,dC,dF,dE]) [dD,dC,dF,dE] #[dD,dC,dF,dE] aa hB q12 ⟨du.one0,du.one1,du.one2,du.one3,trivial⟩ fun h7 ey dN aa hB=>?_
  refine sq_nil ?_
  refine hv _ _ ?_
  try clear hv iF
  refine wp_seq_k (fun il hy=>?_)
  have gU:=Below.size hB
  replace L3:=ey.lc (L3.gr d8) e5
  have fg:=L3.lt
  replace L5:=ey.lc (L5.gr d8) fa
  have eQ:=L5.lt
  have d7:=aa.lt
  replace L9:=(L9.gr d8).st ey ej
  have eI:=L9.lt
  have cu:=Gr.drew h7
  replace hB:=hB.trans cu
  replace L5:=L5.gr cu
  replace aa:=aa.gr cu
  refine wp_region_floM (fun w'=>Lc w' b5 #[aB,ax,ah,aw,aH,aK,aS,aV,aI,aU,aW,aX,aN,aG,aM,aT,av,al,aA,ae,aQ,aF,aL,aZ,aE,aC,aD,aP,aJ,aY,aO,aR,ap,ab,ai,ad] 156∧Lc w' hz #[dD,dC,dF,dE] 36) [(true,0),(true,1),(true,2),(true,3),(true,4),(true,5),(true,6),(true,9),(true,10),(true,11),(true,12),(true,14),(true,15),(true,16),(true,17),(true,19),(true,20),(true,21),(true,22),(true,25),(true,26),(true,27),(true,28),(true,30),(true,31),(true,32),(true,34),(true,35),(true,36),(true,37),(true,40),(true,41),(true,42),(true,43),(true,45),(true,46),(true,47),(true,48),(true,51),(true,52),(true,53),(true,54),(true,56),(true,57),(true,58),(true,59),(true,61),(true,62),(true,63),(true,65),(true,66),(true,67),(true,68),(true,71),(true,72),(true,73),(true,74),(true,77),(true,78),(true,79),(true,80),(true,82),(true,83),(true,84),(true,85),(true,87),(true,88),(true,89),(true,90),(true,92),(true,93),(true,94),(true,96),(true,97),(true,98),(true,99),(false,7),(false,8),(false,13),(false,18),(false,23),(true,24),(false,29),(false,33),(false,38),(false,39),(false,44),(false,49),(true,50),(false,55),(false,60),(false,64),(false,69),(false,70),(false,75),(true,76),(false,81),(false,86),(false,91),(false,95),(false,100),(false,101),(true,102),(true,103)] [⟨104,7,158,#[(.bool false),(.slice none 0 0),(.bool false),(.slice none 0 0),(.bool false),(.slice none 0 0),(.bool false),(.slice none 0 0),(.bool false),(.slice none 0 0),(.bool false),(.slice none 0 0),(.bool false),(.slice none 0 0),(.bool false),(.slice none 0 0),(.bool false),(.slice none 0 0),(.bool false),(.slice none 0 0),(.bool false),(.slice none 0 0),(.bool false),(.slice none 0 0),(.bool false),(.slice none 0 0),(.bool false),(.slice none 0 0),(.bool false),(.slice none 0 0),(.bool false),(.slice none 0 0),(.bool false),(.slice none 0 0),(.bool false),(.slice none 0 0),(.bool false),(.slice none 0 0),(.bool false),(.slice none 0 0),(.bool false),(.slice none 0 0),(.bool false),(.slice none 0 0),(.bool false),(.slice none 0 0),(.bool false),(.slice none 0 0),(.bool false),(.slice none 0 0),(.bool false),(.slice none 0 0),(.bool false),(.slice none 0 0),(.bool false),(.slice none 0 0),(.bool false),(.slice none 0 0),(.bool false),(.slice none 0 0),(.bool false),(.slice none 0 0),(.bool false),(.slice none 0 0)]⟩] [(false,105)] (by kernel_rfl) (by kernel_rfl) (by kernel_rfl) (by kernel_rfl) (by kernel_rfl) (by decide) (fun _ _ _ _ _ h=>h) (fun _ _ _ _ _ h=>h) (fun w' o h=>⟨Lc.gr h.1 (Gr.alloc w' o),Lc.gr h.2 (Gr.alloc w' o)⟩) ⟨L5,aa⟩ (by intro f hf;simp only [List.mem_cons,List.not_mem_nil,or_false] at hf;rcases hf with rfl<;>first | exact alloc_zero (z:=(.agg #[(.bool false),(.slice none 0 0),(.bool false),(.slice none 0 0),(.bool false),(.slice none 0 0),(.bool false),(.slice none 0 0),(.bool false),(.slice none 0 0),(.bool false),(.slice none 0 0),(.bool false),(.slice none 0 0),(.bool false),(.slice none 0 0),(.bool false),(.slice none 0 0),(.bool false),(.slice none 0 0),(.bool false),(.slice none 0 0),(.bool false),(.slice none 0 0),(.bool false),(.slice none 0 0),(.bool false),(.slice none 0 0),(.bool false),(.slice none 0 0),(.bool false),(.slice none 0 0),(.bool false),(.slice none 0 0),(.bool false),(.slice none 0 0),(.bool false),(.slice none 0 0),(.bool false),(.slice none 0 0),(.bool false),(.slice none 0 0),(.bool false),(.slice none 0 0),(.bool false),(.slice none 0 0),(.bool false),(.slice none 0 0),(.bool false),(.slice none 0 0),(.bool false),(.slice none 0 0),(.bool false),(.slice none 0 0),(.bool false),(.slice none 0 0),(.bool false),(.slice none 0 0),(.bool false),(.slice none 0 0),(.bool false),(.slice none 0 0),(.bool false),(.slice none 0 0)])) (by kernel_rfl) rfl) ?_
  refine fw 19 (.agg #[dD,dC,dF,dE]) rfl (fun w' hS=>(rl 36 0 [dD,dC,dF,dE] hS.2)) ?_
  refine fv 20 (.pointer (some ⟨b5,0,none⟩)) ?_
  refine fw 21 (.agg #[aB,ax,ah,aw]) rfl (fun w' hS=>(rl 36 0 [aB,ax,ah,aw] hS.1)) ?_
  refine fv 22 (.pointer (some ⟨b5,16,none⟩)) ?_
  refine fw 23 (.agg #[av,al,aA,ae]) rfl (fun w' hS=>(rl 36 16 [av,al,aA,ae] hS.1)) ?_
  refine fv 24 (.pointer (some ⟨b5,32,none⟩)) ?_
  refine fw 25 (.agg #[ap,ab,ai,ad]) rfl (fun w' hS=>(rl 36 32 [ap,ab,ai,ad] hS.1)) ?_
  refine fv 28 (.pointer (some ⟨b5,28,none⟩)) ?_
  refine fw 29 (.agg #[aJ,aY,aO,aR]) rfl (fun w' hS=>(rl 36 28 [aJ,aY,aO,aR] hS.1)) ?_
  refine fv 30 (.pointer (some ⟨b5,20,none⟩)) ?_
  refine fw 31 (.agg #[aQ,aF,aL,aZ]) rfl (fun w' hS=>(rl 36 20 [aQ,aF,aL,aZ] hS.1)) ?_
  refine fv 33 (.pointer (some ⟨b5,8,none⟩)) ?_
  refine fw 34 (.agg #[aI,aU,aW,aX]) rfl (fun w' hS=>(rl 36 8 [aI,aU,aW,aX] hS.1)) ?_
  refine fv 35 (.pointer (some ⟨b5,24,none⟩)) ?_
  refine fw 36 (.agg #[aE,aC,aD,aP]) rfl (fun w' hS=>(rl 36 24 [aE,aC,aD,aP] hS.1)) ?_
  refine fv 38 (.pointer (some ⟨b5,12,none⟩)) ?_
  refine fw 39 (.agg #[aN,aG,aM,aT]) rfl (fun w' hS=>(rl 36 12 [aN,aG,aM,aT] hS.1)) ?_
  refine fv 40 (.pointer (some ⟨b5,4,none⟩)) ?_
  refine fw 41 (.agg #[aH,aK,aS,aV]) rfl (fun w' hS=>(rl 36 4 [aH,aK,aS,aV] hS.1)) ?_
  refine fv 44 (.pointer (some ⟨b5,28,none⟩)) ?_
  refine fw 45 (.agg #[aJ,aY,aO,aR]) rfl (fun w' hS=>(rl 36 28 [aJ,aY,aO,aR] hS.1)) ?_
  refine fv 46 (.pointer (some ⟨b5,20,none⟩)) ?_
  refine fw 47 (.agg #[aQ,aF,aL,aZ]) rfl (fun w' hS=>(rl 36 20 [aQ,aF,aL,aZ] hS.1)) ?_
  refine fw 49 (.agg #[dD,dC,dF,dE]) rfl (fun w' hS=>(rl 36 0 [dD,dC,dF,dE] hS.2)) ?_
  refine fv 50 (.pointer (some ⟨b5,0,none⟩)) ?_
  refine fw 51 (.agg #[aB,ax,ah,aw]) rfl (fun w' hS=>(rl 36 0 [aB,ax,ah,aw] hS.1)) ?_
  refine fv 53 (.pointer (some ⟨b5,16,none⟩)) ?_
  refine fw 54 (.agg #[av,al,aA,ae]) rfl (fun w' hS=>(rl 36 16 [av,al,aA,ae] hS.1)) ?_
  refine fv 55 (.pointer (some ⟨b5,32,none⟩)) ?_
  refine fw 56 (.agg #[ap,ab,ai,ad]) rfl (fun w' hS=>(rl 36 32 [ap,ab,ai,ad] hS.1)) ?_
  refine fv 59 (.pointer (some ⟨b5,4,none⟩)) ?_
  refine fw 60 (.agg #[aH,aK,aS,aV]) rfl (fun w' hS=>(rl 36 4 [aH,aK,aS,aV] hS.1)) ?_
  refine fv 61 (.pointer (some ⟨b5,12,none⟩)) ?_
  refine fw 62 (.agg #[aN,aG,aM,aT]) rfl (fun w' hS=>(rl 36 12 [aN,aG,aM,aT] hS.1)) ?_
  refine fv 64 (.pointer (some ⟨b5,8,none⟩)) ?_
  refine fw 65 (.agg #[aI,aU,aW,aX]) rfl (fun w' hS=>(rl 36 8 [aI,aU,aW,aX] hS.1)) ?_
  refine fv 66 (.pointer (some ⟨b5,24,none⟩)) ?_
  refine fw 67 (.agg #[aE,aC,aD,aP]) rfl (fun w' hS=>(rl 36 24 [aE,aC,aD,aP] hS.1)) ?_
  refine fv 70 (.pointer (some ⟨b5,8,none⟩)) ?_
  refine fw 71 (.agg #[aI,aU,aW,aX]) rfl (fun w' hS=>(rl 36 8 [aI,aU,aW,aX] hS.1)) ?_
  refine fv 72 (.pointer (some ⟨b5,24,none⟩)) ?_
  refine fw 73 (.agg #[aE,aC,aD,aP]) rfl (fun w' hS=>(rl 36 24 [aE,aC,aD,aP] hS.1)) ?_
  refine fv 75 (.pointer (some ⟨b5,4,none⟩)) ?_
  refine fw 76 (.agg #[aH,aK,aS,aV]) rfl (fun w' hS=>(rl 36 4 [aH,aK,aS,aV] hS.1)) ?_
  refine fv 77 (.pointer (some ⟨b5,12,none⟩)) ?_
  refine fw 78 (.agg #[aN,aG,aM,aT]) rfl (fun w' hS=>(rl 36 12 [aN,aG,aM,aT] hS.1)) ?_
  refine fw 80 (.agg #[dD,dC,dF,dE]) rfl (fun w' hS=>(rl 36 0 [dD,dC,dF,dE] hS.2)) ?_
  refine fv 81 (.pointer (some ⟨b5,16,none⟩)) ?_
  refine fw 82 (.agg #[av,al,aA,ae]) rfl (fun w' hS=>(rl 36 16 [av,al,aA,ae] hS.1)) ?_
  refine fv 84 (.pointer (some ⟨b5,0,none⟩)) ?_
  refine fw 85 (.agg #[aB,ax,ah,aw]) rfl (fun w' hS=>(rl 36 0 [aB,ax,ah,aw] hS.1)) ?_
  refine fv 86 (.pointer (some ⟨b5,32,none⟩)) ?_
  refine fw 87 (.agg #[ap,ab,ai,ad]) rfl (fun w' hS=>(rl 36 32 [ap,ab,ai,ad] hS.1)) ?_
  refine fv 90 (.pointer (some ⟨b5,20,none⟩)) ?_
  refine fw 91 (.agg #[aQ,aF,aL,aZ]) rfl (fun w' hS=>(rl 36 20 [aQ,aF,aL,aZ] hS.1)) ?_
  refine fv 92 (.pointer (some ⟨b5,28,none⟩)) ?_
  refine fw 93 (.agg #[aJ,aY,aO,aR]) rfl (fun w' hS=>(rl 36 28 [aJ,aY,aO,aR] hS.1)) ?_
  refine fv 96 (.pointer (some ⟨b5,12,none⟩)) ?_
  refine fw 97 (.agg #[aN,aG,aM,aT]) rfl (fun w' hS=>(rl 36 12 [aN,aG,aM,aT] hS.1)) ?_
  refine fv 98 (.pointer (some ⟨b5,4,none⟩)) ?_
  refine fw 99 (.agg #[aH,aK,aS,aV]) rfl (fun w' hS=>(rl 36 4 [aH,aK,aS,aV] hS.1)) ?_
  refine fv 101 (.pointer (some ⟨b5,8,none⟩)) ?_
  refine fw 102 (.agg #[aI,aU,aW,aX]) rfl (fun w' hS=>(rl 36 8 [aI,aU,aW,aX] hS.1)) ?_
  refine fv 103 (.pointer (some ⟨b5,24,none⟩)) ?_
  refine fw 104 (.agg #[aE,aC,aD,aP]) rfl (fun w' hS=>(rl 36 24 [aE,aC,aD,aP] hS.1)) ?_
  refine fv 106 (.pointer (some ⟨b5,20,none⟩)) ?_
  refine fw 107 (.agg #[aQ,aF,aL,aZ]) rfl (fun w' hS=>(rl 36 20 [aQ,aF,aL,aZ] hS.1)) ?_
  refine fv 108 (.pointer (some ⟨b5,28,none⟩)) ?_
  refine fw 109 (.agg #[aJ,aY,aO,aR]) rfl (fun w' hS=>(rl 36 28 [aJ,aY,aO,aR] hS.1)) ?_
  refine fw 111 (.agg #[dD,dC,dF,dE]) rfl (fun w' hS=>(rl 36 0 [dD,dC,dF,dE] hS.2)) ?_
  refine fv 112 (.pointer (some ⟨b5,32,none⟩)) ?_
  refine fw 113 (.agg #[ap,ab,ai,ad]) rfl (fun w' hS=>(rl 36 32 [ap,ab,ai,ad] hS.1)) ?_
  refine fv 115 (.pointer (some ⟨b5,0,none⟩)) ?_
  refine fw 116 (.agg #[aB,ax,ah,aw]) rfl (fun w' hS=>(rl 36 0 [aB,ax,ah,aw] hS.1)) ?_
  refine fv 117 (.pointer (some ⟨b5,16,none⟩)) ?_
  refine fw 118 (.agg #[av,al,aA,ae]) rfl (fun w' hS=>(rl 36 16 [av,al,aA,ae] hS.1)) ?_
  refine flo_eff rfl rfl (fun jm dP _ hV hJ=>?_)
  replace hB:=hB.trans dP
  refine eff_bs 36 4 #[dD,dC,dF,dE,aB,ax,ah,aw,av,al,aA,ae,ap,ab,ai,ad] (some 26) rfl (fun _=>by kernel_rfl) (fun kg jx dm gG kw=>?_)
  replace L3:=L3.gr (cu.trans dP)
  replace L5:=L5.gr dP
  replace aa:=aa.gr dP
  replace L9:=(L9.gr cu).gr dP
  replace hB:=hB.trans dm
  replace L5:=L5.gr dm
  replace aa:=aa.gr dm
  refine hJ _ _ dm ⟨L5,aa⟩ ?_
  try clear hJ hV
  simp only [putl,p3,p4]
  refine flo_eff rfl rfl (fun ki dp _ ic hT=>?_)
  replace hB:=hB.trans dp
  replace gG:=gG.gr dp
  have hg:=d8.kp.trans (dN.trans (cu.kp.trans (dP.kp.trans (dm.kp.trans dp.kp))))
  replace du:=du.kp hg
  have fF:=g2.kp.trans (g3.kp.trans (g5.kp.trans (g8.kp.trans (gz.trans (eh.kp.trans (d8.kp.trans (dN.trans (cu.kp.trans (dP.kp.trans (dm.kp.trans dp.kp))))))))))
  replace ay:=ay.kp fF
  replace ak:=ak.kp fF
  replace au:=au.kp fF
  refine ec 27 (sum_4 (k:=k+64) (du.mono (by omega)) (ay.mono (by omega)) (ak.mono (by omega)) (au.mono (by omega)) gG (by omega)) ?_
  rintro ji jj ⟨⟨d0,dY,dW,dS,rfl,dO⟩,dt⟩
  refine ⟨_,rfl,?_⟩
  replace hB:=hB.trans dt
  replace L5:=L5.gr (dp.trans dt)
  replace aa:=aa.gr (dp.trans dt)
  refine hT _ _ dt ⟨L5,aa⟩ ?_
  try clear hT ic
  simp only [p3,p4]
  refine flo_eff rfl rfl (fun ky dn _ iG hQ=>?_)
  replace hB:=hB.trans dn
  have gx:=g2.kp.trans (g3.kp.trans (g5.kp.trans (g8.kp.trans (gz.trans (eh.kp.trans (d8.kp.trans (dN.trans (cu.kp.trans (dP.kp.trans (dm.kp.trans (dp.kp.trans (dt.kp.trans dn.kp))))))))))))
  replace af:=af.kp gx
  replace az:=az.kp gx
  refine ec 32 (sub_r af az (by omega)) ?_
  rintro e23 i6 ⟨⟨e4,em,er,fs,rfl,eN⟩,dk⟩
  refine ⟨_,rfl,?_⟩
  replace hB:=hB.trans dk
  replace L5:=L5.gr (dn.trans dk)
  replace aa:=aa.gr (dn.trans dk)
  refine hQ _ _ dk ⟨L5,aa⟩ ?_
  try clear hQ iG
  simp only [p3,p4]
  refine flo_eff rfl rfl (fun jy dl _ iR hD=>?_)
  replace hB:=hB.trans dl
  have fO:=g2.kp.trans (g3.kp.trans (g5.kp.trans (g8.kp.trans (gz.trans (eh.kp.trans (d8.kp.trans (dN.trans (cu.kp.trans (dP.kp.trans (dm.kp.trans (dp.kp.trans (dt.kp.trans (dn.kp.trans (dk.kp.trans dl.kp))))))))))))))
  replace ar:=ar.kp fO
  replace aq:=aq.kp fO
  refine ec 37 (sub_r ar aq (by omega)) ?_
  rintro jr j7 ⟨⟨fu,eT,eX,eY,rfl,fm⟩,de⟩
  refine ⟨_,rfl,?_⟩
  replace hB:=hB.trans de
  replace L5:=L5.gr (dl.trans de)
  replace aa:=aa.gr (dl.trans de)
  refine hD _ _ de ⟨L5,aa⟩ ?_
  try clear hD iR
  simp only [p3,p4]
  refine flo_eff rfl rfl (fun kb dd _ iz hx=>?_)
  replace hB:=hB.trans dd
  have f2:=g2.kp.trans (g3.kp.trans (g5.kp.trans (g8.kp.trans (gz.trans (eh.kp.trans (d8.kp.trans (dN.trans (cu.kp.trans (dP.kp.trans (dm.kp.trans (dp.kp.trans (dt.kp.trans (dn.kp.trans (dk.kp.trans (dl.kp.trans (de.kp.trans dd.kp))))))))))))))))
  replace ac:=ac.kp f2
  replace aj:=aj.kp f2
  refine ec 42 (sub_r ac aj (by omega)) ?_
  rintro i9 kd ⟨⟨eV,fJ,eF,e2,rfl,eu⟩,cB⟩
  refine ⟨_,rfl,?_⟩
  replace hB:=hB.trans cB
  replace L5:=L5.gr (dd.trans cB)
  replace aa:=aa.gr (dd.trans cB)
  refine hx _ _ cB ⟨L5,aa⟩ ?_
  try clear hx iz
  simp only [p3,p4]
  refine fv 43 (.agg #[d0,dY,dW,dS,e4,em,er,fs,fu,eT,eX,eY,eV,fJ,eF,e2]) ?_
  refine flo_eff rfl rfl (fun jB cC _ iP hL=>?_)
  replace hB:=hB.trans cC
  have fR:=dk.kp.trans (dl.kp.trans (de.kp.trans (dd.kp.trans (cB.kp.trans cC.kp))))
  replace af:=af.kp fR
  replace az:=az.kp fR
  refine ec 48 (sub_r af az (by omega)) ?_
  rintro e32 kl ⟨⟨fh,fG,ep,eW,rfl,fE⟩,cx⟩
  refine ⟨_,rfl,?_⟩
  replace hB:=hB.trans cx
  replace L5:=L5.gr (cC.trans cx)
  replace aa:=aa.gr (cC.trans cx)
  refine hL _ _ cx ⟨L5,aa⟩ ?_
  try clear hL iP
  simp only [p3,p4]
  refine flo_eff rfl rfl (fun jJ cy _ hU hp=>?_)
  replace hB:=hB.trans cy
  have fM:=dt.kp.trans (dn.kp.trans (dk.kp.trans (dl.kp.trans (de.kp.trans (dd.kp.trans (cB.kp.trans (cC.kp.trans (cx.kp.trans cy.kp))))))))
  replace du:=du.kp fM
  replace ay:=ay.kp fM
  refine ec 52 (add_r du ay (by omega)) ?_
  rintro jI kB ⟨⟨kr,ja,j9,jY,rfl,gJ⟩,cq⟩
  refine ⟨_,rfl,?_⟩
  replace hB:=hB.trans cq
  replace L5:=L5.gr (cy.trans cq)
  replace aa:=aa.gr (cy.trans cq)
  refine hp _ _ cq ⟨L5,aa⟩ ?_
  try clear hp hU
  simp only [p3,p4]
  refine flo_eff rfl rfl (fun j0 co _ h5 hu=>?_)
  replace hB:=hB.trans co
  have gg:=dt.kp.trans (dn.kp.trans (dk.kp.trans (dl.kp.trans (de.kp.trans (dd.kp.trans (cB.kp.trans (cC.kp.trans (cx.kp.trans (cy.kp.trans (cq.kp.trans co.kp))))))))))
  replace ak:=ak.kp gg
  replace au:=au.kp gg
  refine ec 57 (add_r ak au (by omega)) ?_
  rintro jb kf ⟨⟨jL,jS,kx,jD,rfl,gW⟩,cj⟩
  refine ⟨_,rfl,?_⟩
  replace hB:=hB.trans cj
  replace L5:=L5.gr (co.trans cj)
  replace aa:=aa.gr (co.trans cj)
  refine hu _ _ cj ⟨L5,aa⟩ ?_
  try clear hu h5
  simp only [p3,p4]
  refine flo_eff rfl rfl (fun jP ck _ ix hR=>?_)
  replace hB:=hB.trans ck
  have gE:=co.kp.trans (cj.kp.trans ck.kp)
  replace gJ:=gJ.kp gE
  replace gW:=gW.kp ck.kp
  refine ec 58 (sub_r gJ gW (by omega)) ?_
  rintro kj j8 ⟨⟨dU,dX,d6,dV,rfl,dQ⟩,cm⟩
  refine ⟨_,rfl,?_⟩
  replace hB:=hB.trans cm
  replace L5:=L5.gr (ck.trans cm)
  replace aa:=aa.gr (ck.trans cm)
  refine hR _ _ cm ⟨L5,aa⟩ ?_
  try clear hR ix
  simp only [p3,p4]
  refine flo_eff rfl rfl (fun ju cl _ iI hl=>?_)
  replace hB:=hB.trans cl
  have fU:=cB.kp.trans (cC.kp.trans (cx.kp.trans (cy.kp.trans (cq.kp.trans (co.kp.trans (cj.kp.trans (ck.kp.trans (cm.kp.trans cl.kp))))))))
  replace aj:=aj.kp fU
  replace ac:=ac.kp fU
  refine ec 63 (add_r aj ac (by omega)) ?_
  rintro iV j1 ⟨⟨eM,fc,fB,eP,rfl,fb⟩,ch⟩
  refine ⟨_,rfl,?_⟩
  replace hB:=hB.trans ch
  replace L5:=L5.gr (cl.trans ch)
  replace aa:=aa.gr (cl.trans ch)
  refine hl _ _ ch ⟨L5,aa⟩ ?_
  try clear hl iI
  simp only [p3,p4]
  refine flo_eff rfl rfl (fun jv cg _ iL hw=>?_)
  replace hB:=hB.trans cg
  have f5:=de.kp.trans (dd.kp.trans (cB.kp.trans (cC.kp.trans (cx.kp.trans (cy.kp.trans (cq.kp.trans (co.kp.trans (cj.kp.trans (ck.kp.trans (cm.kp.trans (cl.kp.trans (ch.kp.trans cg.kp))))))))))))
  replace ar:=ar.kp f5
  replace aq:=aq.kp f5
  refine ec 68 (add_r ar aq (by omega)) ?_
  rintro kv jV ⟨⟨eU,eB,ew,el,rfl,et⟩,ce⟩
  refine ⟨_,rfl,?_⟩
  replace hB:=hB.trans ce
  replace L5:=L5.gr (cg.trans ce)
  replace aa:=aa.gr (cg.trans ce)
  refine hw _ _ ce ⟨L5,aa⟩ ?_
  try clear hw iL
  simp only [p3,p4]
  refine fv 69 (.agg #[fh,fG,ep,eW,dU,dX,d6,dV,eM,fc,fB,eP,eU,eB,ew,el]) ?_
  refine flo_eff rfl rfl (fun jc cd _ ig hI=>?_)
  replace hB:=hB.trans cd
  have f0:=ce.kp.trans cd.kp
  replace ar:=ar.kp f0
  replace aq:=aq.kp f0
  refine ec 74 (sub_r ar aq (by omega)) ?_
  rintro jM jK ⟨⟨fk,e1,eD,e9,rfl,fH⟩,cc⟩
  refine ⟨_,rfl,?_⟩
  replace hB:=hB.trans cc
  replace L5:=L5.gr (cd.trans cc)
  replace aa:=aa.gr (cd.trans cc)
  refine hI _ _ cc ⟨L5,aa⟩ ?_
  try clear hI ig
  simp only [p3,p4]
  refine flo_eff rfl rfl (fun jd b7 _ iN hM=>?_)
  replace hB:=hB.trans b7
  have fS:=ch.kp.trans (cg.kp.trans (ce.kp.trans (cd.kp.trans (cc.kp.trans b7.kp))))
  replace aj:=aj.kp fS
  replace ac:=ac.kp fS
  refine ec 79 (add_r aj ac (by omega)) ?_
  rintro jE jh ⟨⟨e7,ez,ff,eC,rfl,e0⟩,b6⟩
  refine ⟨_,rfl,?_⟩
  replace hB:=hB.trans b6
  replace L5:=L5.gr (b7.trans b6)
  replace aa:=aa.gr (b7.trans b6)
  refine hM _ _ b6 ⟨L5,aa⟩ ?_
  try clear hM iN
  simp only [p3,p4]
  refine flo_eff rfl rfl (fun ke b4 _ ie hn=>?_)
  replace hB:=hB.trans b4
  have gK:=cq.kp.trans (co.kp.trans (cj.kp.trans (ck.kp.trans (cm.kp.trans (cl.kp.trans (ch.kp.trans (cg.kp.trans (ce.kp.trans (cd.kp.trans (cc.kp.trans (b7.kp.trans (b6.kp.trans b4.kp))))))))))))
  replace du:=du.kp gK
  have gQ:=cj.kp.trans (ck.kp.trans (cm.kp.trans (cl.kp.trans (ch.kp.trans (cg.kp.trans (ce.kp.trans (cd.kp.trans (cc.kp.trans (b7.kp.trans (b6.kp.trans b4.kp))))))))))
  replace ak:=ak.kp gQ
  refine ec 83 (add_r du ak (by omega)) ?_
  rintro jq jC ⟨⟨i7,jH,jW,jf,rfl,gD⟩,bX⟩
  refine ⟨_,rfl,?_⟩
  replace hB:=hB.trans bX
  replace L5:=L5.gr (b4.trans bX)
  replace aa:=aa.gr (b4.trans bX)
  refine hn _ _ bX ⟨L5,aa⟩ ?_
  try clear hn ie
  simp only [p3,p4]
  refine flo_eff rfl rfl (fun i8 bR _ ij ht=>?_)
  replace hB:=hB.trans bR
  have gC:=cq.kp.trans (co.kp.trans (cj.kp.trans (ck.kp.trans (cm.kp.trans (cl.kp.trans (ch.kp.trans (cg.kp.trans (ce.kp.trans (cd.kp.trans (cc.kp.trans (b7.kp.trans (b6.kp.trans (b4.kp.trans (bX.kp.trans bR.kp))))))))))))))
  replace ay:=ay.kp gC
  have gS:=cj.kp.trans (ck.kp.trans (cm.kp.trans (cl.kp.trans (ch.kp.trans (cg.kp.trans (ce.kp.trans (cd.kp.trans (cc.kp.trans (b7.kp.trans (b6.kp.trans (b4.kp.trans (bX.kp.trans bR.kp))))))))))))
  replace au:=au.kp gS
  refine ec 88 (add_r ay au (by omega)) ?_
  rintro jQ ko ⟨⟨je,jR,j2,kq,rfl,gB⟩,bn⟩
  refine ⟨_,rfl,?_⟩
  replace hB:=hB.trans bn
  replace L5:=L5.gr (bR.trans bn)
  replace aa:=aa.gr (bR.trans bn)
  refine ht _ _ bn ⟨L5,aa⟩ ?_
  try clear ht ij
  simp only [p3,p4]
  refine flo_eff rfl rfl (fun j5 bt _ ip hA=>?_)
  replace hB:=hB.trans bt
  have gX:=bR.kp.trans (bn.kp.trans bt.kp)
  replace gD:=gD.kp gX
  replace gB:=gB.kp bt.kp
  refine ec 89 (sub_r gD gB (by omega)) ?_
  rintro jX jT ⟨⟨d4,dZ,dT,d5,rfl,dL⟩,bQ⟩
  refine ⟨_,rfl,?_⟩
  replace hB:=hB.trans bQ
  replace L5:=L5.gr (bt.trans bQ)
  replace aa:=aa.gr (bt.trans bQ)
  refine hA _ _ bQ ⟨L5,aa⟩ ?_
  try clear hA ip
  simp only [p3,p4]
  refine flo_eff rfl rfl (fun jt bG _ ia hE=>?_)
  replace hB:=hB.trans bG
  have gk:=cx.kp.trans (cy.kp.trans (cq.kp.trans (co.kp.trans (cj.kp.trans (ck.kp.trans (cm.kp.trans (cl.kp.trans (ch.kp.trans (cg.kp.trans (ce.kp.trans (cd.kp.trans (cc.kp.trans (b7.kp.trans (b6.kp.trans (b4.kp.trans (bX.kp.trans (bR.kp.trans (bn.kp.trans (bt.kp.trans (bQ.kp.trans bG.kp))))))))))))))))))))
  replace az:=az.kp gk
  replace af:=af.kp gk
  refine ec 94 (add_r az af (by omega)) ?_
  rintro jU jF ⟨⟨fD,fd,fy,eE,rfl,fI⟩,bv⟩
  refine ⟨_,rfl,?_⟩
  replace hB:=hB.trans bv
  replace L5:=L5.gr (bG.trans bv)
  replace aa:=aa.gr (bG.trans bv)
  refine hE _ _ bv ⟨L5,aa⟩ ?_
  try clear hE ia
  simp only [p3,p4]
  refine fv 95 (.agg #[fk,e1,eD,e9,e7,ez,ff,eC,d4,dZ,dT,d5,fD,fd,fy,eE]) ?_
  refine flo_eff rfl rfl (fun km bm _ iM hC=>?_)
  replace hB:=hB.trans bm
  have fZ:=b6.kp.trans (b4.kp.trans (bX.kp.trans (bR.kp.trans (bn.kp.trans (bt.kp.trans (bQ.kp.trans (bG.kp.trans (bv.kp.trans bm.kp))))))))
  replace ac:=ac.kp fZ
  replace aj:=aj.kp fZ
  refine ec 100 (sub_r ac aj (by omega)) ?_
  rintro iW jn ⟨⟨eJ,fp,ex,eL,rfl,fx⟩,bu⟩
  refine ⟨_,rfl,?_⟩
  replace hB:=hB.trans bu
  replace L5:=L5.gr (bm.trans bu)
  replace aa:=aa.gr (bm.trans bu)
  refine hC _ _ bu ⟨L5,aa⟩ ?_
  try clear hC iM
  simp only [p3,p4]
  refine flo_eff rfl rfl (fun ka bp _ im hN=>?_)
  replace hB:=hB.trans bp
  have gq:=cc.kp.trans (b7.kp.trans (b6.kp.trans (b4.kp.trans (bX.kp.trans (bR.kp.trans (bn.kp.trans (bt.kp.trans (bQ.kp.trans (bG.kp.trans (bv.kp.trans (bm.kp.trans (bu.kp.trans bp.kp))))))))))))
  replace ar:=ar.kp gq
  replace aq:=aq.kp gq
  refine ec 105 (add_r ar aq (by omega)) ?_
  rintro kc jp ⟨⟨eO,eR,eG,eo,rfl,fA⟩,bk⟩
  refine ⟨_,rfl,?_⟩
  replace hB:=hB.trans bk
  replace L5:=L5.gr (bp.trans bk)
  replace aa:=aa.gr (bp.trans bk)
  refine hN _ _ bk ⟨L5,aa⟩ ?_
  try clear hN im
  simp only [p3,p4]
  refine flo_eff rfl rfl (fun kn bo _ ir hq=>?_)
  replace hB:=hB.trans bo
  have ge:=bv.kp.trans (bm.kp.trans (bu.kp.trans (bp.kp.trans (bk.kp.trans bo.kp))))
  replace az:=az.kp ge
  replace af:=af.kp ge
  refine ec 110 (add_r az af (by omega)) ?_
  rintro iZ jN ⟨⟨fC,e6,ft,fq,rfl,e3⟩,bj⟩
  refine ⟨_,rfl,?_⟩
  replace hB:=hB.trans bj
  replace L5:=L5.gr (bo.trans bj)
  replace aa:=aa.gr (bo.trans bj)
  refine hq _ _ bj ⟨L5,aa⟩ ?_
  try clear hq ir
  simp only [p3,p4]
  refine flo_eff rfl rfl (fun kA bq _ iB hG=>?_)
  replace hB:=hB.trans bq
  have ha:=bX.kp.trans (bR.kp.trans (bn.kp.trans (bt.kp.trans (bQ.kp.trans (bG.kp.trans (bv.kp.trans (bm.kp.trans (bu.kp.trans (bp.kp.trans (bk.kp.trans (bo.kp.trans (bj.kp.trans bq.kp))))))))))))
  replace du:=du.kp ha
  have gT:=bn.kp.trans (bt.kp.trans (bQ.kp.trans (bG.kp.trans (bv.kp.trans (bm.kp.trans (bu.kp.trans (bp.kp.trans (bk.kp.trans (bo.kp.trans (bj.kp.trans bq.kp))))))))))
  replace au:=au.kp gT
  refine ec 114 (add_r du au (by omega)) ?_
  rintro js iX ⟨⟨jo,jO,ku,jg,rfl,hc⟩,bw⟩
  refine ⟨_,rfl,?_⟩
  replace hB:=hB.trans bw
  replace L5:=L5.gr (bq.trans bw)
  replace aa:=aa.gr (bq.trans bw)
  refine hG _ _ bw ⟨L5,aa⟩ ?_
  try clear hG iB
  simp only [p3,p4]
  refine flo_eff rfl rfl (fun iY bN _ ik hr=>?_)
  replace hB:=hB.trans bN
  have hd:=bn.kp.trans (bt.kp.trans (bQ.kp.trans (bG.kp.trans (bv.kp.trans (bm.kp.trans (bu.kp.trans (bp.kp.trans (bk.kp.trans (bo.kp.trans (bj.kp.trans (bq.kp.trans (bw.kp.trans bN.kp))))))))))))
  replace ay:=ay.kp hd
  have gV:=bX.kp.trans (bR.kp.trans (bn.kp.trans (bt.kp.trans (bQ.kp.trans (bG.kp.trans (bv.kp.trans (bm.kp.trans (bu.kp.trans (bp.kp.trans (bk.kp.trans (bo.kp.trans (bj.kp.trans (bq.kp.trans (bw.kp.trans bN.kp))))))))))))))
  replace ak:=ak.kp gV
  refine ec 119 (add_r ay ak (by omega)) ?_
  rintro kh i5 ⟨⟨jw,jA,j6,kz,rfl,g0⟩,bY⟩
  refine ⟨_,rfl,?_⟩
  replace hB:=hB.trans bY
  replace L5:=L5.gr (bN.trans bY)
  replace aa:=aa.gr (bN.trans bY)
  refine hr _ _ bY ⟨L5,aa⟩ ?_
  try clear hr ik
  simp only [p3,p4]
  refine flo_eff rfl rfl (fun j4 bZ _ iE hO=>?_)
  replace hB:=hB.trans bZ
  have g7:=bN.kp.trans (bY.kp.trans bZ.kp)
  replace hc:=hc.kp g7
  replace g0:=g0.kp bZ.kp
  refine ec 120 (sub_r hc g0 (by omega)) ?_
  rintro i4 jG ⟨⟨eS,fo,eH,fi,rfl,eA⟩,b9⟩
  refine ⟨_,rfl,?_⟩
  replace hB:=hB.trans b9
  replace L5:=L5.gr (bZ.trans b9)
  replace aa:=aa.gr (bZ.trans b9)
  refine hO _ _ b9 ⟨L5,aa⟩ ?_
  try clear hO iE
  simp only [p3,p4]
  refine fv 121 (.agg #[eJ,fp,ex,eL,eO,eR,eG,eo,fC,e6,ft,fq,eS,fo,eH,fi]) ?_
  refine fv 122 (.agg #[d0,dY,dW,dS,e4,em,er,fs,fu,eT,eX,eY,eV,fJ,eF,e2,fh,fG,ep,eW,dU,dX,d6,dV,eM,fc,fB,eP,eU,eB,ew,el,fk,e1,eD,e9,e7,ez,ff,eC,d4,dZ,dT,d5,fD,fd,fy,eE,eJ,fp,ex,eL,eO,eR,eG,eo,fC,e6,ft,fq,eS,fo,eH,fi]) ?_
  refine flo_nil (fun jZ b8 _=>?_)
  replace hB:=hB.trans b8
  refine floFin1 (fun dA cn eK=>?_)
  replace cn:Lc _ _ _ _:=cn
  have cJ:b3≠dA:=Nat.ne_of_lt (Nat.lt_of_lt_of_le fg eK)
  have fj:b5≠dA:=Nat.ne_of_lt (Nat.lt_of_lt_of_le eQ eK)
  have dR:hz≠dA:=Nat.ne_of_lt (Nat.lt_of_lt_of_le d7 eK)
  have c8:D9≠dA:=Nat.ne_of_lt (Nat.lt_of_lt_of_le eI eK)
  replace eK:=Nat.le_trans gU eK
  simp only [putl,p3,p4]
  refine oe ?_
  refine es 158 0 (.agg #[d0,dY,dW,dS,e4,em,er,fs,fu,eT,eX,eY,eV,fJ,eF,e2,fh,fG,ep,eW,dU,dX,d6,dV,eM,fc,fB,eP,eU,eB,ew,el,fk,e1,eD,e9,e7,ez,ff,eC,d4,dZ,dT,d5,fD,fd,fy,eE,eJ,fp,ex,eL,eO,eR,eG,eo,fC,e6,ft,fq,eS,fo,eH,fi]) [d0,dY,dW,dS,e4,em,er,fs,fu,eT,eX,eY,eV,fJ,eF,e2,fh,fG,ep,eW,dU,dX,d6,dV,eM,fc,fB,eP,eU,eB,ew,el,fk,e1,eD,e9,e7,ez,ff,eC,d4,dZ,dT,d5,fD,fd,fy,eE,eJ,fp,ex,eL,eO,eR,eG,eo,fC,e6,ft,fq,eS,fo,eH,fi] #[d0,dY,dW,dS,e4,em,er,fs,fu,eT,eX,eY,eV,fJ,eF,e2,fh,fG,ep,eW,dU,dX,d6,dV,eM,fc,fB,eP,eU,eB,ew,el,fk,e1,eD,e9,e7,ez,ff,eC,d4,dZ,dT,d5,fD,fd,fy,eE,eJ,fp,ex,eL,eO,eR,eG,eo,fC,e6,ft,fq,eS,fo,eH,fi] cn hB eK ⟨dO.one0,dO.one1,dO.one2,dO.one3,eN.one0,eN.one1,eN.one2,eN.one3,fm.one0,fm.one1,fm.one2,fm.one3,eu.one0,eu.one1,eu.one2,eu.one3,fE.one0,fE.one1,fE.one2,fE.one3,dQ.one0,dQ.one1,dQ.one2,dQ.one3,fb.one0,fb.one1,fb.one2,fb.one3,et.one0,et.one1,et.one2,et.one3,fH.one0,fH.one1,fH.one2,fH.one3,e0.one0,e0.one1,e0.one2,e0.one3,dL.one0,dL.one1,dL.one2,dL.one3,fI.one0,fI.one1,fI.one2,fI.one3,fx.one0,fx.one1,fx.one2,fx.one3,fA.one0,fA.one1,fA.one2,fA.one3,e3.one0,e3.one1,e3.one2,e3.one3,eA.one0,eA.one1,eA.one2,eA.one3,trivial⟩ fun jl cA bh cn hB=>?_
  replace L5:=cA.lc (L5.gr b8) fj
  replace aa:=cA.lc (aa.gr b8) dR
  refine ⟨⟨L5,aa⟩,?_⟩
  refine ord_nil ?_
  refine hy _ _ ?_
  try clear hy il
  refine wp_seq_k (fun h3 hm=>?_)
  refine rg [0] ?_
  refine sv 8 (.int .i64 0) ?_
  refine sq_nil ?_
  refine hm _ _ ?_
  try clear hm h3
  refine wp_seq_k (fun gA ef=>?_)
  refine wp_block ?_
  refine wp_loop_rounds 4 ?_
  show Code.wp _ _ _ _ _
  refine wp_seq_k (fun h4 hH=>?_)
  refine wp_seq_k (fun h6 hP=>?_)
  refine rg [0,1,2,3,4,5,6,7,8,9,10] ?_
  refine sv 123 (.int .i64 0) ?_
  refine sv 124 (.bool true) ?_
  refine sv 125 (.bool true) ?_
  refine sv 126 (.int .i64 0) ?_
  refine sv 127 (.int .i64 0) ?_
  refine sv 128 (.pointer (some ⟨dA,0,none⟩)) ?_
  refine sv 129 (.pointer (some ⟨dA,0,none⟩)) ?_
  refine sw 130 (.agg #[d0,dY,dW,dS]) rfl (rl 36 0 [d0,dY,dW,dS] cn) ?_
  refine se ?_
  have gY:=dn.kp.trans (dk.kp.trans (dl.kp.trans (de.kp.trans (dd.kp.trans (cB.kp.trans (cC.kp.trans (cx.kp.trans (cy.kp.trans (cq.kp.trans (co.kp.trans (cj.kp.trans (ck.kp.trans (cm.kp.trans (cl.kp.trans (ch.kp.trans (cg.kp.trans (ce.kp.trans (cd.kp.trans (cc.kp.trans (b7.kp.trans (b6.kp.trans (b4.kp.trans (bX.kp.trans (bR.kp.trans (bn.kp.trans (bt.kp.trans (bQ.kp.trans (bG.kp.trans (bv.kp.trans (bm.kp.trans (bu.kp.trans (bp.kp.trans (bk.kp.trans (bo.kp.trans (bj.kp.trans (bq.kp.trans (bw.kp.trans (bN.kp.trans (bY.kp.trans (bZ.kp.trans (b9.kp.trans (b8.kp.trans bh))))))))))))))))))))))))))))))))))))))))))
  replace dO:=dO.kp gY
  refine ec 131 (sign_r dO) ?_
  rintro j3 jk ⟨rfl,ca⟩
  refine ⟨_,rfl,?_⟩
  replace hB:=hB.trans ca
  simp only [p3,p4]
  refine sv 132 (.bool ((sgn (((((0+1)+bJ)+bU)+bA)).num==(0:Int)))) ?_
  refine sv 133 (.bool ((sgn (((((0+1)+bJ)+bU)+bA)).num==(0:Int)))) ?_
  refine sq_nil ?_
  refine hP _ _ ?_
  try clear hP h6
  refine wp_cond_split (t:=(sgn (((((0+1)+bJ)+bU)+bA)).num==(0:Int))) rfl (fun c5=>?_) (fun c5=>?_)
  ·refine wp_skip ?_
   refine hH _ _ ?_
   try clear hH h4
   refine wp_block ?_
   refine rg [0,1,2] ?_
   refine sv 134 (.int .i64 0) ?_
   refine sv 135 (.int .i64 1) ?_
   refine sv 8 (.int .i64 1) ?_
   refine sq_nil ?_
   show Code.rounds _ _ _ _ _ _
   show Code.wp _ _ _ _ _
   refine wp_seq_k (fun hh fT=>?_)
   refine wp_seq_k (fun gF gb=>?_)
   refine rg [0,1,2,3,4,5,6,7,8,9,10] ?_
   refine sv 123 (.int .i64 1) ?_
   refine sv 124 (.bool true) ?_
   refine sv 125 (.bool true) ?_
   refine sv 126 (.int .i64 1) ?_
   refine sv 127 (.int .i64 1) ?_
   refine sv 128 (.pointer (some ⟨dA,16,none⟩)) ?_
   refine sv 129 (.pointer (some ⟨dA,20,none⟩)) ?_
   replace cn:=cn.gr ca
   refine sw 130 (.agg #[dU,dX,d6,dV]) rfl (rl 36 20 [dU,dX,d6,dV] cn) ?_
   refine se ?_
   have f1:=cl.kp.trans (ch.kp.trans (cg.kp.trans (ce.kp.trans (cd.kp.trans (cc.kp.trans (b7.kp.trans (b6.kp.trans (b4.kp.trans (bX.kp.trans (bR.kp.trans (bn.kp.trans (bt.kp.trans (bQ.kp.trans (bG.kp.trans (bv.kp.trans (bm.kp.trans (bu.kp.trans (bp.kp.trans (bk.kp.trans (bo.kp.trans (bj.kp.trans (bq.kp.trans (bw.kp.trans (bN.kp.trans (bY.kp.trans (bZ.kp.trans (b9.kp.trans (b8.kp.trans (bh.trans ca.kp)))))))))))))))))))))))))))))
   replace dQ:=dQ.kp f1
   refine ec 131 (sign_r dQ) ?_
   rintro iv iC ⟨rfl,a0⟩
   refine ⟨_,rfl,?_⟩
   replace hB:=hB.trans a0
   simp only [p3,p4]
   refine sv 132 (.bool ((sgn (((1+bJ) - (bU+bA))).num==(0:Int)))) ?_
   refine sv 133 (.bool ((sgn (((1+bJ) - (bU+bA))).num==(0:Int)))) ?_
   refine sq_nil ?_
   refine gb _ _ ?_
   try clear gb gF
   refine wp_cond_split (t:=(sgn (((1+bJ) - (bU+bA))).num==(0:Int))) rfl (fun ct=>?_) (fun ct=>?_)
   ·refine wp_skip ?_
    refine fT _ _ ?_
    try clear fT hh
    refine wp_block ?_
    refine rg [0,1,2] ?_
    refine sv 134 (.int .i64 1) ?_
    refine sv 135 (.int .i64 2) ?_
    refine sv 8 (.int .i64 2) ?_
    refine sq_nil ?_
    show Code.rounds _ _ _ _ _ _
    show Code.wp _ _ _ _ _
    refine wp_seq_k (fun gZ fV=>?_)
    refine wp_seq_k (fun gR gm=>?_)
    refine rg [0,1,2,3,4,5,6,7,8,9,10] ?_
    refine sv 123 (.int .i64 2) ?_
    refine sv 124 (.bool true) ?_
    refine sv 125 (.bool true) ?_
    refine sv 126 (.int .i64 2) ?_
    refine sv 127 (.int .i64 2) ?_
    refine sv 128 (.pointer (some ⟨dA,32,none⟩)) ?_
    refine sv 129 (.pointer (some ⟨dA,40,none⟩)) ?_
    replace cn:=cn.gr a0
    refine sw 130 (.agg #[d4,dZ,dT,d5]) rfl (rl 36 40 [d4,dZ,dT,d5] cn) ?_
    refine se ?_
    have ga:=bG.kp.trans (bv.kp.trans (bm.kp.trans (bu.kp.trans (bp.kp.trans (bk.kp.trans (bo.kp.trans (bj.kp.trans (bq.kp.trans (bw.kp.trans (bN.kp.trans (bY.kp.trans (bZ.kp.trans (b9.kp.trans (b8.kp.trans (bh.trans (ca.kp.trans a0.kp))))))))))))))))
    replace dL:=dL.kp ga
    refine ec 131 (sign_r dL) ?_
    rintro iD ii ⟨rfl,bi⟩
    refine ⟨_,rfl,?_⟩
    replace hB:=hB.trans bi
    simp only [p3,p4]
    refine sv 132 (.bool ((sgn (((1+bU) - (bJ+bA))).num==(0:Int)))) ?_
    refine sv 133 (.bool ((sgn (((1+bU) - (bJ+bA))).num==(0:Int)))) ?_
    refine sq_nil ?_
    refine gm _ _ ?_
    try clear gm gR
    refine wp_cond_split (t:=(sgn (((1+bU) - (bJ+bA))).num==(0:Int))) rfl (fun dq=>?_) (fun dq=>?_)
    ·refine wp_skip ?_
     refine fV _ _ ?_
     try clear fV gZ
     refine wp_block ?_
     refine rg [0,1,2] ?_
     refine sv 134 (.int .i64 2) ?_
     refine sv 135 (.int .i64 3) ?_
     refine sv 8 (.int .i64 3) ?_
     refine sq_nil ?_
     show Code.rounds _ _ _ _ _ _
     show Code.wp _ _ _ _ _
     refine wp_seq_k (fun h8 hY=>?_)
     refine wp_seq_k (fun gM gy=>?_)
     refine rg [0,1,2,3,4,5,6,7,8,9,10] ?_
     refine sv 123 (.int .i64 3) ?_
     refine sv 124 (.bool false) ?_
     refine sv 125 (.bool false) ?_
     refine ss 126 ?_
     refine ss 127 ?_
     refine ss 128 ?_
     refine ss 129 ?_
     refine ss 130 ?_
     refine ss 131 ?_
     refine ss 132 ?_
     refine sv 133 (.bool false) ?_
     refine sq_nil ?_
     refine gy _ _ ?_
     try clear gy gM
     refine wp_cond_false rfl ?_
     refine wp_exit ?_
     simp only [Exit.then,Exit.inBlock,↓reduceIte]
     refine ef _ _ ?_
     try clear ef gA
     refine wp_seq_k (fun gO fQ=>?_)
     refine rg [0,1,2,3,4] ?_
     refine sv 136 (.int .i64 3) ?_
     refine sv 137 (.pointer (some ⟨dA,48,none⟩)) ?_
     replace cn:=cn.gr bi
     refine sw 138 (.agg #[eJ,fp,ex,eL,eO,eR,eG,eo,fC,e6,ft,fq,eS,fo,eH,fi]) rfl (rl 157 48 [eJ,fp,ex,eL,eO,eR,eG,eo,fC,e6,ft,fq,eS,fo,eH,fi] cn) ?_
     refine se ?_
     have gh:=bp.kp.trans (bk.kp.trans (bo.kp.trans (bj.kp.trans (bq.kp.trans (bw.kp.trans (bN.kp.trans (bY.kp.trans (bZ.kp.trans (b9.kp.trans (b8.kp.trans (bh.trans (ca.kp.trans (a0.kp.trans bi.kp)))))))))))))
     replace fx:=fx.kp gh
     have f8:=bo.kp.trans (bj.kp.trans (bq.kp.trans (bw.kp.trans (bN.kp.trans (bY.kp.trans (bZ.kp.trans (b9.kp.trans (b8.kp.trans (bh.trans (ca.kp.trans (a0.kp.trans bi.kp)))))))))))
     replace fA:=fA.kp f8
     have fK:=bq.kp.trans (bw.kp.trans (bN.kp.trans (bY.kp.trans (bZ.kp.trans (b9.kp.trans (b8.kp.trans (bh.trans (ca.kp.trans (a0.kp.trans bi.kp)))))))))
     replace e3:=e3.kp fK
     have gp:=b8.kp.trans (bh.trans (ca.kp.trans (a0.kp.trans bi.kp)))
     replace eA:=eA.kp gp
     refine ec 139 (mwhole (k:=8*k+900) (fx.mono (by omega)) (fA.mono (by omega)) (e3.mono (by omega)) (eA.mono (by omega)) (row_pos3t c5 ct dq) (by omega)) ?_
     rintro ib iS ⟨⟨dc,cQ,cO,cY,c6,cN,cH,df,rfl,bD,bO,bW,bz⟩,eZ⟩
     refine ⟨_,rfl,?_⟩
     replace hB:=hB.trans eZ
     simp only [p3,p4]
     refine se ?_
     replace L3:=(cA.lc (L3.gr (dm.trans (dp.trans (dt.trans (dn.trans (dk.trans (dl.trans (de.trans (dd.trans (cB.trans (cC.trans (cx.trans (cy.trans (cq.trans (co.trans (cj.trans (ck.trans (cm.trans (cl.trans (ch.trans (cg.trans (ce.trans (cd.trans (cc.trans (b7.trans (b6.trans (b4.trans (bX.trans (bR.trans (bn.trans (bt.trans (bQ.trans (bG.trans (bv.trans (bm.trans (bu.trans (bp.trans (bk.trans (bo.trans (bj.trans (bq.trans (bw.trans (bN.trans (bY.trans (bZ.trans (b9.trans b8)))))))))))))))))))))))))))))))))))))))))))))) cJ).gr (ca.trans (a0.trans (bi.trans eZ)))
     refine es 125 0 (.agg #[dc,cQ,cO,cY,c6,cN,cH,df]) [dc,cQ,cO,cY,c6,cN,cH,df] #[dc,cQ,cO,cY,c6,cN,cH,df] L3 hB q3 ⟨bD.one0,bD.one1,bO.one0,bO.one1,bW.one0,bW.one1,bz.one0,bz.one1,trivial⟩ fun iJ gw gv L3 hB=>?_
     refine sq_nil ?_
     refine fQ _ _ ?_
     try clear fQ gO
     refine wp_ret ?_
     replace L9:=(((((((((((((((((((((((((((((((((((((((((((((((((((L9.gr dm).gr dp).gr dt).gr dn).gr dk).gr dl).gr de).gr dd).gr cB).gr cC).gr cx).gr cy).gr cq).gr co).gr cj).gr ck).gr cm).gr cl).gr ch).gr cg).gr ce).gr cd).gr cc).gr b7).gr b6).gr b4).gr bX).gr bR).gr bn).gr bt).gr bQ).gr bG).gr bv).gr bm).gr bu).gr bp).gr bk).gr bo).gr bj).gr bq).gr bw).gr bN).gr bY).gr bZ).gr b9).gr b8).st cA c8).gr ca).gr a0).gr bi).gr eZ).st gw (Ne.symm dv)
     refine endN [D9] _ (List.Pairwise.cons (fun _ h=>absurd h (by simp)) List.Pairwise.nil) (List.forall_mem_cons.2 ⟨⟨Q9,L9⟩,(fun _ h=>absurd h (by simp))⟩) hB (fun iQ ee hB=>?_)
     replace L3:=ee.lc L3 (by decide)
     refine ⟨(.agg #[dc,cQ,cO,cY,c6,cN,cH,df]),(ret_cell _ _ _ rfl rfl L3 (by kernel_rfl)),?_,hB⟩
     have dx:=gv.trans (ee.kp (by decide))
     replace bD:=bD.kp dx
     replace bO:=bO.kp dx
     replace bW:=bW.kp dx
     replace bz:=bz.kp dx
     exact (by rw [qrow3t c5 ct dq];exact ⟨_,_,_,_,_,_,_,_,rfl,bD.mono (by omega),bO.mono (by omega),bW.mono (by omega),bz.mono (by omega)⟩)
    ·refine wp_exit ?_
     simp only [Exit.then,Exit.inBlock,↓reduceIte]
     refine ef _ _ ?_
     try clear ef gA
     refine wp_seq_k (fun hk fY=>?_)
     refine rg [0,1,2,3,4] ?_
     refine sv 136 (.int .i64 2) ?_
     refine sv 137 (.pointer (some ⟨dA,32,none⟩)) ?_
     replace cn:=cn.gr bi
     refine sw 138 (.agg #[fk,e1,eD,e9,e7,ez,ff,eC,d4,dZ,dT,d5,fD,fd,fy,eE]) rfl (rl 157 32 [fk,e1,eD,e9,e7,ez,ff,eC,d4,dZ,dT,d5,fD,fd,fy,eE] cn) ?_
     refine se ?_
     have gt:=b7.kp.trans (b6.kp.trans (b4.kp.trans (bX.kp.trans (bR.kp.trans (bn.kp.trans (bt.kp.trans (bQ.kp.trans (bG.kp.trans (bv.kp.trans (bm.kp.trans (bu.kp.trans (bp.kp.trans (bk.kp.trans (bo.kp.trans (bj.kp.trans (bq.kp.trans (bw.kp.trans (bN.kp.trans (bY.kp.trans (bZ.kp.trans (b9.kp.trans (b8.kp.trans (bh.trans (ca.kp.trans (a0.kp.trans bi.kp)))))))))))))))))))))))))
     replace fH:=fH.kp gt
     have fX:=b4.kp.trans (bX.kp.trans (bR.kp.trans (bn.kp.trans (bt.kp.trans (bQ.kp.trans (bG.kp.trans (bv.kp.trans (bm.kp.trans (bu.kp.trans (bp.kp.trans (bk.kp.trans (bo.kp.trans (bj.kp.trans (bq.kp.trans (bw.kp.trans (bN.kp.trans (bY.kp.trans (bZ.kp.trans (b9.kp.trans (b8.kp.trans (bh.trans (ca.kp.trans (a0.kp.trans bi.kp)))))))))))))))))))))))
     replace e0:=e0.kp fX
     replace dL:=dL.kp bi.kp
     have gj:=bm.kp.trans (bu.kp.trans (bp.kp.trans (bk.kp.trans (bo.kp.trans (bj.kp.trans (bq.kp.trans (bw.kp.trans (bN.kp.trans (bY.kp.trans (bZ.kp.trans (b9.kp.trans (b8.kp.trans (bh.trans (ca.kp.trans (a0.kp.trans bi.kp)))))))))))))))
     replace fI:=fI.kp gj
     refine ec 139 (mwhole (k:=8*k+900) (fH.mono (by omega)) (e0.mono (by omega)) (dL.mono (by omega)) (fI.mono (by omega)) (row_pos3f c5 ct dq) (by omega)) ?_
     rintro iu iy ⟨⟨cU,dh,di,c7,cE,cP,cD,da,rfl,bE,bP,bM,bH⟩,fz⟩
     refine ⟨_,rfl,?_⟩
     replace hB:=hB.trans fz
     simp only [p3,p4]
     refine se ?_
     replace L3:=(cA.lc (L3.gr (dm.trans (dp.trans (dt.trans (dn.trans (dk.trans (dl.trans (de.trans (dd.trans (cB.trans (cC.trans (cx.trans (cy.trans (cq.trans (co.trans (cj.trans (ck.trans (cm.trans (cl.trans (ch.trans (cg.trans (ce.trans (cd.trans (cc.trans (b7.trans (b6.trans (b4.trans (bX.trans (bR.trans (bn.trans (bt.trans (bQ.trans (bG.trans (bv.trans (bm.trans (bu.trans (bp.trans (bk.trans (bo.trans (bj.trans (bq.trans (bw.trans (bN.trans (bY.trans (bZ.trans (b9.trans b8)))))))))))))))))))))))))))))))))))))))))))))) cJ).gr (ca.trans (a0.trans (bi.trans fz)))
     refine es 125 0 (.agg #[cU,dh,di,c7,cE,cP,cD,da]) [cU,dh,di,c7,cE,cP,cD,da] #[cU,dh,di,c7,cE,cP,cD,da] L3 hB q3 ⟨bE.one0,bE.one1,bP.one0,bP.one1,bM.one0,bM.one1,bH.one0,bH.one1,trivial⟩ fun io f7 fP L3 hB=>?_
     refine sq_nil ?_
     refine fY _ _ ?_
     try clear fY hk
     refine wp_ret ?_
     replace L9:=(((((((((((((((((((((((((((((((((((((((((((((((((((L9.gr dm).gr dp).gr dt).gr dn).gr dk).gr dl).gr de).gr dd).gr cB).gr cC).gr cx).gr cy).gr cq).gr co).gr cj).gr ck).gr cm).gr cl).gr ch).gr cg).gr ce).gr cd).gr cc).gr b7).gr b6).gr b4).gr bX).gr bR).gr bn).gr bt).gr bQ).gr bG).gr bv).gr bm).gr bu).gr bp).gr bk).gr bo).gr bj).gr bq).gr bw).gr bN).gr bY).gr bZ).gr b9).gr b8).st cA c8).gr ca).gr a0).gr bi).gr fz).st f7 (Ne.symm dv)
     refine endN [D9] _ (List.Pairwise.cons (fun _ h=>absurd h (by simp)) List.Pairwise.nil) (List.forall_mem_cons.2 ⟨⟨Q9,L9⟩,(fun _ h=>absurd h (by simp))⟩) hB (fun hX d9 hB=>?_)
     replace L3:=d9.lc L3 (by decide)
     refine ⟨(.agg #[cU,dh,di,c7,cE,cP,cD,da]),(ret_cell _ _ _ rfl rfl L3 (by kernel_rfl)),?_,hB⟩
     have dy:=fP.trans (d9.kp (by decide))
     replace bE:=bE.kp dy
     replace bP:=bP.kp dy
     replace bM:=bM.kp dy
     replace bH:=bH.kp dy
     exact (by rw [qrow3f c5 ct dq];exact ⟨_,_,_,_,_,_,_,_,rfl,bE.mono (by omega),bP.mono (by omega),bM.mono (by omega),bH.mono (by omega)⟩)
   ·refine wp_exit ?_
    simp only [Exit.then,Exit.inBlock,↓reduceIte]
    refine ef _ _ ?_
    try clear ef gA
    refine wp_seq_k (fun hj gf=>?_)
    refine rg [0,1,2,3,4] ?_
    refine sv 136 (.int .i64 1) ?_
    refine sv 137 (.pointer (some ⟨dA,16,none⟩)) ?_
    replace cn:=cn.gr a0
    refine sw 138 (.agg #[fh,fG,ep,eW,dU,dX,d6,dV,eM,fc,fB,eP,eU,eB,ew,el]) rfl (rl 157 16 [fh,fG,ep,eW,dU,dX,d6,dV,eM,fc,fB,eP,eU,eB,ew,el] cn) ?_
    refine se ?_
    have gc:=cy.kp.trans (cq.kp.trans (co.kp.trans (cj.kp.trans (ck.kp.trans (cm.kp.trans (cl.kp.trans (ch.kp.trans (cg.kp.trans (ce.kp.trans (cd.kp.trans (cc.kp.trans (b7.kp.trans (b6.kp.trans (b4.kp.trans (bX.kp.trans (bR.kp.trans (bn.kp.trans (bt.kp.trans (bQ.kp.trans (bG.kp.trans (bv.kp.trans (bm.kp.trans (bu.kp.trans (bp.kp.trans (bk.kp.trans (bo.kp.trans (bj.kp.trans (bq.kp.trans (bw.kp.trans (bN.kp.trans (bY.kp.trans (bZ.kp.trans (b9.kp.trans (b8.kp.trans (bh.trans (ca.kp.trans a0.kp))))))))))))))))))))))))))))))))))))
    replace fE:=fE.kp gc
    replace dQ:=dQ.kp a0.kp
    have gd:=cg.kp.trans (ce.kp.trans (cd.kp.trans (cc.kp.trans (b7.kp.trans (b6.kp.trans (b4.kp.trans (bX.kp.trans (bR.kp.trans (bn.kp.trans (bt.kp.trans (bQ.kp.trans (bG.kp.trans (bv.kp.trans (bm.kp.trans (bu.kp.trans (bp.kp.trans (bk.kp.trans (bo.kp.trans (bj.kp.trans (bq.kp.trans (bw.kp.trans (bN.kp.trans (bY.kp.trans (bZ.kp.trans (b9.kp.trans (b8.kp.trans (bh.trans (ca.kp.trans a0.kp))))))))))))))))))))))))))))
    replace fb:=fb.kp gd
    have f4:=cd.kp.trans (cc.kp.trans (b7.kp.trans (b6.kp.trans (b4.kp.trans (bX.kp.trans (bR.kp.trans (bn.kp.trans (bt.kp.trans (bQ.kp.trans (bG.kp.trans (bv.kp.trans (bm.kp.trans (bu.kp.trans (bp.kp.trans (bk.kp.trans (bo.kp.trans (bj.kp.trans (bq.kp.trans (bw.kp.trans (bN.kp.trans (bY.kp.trans (bZ.kp.trans (b9.kp.trans (b8.kp.trans (bh.trans (ca.kp.trans a0.kp))))))))))))))))))))))))))
    replace et:=et.kp f4
    refine ec 139 (mwhole (k:=8*k+900) (fE.mono (by omega)) (dQ.mono (by omega)) (fb.mono (by omega)) (et.mono (by omega)) (row_pos2f c5 ct) (by omega)) ?_
    rintro iH h2 ⟨⟨cR,cG,cS,cM,db,cK,cF,cV,rfl,bC,bL,bx,bT⟩,en⟩
    refine ⟨_,rfl,?_⟩
    replace hB:=hB.trans en
    simp only [p3,p4]
    refine se ?_
    replace L3:=(cA.lc (L3.gr (dm.trans (dp.trans (dt.trans (dn.trans (dk.trans (dl.trans (de.trans (dd.trans (cB.trans (cC.trans (cx.trans (cy.trans (cq.trans (co.trans (cj.trans (ck.trans (cm.trans (cl.trans (ch.trans (cg.trans (ce.trans (cd.trans (cc.trans (b7.trans (b6.trans (b4.trans (bX.trans (bR.trans (bn.trans (bt.trans (bQ.trans (bG.trans (bv.trans (bm.trans (bu.trans (bp.trans (bk.trans (bo.trans (bj.trans (bq.trans (bw.trans (bN.trans (bY.trans (bZ.trans (b9.trans b8)))))))))))))))))))))))))))))))))))))))))))))) cJ).gr (ca.trans (a0.trans en))
    refine es 125 0 (.agg #[cR,cG,cS,cM,db,cK,cF,cV]) [cR,cG,cS,cM,db,cK,cF,cV] #[cR,cG,cS,cM,db,cK,cF,cV] L3 hB q3 ⟨bC.one0,bC.one1,bL.one0,bL.one1,bx.one0,bx.one1,bT.one0,bT.one1,trivial⟩ fun iO gl gs L3 hB=>?_
    refine sq_nil ?_
    refine gf _ _ ?_
    try clear gf hj
    refine wp_ret ?_
    replace L9:=((((((((((((((((((((((((((((((((((((((((((((((((((L9.gr dm).gr dp).gr dt).gr dn).gr dk).gr dl).gr de).gr dd).gr cB).gr cC).gr cx).gr cy).gr cq).gr co).gr cj).gr ck).gr cm).gr cl).gr ch).gr cg).gr ce).gr cd).gr cc).gr b7).gr b6).gr b4).gr bX).gr bR).gr bn).gr bt).gr bQ).gr bG).gr bv).gr bm).gr bu).gr bp).gr bk).gr bo).gr bj).gr bq).gr bw).gr bN).gr bY).gr bZ).gr b9).gr b8).st cA c8).gr ca).gr a0).gr en).st gl (Ne.symm dv)
    refine endN [D9] _ (List.Pairwise.cons (fun _ h=>absurd h (by simp)) List.Pairwise.nil) (List.forall_mem_cons.2 ⟨⟨Q9,L9⟩,(fun _ h=>absurd h (by simp))⟩) hB (fun iA ei hB=>?_)
    replace L3:=ei.lc L3 (by decide)
    refine ⟨(.agg #[cR,cG,cS,cM,db,cK,cF,cV]),(ret_cell _ _ _ rfl rfl L3 (by kernel_rfl)),?_,hB⟩
    have dB:=gs.trans (ei.kp (by decide))
    replace bC:=bC.kp dB
    replace bL:=bL.kp dB
    replace bx:=bx.kp dB
    replace bT:=bT.kp dB
    exact (by rw [qrow2f c5 ct];exact ⟨_,_,_,_,_,_,_,_,rfl,bC.mono (by omega),bL.mono (by omega),bx.mono (by omega),bT.mono (by omega)⟩)
  ·refine wp_exit ?_
   simp only [Exit.then,Exit.inBlock,↓reduceIte]
   refine ef _ _ ?_
   try clear ef gA
   refine wp_seq_k (fun gP gu=>?_)
   refine rg [0,1,2,3,4] ?_
   refine sv 136 (.int .i64 0) ?_
   refine sv 137 (.pointer (some ⟨dA,0,none⟩)) ?_
   replace cn:=cn.gr ca
   refine sw 138 (.agg #[d0,dY,dW,dS,e4,em,er,fs,fu,eT,eX,eY,eV,fJ,eF,e2]) rfl (rl 157 0 [d0,dY,dW,dS,e4,em,er,fs,fu,eT,eX,eY,eV,fJ,eF,e2] cn) ?_
   refine se ?_
   replace dO:=dO.kp ca.kp
   have fW:=dl.kp.trans (de.kp.trans (dd.kp.trans (cB.kp.trans (cC.kp.trans (cx.kp.trans (cy.kp.trans (cq.kp.trans (co.kp.trans (cj.kp.trans (ck.kp.trans (cm.kp.trans (cl.kp.trans (ch.kp.trans (cg.kp.trans (ce.kp.trans (cd.kp.trans (cc.kp.trans (b7.kp.trans (b6.kp.trans (b4.kp.trans (bX.kp.trans (bR.kp.trans (bn.kp.trans (bt.kp.trans (bQ.kp.trans (bG.kp.trans (bv.kp.trans (bm.kp.trans (bu.kp.trans (bp.kp.trans (bk.kp.trans (bo.kp.trans (bj.kp.trans (bq.kp.trans (bw.kp.trans (bN.kp.trans (bY.kp.trans (bZ.kp.trans (b9.kp.trans (b8.kp.trans (bh.trans ca.kp)))))))))))))))))))))))))))))))))))))))))
   replace eN:=eN.kp fW
   have gi:=dd.kp.trans (cB.kp.trans (cC.kp.trans (cx.kp.trans (cy.kp.trans (cq.kp.trans (co.kp.trans (cj.kp.trans (ck.kp.trans (cm.kp.trans (cl.kp.trans (ch.kp.trans (cg.kp.trans (ce.kp.trans (cd.kp.trans (cc.kp.trans (b7.kp.trans (b6.kp.trans (b4.kp.trans (bX.kp.trans (bR.kp.trans (bn.kp.trans (bt.kp.trans (bQ.kp.trans (bG.kp.trans (bv.kp.trans (bm.kp.trans (bu.kp.trans (bp.kp.trans (bk.kp.trans (bo.kp.trans (bj.kp.trans (bq.kp.trans (bw.kp.trans (bN.kp.trans (bY.kp.trans (bZ.kp.trans (b9.kp.trans (b8.kp.trans (bh.trans ca.kp)))))))))))))))))))))))))))))))))))))))
   replace fm:=fm.kp gi
   have gn:=cC.kp.trans (cx.kp.trans (cy.kp.trans (cq.kp.trans (co.kp.trans (cj.kp.trans (ck.kp.trans (cm.kp.trans (cl.kp.trans (ch.kp.trans (cg.kp.trans (ce.kp.trans (cd.kp.trans (cc.kp.trans (b7.kp.trans (b6.kp.trans (b4.kp.trans (bX.kp.trans (bR.kp.trans (bn.kp.trans (bt.kp.trans (bQ.kp.trans (bG.kp.trans (bv.kp.trans (bm.kp.trans (bu.kp.trans (bp.kp.trans (bk.kp.trans (bo.kp.trans (bj.kp.trans (bq.kp.trans (bw.kp.trans (bN.kp.trans (bY.kp.trans (bZ.kp.trans (b9.kp.trans (b8.kp.trans (bh.trans ca.kp)))))))))))))))))))))))))))))))))))))
   replace eu:=eu.kp gn
   refine ec 139 (mwhole (k:=8*k+900) (dO.mono (by omega)) (eN.mono (by omega)) (fm.mono (by omega)) (eu.mono (by omega)) (row_pos1f c5) (by omega)) ?_
   rintro iq iw ⟨⟨cW,cX,c4,cL,cZ,c9,dj,cT,rfl,bF,bV,bK,bS⟩,ek⟩
   refine ⟨_,rfl,?_⟩
   replace hB:=hB.trans ek
   simp only [p3,p4]
   refine se ?_
   replace L3:=(cA.lc (L3.gr (dm.trans (dp.trans (dt.trans (dn.trans (dk.trans (dl.trans (de.trans (dd.trans (cB.trans (cC.trans (cx.trans (cy.trans (cq.trans (co.trans (cj.trans (ck.trans (cm.trans (cl.trans (ch.trans (cg.trans (ce.trans (cd.trans (cc.trans (b7.trans (b6.trans (b4.trans (bX.trans (bR.trans (bn.trans (bt.trans (bQ.trans (bG.trans (bv.trans (bm.trans (bu.trans (bp.trans (bk.trans (bo.trans (bj.trans (bq.trans (bw.trans (bN.trans (bY.trans (bZ.trans (b9.trans b8)))))))))))))))))))))))))))))))))))))))))))))) cJ).gr (ca.trans ek)
   refine es 125 0 (.agg #[cW,cX,c4,cL,cZ,c9,dj,cT]) [cW,cX,c4,cL,cZ,c9,dj,cT] #[cW,cX,c4,cL,cZ,c9,dj,cT] L3 hB q3 ⟨bF.one0,bF.one1,bV.one0,bV.one1,bK.one0,bK.one1,bS.one0,bS.one1,trivial⟩ fun hW f9 fN L3 hB=>?_
   refine sq_nil ?_
   refine gu _ _ ?_
   try clear gu gP
   refine wp_ret ?_
   replace L9:=(((((((((((((((((((((((((((((((((((((((((((((((((L9.gr dm).gr dp).gr dt).gr dn).gr dk).gr dl).gr de).gr dd).gr cB).gr cC).gr cx).gr cy).gr cq).gr co).gr cj).gr ck).gr cm).gr cl).gr ch).gr cg).gr ce).gr cd).gr cc).gr b7).gr b6).gr b4).gr bX).gr bR).gr bn).gr bt).gr bQ).gr bG).gr bv).gr bm).gr bu).gr bp).gr bk).gr bo).gr bj).gr bq).gr bw).gr bN).gr bY).gr bZ).gr b9).gr b8).st cA c8).gr ca).gr ek).st f9 (Ne.symm dv)
   refine endN [D9] _ (List.Pairwise.cons (fun _ h=>absurd h (by simp)) List.Pairwise.nil) (List.forall_mem_cons.2 ⟨⟨Q9,L9⟩,(fun _ h=>absurd h (by simp))⟩) hB (fun iT ed hB=>?_)
   replace L3:=ed.lc L3 (by decide)
   refine ⟨(.agg #[cW,cX,c4,cL,cZ,c9,dj,cT]),(ret_cell _ _ _ rfl rfl L3 (by kernel_rfl)),?_,hB⟩
   have dw:=fN.trans (ed.kp (by decide))
   replace bF:=bF.kp dw
   replace bV:=bV.kp dw
   replace bK:=bK.kp dw
   replace bS:=bS.kp dw
   exact (by rw [qrow1f c5];exact ⟨_,_,_,_,_,_,_,_,rfl,bF.mono (by omega),bV.mono (by omega),bK.mono (by omega),bS.mono (by omega)⟩)
 ·intro D c prs W _ h;exact h.elim

end Go.Proofs.YtaldbfflkpgfoaaGreatDoor
/- Printed by a program of the prover's:contracts of motions. -/
namespace Go.Proofs.YtaldbfflkpgfoaaGreatDoor
open Go.RowKit

def cMEq:ConT:=con2 asRats asRats fun
 | [(k0,a0),(k1,a1),(k2,a2),(k3,a3),(k4,a4),(k5,a5),(k6,a6),(k7,a7),(k8,a8),(k9,a9),(k10,a10),(k11,a11)],[(m0,b0),(m1,b1),(m2,b2),(m3,b3),(m4,b4),(m5,b5),(m6,b6),(m7,b7),(m8,b8),(m9,b9),(m10,b10),(m11,b11)],_,_=>tr (Nat.ble k0 40000&&Nat.ble k1 40000&&Nat.ble k2 40000&&Nat.ble k3 40000&&Nat.ble k4 40000&&Nat.ble k5 40000&&Nat.ble k6 40000&&Nat.ble k7 40000&&Nat.ble k8 40000&&Nat.ble k9 40000&&Nat.ble k10 40000&&Nat.ble k11 40000&&Nat.ble m0 40000&&Nat.ble m1 40000&&Nat.ble m2 40000&&Nat.ble m3 40000&&Nat.ble m4 40000&&Nat.ble m5 40000&&Nat.ble m6 40000&&Nat.ble m7 40000&&Nat.ble m8 40000&&Nat.ble m9 40000&&Nat.ble m10 40000&&Nat.ble m11 40000) (.leaf (.so (.vc (.cb (decide ([a0,a1,a2,a3,a4,a5,a6,a7,a8,a9,a10,a11]=[b0,b1,b2,b3,b4,b5,b6,b7,b8,b9,b10,b11])) none))) 0 0)
 | _,_,_,_=>none
def cTurn:ConT:=con1 asRats fun
 | [(k0,a0),(k1,a1),(k2,a2),(k3,a3),(k4,a4),(k5,a5),(k6,a6),(k7,a7),(k8,a8),(k9,_a9),(k10,_a10),(k11,_a11)],_,nz=>tr (Nat.ble k0 800&&Nat.ble k1 800&&Nat.ble k2 800&&Nat.ble k3 800&&Nat.ble k4 800&&Nat.ble k5 800&&Nat.ble k6 800&&Nat.ble k7 800&&Nat.ble k8 800&&Nat.ble k9 100000&&Nat.ble k10 100000&&Nat.ble k11 100000) (.leaf (newInts nz 40128 (wzq (qrow a0 a1 a2 a3 a4 a5 a6 a7 a8) 0) (wzq (qrow a0 a1 a2 a3 a4 a5 a6 a7 a8) 1) (wzq (qrow a0 a1 a2 a3 a4 a5 a6 a7 a8) 2) (wzq (qrow a0 a1 a2 a3 a4 a5 a6 a7 a8) 3)) 0 4)
 | _,_,_=>none
section
variable {I:World→Prop}
theorem cMEq_ok:ConOK Tryz.prog I 16 cMEq:=con2_ok fun _ _ _ _ _ _ _ _ _ h1 h2 hx hy hT _=>by
 split at hT
 ·obtain ⟨hb,rfl⟩:=tr_some hT
  simp only [Bool.and_eq_true,Nat.ble_eq] at hb
  obtain ⟨vs,e1,hA⟩:=asRats_ok h1 hx
  obtain ⟨us,e2,hB⟩:=asRats_ok h2 hy
  rw [e1,e2]
  obtain ⟨bu,cO,cS,ba,cN,rfl,ah,hA⟩:=hA.cons
  obtain ⟨pa1,bA,cj,bC,cK,rfl,aq,hA⟩:=hA.cons
  obtain ⟨cC,cx,a6,bN,bo,rfl,aD,hA⟩:=hA.cons
  obtain ⟨bv,bg,ct,co,bP,rfl,au,hA⟩:=hA.cons
  obtain ⟨bh,bD,bf,cJ,a4,rfl,az,hA⟩:=hA.cons
  obtain ⟨ck,bB,bO,bU,cy,rfl,ar,hA⟩:=hA.cons
  obtain ⟨bQ,cm,bT,aZ,bZ,rfl,af,hA⟩:=hA.cons
  obtain ⟨cg,cl,bJ,bb,cL,rfl,ak,hA⟩:=hA.cons
  obtain ⟨a8,cF,a7,bE,bt,rfl,ax,hA⟩:=hA.cons
  obtain ⟨cq,bc,bS,bH,bG,rfl,av,hA⟩:=hA.cons
  obtain ⟨aU,aX,aH,aN,aL,rfl,ab,hA⟩:=hA.cons
  obtain ⟨aJ,aF,aM,aE,aI,rfl,aa,hA⟩:=hA.cons
  obtain rfl:=hA.nil
  replace ah:=ah.mono (m:=40000) (by omega)
  replace aq:=aq.mono (m:=40000) (by omega)
  replace aD:=aD.mono (m:=40000) (by omega)
  replace au:=au.mono (m:=40000) (by omega)
  replace az:=az.mono (m:=40000) (by omega)
  replace ar:=ar.mono (m:=40000) (by omega)
  replace af:=af.mono (m:=40000) (by omega)
  replace ak:=ak.mono (m:=40000) (by omega)
  replace ax:=ax.mono (m:=40000) (by omega)
  replace av:=av.mono (m:=40000) (by omega)
  replace ab:=ab.mono (m:=40000) (by omega)
  replace aa:=aa.mono (m:=40000) (by omega)
  obtain ⟨bF,b8,bd,a1,aY,rfl,ae,hB⟩:=hB.cons
  obtain ⟨ca,b6,a2,a3,cG,rfl,aA,hB⟩:=hB.cons
  obtain ⟨bV,a0,bW,ce,bX,rfl,ap,hB⟩:=hB.cons
  obtain ⟨cu,bz,bY,cA,cP,rfl,aw,hB⟩:=hB.cons
  obtain ⟨bq,cn,cB,bi,b4,rfl,aC,hB⟩:=hB.cons
  obtain ⟨bK,a5,bn,ch,cc,rfl,aB,hB⟩:=hB.cons
  obtain ⟨cE,cR,bp,bM,bm,rfl,ai,hB⟩:=hB.cons
  obtain ⟨b7,cd,bj,cD,bw,rfl,al,hB⟩:=hB.cons
  obtain ⟨bR,a9,bx,cH,cM,rfl,aj,hB⟩:=hB.cons
  obtain ⟨b9,b5,cQ,bL,bk,rfl,ay,hB⟩:=hB.cons
  obtain ⟨aP,aT,aG,aR,aO,rfl,ad,hB⟩:=hB.cons
  obtain ⟨aK,aS,aQ,aV,aW,rfl,ac,hB⟩:=hB.cons
  obtain rfl:=hB.nil
  replace ae:=ae.mono (m:=40000) (by omega)
  replace aA:=aA.mono (m:=40000) (by omega)
  replace ap:=ap.mono (m:=40000) (by omega)
  replace aw:=aw.mono (m:=40000) (by omega)
  replace aC:=aC.mono (m:=40000) (by omega)
  replace aB:=aB.mono (m:=40000) (by omega)
  replace ai:=ai.mono (m:=40000) (by omega)
  replace al:=al.mono (m:=40000) (by omega)
  replace aj:=aj.mono (m:=40000) (by omega)
  replace ay:=ay.mono (m:=40000) (by omega)
  replace ad:=ad.mono (m:=40000) (by omega)
  replace ac:=ac.mono (m:=40000) (by omega)
  exact (mequal (k:=40000) (m:=40000) ah aq aD au az ar af ak ax av ab aa ae aA ap aw aC aB ai al aj ay ad ac (by decide)).mono fun e w' he=>val_holds he ⟨rfl,fun v hv=>by cases hv⟩
 ·cases hT
theorem cTurn_ok:ConOK Tryz.prog I 67 cTurn:=con1_ok fun _ _ _ _ _ _ _ h1 h2 hT _=>by
 split at hT
 ·obtain ⟨hb,rfl⟩:=tr_some hT
  simp only [Bool.and_eq_true,Nat.ble_eq] at hb
  obtain ⟨vs,e1,hA⟩:=asRats_ok h1 h2
  rw [e1]
  obtain ⟨aP,bp,bq,aH,bo,rfl,ad,hA⟩:=hA.cons
  obtain ⟨pa1,aR,a8,aT,bm,rfl,af,hA⟩:=hA.cons
  obtain ⟨bi,bg,aE,aZ,aN,rfl,ap,hA⟩:=hA.cons
  obtain ⟨aQ,aL,bf,bc,a1,rfl,ai,hA⟩:=hA.cons
  obtain ⟨aM,aU,aK,bk,aD,rfl,al,hA⟩:=hA.cons
  obtain ⟨a9,aS,a0,a5,bh,rfl,ah,hA⟩:=hA.cons
  obtain ⟨a2,bb,a4,aC,a6,rfl,ac,hA⟩:=hA.cons
  obtain ⟨a7,ba,aY,aI,bn,rfl,ae,hA⟩:=hA.cons
  obtain ⟨aG,bj,aF,aV,aO,rfl,ak,hA⟩:=hA.cons
  obtain ⟨bd,aJ,a3,aX,aW,rfl,aj,hA⟩:=hA.cons
  obtain ⟨aA,aB,au,az,ax,rfl,ab,hA⟩:=hA.cons
  obtain ⟨aw,ar,ay,aq,av,rfl,aa,hA⟩:=hA.cons
  obtain rfl:=hA.nil
  replace ad:=ad.mono (m:=800) (by omega)
  replace af:=af.mono (m:=800) (by omega)
  replace ap:=ap.mono (m:=800) (by omega)
  replace ai:=ai.mono (m:=800) (by omega)
  replace al:=al.mono (m:=800) (by omega)
  replace ah:=ah.mono (m:=800) (by omega)
  replace ac:=ac.mono (m:=800) (by omega)
  replace ae:=ae.mono (m:=800) (by omega)
  replace ak:=ak.mono (m:=800) (by omega)
  replace aj:=aj.mono (m:=100000) (by omega)
  replace ab:=ab.mono (m:=100000) (by omega)
  replace aa:=aa.mono (m:=100000) (by omega)
  exact (mturnq (k:=800) (ks:=100000) ad af ap ai al ah ac ae ak aj ab aa (by decide) (by decide)).mono fun e w' he=>newInts_holds he
 ·cases hT
end
end Go.Proofs.YtaldbfflkpgfoaaGreatDoor
/- Printed by a program of the prover's:what known needs. -/
namespace Go.Proofs.YtaldbfflkpgfoaaGreatDoor
open Go.RowKit

noncomputable def tabN:List (Nat × List (Nat × Ent)):=[(19,[(5,.ord [(true,0),(true,1),(true,3),(true,4),(false,2),(true,5),(false,6)] [1])]),
 (22,[]),
 (24,[(9,.ord [(true,0),(true,1),(true,2),(true,3),(true,5),(true,6),(false,4),(true,7),(false,8)] [5])]),
 (30,[(1,.flo [(true,0),(true,1),(true,2),(true,3),(false,4),(true,5),(false,6)] [(7,3,41)] [(false,8)] []),(2,.ord [(true,0),(false,1),(false,2),(true,3),(true,4),(true,5),(true,6),(true,7),(true,8),(true,9),(true,10),(true,11),(true,12),(false,13),(false,14),(true,15),(true,16),(true,17)] [])]),
 (32,[]),
 (36,[]),
 (38,[]),
 (39,[(1,.ord [(true,0),(true,1),(true,2),(false,3),(false,4),(false,5)] [6])]),
 (41,[(6,.ord [(true,0),(true,1),(true,2),(true,3),(true,4),(true,5),(true,6),(true,8),(true,9),(true,10),(true,11),(true,12),(true,13),(false,7),(false,14),(false,15),(true,16),(false,17)] [5])]),
 (43,[(1,.ord [(true,0),(true,1),(true,3),(true,4),(false,2),(false,5),(false,6)] [4])]),
 (44,[]),
 (69,[(8,.ord [(true,0),(true,1),(true,2),(true,3),(true,4),(false,5)] [3])]),
 (74,[(5,.ord [(true,0),(true,1),(true,2),(true,3),(true,4),(true,5),(true,6),(true,7),(false,8),(true,9),(false,10)] [7])]),
 (83,[]),
 (86,[])]
noncomputable def conN:List (Nat × ConT):=[(103,conRR 100000 (fun k m=>k+m+1) (fun a b=>a+b)),
 (75,conRR 100000 (fun k m=>k+m+1) (fun a b=>a - b)),
 (82,conRR 100000 (fun k m=>k+m) (fun a b=>a*b)),
 (108,cNeg),
 (59,cFrom),
 (37,cComp),
 (76,cSign),
 (87,cNumb),
 (130,cNum),
 (81,cDen),
 (58,cDiv),
 (96,cZFrom),
 (80,cZMul),
 (122,cZGcd),
 (123,cZDiv),
 (68,cZInt),
 (105,cTT (fun k m=>k+m+1) fun a b=>a+b),
 (132,cTT (fun k m=>k+m+1) fun a b=>a - b),
 (106,cTT (fun k m=>k+m) fun a b=>a*b),
 (64,cTDiv),
 (115,cTNeg),
 (65,cTFrom),
 (94,cPars 400),
 (107,cPars 65536),
 (15,cChk),
 (66,cPrim),
 (14,cOf),
 (16,cMEq),
 (67,cTurn)]
noncomputable def sysN:Sys:=⟨Tryz.prog,2,199,tabN,conN,fun w=>Tab w∧Mx w⟩
theorem sysN_ok:sysN.OK where
 mixed:=by kernel_rfl
 calls:=fun f h0 h1=>by
  have:(List.range 199).all (fun f=>Nat.blt f 2||okCall Tryz.prog f)=true:=by kernel_rfl
  have:=List.all_eq_true.1 this f (List.mem_range.2 h1)
  simp only [Bool.or_eq_true] at this
  exact this.resolve_left (fun e=>by have:=blt_of e;exact absurd h0 (by show ¬ 2≤f;omega))
 tab:=by
  have:tabN.all (okTab Tryz.prog)=true:=by kernel_rfl
  exact fun x hx=>List.all_eq_true.1 this x hx
 lps:=lps_no (by kernel_rfl)
 con:=fun x hx=>by
  simp only [sysN,conN,List.mem_cons,List.not_mem_nil,or_false] at hx
  rcases hx with rfl | rfl | rfl | rfl | rfl | rfl | rfl | rfl | rfl | rfl | rfl | rfl | rfl | rfl | rfl | rfl | rfl | rfl | rfl | rfl | rfl | rfl | rfl | rfl | rfl | rfl | rfl | rfl | rfl
  ·exact conRR_ok fun h1 h2 h3=>add_r h1 h2 h3
  ·exact conRR_ok fun h1 h2 h3=>sub_r h1 h2 h3
  ·exact conRR_ok fun h1 h2 h3=>mul_r h1 h2 h3
  ·exact cNeg_ok
  ·exact cFrom_ok
  ·exact cComp_ok
  ·exact cSign_ok
  ·exact cNumb_ok fun w h=>h.1
  ·exact cNum_ok
  ·exact cDen_ok
  ·exact cDiv_ok
  ·exact cZFrom_ok
  ·exact cZMul_ok
  ·exact cZGcd_ok
  ·exact cZDiv_ok
  ·exact cZInt_ok
  ·exact cTAdd_ok
  ·exact cTSub_ok
  ·exact cTMul_ok
  ·exact cTDiv_ok
  ·exact cTNeg_ok
  ·exact cTFrom_ok
  ·exact cPars_ok fun w h=>h.2
  ·exact cRead_ok fun w h=>h.2
  ·exact cChk_ok fun w h=>h.2
  ·exact cPrim_ok
  ·exact cOf_ok fun w h=>h
  ·exact cMEq_ok
  ·exact cTurn_ok
 inv:=fun w w' h g=>⟨h.1.gr g,h.2.gr g⟩
def okLf (p:SV→Bool):Lf→Bool
 | .ret v=>p v
 | .br t a b=>match t with
  | true=>okLf p a
  | false=>okLf p b
 | .as t v a=>match t,v with
  | true,true=>okLf p a
  | false,false=>okLf p a
  | _,_=>false
theorem okLf_ok {p:SV→Bool}:∀ {L:Lf},okLf p L=true→LOK (fun v=>p v=true) L
 | .ret v,h=>h
 | .br t a b,h=>by
  cases t with
  | true=>exact ⟨fun _=>okLf_ok (L:=a) h,fun e=>by cases e⟩
  | false=>exact ⟨fun e=>(by cases e),fun _=>okLf_ok (L:=b) h⟩
 | .as t v a,h=>by
  cases t<;>cases v<;>first | exact absurd h (by show ¬(false=true);decide) | exact ⟨rfl,okLf_ok (L:=a) h⟩
def okRun (p:SV→Bool):Rs→Bool
 | some L=>okLf p L
 | none=>false
theorem okRun_ok {p:SV→Bool} {r:Rs} (h:okRun p r=true):∃ L,r=some L∧LOK (fun v=>p v=true) L:=by
 cases r with
 | none=>cases h
 | some L=>exact ⟨L,rfl,okLf_ok h⟩
def tz0 (c:Cl):Bool:=match txC c with
 | some (_,q)=>decide (q=0)
 | none=>false
def tzE:Cl→Bool
 | .cw [] _=>true
 | _=>false
def pJ (z e:Int) (tz:Cl→Bool):SV→Bool
 | .st [.vg [.ci .i64 a _ _,.ci .i64 b _ _,.ci .i64 c _ _,.ci .i64 d _ _,t1,t2,t3],.vc (.ci .i64 f _ _)]=>decide (a=0)&&decide (b=0)&&decide (c=0)&&decide (d=z)&&decide (f=e)&&tz t1&&tz t2&&tz t3
 | _=>false
theorem runJ1:okRun (pJ 1 0 tz0) (runF sysN 32 [.so (.vg [.ci .i64 1 1 1,.ci .i64 0 0 0,.ci .i64 0 0 0,.ci .i64 1 1 1,.cw (ratL 0) (some (64,0)),.cw (ratL 0) (some (64,0)),.cw (ratL 0) (some (64,0))]),.so (.vg [.ci .i64 1 1 1,.ci .i64 0 0 0,.ci .i64 0 0 0,.ci .i64 1 1 1,.cw (ratL 0) (some (64,0)),.cw (ratL 0) (some (64,0)),.cw (ratL 0) (some (64,0))])] 0 0 .c)=true:=by kernel_rfl
theorem runJ2:okRun (pJ 0 2 tzE) (runF sysN 32 [.so (.vg [.ci .i64 12 12 12,.ci .i64 1 1 1,.ci .i64 0 0 0,.ci .i64 0 0 0,.cw (ratL 0) (some (64,0)),.cw (ratL 0) (some (64,0)),.cw (ratL 0) (some (64,0))]),.so (.vg [.ci .i64 12 12 12,.ci .i64 1 1 1,.ci .i64 0 0 0,.ci .i64 0 0 0,.cw (ratL 0) (some (64,0)),.cw (ratL 0) (some (64,0)),.cw (ratL 0) (some (64,0))])] 0 0 .c)=true:=by kernel_rfl
theorem tz0_ok {n:Nn} {X:Env} {w:World} {c:Cl} (h:tz0 c=true) (hc:c.ok n X w):c.den X=.string ⟨([48]:List UInt8).toArray⟩:=by
 unfold tz0 at h
 split at h
 ·rename_i k q e
  rw [(txC_ok e hc).1,of_decide_eq_true h,ratL0]
 ·cases h
theorem tzE_ok {X:Env} {c:Cl} (h:tzE c=true):c.den X=.string ⟨([]:List UInt8).toArray⟩:=by
 unfold tzE at h
 split at h
 ·rfl
 ·cases h
theorem pJ_ok {n:Nn} {X:Env} {w:World} {z e:Int} {tz:Cl→Bool} {v:SV} (h:pJ z e tz v=true) (hv:v.ok n X w):∃ c1 c2 c3:Cl,v.den X=.tuple #[.agg #[.int .i64 0,.int .i64 0,.int .i64 0,.int .i64 z,c1.den X,c2.den X,c3.den X],.int .i64 e]∧(tz c1=true∧c1.ok n X w)∧(tz c2=true∧c2.ok n X w)∧(tz c3=true∧c3.ok n X w):=by
 unfold pJ at h
 split at h
 ·rename_i a _ _ b _ _ c _ _ d _ _ t1 t2 t3 f _ _
  simp only [Bool.and_eq_true,decide_eq_true_eq] at h
  obtain ⟨⟨⟨⟨⟨⟨⟨rfl,rfl⟩,rfl⟩,rfl⟩,rfl⟩,h1⟩,h2⟩,h3⟩:=h
  have g:=hv (.vg _) (.head _)
  exact ⟨t1,t2,t3,rfl,⟨h1,g t1 (by simp)⟩,⟨h2,g t2 (by simp)⟩,⟨h3,g t3 (by simp)⟩⟩
 ·cases h
theorem tx0 (w:World):(Cl.cw (ratL 0) (some (64,0))).ok ⟨0,0,0⟩ (envR []) w:=⟨rfl,fun k q e=>by cases e;exact ⟨rfl,Nat.two_pow_pos _,Nat.one_lt_two_pow (by decide)⟩⟩
theorem ci0 (z:Int) (w:World):(Cl.ci .i64 z z z).ok ⟨0,0,0⟩ (envR []) w:=⟨rfl,Int.le_refl _,Int.le_refl _⟩
theorem okq (a b c d:Int) (w:World):SV.ok ⟨0,0,0⟩ (envR []) w (.so (.vg [.ci .i64 a a a,.ci .i64 b b b,.ci .i64 c c c,.ci .i64 d d d,.cw (ratL 0) (some (64,0)),.cw (ratL 0) (some (64,0)),.cw (ratL 0) (some (64,0))])):=okA_ok ⟨ci0 _ _,ci0 _ _,ci0 _ _,ci0 _ _,tx0 _,tx0 _,tx0 _,trivial⟩
theorem okF2 {n:Nn} {X:Env} {W:World} {u v:SV} (h1:u.ok n X W) (h2:v.ok n X W):okF n X W [u,v]:=fun x hx=>by
 simp only [List.mem_cons,List.not_mem_nil,or_false] at hx
 rcases hx with rfl | rfl
 ·exact h1
 ·exact h2
theorem join_k1 (w:World) (hm:Mx w) (ht:Tab w):
  Calls Tryz.prog 32 #[.agg #[.int .i64 1,.int .i64 0,.int .i64 0,.int .i64 1,.string ⟨([48]:List UInt8).toArray⟩,.string ⟨([48]:List UInt8).toArray⟩,.string ⟨([48]:List UInt8).toArray⟩],.agg #[.int .i64 1,.int .i64 0,.int .i64 0,.int .i64 1,.string ⟨([48]:List UInt8).toArray⟩,.string ⟨([48]:List UInt8).toArray⟩,.string ⟨([48]:List UInt8).toArray⟩]] w fun e w'=>e=.returned (.tuple #[.agg #[.int .i64 0,.int .i64 0,.int .i64 0,.int .i64 1,.string ⟨([48]:List UInt8).toArray⟩,.string ⟨([48]:List UInt8).toArray⟩,.string ⟨([48]:List UInt8).toArray⟩],.int .i64 0])∧Gr w w':=by
 obtain ⟨L,hr,hL⟩:=okRun_ok runJ1
 have:=(run_calls sysN sysN_ok hr (X:=envR []) ⟨ht,hm⟩ (okF2 (okq 1 0 0 1 w) (okq 1 0 0 1 w)) hL)
 rw [show ([.so (.vg [.ci .i64 1 1 1,.ci .i64 0 0 0,.ci .i64 0 0 0,.ci .i64 1 1 1,.cw (ratL 0) (some (64,0)),.cw (ratL 0) (some (64,0)),.cw (ratL 0) (some (64,0))]),.so (.vg [.ci .i64 1 1 1,.ci .i64 0 0 0,.ci .i64 0 0 0,.ci .i64 1 1 1,.cw (ratL 0) (some (64,0)),.cw (ratL 0) (some (64,0)),.cw (ratL 0) (some (64,0))])].map (SV.den (envR []))).toArray=#[.agg #[.int .i64 1,.int .i64 0,.int .i64 0,.int .i64 1,.string ⟨(ratL 0).toArray⟩,.string ⟨(ratL 0).toArray⟩,.string ⟨(ratL 0).toArray⟩],.agg #[.int .i64 1,.int .i64 0,.int .i64 0,.int .i64 1,.string ⟨(ratL 0).toArray⟩,.string ⟨(ratL 0).toArray⟩,.string ⟨(ratL 0).toArray⟩]] from rfl,ratL0] at this
 refine this.mono fun e w' he=>?_
 obtain ⟨v,X',n,rfl,g,_,hv,hp⟩:=he
 obtain ⟨c1,c2,c3,e,h1,h2,h3⟩:=pJ_ok hp hv
 exact ⟨by rw [e,tz0_ok h1.1 h1.2,tz0_ok h2.1 h2.2,tz0_ok h3.1 h3.2],g⟩
theorem join_k2 (w:World) (hm:Mx w) (ht:Tab w):
  Calls Tryz.prog 32 #[.agg #[.int .i64 12,.int .i64 1,.int .i64 0,.int .i64 0,.string ⟨([48]:List UInt8).toArray⟩,.string ⟨([48]:List UInt8).toArray⟩,.string ⟨([48]:List UInt8).toArray⟩],.agg #[.int .i64 12,.int .i64 1,.int .i64 0,.int .i64 0,.string ⟨([48]:List UInt8).toArray⟩,.string ⟨([48]:List UInt8).toArray⟩,.string ⟨([48]:List UInt8).toArray⟩]] w fun e w'=>e=.returned (.tuple #[.agg #[.int .i64 0,.int .i64 0,.int .i64 0,.int .i64 0,.string ⟨([]:List UInt8).toArray⟩,.string ⟨([]:List UInt8).toArray⟩,.string ⟨([]:List UInt8).toArray⟩],.int .i64 2])∧Gr w w':=by
 obtain ⟨L,hr,hL⟩:=okRun_ok runJ2
 have:=(run_calls sysN sysN_ok hr (X:=envR []) ⟨ht,hm⟩ (okF2 (okq 12 1 0 0 w) (okq 12 1 0 0 w)) hL)
 rw [show ([.so (.vg [.ci .i64 12 12 12,.ci .i64 1 1 1,.ci .i64 0 0 0,.ci .i64 0 0 0,.cw (ratL 0) (some (64,0)),.cw (ratL 0) (some (64,0)),.cw (ratL 0) (some (64,0))]),.so (.vg [.ci .i64 12 12 12,.ci .i64 1 1 1,.ci .i64 0 0 0,.ci .i64 0 0 0,.cw (ratL 0) (some (64,0)),.cw (ratL 0) (some (64,0)),.cw (ratL 0) (some (64,0))])].map (SV.den (envR []))).toArray=#[.agg #[.int .i64 12,.int .i64 1,.int .i64 0,.int .i64 0,.string ⟨(ratL 0).toArray⟩,.string ⟨(ratL 0).toArray⟩,.string ⟨(ratL 0).toArray⟩],.agg #[.int .i64 12,.int .i64 1,.int .i64 0,.int .i64 0,.string ⟨(ratL 0).toArray⟩,.string ⟨(ratL 0).toArray⟩,.string ⟨(ratL 0).toArray⟩]] from rfl,ratL0] at this
 refine this.mono fun e w' he=>?_
 obtain ⟨v,X',n,rfl,g,_,hv,hp⟩:=he
 obtain ⟨c1,c2,c3,e,h1,h2,h3⟩:=pJ_ok hp hv
 exact ⟨by rw [e,tzE_ok h1.1,tzE_ok h2.1,tzE_ok h3.1],g⟩
theorem IsRats.open12 {w':World} {vs:List Value} {r0 r1 r2 r3 r4 r5 r6 r7 r8 r9 aT aS:Rat} (h:IsRats w' vs [(64,r0),(64,r1),(64,r2),(64,r3),(64,r4),(64,r5),(64,r6),(64,r7),(64,r8),(64,r9),(64,aT),(64,aS)]):∃ t0 t1 t2 t3 t4 t5 t6 t7 t8 t9 ah aG aw af aa ad ay aN aP aO aC ap ax ak aD aM aJ aH ae ab aj aR aq aF az av ar aK aL aI aE aA ai aQ aB au ac al,vs=[t0,t1,t2,t3,t4,t5,t6,t7,t8,t9,ah,aG,aw,af,aa,ad,ay,aN,aP,aO,aC,ap,ax,ak,aD,aM,aJ,aH,ae,ab,aj,aR,aq,aF,az,av,ar,aK,aL,aI,aE,aA,ai,aQ,aB,au,ac,al]∧IsRat w' 64 t0 t1 t2 t3 r0∧IsRat w' 64 t4 t5 t6 t7 r1∧IsRat w' 64 t8 t9 ah aG r2∧IsRat w' 64 aw af aa ad r3∧IsRat w' 64 ay aN aP aO r4∧IsRat w' 64 aC ap ax ak r5∧IsRat w' 64 aD aM aJ aH r6∧IsRat w' 64 ae ab aj aR r7∧IsRat w' 64 aq aF az av r8∧IsRat w' 64 ar aK aL aI r9∧IsRat w' 64 aE aA ai aQ aT∧IsRat w' 64 aB au ac al aS:=by
 obtain ⟨t0,t1,t2,t3,u0,rfl,h0,g0⟩:=h.cons
 obtain ⟨t4,t5,t6,t7,u1,rfl,h1,g1⟩:=g0.cons
 obtain ⟨t8,t9,ah,aG,u2,rfl,h2,g2⟩:=g1.cons
 obtain ⟨aw,af,aa,ad,u3,rfl,h3,g3⟩:=g2.cons
 obtain ⟨ay,aN,aP,aO,u4,rfl,h4,g4⟩:=g3.cons
 obtain ⟨aC,ap,ax,ak,u5,rfl,h5,g5⟩:=g4.cons
 obtain ⟨aD,aM,aJ,aH,u6,rfl,h6,g6⟩:=g5.cons
 obtain ⟨ae,ab,aj,aR,u7,rfl,h7,g7⟩:=g6.cons
 obtain ⟨aq,aF,az,av,u8,rfl,h8,g8⟩:=g7.cons
 obtain ⟨ar,aK,aL,aI,u9,rfl,h9,g9⟩:=g8.cons
 obtain ⟨aE,aA,ai,aQ,aY,rfl,aX,aW⟩:=g9.cons
 obtain ⟨aB,au,ac,al,aZ,rfl,aV,aU⟩:=aW.cons
 obtain rfl:=aU.nil
 exact ⟨t0,t1,t2,t3,t4,t5,t6,t7,t8,t9,ah,aG,aw,af,aa,ad,ay,aN,aP,aO,aC,ap,ax,ak,aD,aM,aJ,aH,ae,ab,aj,aR,aq,aF,az,av,ar,aK,aL,aI,aE,aA,ai,aQ,aB,au,ac,al,rfl,h0,h1,h2,h3,h4,h5,h6,h7,h8,h9,aX,aV⟩
theorem vk1:VT 1 0 0 1:=⟨by decide,by decide,by decide,by decide,by decide+kernel,by decide+kernel⟩
theorem mof_k1 (w:World) (hm:Mx w) (ht:Tab w):
  Calls Tryz.prog 14 #[.agg #[.int .i64 1,.int .i64 0,.int .i64 0,.int .i64 1,.string ⟨([48]:List UInt8).toArray⟩,.string ⟨([48]:List UInt8).toArray⟩,.string ⟨([48]:List UInt8).toArray⟩]] w fun e w'=>(∃ t0 t1 t2 t3 t4 t5 t6 t7 t8 t9 av aF aH au ab af aJ ax aI aA aj ac aK aE ak ap aP aG ar ad aC aO ah aw aQ aD ay ai al aM aq aR aB aN aa az ae aL,e=.returned (.tuple #[.agg #[t0,t1,t2,t3,t4,t5,t6,t7,t8,t9,av,aF,aH,au,ab,af,aJ,ax,aI,aA,aj,ac,aK,aE,ak,ap,aP,aG,ar,ad,aC,aO,ah,aw,aQ,aD,ay,ai,al,aM,aq,aR,aB,aN,aa,az,ae,aL],.int .i64 0])∧IsRat w' 64 t0 t1 t2 t3 0∧IsRat w' 64 t4 t5 t6 t7 (-1)∧IsRat w' 64 t8 t9 av aF 0∧IsRat w' 64 aH au ab af 1∧IsRat w' 64 aJ ax aI aA 0∧IsRat w' 64 aj ac aK aE 0∧IsRat w' 64 ak ap aP aG 0∧IsRat w' 64 ar ad aC aO 0∧IsRat w' 64 ah aw aQ aD 1∧IsRat w' 64 ay ai al aM 0∧IsRat w' 64 aq aR aB aN 0∧IsRat w' 64 aa az ae aL 0)∧Gr w w':=by
 have z:RS 64 (0:Rat):=⟨Nat.two_pow_pos _,Nat.one_lt_two_pow (by decide)⟩
 have:=of_c vk1 z z z w ⟨ht,hm⟩
 rw [ratL0,show oList 1 0 0 1 0 0 0=[(64,0),(64,(-1)),(64,0),(64,1),(64,0),(64,0),(64,0),(64,0),(64,1),(64,0),(64,0),(64,0)] by decide+kernel] at this
 refine this.mono fun e w' he=>?_
 obtain ⟨⟨vs,rfl,h⟩,g⟩:=he
 obtain ⟨t0,t1,t2,t3,t4,t5,t6,t7,t8,t9,av,aF,aH,au,ab,af,aJ,ax,aI,aA,aj,ac,aK,aE,ak,ap,aP,aG,ar,ad,aC,aO,ah,aw,aQ,aD,ay,ai,al,aM,aq,aR,aB,aN,aa,az,ae,aL,rfl,k⟩:=h.open12
 exact ⟨⟨t0,t1,t2,t3,t4,t5,t6,t7,t8,t9,av,aF,aH,au,ab,af,aJ,ax,aI,aA,aj,ac,aK,aE,ak,ap,aP,aG,ar,ad,aC,aO,ah,aw,aQ,aD,ay,ai,al,aM,aq,aR,aB,aN,aa,az,ae,aL,rfl,k⟩,g⟩
theorem vk2:VT 2 1 0 0:=⟨by decide,by decide,by decide,by decide,by decide+kernel,by decide+kernel⟩
theorem mof_k2 (w:World) (hm:Mx w) (ht:Tab w):
  Calls Tryz.prog 14 #[.agg #[.int .i64 2,.int .i64 1,.int .i64 0,.int .i64 0,.string ⟨([48]:List UInt8).toArray⟩,.string ⟨([48]:List UInt8).toArray⟩,.string ⟨([48]:List UInt8).toArray⟩]] w fun e w'=>(∃ t0 t1 t2 t3 t4 t5 t6 t7 t8 t9 av aF aH au ab af aJ ax aI aA aj ac aK aE ak ap aP aG ar ad aC aO ah aw aQ aD ay ai al aM aq aR aB aN aa az ae aL,e=.returned (.tuple #[.agg #[t0,t1,t2,t3,t4,t5,t6,t7,t8,t9,av,aF,aH,au,ab,af,aJ,ax,aI,aA,aj,ac,aK,aE,ak,ap,aP,aG,ar,ad,aC,aO,ah,aw,aQ,aD,ay,ai,al,aM,aq,aR,aB,aN,aa,az,ae,aL],.int .i64 0])∧IsRat w' 64 t0 t1 t2 t3 1∧IsRat w' 64 t4 t5 t6 t7 0∧IsRat w' 64 t8 t9 av aF 0∧IsRat w' 64 aH au ab af 0∧IsRat w' 64 aJ ax aI aA (3/5)∧IsRat w' 64 aj ac aK aE (-4/5)∧IsRat w' 64 ak ap aP aG 0∧IsRat w' 64 ar ad aC aO (4/5)∧IsRat w' 64 ah aw aQ aD (3/5)∧IsRat w' 64 ay ai al aM 0∧IsRat w' 64 aq aR aB aN 0∧IsRat w' 64 aa az ae aL 0)∧Gr w w':=by
 have z:RS 64 (0:Rat):=⟨Nat.two_pow_pos _,Nat.one_lt_two_pow (by decide)⟩
 have:=of_c vk2 z z z w ⟨ht,hm⟩
 rw [ratL0,show oList 2 1 0 0 0 0 0=[(64,1),(64,0),(64,0),(64,0),(64,(3/5)),(64,(-4/5)),(64,0),(64,(4/5)),(64,(3/5)),(64,0),(64,0),(64,0)] by decide+kernel] at this
 refine this.mono fun e w' he=>?_
 obtain ⟨⟨vs,rfl,h⟩,g⟩:=he
 obtain ⟨t0,t1,t2,t3,t4,t5,t6,t7,t8,t9,av,aF,aH,au,ab,af,aJ,ax,aI,aA,aj,ac,aK,aE,ak,ap,aP,aG,ar,ad,aC,aO,ah,aw,aQ,aD,ay,ai,al,aM,aq,aR,aB,aN,aa,az,ae,aL,rfl,k⟩:=h.open12
 exact ⟨⟨t0,t1,t2,t3,t4,t5,t6,t7,t8,t9,av,aF,aH,au,ab,af,aJ,ax,aI,aA,aj,ac,aK,aE,ak,ap,aP,aG,ar,ad,aC,aO,ah,aw,aQ,aD,ay,ai,al,aM,aq,aR,aB,aN,aa,az,ae,aL,rfl,k⟩,g⟩
theorem runA (r0 r1 r2 r3 r4 r5 r6 r7 r8 r9 aa ab v1 v2 v3:Rat):runF sysN 43 [.so (.vg [.cr 0 0 64 r0,.cr 0 1 64 r0,.cr 0 2 64 r0,.cr 0 3 64 r0,.cr 1 0 64 r1,.cr 1 1 64 r1,.cr 1 2 64 r1,.cr 1 3 64 r1,.cr 2 0 64 r2,.cr 2 1 64 r2,.cr 2 2 64 r2,.cr 2 3 64 r2,.cr 3 0 64 r3,.cr 3 1 64 r3,.cr 3 2 64 r3,.cr 3 3 64 r3,.cr 4 0 64 r4,.cr 4 1 64 r4,.cr 4 2 64 r4,.cr 4 3 64 r4,.cr 5 0 64 r5,.cr 5 1 64 r5,.cr 5 2 64 r5,.cr 5 3 64 r5,.cr 6 0 64 r6,.cr 6 1 64 r6,.cr 6 2 64 r6,.cr 6 3 64 r6,.cr 7 0 64 r7,.cr 7 1 64 r7,.cr 7 2 64 r7,.cr 7 3 64 r7,.cr 8 0 64 r8,.cr 8 1 64 r8,.cr 8 2 64 r8,.cr 8 3 64 r8,.cr 9 0 64 r9,.cr 9 1 64 r9,.cr 9 2 64 r9,.cr 9 3 64 r9,.cr 10 0 64 aa,.cr 10 1 64 aa,.cr 10 2 64 aa,.cr 10 3 64 aa,.cr 11 0 64 ab,.cr 11 1 64 ab,.cr 11 2 64 ab,.cr 11 3 64 ab]),.so (.vg [.cr 12 0 64 v1,.cr 12 1 64 v1,.cr 12 2 64 v1,.cr 12 3 64 v1,.cr 13 0 64 v2,.cr 13 1 64 v2,.cr 13 2 64 v2,.cr 13 3 64 v2,.cr 14 0 64 v3,.cr 14 1 64 v3,.cr 14 2 64 v3,.cr 14 3 64 v3])] 15 0 .e=some (.ret (.so (.vg (rowC [33,34,35] [(516,0+r0*v1+r1*v2+r2*v3+r9),(516,0+r3*v1+r4*v2+r5*v3+aa),(516,0+r6*v1+r7*v2+r8*v3+ab)])))):=by kernel_rfl
theorem mapply64 {c0 c1 c2 c3 c4 c5 c6 c7 c8 c9 a9 au a1 aj aF aE aN a0 av aU bc aS aK aL aq al a2 aG a5 ap aT aA ar a6 ai aJ ay ba aZ aO aB aX aR aD a3 aV a7 ax aY a8 aW aP aC aI ak bb a4 aM aQ aw:Value} {r0 r1 r2 r3 r4 r5 r6 r7 r8 r9 ab aa v1 v2 v3:Rat} {w:World} (h0:IsRat w 64 c0 c1 c2 c3 r0) (h1:IsRat w 64 c4 c5 c6 c7 r1) (h2:IsRat w 64 c8 c9 a9 au r2) (h3:IsRat w 64 a1 aj aF aE r3) (h4:IsRat w 64 aN a0 av aU r4) (h5:IsRat w 64 bc aS aK aL r5) (h6:IsRat w 64 aq al a2 aG r6) (h7:IsRat w 64 a5 ap aT aA r7) (h8:IsRat w 64 ar a6 ai aJ r8) (h9:IsRat w 64 ay ba aZ aO r9) (af:IsRat w 64 aB aX aR aD ab) (ah:IsRat w 64 a3 aV a7 ax aa) (ad:IsRat w 64 aY a8 aW aP v1) (ac:IsRat w 64 aC aI ak bb v2) (ae:IsRat w 64 a4 aM aQ aw v3) (ht:Tab w) (hm:Mx w):
  Calls Tryz.prog 43 #[.agg #[c0,c1,c2,c3,c4,c5,c6,c7,c8,c9,a9,au,a1,aj,aF,aE,aN,a0,av,aU,bc,aS,aK,aL,aq,al,a2,aG,a5,ap,aT,aA,ar,a6,ai,aJ,ay,ba,aZ,aO,aB,aX,aR,aD,a3,aV,a7,ax],.agg #[aY,a8,aW,aP,aC,aI,ak,bb,a4,aM,aQ,aw]] w fun e w'=>(∃ t0 t1 t2 t3 t4 t5 t6 t7 t8 t9 az aH,e=.returned (.agg #[t0,t1,t2,t3,t4,t5,t6,t7,t8,t9,az,aH])∧IsRat w' 516 t0 t1 t2 t3 ((0+r0*v1+r1*v2+r2*v3)+r9)∧IsRat w' 516 t4 t5 t6 t7 ((0+r3*v1+r4*v2+r5*v3)+ab)∧IsRat w' 516 t8 t9 az aH ((0+r6*v1+r7*v2+r8*v3)+aa))∧Gr w w':=by
 refine (run_calls sysN sysN_ok (runA r0 r1 r2 r3 r4 r5 r6 r7 r8 r9 ab aa v1 v2 v3) (X:=envR [c0,c1,c2,c3,c4,c5,c6,c7,c8,c9,a9,au,a1,aj,aF,aE,aN,a0,av,aU,bc,aS,aK,aL,aq,al,a2,aG,a5,ap,aT,aA,ar,a6,ai,aJ,ay,ba,aZ,aO,aB,aX,aR,aD,a3,aV,a7,ax,aY,a8,aW,aP,aC,aI,ak,bb,a4,aM,aQ,aw]) ⟨ht,hm⟩ (okF2 (okA_ok ⟨⟨rfl,h0⟩,⟨rfl,h0⟩,⟨rfl,h0⟩,⟨rfl,h0⟩,⟨rfl,h1⟩,⟨rfl,h1⟩,⟨rfl,h1⟩,⟨rfl,h1⟩,⟨rfl,h2⟩,⟨rfl,h2⟩,⟨rfl,h2⟩,⟨rfl,h2⟩,⟨rfl,h3⟩,⟨rfl,h3⟩,⟨rfl,h3⟩,⟨rfl,h3⟩,⟨rfl,h4⟩,⟨rfl,h4⟩,⟨rfl,h4⟩,⟨rfl,h4⟩,⟨rfl,h5⟩,⟨rfl,h5⟩,⟨rfl,h5⟩,⟨rfl,h5⟩,⟨rfl,h6⟩,⟨rfl,h6⟩,⟨rfl,h6⟩,⟨rfl,h6⟩,⟨rfl,h7⟩,⟨rfl,h7⟩,⟨rfl,h7⟩,⟨rfl,h7⟩,⟨rfl,h8⟩,⟨rfl,h8⟩,⟨rfl,h8⟩,⟨rfl,h8⟩,⟨rfl,h9⟩,⟨rfl,h9⟩,⟨rfl,h9⟩,⟨rfl,h9⟩,⟨rfl,af⟩,⟨rfl,af⟩,⟨rfl,af⟩,⟨rfl,af⟩,⟨rfl,ah⟩,⟨rfl,ah⟩,⟨rfl,ah⟩,⟨rfl,ah⟩,trivial⟩) (okA_ok ⟨⟨rfl,ad⟩,⟨rfl,ad⟩,⟨rfl,ad⟩,⟨rfl,ad⟩,⟨rfl,ac⟩,⟨rfl,ac⟩,⟨rfl,ac⟩,⟨rfl,ac⟩,⟨rfl,ae⟩,⟨rfl,ae⟩,⟨rfl,ae⟩,⟨rfl,ae⟩,trivial⟩)) (Post:=fun v=>asRats v=some [(516,0+r0*v1+r1*v2+r2*v3+r9),(516,0+r3*v1+r4*v2+r5*v3+ab),(516,0+r6*v1+r7*v2+r8*v3+aa)]) rfl).mono fun e w' he=>?_
 obtain ⟨v,X',n,rfl,g,_,hv,hr⟩:=he
 obtain ⟨vs,e1,h⟩:=asRats_ok hr hv
 obtain ⟨t0,t1,t2,t3,u0,rfl,h0,g0⟩:=h.cons
 obtain ⟨t4,t5,t6,t7,u1,rfl,h1,g1⟩:=g0.cons
 obtain ⟨t8,t9,az,aH,u2,rfl,h2,g2⟩:=g1.cons
 obtain rfl:=g2.nil
 exact ⟨⟨_,_,_,_,_,_,_,_,_,_,_,_,by rw [e1],h0,h1,h2⟩,g⟩
end Go.Proofs.YtaldbfflkpgfoaaGreatDoor
/- The rotations of the cube:a list of quaternions. -/
namespace Go.Proofs.YtaldbfflkpgfoaaGreatDoor
open Go.RowKit
def EQ4 (_:World) (z:Int × Int × Int × Int) (vs:List Value):Prop:=vs=[.int .i64 z.1,.int .i64 z.2.1,.int .i64 z.2.2.1,.int .i64 z.2.2.2]
theorem stab_q4:Stab EQ4 []:=fun _ _ _ _ _ h=>h
def qAt (n:Nat):Int × Int × Int × Int:=((n:Int)/27 - 1,(n:Int)/9 % 3 - 1,(n:Int)/3 % 3 - 1,(n:Int) % 3 - 1)
def qSq (z:Int × Int × Int × Int):Int:=0+z.1*z.1+z.2.1*z.2.1+z.2.2.1*z.2.2.1+z.2.2.2*z.2.2.2
def qOk (z:Int × Int × Int × Int):Bool:=(qSq z !=3)&&(chk z.1 z.2.1 z.2.2.1 z.2.2.2 0==0)
def qUpto (n:Nat):List (Int × Int × Int × Int):=((List.range n).map qAt).filter qOk
theorem qUpto_yes {n:Nat} {z:Int × Int × Int × Int} (hz:qAt n=z) (h:qOk z=true):qUpto (n+1)=qUpto n++[z]:=by
 unfold qUpto
 rw [List.range_succ,List.map_append,List.filter_append,List.map_cons,List.map_nil,hz]
 simp [h]
theorem qUpto_no {n:Nat} {z:Int × Int × Int × Int} (hz:qAt n=z) (h:qOk z=false):qUpto (n+1)=qUpto n:=by
 unfold qUpto
 rw [List.range_succ,List.map_append,List.filter_append,List.map_cons,List.map_nil,hz]
 simp [h]
theorem qUpto_len (n:Nat):(qUpto n).length≤n:=by
 unfold qUpto
 refine Nat.le_trans (List.length_filter_le ..) ?_
 simp
def quarters:List (Int × Int × Int × Int):=qUpto 81
theorem quarters_len:quarters.length=24:=by decide+kernel
theorem mcheck0 {q0 q1 q2 q3:Int} (j0:-12≤q0∧q0≤12) (j1:-12≤q1∧q1≤12) (j2:-12≤q2∧q2≤12) (j3:-12≤q3∧q3≤12) (w:World) (hm:Mx w):
  Calls Tryz.prog 15 #[.agg #[.int .i64 q0,.int .i64 q1,.int .i64 q2,.int .i64 q3,.string ⟨([48]:List UInt8).toArray⟩,.string ⟨([48]:List UInt8).toArray⟩,.string ⟨([48]:List UInt8).toArray⟩]] w fun e w'=>e=.returned (.int .i64 (chk q0 q1 q2 q3 0))∧Gr w w':=by
 have z:RS 64 (0:Rat):=⟨Nat.two_pow_pos _,Nat.one_lt_two_pow (by decide)⟩
 have:=mcheckr j0 j1 j2 j3 0 0 0 z z z w hm
 rw [ratL0] at this
 exact this
end Go.Proofs.YtaldbfflkpgfoaaGreatDoor
/- Printed by a program of the prover's:the rotations of the cube. -/
namespace Go.Proofs.YtaldbfflkpgfoaaGreatDoor
open Go.RowKit

set_option maxRecDepth 100000 in
set_option maxHeartbeats 4000000 in
theorem mquarters (w:World) (hm:Mx w):
    Calls Tryz.prog 50 #[] w fun e w'=>(∃ v,e=.returned v∧Sl EQ4 22 4 w' v quarters)∧Gr w w':=by
 go_enter Tryz.func50,Tryz.ntmps50
 have hB:=Gr.refl w
 refine wp_seq_k (fun K1 k1=>?_)
 refine rg [0] ?_
 refine sv 0 (.slice none 0 0) ?_
 refine sq_nil ?_
 refine k1 _ _ ?_
 try clear k1 K1
 refine wp_seq_k (fun K2 k2=>?_)
 refine rg [0] ?_
 refine sv 1 (.slice none 0 0) ?_
 refine sq_nil ?_
 refine k2 _ _ ?_
 try clear k2 K2
 refine wp_seq_k (fun K3 k3=>?_)
 refine wp_seq_k (fun K4 k4=>?_)
 refine rg [0] ?_
 refine sv 7 (.int .i64 0) ?_
 refine sq_nil ?_
 refine k4 _ _ ?_
 try clear k4 K4
 refine wp_block ?_
 refine wp_loop_inv (a:=⟨List.toArray ?l5,[]⟩) (fun n a w'=>∃ (v:Value) (nn:Nat) (u5:Nat→Value),81 - nn=n∧a=⟨[(.slice none 0 0),v,(u5 2),(u5 3),(u5 4),undef,(u5 6),(.int .i64 ((nn:Int))),(u5 8),(u5 9),(u5 10),(u5 11),(u5 12),(u5 13),(u5 14),(u5 15),(u5 16),(u5 17),(u5 18),(u5 19),(u5 20),(u5 21),(u5 22),(u5 23),(u5 24),(u5 25),(u5 26),(u5 27),(u5 28),(u5 29),(u5 30),(u5 31),(u5 32),(u5 33),(u5 34),(u5 35),(u5 36),(u5 37),(u5 38),(u5 39),(u5 40),(u5 41),(u5 42),(u5 43),(u5 44),(u5 45),(u5 46),(u5 47),(u5 48),undef].toArray,[]⟩∧nn≤81∧Ow EQ4 22 4 w' w.heap.size v (qUpto nn)∧Gr w w') (81 - 0) ?_ ?_
 ·exact ⟨_,0,(fun i=>List.getD ?l5 i undef),rfl,rfl,(by omega),(Ow.nil _ _ _ _ _),hB⟩
 rintro n5 a5 w5 ⟨v,nn,u5,rfl,rfl,hnn,hv,hB⟩ K5 k5
 refine wp_seq_k (fun K6 k6=>?_)
 refine rg [0] ?_
 refine sv 8 (.bool (decide ((nn:Int)<(81:Int)))) ?_
 refine sq_nil ?_
 refine k6 _ _ ?_
 try clear k6 K6
 refine wp_seq_k (fun K7 k7=>?_)
 refine wp_cond_split (t:=decide ((nn:Int)<(81:Int))) rfl (fun al=>?_) (fun al=>?_)
 ·have hlt:nn<81:=by have:=of_decide_eq_true al;omega
  refine wp_skip ?_
  refine k7 _ _ ?_
  try clear k7 K7
  refine wp_seq_k (fun K9 k9=>?_)
  refine wp_block ?_
  refine wp_seq_k (fun bj az=>?_)
  refine rg [0,1] ?_
  refine sv 9 (.int .i64 ((nn:Int))) ?_
  refine sv 2 (.int .i64 ((nn:Int))) ?_
  refine sq_nil ?_
  refine az _ _ ?_
  try clear az bj
  refine wp_seq_k (fun aT av=>?_)
  refine rg [0,1,2,3,4,5,6,7,8,9,10,11,12,13,14,15,16] ?_
  refine sv 10 (.int .i64 ((nn:Int))) ?_
  refine sw 11 (.int .i64 (((nn:Int)/27))) rfl (rv_quo 3 3 _ _ (nn:Int) 27 ((nn:Int)/27) rfl rfl rfl (Int.tdiv_eq_ediv_of_nonneg (by omega)) (by omega) (by omega) (by omega)) ?_
  refine sw 12 (.int .i64 ((((nn:Int)/27) - 1))) rfl (RunV.int (x:=IntKind.i64.wrap ((((nn:Int)/27) - 1))) (y:=(((nn:Int)/27) - 1)) (rvk (by kernel_rfl)) (by first | rfl | (rw [IntKind.wrap_i64];omega))) ?_
  refine sv 13 (.int .i64 ((nn:Int))) ?_
  refine sw 14 (.int .i64 (((nn:Int)/9))) rfl (rv_quo 3 3 _ _ (nn:Int) 9 ((nn:Int)/9) rfl rfl rfl (Int.tdiv_eq_ediv_of_nonneg (by omega)) (by omega) (by omega) (by omega)) ?_
  refine sw 15 (.int .i64 ((((nn:Int)/9) % 3))) rfl (RunV.int (x:=Int.tmod (((nn:Int)/9)) 3) (y:=((nn:Int)/9) % 3) (rvk (by kernel_rfl)) (by rw [Int.tmod_eq_emod_of_nonneg (by first | omega | exact Int.natCast_nonneg _)])) ?_
  refine sw 16 (.int .i64 (((((nn:Int)/9) % 3) - 1))) rfl (RunV.int (x:=IntKind.i64.wrap (((((nn:Int)/9) % 3) - 1))) (y:=((((nn:Int)/9) % 3) - 1)) (rvk (by kernel_rfl)) (by first | rfl | (rw [IntKind.wrap_i64];omega))) ?_
  refine sv 17 (.int .i64 ((nn:Int))) ?_
  refine sw 18 (.int .i64 (((nn:Int)/3))) rfl (rv_quo 3 3 _ _ (nn:Int) 3 ((nn:Int)/3) rfl rfl rfl (Int.tdiv_eq_ediv_of_nonneg (by omega)) (by omega) (by omega) (by omega)) ?_
  refine sw 19 (.int .i64 ((((nn:Int)/3) % 3))) rfl (RunV.int (x:=Int.tmod (((nn:Int)/3)) 3) (y:=((nn:Int)/3) % 3) (rvk (by kernel_rfl)) (by rw [Int.tmod_eq_emod_of_nonneg (by first | omega | exact Int.natCast_nonneg _)])) ?_
  refine sw 20 (.int .i64 (((((nn:Int)/3) % 3) - 1))) rfl (RunV.int (x:=IntKind.i64.wrap (((((nn:Int)/3) % 3) - 1))) (y:=((((nn:Int)/3) % 3) - 1)) (rvk (by kernel_rfl)) (by first | rfl | (rw [IntKind.wrap_i64];omega))) ?_
  refine sv 21 (.int .i64 ((nn:Int))) ?_
  refine sw 22 (.int .i64 (((nn:Int) % 3))) rfl (RunV.int (x:=Int.tmod ((nn:Int)) 3) (y:=(nn:Int) % 3) (rvk (by kernel_rfl)) (by rw [Int.tmod_eq_emod_of_nonneg (by first | omega | exact Int.natCast_nonneg _)])) ?_
  refine sw 23 (.int .i64 ((((nn:Int) % 3) - 1))) rfl (RunV.int (x:=IntKind.i64.wrap ((((nn:Int) % 3) - 1))) (y:=(((nn:Int) % 3) - 1)) (rvk (by kernel_rfl)) (by first | rfl | (rw [IntKind.wrap_i64];omega))) ?_
  refine sv 24 (.agg #[(.int .i64 ((((nn:Int)/27) - 1))),(.int .i64 (((((nn:Int)/9) % 3) - 1))),(.int .i64 (((((nn:Int)/3) % 3) - 1))),(.int .i64 ((((nn:Int) % 3) - 1)))]) ?_
  refine se ?_
  refine ea 22 #[(.int .i64 0),(.int .i64 0),(.int .i64 0),(.int .i64 0)] 3 hB fun bu bD aj ac a8 q12 hB=>?_
  have aa:=hv.ne a8
  simp only [p3,p4]
  refine se ?_
  have ae:=ac
  refine es 22 0 (.agg #[(.int .i64 ((((nn:Int)/27) - 1))),(.int .i64 (((((nn:Int)/9) % 3) - 1))),(.int .i64 (((((nn:Int)/3) % 3) - 1))),(.int .i64 ((((nn:Int) % 3) - 1)))]) [(.int .i64 ((((nn:Int)/27) - 1))),(.int .i64 (((((nn:Int)/9) % 3) - 1))),(.int .i64 (((((nn:Int)/3) % 3) - 1))),(.int .i64 ((((nn:Int) % 3) - 1)))] #[(.int .i64 ((((nn:Int)/27) - 1))),(.int .i64 (((((nn:Int)/9) % 3) - 1))),(.int .i64 (((((nn:Int)/3) % 3) - 1))),(.int .i64 ((((nn:Int) % 3) - 1)))] ac hB q12 ⟨rfl,rfl,rfl,rfl,trivial⟩ fun bK ab bp ac hB=>?_
  refine sq_nil ?_
  refine av _ _ ?_
  try clear av aT
  refine wp_seq_k (fun a0 ar=>?_)
  generalize ba:((((nn:Int)/27) - 1):Int)=qx0 at*
  generalize bh:(((((nn:Int)/9) % 3) - 1):Int)=qx1 at*
  generalize bk:(((((nn:Int)/3) % 3) - 1):Int)=qx2 at*
  generalize a2:((((nn:Int) % 3) - 1):Int)=qx3 at*
  have bJ:-1≤qx0∧qx0≤1:=by omega
  have bC:=sq_le (a:=qx0) (b:=1) (by omega) (by omega)
  have bA:-1≤qx1∧qx1≤1:=by omega
  have bH:=sq_le (a:=qx1) (b:=1) (by omega) (by omega)
  have bv:-1≤qx2∧qx2≤1:=by omega
  have bF:=sq_le (a:=qx2) (b:=1) (by omega) (by omega)
  have bx:-1≤qx3∧qx3≤1:=by omega
  have bw:=sq_le (a:=qx3) (b:=1) (by omega) (by omega)
  have hqa:qAt nn=(qx0,qx1,qx2,qx3):=by unfold qAt;rw [ba,bh,bk,a2]
  refine rg [0] ?_
  refine sv 4 (.int .i64 0) ?_
  refine sq_nil ?_
  refine ar _ _ ?_
  try clear ar a0
  refine wp_seq_k (fun bc aB=>?_)
  refine wp_seq_k (fun bm aw=>?_)
  refine rg [0,1] ?_
  refine sw 25 (.agg #[(.int .i64 (qx0)),(.int .i64 (qx1)),(.int .i64 (qx2)),(.int .i64 (qx3))]) rfl (rl 22 0 [(.int .i64 (qx0)),(.int .i64 (qx1)),(.int .i64 (qx2)),(.int .i64 (qx3))] ac) ?_
  refine sv 26 (.int .i64 0) ?_
  refine sq_nil ?_
  refine aw _ _ ?_
  try clear aw bm
  refine wp_block ?_
  refine wp_loop_rounds 6 ?_
  show Code.wp _ _ _ _ _
  refine wp_seq_k (fun bg aM=>?_)
  refine rg [0] ?_
  refine sv 27 (.bool true) ?_
  refine sq_nil ?_
  refine aM _ _ ?_
  try clear aM bg
  refine wp_seq_k (fun aW aq=>?_)
  refine wp_cond_true rfl ?_
  refine wp_skip ?_
  refine aq _ _ ?_
  try clear aq aW
  refine wp_seq_k (fun bn aN=>?_)
  refine wp_block ?_
  refine wp_seq_k (fun a3 ax=>?_)
  refine rg [0,1] ?_
  refine sv 28 (.int .i64 (qx0)) ?_
  refine sv 6 (.int .i64 (qx0)) ?_
  refine sq_nil ?_
  refine ax _ _ ?_
  try clear ax a3
  refine rg [0,1,2,3,4,5] ?_
  refine sv 29 (.int .i64 0) ?_
  refine sv 30 (.int .i64 (qx0)) ?_
  refine sv 31 (.int .i64 (qx0)) ?_
  refine sw 32 (.int .i64 ((qx0*qx0))) rfl (RunV.int (x:=IntKind.i64.wrap ((qx0*qx0))) (y:=(qx0*qx0)) (rvk (by kernel_rfl)) (by first | rfl | (rw [IntKind.wrap_i64];omega))) ?_
  refine sw 33 (.int .i64 ((0+(qx0*qx0)))) rfl (RunV.int (x:=IntKind.i64.wrap ((0+(qx0*qx0)))) (y:=(0+(qx0*qx0))) (rvk (by kernel_rfl)) (by first | rfl | (rw [IntKind.wrap_i64];omega))) ?_
  refine sv 4 (.int .i64 ((0+(qx0*qx0)))) ?_
  refine sq_nil ?_
  refine aN _ _ ?_
  try clear aN bn
  refine rg [0,1] ?_
  refine sv 34 (.int .i64 1) ?_
  refine sv 26 (.int .i64 1) ?_
  refine sq_nil ?_
  show Code.rounds _ _ _ _ _ _
  show Code.wp _ _ _ _ _
  refine wp_seq_k (fun aU aG=>?_)
  refine rg [0] ?_
  refine sv 27 (.bool true) ?_
  refine sq_nil ?_
  refine aG _ _ ?_
  try clear aG aU
  refine wp_seq_k (fun aS aF=>?_)
  refine wp_cond_true rfl ?_
  refine wp_skip ?_
  refine aF _ _ ?_
  try clear aF aS
  refine wp_seq_k (fun aY aH=>?_)
  refine wp_block ?_
  refine wp_seq_k (fun a7 aJ=>?_)
  refine rg [0,1] ?_
  refine sv 28 (.int .i64 (qx1)) ?_
  refine sv 6 (.int .i64 (qx1)) ?_
  refine sq_nil ?_
  refine aJ _ _ ?_
  try clear aJ a7
  refine rg [0,1,2,3,4,5] ?_
  refine sv 29 (.int .i64 ((0+(qx0*qx0)))) ?_
  refine sv 30 (.int .i64 (qx1)) ?_
  refine sv 31 (.int .i64 (qx1)) ?_
  refine sw 32 (.int .i64 ((qx1*qx1))) rfl (RunV.int (x:=IntKind.i64.wrap ((qx1*qx1))) (y:=(qx1*qx1)) (rvk (by kernel_rfl)) (by first | rfl | (rw [IntKind.wrap_i64];omega))) ?_
  refine sw 33 (.int .i64 (((0+(qx0*qx0))+(qx1*qx1)))) rfl (RunV.int (x:=IntKind.i64.wrap (((0+(qx0*qx0))+(qx1*qx1)))) (y:=((0+(qx0*qx0))+(qx1*qx1))) (rvk (by kernel_rfl)) (by first | rfl | (rw [IntKind.wrap_i64];omega))) ?_
  refine sv 4 (.int .i64 (((0+(qx0*qx0))+(qx1*qx1)))) ?_
  refine sq_nil ?_
  refine aH _ _ ?_
  try clear aH aY
  refine rg [0,1] ?_
  refine sv 34 (.int .i64 2) ?_
  refine sv 26 (.int .i64 2) ?_
  refine sq_nil ?_
  show Code.rounds _ _ _ _ _ _
  show Code.wp _ _ _ _ _
  refine wp_seq_k (fun a6 aK=>?_)
  refine rg [0] ?_
  refine sv 27 (.bool true) ?_
  refine sq_nil ?_
  refine aK _ _ ?_
  try clear aK a6
  refine wp_seq_k (fun bf aO=>?_)
  refine wp_cond_true rfl ?_
  refine wp_skip ?_
  refine aO _ _ ?_
  try clear aO bf
  refine wp_seq_k (fun a9 aL=>?_)
  refine wp_block ?_
  refine wp_seq_k (fun bt aD=>?_)
  refine rg [0,1] ?_
  refine sv 28 (.int .i64 (qx2)) ?_
  refine sv 6 (.int .i64 (qx2)) ?_
  refine sq_nil ?_
  refine aD _ _ ?_
  try clear aD bt
  refine rg [0,1,2,3,4,5] ?_
  refine sv 29 (.int .i64 (((0+(qx0*qx0))+(qx1*qx1)))) ?_
  refine sv 30 (.int .i64 (qx2)) ?_
  refine sv 31 (.int .i64 (qx2)) ?_
  refine sw 32 (.int .i64 ((qx2*qx2))) rfl (RunV.int (x:=IntKind.i64.wrap ((qx2*qx2))) (y:=(qx2*qx2)) (rvk (by kernel_rfl)) (by first | rfl | (rw [IntKind.wrap_i64];omega))) ?_
  refine sw 33 (.int .i64 ((((0+(qx0*qx0))+(qx1*qx1))+(qx2*qx2)))) rfl (RunV.int (x:=IntKind.i64.wrap ((((0+(qx0*qx0))+(qx1*qx1))+(qx2*qx2)))) (y:=(((0+(qx0*qx0))+(qx1*qx1))+(qx2*qx2))) (rvk (by kernel_rfl)) (by first | rfl | (rw [IntKind.wrap_i64];omega))) ?_
  refine sv 4 (.int .i64 ((((0+(qx0*qx0))+(qx1*qx1))+(qx2*qx2)))) ?_
  refine sq_nil ?_
  refine aL _ _ ?_
  try clear aL a9
  refine rg [0,1] ?_
  refine sv 34 (.int .i64 3) ?_
  refine sv 26 (.int .i64 3) ?_
  refine sq_nil ?_
  show Code.rounds _ _ _ _ _ _
  show Code.wp _ _ _ _ _
  refine wp_seq_k (fun a1 aA=>?_)
  refine rg [0] ?_
  refine sv 27 (.bool true) ?_
  refine sq_nil ?_
  refine aA _ _ ?_
  try clear aA a1
  refine wp_seq_k (fun aZ aC=>?_)
  refine wp_cond_true rfl ?_
  refine wp_skip ?_
  refine aC _ _ ?_
  try clear aC aZ
  refine wp_seq_k (fun bq aQ=>?_)
  refine wp_block ?_
  refine wp_seq_k (fun aV aE=>?_)
  refine rg [0,1] ?_
  refine sv 28 (.int .i64 (qx3)) ?_
  refine sv 6 (.int .i64 (qx3)) ?_
  refine sq_nil ?_
  refine aE _ _ ?_
  try clear aE aV
  refine rg [0,1,2,3,4,5] ?_
  refine sv 29 (.int .i64 ((((0+(qx0*qx0))+(qx1*qx1))+(qx2*qx2)))) ?_
  refine sv 30 (.int .i64 (qx3)) ?_
  refine sv 31 (.int .i64 (qx3)) ?_
  refine sw 32 (.int .i64 ((qx3*qx3))) rfl (RunV.int (x:=IntKind.i64.wrap ((qx3*qx3))) (y:=(qx3*qx3)) (rvk (by kernel_rfl)) (by first | rfl | (rw [IntKind.wrap_i64];omega))) ?_
  refine sw 33 (.int .i64 (((((0+(qx0*qx0))+(qx1*qx1))+(qx2*qx2))+(qx3*qx3)))) rfl (RunV.int (x:=IntKind.i64.wrap (((((0+(qx0*qx0))+(qx1*qx1))+(qx2*qx2))+(qx3*qx3)))) (y:=((((0+(qx0*qx0))+(qx1*qx1))+(qx2*qx2))+(qx3*qx3))) (rvk (by kernel_rfl)) (by first | rfl | (rw [IntKind.wrap_i64];omega))) ?_
  refine sv 4 (.int .i64 (((((0+(qx0*qx0))+(qx1*qx1))+(qx2*qx2))+(qx3*qx3)))) ?_
  refine sq_nil ?_
  refine aQ _ _ ?_
  try clear aQ bq
  refine rg [0,1] ?_
  refine sv 34 (.int .i64 4) ?_
  refine sv 26 (.int .i64 4) ?_
  refine sq_nil ?_
  show Code.rounds _ _ _ _ _ _
  show Code.wp _ _ _ _ _
  refine wp_seq_k (fun a4 aI=>?_)
  refine rg [0] ?_
  refine sv 27 (.bool false) ?_
  refine sq_nil ?_
  refine aI _ _ ?_
  try clear aI a4
  refine wp_seq_k (fun bz bE=>?_)
  refine wp_cond_false rfl ?_
  refine wp_exit ?_
  simp only [Exit.then,Exit.inBlock,↓reduceIte]
  refine aB _ _ ?_
  try clear aB bc
  refine wp_seq_k (fun aP ah=>?_)
  refine rg [0,1,2,3,4,5,6,7,8] ?_
  refine sv 35 (.int .i64 (((((0+(qx0*qx0))+(qx1*qx1))+(qx2*qx2))+(qx3*qx3)))) ?_
  refine sv 36 (.bool ((((((0+(qx0*qx0))+(qx1*qx1))+(qx2*qx2))+(qx3*qx3)) !=(3:Int)))) ?_
  rcases Bool.eq_false_or_eq_true ((((((0+(qx0*qx0))+(qx1*qx1))+(qx2*qx2))+(qx3*qx3)) !=(3:Int))) with hb37 | hb37
  ·refine sw 37 (.bool true) rfl (RunV.bool (x:=(((((0+(qx0*qx0))+(qx1*qx1))+(qx2*qx2))+(qx3*qx3)) !=(3:Int))) (rvk (by kernel_rfl)) hb37) ?_
   refine sw 38 (.agg #[(.int .i64 (qx0)),(.int .i64 (qx1)),(.int .i64 (qx2)),(.int .i64 (qx3))]) rfl (rl 22 0 [(.int .i64 (qx0)),(.int .i64 (qx1)),(.int .i64 (qx2)),(.int .i64 (qx3))] ac) ?_
   refine sv 39 (.agg #[(.string ⟨([48]:List UInt8).toArray⟩),(.string ⟨([48]:List UInt8).toArray⟩),(.string ⟨([48]:List UInt8).toArray⟩)]) ?_
   refine sv 40 (.agg #[(.int .i64 (qx0)),(.int .i64 (qx1)),(.int .i64 (qx2)),(.int .i64 (qx3)),(.string ⟨([48]:List UInt8).toArray⟩),(.string ⟨([48]:List UInt8).toArray⟩),(.string ⟨([48]:List UInt8).toArray⟩)]) ?_
   refine se ?_
   refine ec 41 (mcheck0 (q0:=qx0) (q1:=qx1) (q2:=qx2) (q3:=qx3) (by omega) (by omega) (by omega) (by omega) _ (hm.gr hB)) ?_
   rintro bM bB ⟨rfl,ai⟩
   refine ⟨_,rfl,?_⟩
   replace hB:=hB.trans ai
   simp only [p3,p4]
   refine sv 42 (.bool ((chk qx0 qx1 qx2 qx3 0==(0:Int)))) ?_
   refine sv 43 (.bool ((chk qx0 qx1 qx2 qx3 0==(0:Int)))) ?_
   refine sq_nil ?_
   refine ah _ _ ?_
   try clear ah aP
   refine wp_cond_split (t:=(chk qx0 qx1 qx2 qx3 0==(0:Int))) rfl (fun ad=>?_) (fun ad=>?_)
   ·refine rg [0,1,2,3,4] ?_
    refine sv 44 v ?_
    replace ac:=ac.gr ai
    refine sw 45 (.agg #[(.int .i64 (qx0)),(.int .i64 (qx1)),(.int .i64 (qx2)),(.int .i64 (qx3))]) rfl (rl 22 0 [(.int .i64 (qx0)),(.int .i64 (qx1)),(.int .i64 (qx2)),(.int .i64 (qx3))] ac) ?_
    refine se ?_
    refine eff_bs 22 1 #[(.int .i64 (qx0)),(.int .i64 (qx1)),(.int .i64 (qx2)),(.int .i64 (qx3))] (some 46) rfl (fun _=>by kernel_rfl) (fun aX bG au bb bd=>?_)
    replace hv:=((hv.gr stab_q4 aj).st stab_q4 ab aa (ab.kts ae (by decide))).gr stab_q4 ai
    have af:=hv.ne bd
    replace hB:=hB.trans au
    simp only [putl,p3,p4]
    refine se ?_
    replace hv:=hv.gr stab_q4 au
    refine eff_app stab_q4 _ _ 97 22 w.heap.size (.agg #[(.int .i64 0),(.int .i64 0),(.int .i64 0),(.int .i64 0)]) v (qUpto nn) aX [(.int .i64 (qx0)),(.int .i64 (qx1)),(.int .i64 (qx2)),(.int .i64 (qx3))] ((qx0,qx1,qx2,qx3):Int × Int × Int × Int) 4 1 (some 47) 32 rfl rfl rfl rfl hv bb ⟨rfl,rfl,rfl,rfl,trivial⟩ rfl rfl w hB (Nat.le_refl _) (Below.size hB) (by have:=qUpto_len nn;simp;omega) (by decide) (by kernel_rfl) (by kernel_rfl) (by decide) (by decide) (fun aR bL ak bi ap=>?_)
    replace hB:=ap
    simp only [putl,p3,p4]
    refine sv 1 aR ?_
    refine sq_nil ?_
    refine k9 _ _ ?_
    try clear k9 K9
    refine rg [0,1] ?_
    refine sw 48 (.int .i64 (((nn:Int)+1))) rfl (RunV.int (x:=IntKind.i64.wrap (((nn:Int)+1))) (y:=((nn:Int)+1)) (rvk (by kernel_rfl)) (by first | rfl | (rw [IntKind.wrap_i64];omega))) ?_
    refine sv 7 (.int .i64 (((nn:Int)+1))) ?_
    refine sq_nil ?_
    refine k5 (81 - (nn+1)) ⟨List.toArray ?l42,[]⟩ _ (by omega) ?_
    exact ⟨aR,nn+1,(fun i=>List.getD ?l42 i undef),rfl,rfl,(by omega),(by rw [qUpto_yes hqa (by unfold qOk qSq;rw [Bool.and_eq_true];exact ⟨hb37,ad⟩)];exact ak),hB⟩
   ·refine wp_skip ?_
    refine k9 _ _ ?_
    try clear k9 K9
    refine rg [0,1] ?_
    refine sw 48 (.int .i64 (((nn:Int)+1))) rfl (RunV.int (x:=IntKind.i64.wrap (((nn:Int)+1))) (y:=((nn:Int)+1)) (rvk (by kernel_rfl)) (by first | rfl | (rw [IntKind.wrap_i64];omega))) ?_
    refine sv 7 (.int .i64 (((nn:Int)+1))) ?_
    refine sq_nil ?_
    replace hv:=((hv.gr stab_q4 aj).st stab_q4 ab aa (ab.kts ae (by decide))).gr stab_q4 ai
    refine k5 (81 - (nn+1)) ⟨List.toArray ?l43,[]⟩ _ (by omega) ?_
    exact ⟨v,nn+1,(fun i=>List.getD ?l43 i undef),rfl,rfl,(by omega),(by rw [qUpto_no hqa (by unfold qOk qSq;rw [hb37,ad,Bool.and_false])];exact hv),hB⟩
  ·refine sw 37 (.bool false) rfl (RunV.bool (x:=(((((0+(qx0*qx0))+(qx1*qx1))+(qx2*qx2))+(qx3*qx3)) !=(3:Int))) (rvk (by kernel_rfl)) hb37) ?_
   refine ss 38 ?_
   refine ss 39 ?_
   refine ss 40 ?_
   refine ss 41 ?_
   refine ss 42 ?_
   refine sv 43 (.bool false) ?_
   refine sq_nil ?_
   refine ah _ _ ?_
   try clear ah aP
   refine wp_cond_false rfl ?_
   refine wp_skip ?_
   refine k9 _ _ ?_
   try clear k9 K9
   refine rg [0,1] ?_
   refine sw 48 (.int .i64 (((nn:Int)+1))) rfl (RunV.int (x:=IntKind.i64.wrap (((nn:Int)+1))) (y:=((nn:Int)+1)) (rvk (by kernel_rfl)) (by first | rfl | (rw [IntKind.wrap_i64];omega))) ?_
   refine sv 7 (.int .i64 (((nn:Int)+1))) ?_
   refine sq_nil ?_
   replace hv:=(hv.gr stab_q4 aj).st stab_q4 ab aa (ab.kts ae (by decide))
   refine k5 (81 - (nn+1)) ⟨List.toArray ?l44,[]⟩ _ (by omega) ?_
   exact ⟨v,nn+1,(fun i=>List.getD ?l44 i undef),rfl,rfl,(by omega),(by rw [qUpto_no hqa (by unfold qOk qSq;rw [hb37,Bool.false_and])];exact hv),hB⟩
 ·have hge:nn=81:=by have:=of_decide_eq_false al;omega
  refine wp_exit ?_
  simp only [Exit.then,Exit.inBlock,↓reduceIte]
  refine k3 _ _ ?_
  try clear k3 K3
  refine wp_seq_k (fun bo ay=>?_)
  refine rg [0,1] ?_
  refine sv 49 v ?_
  refine sv 0 v ?_
  refine sq_nil ?_
  refine ay _ _ ?_
  try clear ay bo
  refine wp_ret ?_
  refine bodyPost_ret (v:=v) (ret_tmp rfl rfl) rfl ⟨?_,hB⟩
  subst hge
  exact ⟨_,rfl,(hv.sl)⟩

end Go.Proofs.YtaldbfflkpgfoaaGreatDoor
