/- Joined of: Gen98, Syd, Sye, Gen124, Gen125, Gen94, Gen122, Gen126, Qu, Gen100. -/
import Derived.Test.YtaldbfflkpgfoaaGreatDoorPartF
import Derived.Test.YtaldbfflkpgfoaaGreatDoorPartE
import Derived.Test.YtaldbfflkpgfoaaGreatDoorPartB
namespace Go.Proofs.YtaldbfflkpgfoaaGreatDoor
open Go.RowKit

set_option maxRecDepth 100000 in
set_option maxHeartbeats 1000000 in
theorem zV2 (z:Int) (_hz:-4611686018427387904≤z∧z≤4611686018427387904) (w:World):
    Calls Tryz.prog 72 #[(.int .i64 (z))] w fun e w'=>e=.returned (.int .i64 ((z.natAbs:Int)))∧Gr w w':=by
 go_enter Tryz.func72,Tryz.ntmps72
 have hB:=Gr.refl w
 refine wp_seq_k (fun K1 k1=>?_)
 refine rg [0] ?_
 refine sv 2 (.int .i64 0) ?_
 refine za0 ?_
 refine k1 _ _ ?_
 try clear k1 K1
 refine wp_seq_k (fun K2 k2=>?_)
 refine wp_seq_k (fun K3 k3=>?_)
 refine rg [0,1] ?_
 refine sv 3 (.int .i64 (z)) ?_
 refine sv 4 (.bool (decide (z<(0:Int)))) ?_
 refine za0 ?_
 refine k3 _ _ ?_
 try clear k3 K3
 refine wp_cond_split (t:=decide (z<(0:Int))) rfl (fun aa=>?_) (fun aa=>?_)
 ·refine wp_seq_k (fun K5 k5=>?_)
  refine rg [0,1,2] ?_
  refine sv 5 (.int .i64 (z)) ?_
  refine sw 6 (.int .i64 ((0 - z))) rfl (RunV.int (x:=IntKind.i64.wrap ((0 - z))) (y:=(0 - z)) (rvk (by kernel_rfl)) (by first | rfl | (rw [IntKind.wrap_i64];omega))) ?_
  refine sv 2 (.int .i64 ((0 - z))) ?_
  refine za0 ?_
  refine k5 _ _ ?_
  try clear k5 K5
  refine wp_ret ?_
  simp only [Exit.then]
  refine bodyPost_ret (v:=(.int .i64 ((0 - z)))) (zb0 rfl rfl) rfl ⟨?_,hB⟩
  exact (congrArg (fun z=>Ending.returned (.int .i64 z)) (by have:=of_decide_eq_true aa;omega))
 ·refine wp_skip ?_
  refine k2 _ _ ?_
  try clear k2 K2
  refine wp_seq_k (fun K6 k6=>?_)
  refine rg [0,1] ?_
  refine sv 7 (.int .i64 (z)) ?_
  refine sv 2 (.int .i64 (z)) ?_
  refine za0 ?_
  refine k6 _ _ ?_
  try clear k6 K6
  refine wp_ret ?_
  refine bodyPost_ret (v:=(.int .i64 (z))) (zb0 rfl rfl) rfl ⟨?_,hB⟩
  exact (congrArg (fun z=>Ending.returned (.int .i64 z)) (by have:=of_decide_eq_false aa;omega))

set_option maxRecDepth 100000 in
set_option maxHeartbeats 1000000 in
theorem yh1 (ga gb:Int) (h1:0≤ga) (h2:0≤gb) (w:World):
    Calls Tryz.prog 91 #[(.int .i64 (ga)),(.int .i64 (gb))] w fun e w'=>e=.returned (.int .i64 ((Int.gcd ga gb:Int)))∧Gr w w':=by
 go_enter Tryz.func91,Tryz.ntmps91
 have hB:=Gr.refl w
 refine wp_seq_k (fun K1 k1=>?_)
 refine rg [0] ?_
 refine sv 4 (.int .i64 0) ?_
 refine za0 ?_
 refine k1 _ _ ?_
 try clear k1 K1
 refine wp_seq_k (fun K2 k2=>?_)
 refine wp_block ?_
 refine zm9 (a:=⟨List.toArray ?l3,[]⟩) (fun n a w'=>∃ (ab:Int) (aa:Int) (u3:Nat→Value),aa.toNat=n∧a=⟨[(.int .i64 (ab)),(.int .i64 (aa)),undef,undef,.int .i64 0,(u3 5),(u3 6),(u3 7),(u3 8),(u3 9),(u3 10),undef].toArray,[]⟩∧Int.gcd ab aa=Int.gcd ga gb∧0≤ab∧0≤aa∧Gr w w') (gb.toNat) ?_ ?_
 ·exact ⟨_,_,(fun i=>List.getD ?l3 i undef),rfl,rfl,rfl,h1,h2,hB⟩
 rintro n3 a3 w3 ⟨ab,aa,u3,rfl,rfl,ai,ad,aj,hB⟩ K3 k3
 refine wp_seq_k (fun K5 k5=>?_)
 refine wp_seq_k (fun K6 k6=>?_)
 refine rg [0,1] ?_
 refine sv 5 (.int .i64 (aa)) ?_
 refine sv 6 (.bool (decide ((0:Int)<aa))) ?_
 refine za0 ?_
 refine k6 _ _ ?_
 try clear k6 K6
 refine wp_cond_split (t:=decide ((0:Int)<aa)) rfl (fun ac=>?_) (fun ac=>?_)
 ·have af:=of_decide_eq_true ac
  refine wp_skip ?_
  refine k5 _ _ ?_
  try clear k5 K5
  refine wp_block ?_
  have al:=Gr.drew w3
  replace hB:=hB.trans al
  refine za2 (fun _=>True) [(true,0),(true,1),(true,2),(true,3),(true,4),(true,5)] (by kernel_rfl) (by kernel_rfl) (by kernel_rfl) (by decide) (fun _ _ _ _ _ h=>h) trivial ?_
  refine ov 7 (.int .i64 (aa)) ?_
  refine ov 8 (.int .i64 (ab)) ?_
  refine ov 9 (.int .i64 (aa)) ?_
  refine ow 10 (.int .i64 ((ab % aa))) rfl (fun w' hS=>(rv_rem 3 3 _ _ ab aa rfl rfl rfl ad af)) ?_
  refine ov 0 (.int .i64 (aa)) ?_
  refine ov 1 (.int .i64 ((ab % aa))) ?_
  refine zb8 ?_
  refine k3 ((ab % aa).toNat) ⟨List.toArray ?l10,[]⟩ _ (by have:=Int.emod_lt_of_pos ab af;omega) ?_
  exact ⟨_,_,(fun i=>List.getD ?l10 i undef),rfl,rfl,(by rw [zX7 ad af];exact ai),(by omega),(Int.emod_nonneg _ (by omega)),hB⟩
 ·have ae:=gcd_end0 ai ac ad aj
  refine wp_exit ?_
  simp only [Exit.then,Exit.inBlock,↓reduceIte]
  refine k2 _ _ ?_
  try clear k2 K2
  refine wp_seq_k (fun ak ah=>?_)
  refine rg [0,1] ?_
  refine sv 11 (.int .i64 (ab)) ?_
  refine sv 4 (.int .i64 (ab)) ?_
  refine za0 ?_
  refine ah _ _ ?_
  try clear ah ak
  refine wp_ret ?_
  refine bodyPost_ret (v:=(.int .i64 (ab))) (zb0 rfl rfl) rfl ⟨?_,hB⟩
  exact (congrArg (fun z=>Ending.returned (.int .i64 z)) ae)

set_option maxRecDepth 100000 in
set_option maxHeartbeats 1000000 in
theorem zV3 (qq0 qq1 qq2 qq3:Int) (_j0:-1099511627776≤qq0∧qq0≤1099511627776) (_j1:-1099511627776≤qq1∧qq1≤1099511627776) (_j2:-1099511627776≤qq2∧qq2≤1099511627776) (_j3:-1099511627776≤qq3∧qq3≤1099511627776) (w:World):
    Calls Tryz.prog 54 #[(.agg #[(.int .i64 (qq0)),(.int .i64 (qq1)),(.int .i64 (qq2)),(.int .i64 (qq3))])] w fun e w'=>e=.returned (.int .i64 (qgcd qq0 qq1 qq2 qq3))∧Gr w w':=by
 go_enter Tryz.func54,Tryz.ntmps54
 have hB:=Gr.refl w
 refine wp_seq_k (fun K1 k1=>?_)
 refine rg [0,1] ?_
 refine se ?_
 refine eb 22 #[(.int .i64 (qq0)),(.int .i64 (qq1)),(.int .i64 (qq2)),(.int .i64 (qq3))] 1 hB fun b2 w2 g2 L2 o2 q2 hB=>?_
 simp only [p3,p4]
 refine sv 2 (.int .i64 0) ?_
 refine za0 ?_
 refine k1 _ _ ?_
 try clear k1 K1
 refine wp_seq_k (fun K3 k3=>?_)
 refine rg [0] ?_
 refine sv 3 (.int .i64 0) ?_
 refine za0 ?_
 refine k3 _ _ ?_
 try clear k3 K3
 refine wp_seq_k (fun K4 k4=>?_)
 refine wp_seq_k (fun K5 k5=>?_)
 refine rg [0] ?_
 refine sv 4 (.int .i64 0) ?_
 refine za0 ?_
 refine k5 _ _ ?_
 try clear k5 K5
 refine wp_block ?_
 refine wp_loop_rounds 6 ?_
 show Code.wp _ _ _ _ _
 refine wp_seq_k (fun K6 k6=>?_)
 refine wp_seq_k (fun K7 k7=>?_)
 refine rg [0,1] ?_
 refine sv 5 (.int .i64 0) ?_
 refine sv 6 (.bool true) ?_
 refine za0 ?_
 refine k7 _ _ ?_
 try clear k7 K7
 refine wp_cond_true rfl ?_
 refine wp_skip ?_
 refine k6 _ _ ?_
 try clear k6 K6
 refine wp_seq_k (fun K8 k8=>?_)
 refine wp_block ?_
 refine rg [0,1,2,3,4,5,6] ?_
 refine sv 9 (.int .i64 0) ?_
 refine sv 10 (.int .i64 0) ?_
 refine sv 11 (.pointer (some ⟨b2,0,none⟩)) ?_
 refine sw 12 (.int .i64 (qq0)) rfl (rk 3 0 L2) ?_
 refine se ?_
 refine ec 13 (zV2 (qq0) (by omega) _) ?_
 rintro e9 w9 ⟨rfl,g9⟩
 refine ⟨_,rfl,?_⟩
 replace hB:=hB.trans g9
 simp only [p3,p4]
 refine se ?_
 refine ec 14 (yh1 (0:Int) (((qq0).natAbs:Int)) (by omega) (by omega) _) ?_
 rintro aO aK ⟨rfl,aa⟩
 refine ⟨_,rfl,?_⟩
 replace hB:=hB.trans aa
 simp only [p3,p4]
 refine sv 3 (.int .i64 ((Int.gcd (0:Int) (((qq0).natAbs:Int)):Int))) ?_
 refine za0 ?_
 refine k8 _ _ ?_
 try clear k8 K8
 refine rg [0,1,2] ?_
 refine sv 7 (.int .i64 0) ?_
 refine sv 8 (.int .i64 1) ?_
 refine sv 4 (.int .i64 1) ?_
 refine za0 ?_
 show Code.rounds _ _ _ _ _ _
 show Code.wp _ _ _ _ _
 refine wp_seq_k (fun aA ak=>?_)
 refine wp_seq_k (fun aD av=>?_)
 refine rg [0,1] ?_
 refine sv 5 (.int .i64 1) ?_
 refine sv 6 (.bool true) ?_
 refine za0 ?_
 refine av _ _ ?_
 try clear av aD
 refine wp_cond_true rfl ?_
 refine wp_skip ?_
 refine ak _ _ ?_
 try clear ak aA
 refine wp_seq_k (fun az ab=>?_)
 refine wp_block ?_
 refine rg [0,1,2,3,4,5,6] ?_
 refine sv 9 (.int .i64 ((Int.gcd (0:Int) (((qq0).natAbs:Int)):Int))) ?_
 refine sv 10 (.int .i64 1) ?_
 refine sv 11 (.pointer (some ⟨b2,1,none⟩)) ?_
 replace L2:=L2.gr (g9.trans aa)
 refine sw 12 (.int .i64 (qq1)) rfl (rk 3 1 L2) ?_
 refine se ?_
 refine ec 13 (zV2 (qq1) (by omega) _) ?_
 rintro aJ aM ⟨rfl,ad⟩
 refine ⟨_,rfl,?_⟩
 replace hB:=hB.trans ad
 simp only [p3,p4]
 refine se ?_
 refine ec 14 (yh1 ((Int.gcd (0:Int) (((qq0).natAbs:Int)):Int)) (((qq1).natAbs:Int)) (by omega) (by omega) _) ?_
 rintro aS aR ⟨rfl,ap⟩
 refine ⟨_,rfl,?_⟩
 replace hB:=hB.trans ap
 simp only [p3,p4]
 refine sv 3 (.int .i64 ((Int.gcd ((Int.gcd (0:Int) (((qq0).natAbs:Int)):Int)) (((qq1).natAbs:Int)):Int))) ?_
 refine za0 ?_
 refine ab _ _ ?_
 try clear ab az
 refine rg [0,1,2] ?_
 refine sv 7 (.int .i64 1) ?_
 refine sv 8 (.int .i64 2) ?_
 refine sv 4 (.int .i64 2) ?_
 refine za0 ?_
 show Code.rounds _ _ _ _ _ _
 show Code.wp _ _ _ _ _
 refine wp_seq_k (fun aI ac=>?_)
 refine wp_seq_k (fun ax af=>?_)
 refine rg [0,1] ?_
 refine sv 5 (.int .i64 2) ?_
 refine sv 6 (.bool true) ?_
 refine za0 ?_
 refine af _ _ ?_
 try clear af ax
 refine wp_cond_true rfl ?_
 refine wp_skip ?_
 refine ac _ _ ?_
 try clear ac aI
 refine wp_seq_k (fun aE aq=>?_)
 refine wp_block ?_
 refine rg [0,1,2,3,4,5,6] ?_
 refine sv 9 (.int .i64 ((Int.gcd ((Int.gcd (0:Int) (((qq0).natAbs:Int)):Int)) (((qq1).natAbs:Int)):Int))) ?_
 refine sv 10 (.int .i64 2) ?_
 refine sv 11 (.pointer (some ⟨b2,2,none⟩)) ?_
 replace L2:=L2.gr (ad.trans ap)
 refine sw 12 (.int .i64 (qq2)) rfl (rk 3 2 L2) ?_
 refine se ?_
 refine ec 13 (zV2 (qq2) (by omega) _) ?_
 rintro aL aP ⟨rfl,aj⟩
 refine ⟨_,rfl,?_⟩
 replace hB:=hB.trans aj
 simp only [p3,p4]
 refine se ?_
 refine ec 14 (yh1 ((Int.gcd ((Int.gcd (0:Int) (((qq0).natAbs:Int)):Int)) (((qq1).natAbs:Int)):Int)) (((qq2).natAbs:Int)) (by omega) (by omega) _) ?_
 rintro aQ aY ⟨rfl,au⟩
 refine ⟨_,rfl,?_⟩
 replace hB:=hB.trans au
 simp only [p3,p4]
 refine sv 3 (.int .i64 ((Int.gcd ((Int.gcd ((Int.gcd (0:Int) (((qq0).natAbs:Int)):Int)) (((qq1).natAbs:Int)):Int)) (((qq2).natAbs:Int)):Int))) ?_
 refine za0 ?_
 refine aq _ _ ?_
 try clear aq aE
 refine rg [0,1,2] ?_
 refine sv 7 (.int .i64 2) ?_
 refine sv 8 (.int .i64 3) ?_
 refine sv 4 (.int .i64 3) ?_
 refine za0 ?_
 show Code.rounds _ _ _ _ _ _
 show Code.wp _ _ _ _ _
 refine wp_seq_k (fun aG ah=>?_)
 refine wp_seq_k (fun aw al=>?_)
 refine rg [0,1] ?_
 refine sv 5 (.int .i64 3) ?_
 refine sv 6 (.bool true) ?_
 refine za0 ?_
 refine al _ _ ?_
 try clear al aw
 refine wp_cond_true rfl ?_
 refine wp_skip ?_
 refine ah _ _ ?_
 try clear ah aG
 refine wp_seq_k (fun ay ai=>?_)
 refine wp_block ?_
 refine rg [0,1,2,3,4,5,6] ?_
 refine sv 9 (.int .i64 ((Int.gcd ((Int.gcd ((Int.gcd (0:Int) (((qq0).natAbs:Int)):Int)) (((qq1).natAbs:Int)):Int)) (((qq2).natAbs:Int)):Int))) ?_
 refine sv 10 (.int .i64 3) ?_
 refine sv 11 (.pointer (some ⟨b2,3,none⟩)) ?_
 replace L2:=L2.gr (aj.trans au)
 refine sw 12 (.int .i64 (qq3)) rfl (rk 3 3 L2) ?_
 refine se ?_
 refine ec 13 (zV2 (qq3) (by omega) _) ?_
 rintro aT aX ⟨rfl,aF⟩
 refine ⟨_,rfl,?_⟩
 replace hB:=hB.trans aF
 simp only [p3,p4]
 refine se ?_
 refine ec 14 (yh1 ((Int.gcd ((Int.gcd ((Int.gcd (0:Int) (((qq0).natAbs:Int)):Int)) (((qq1).natAbs:Int)):Int)) (((qq2).natAbs:Int)):Int)) (((qq3).natAbs:Int)) (by omega) (by omega) _) ?_
 rintro aN aV ⟨rfl,aB⟩
 refine ⟨_,rfl,?_⟩
 replace hB:=hB.trans aB
 simp only [p3,p4]
 refine sv 3 (.int .i64 ((Int.gcd ((Int.gcd ((Int.gcd ((Int.gcd (0:Int) (((qq0).natAbs:Int)):Int)) (((qq1).natAbs:Int)):Int)) (((qq2).natAbs:Int)):Int)) (((qq3).natAbs:Int)):Int))) ?_
 refine za0 ?_
 refine ai _ _ ?_
 try clear ai ay
 refine rg [0,1,2] ?_
 refine sv 7 (.int .i64 3) ?_
 refine sv 8 (.int .i64 4) ?_
 refine sv 4 (.int .i64 4) ?_
 refine za0 ?_
 show Code.rounds _ _ _ _ _ _
 show Code.wp _ _ _ _ _
 refine wp_seq_k (fun aW aU=>?_)
 refine wp_seq_k (fun aC ar=>?_)
 refine rg [0,1] ?_
 refine sv 5 (.int .i64 4) ?_
 refine sv 6 (.bool false) ?_
 refine za0 ?_
 refine ar _ _ ?_
 try clear ar aC
 refine wp_cond_false rfl ?_
 refine wp_exit ?_
 simp only [Exit.then,Exit.inBlock,↓reduceIte]
 refine k4 _ _ ?_
 try clear k4 K4
 refine wp_seq_k (fun aH ae=>?_)
 refine rg [0,1] ?_
 refine sv 15 (.int .i64 ((Int.gcd ((Int.gcd ((Int.gcd ((Int.gcd (0:Int) (((qq0).natAbs:Int)):Int)) (((qq1).natAbs:Int)):Int)) (((qq2).natAbs:Int)):Int)) (((qq3).natAbs:Int)):Int))) ?_
 refine sv 2 (.int .i64 ((Int.gcd ((Int.gcd ((Int.gcd ((Int.gcd (0:Int) (((qq0).natAbs:Int)):Int)) (((qq1).natAbs:Int)):Int)) (((qq2).natAbs:Int)):Int)) (((qq3).natAbs:Int)):Int))) ?_
 refine za0 ?_
 refine ae _ _ ?_
 try clear ae aH
 refine wp_ret ?_
 refine bodyPost_ret (v:=(.int .i64 ((Int.gcd ((Int.gcd ((Int.gcd ((Int.gcd (0:Int) (((qq0).natAbs:Int)):Int)) (((qq1).natAbs:Int)):Int)) (((qq2).natAbs:Int)):Int)) (((qq3).natAbs:Int)):Int)))) (zb0 rfl rfl) rfl ⟨?_,hB⟩
 exact (congrArg (fun z=>Ending.returned (.int .i64 z)) zW3)

set_option maxRecDepth 100000 in
set_option maxHeartbeats 1000000 in
theorem zH0 (qq0 qq1 qq2 qq3:Int) (w:World):
    Calls Tryz.prog 55 #[(.agg #[(.int .i64 (qq0)),(.int .i64 (qq1)),(.int .i64 (qq2)),(.int .i64 (qq3))])] w fun e w'=>e=.returned (.bool (decide (qsgn qq0 qq1 qq2 qq3=1)))∧Gr w w':=by
 go_enter Tryz.func55,Tryz.ntmps55
 have hB:=Gr.refl w
 refine wp_seq_k (fun K1 k1=>?_)
 refine rg [0,1] ?_
 refine se ?_
 refine eb 22 #[(.int .i64 (qq0)),(.int .i64 (qq1)),(.int .i64 (qq2)),(.int .i64 (qq3))] 1 hB fun b2 w2 g2 L2 o2 q2 hB=>?_
 simp only [p3,p4]
 refine sv 2 (.bool false) ?_
 refine za0 ?_
 refine k1 _ _ ?_
 try clear k1 K1
 refine wp_seq_k (fun K3 k3=>?_)
 refine wp_seq_k (fun K4 k4=>?_)
 refine rg [0] ?_
 refine sv 3 (.int .i64 0) ?_
 refine za0 ?_
 refine k4 _ _ ?_
 try clear k4 K4
 refine wp_block ?_
 refine wp_loop_rounds 6 ?_
 show Code.wp _ _ _ _ _
 refine wp_seq_k (fun K5 k5=>?_)
 refine wp_seq_k (fun K6 k6=>?_)
 refine rg [0,1] ?_
 refine sv 4 (.int .i64 0) ?_
 refine sv 5 (.bool true) ?_
 refine za0 ?_
 refine k6 _ _ ?_
 try clear k6 K6
 refine wp_cond_true rfl ?_
 refine wp_skip ?_
 refine k5 _ _ ?_
 try clear k5 K5
 refine wp_seq_k (fun K7 k7=>?_)
 refine wp_block ?_
 refine wp_seq_k (fun K8 k8=>?_)
 refine rg [0,1,2,3] ?_
 refine sv 8 (.int .i64 0) ?_
 refine sv 9 (.pointer (some ⟨b2,0,none⟩)) ?_
 refine sw 10 (.int .i64 (qq0)) rfl (rk 3 0 L2) ?_
 refine sv 11 (.bool ((qq0 !=(0:Int)))) ?_
 refine za0 ?_
 refine k8 _ _ ?_
 try clear k8 K8
 refine wp_cond_split (t:=(qq0 !=(0:Int))) rfl (fun ad=>?_) (fun ad=>?_)
 ·refine wp_seq_k (fun aM ax=>?_)
  refine rg [0,1,2,3,4] ?_
  refine sv 12 (.int .i64 0) ?_
  refine sv 13 (.pointer (some ⟨b2,0,none⟩)) ?_
  refine sw 14 (.int .i64 (qq0)) rfl (rk 3 0 L2) ?_
  refine sv 15 (.bool (decide ((0:Int)<qq0))) ?_
  refine sv 2 (.bool (decide ((0:Int)<qq0))) ?_
  refine za0 ?_
  refine ax _ _ ?_
  try clear ax aM
  refine wp_ret ?_
  simp only [Exit.then,Exit.inBlock]
  refine bodyPost_ret (v:=(.bool (decide ((0:Int)<qq0)))) (zb0 rfl rfl) rfl ⟨?_,hB⟩
  exact (congrArg (fun z=>Ending.returned (.bool z)) (posq0 ad))
 ·refine wp_skip ?_
  refine k7 _ _ ?_
  try clear k7 K7
  refine rg [0,1,2] ?_
  refine sv 6 (.int .i64 0) ?_
  refine sv 7 (.int .i64 1) ?_
  refine sv 3 (.int .i64 1) ?_
  refine za0 ?_
  show Code.rounds _ _ _ _ _ _
  show Code.wp _ _ _ _ _
  refine wp_seq_k (fun aI af=>?_)
  refine wp_seq_k (fun aO aB=>?_)
  refine rg [0,1] ?_
  refine sv 4 (.int .i64 1) ?_
  refine sv 5 (.bool true) ?_
  refine za0 ?_
  refine aB _ _ ?_
  try clear aB aO
  refine wp_cond_true rfl ?_
  refine wp_skip ?_
  refine af _ _ ?_
  try clear af aI
  refine wp_seq_k (fun aH ah=>?_)
  refine wp_block ?_
  refine wp_seq_k (fun aT aj=>?_)
  refine rg [0,1,2,3] ?_
  refine sv 8 (.int .i64 1) ?_
  refine sv 9 (.pointer (some ⟨b2,1,none⟩)) ?_
  refine sw 10 (.int .i64 (qq1)) rfl (rk 3 1 L2) ?_
  refine sv 11 (.bool ((qq1 !=(0:Int)))) ?_
  refine za0 ?_
  refine aj _ _ ?_
  try clear aj aT
  refine wp_cond_split (t:=(qq1 !=(0:Int))) rfl (fun aa=>?_) (fun aa=>?_)
  ·refine wp_seq_k (fun aS ai=>?_)
   refine rg [0,1,2,3,4] ?_
   refine sv 12 (.int .i64 1) ?_
   refine sv 13 (.pointer (some ⟨b2,1,none⟩)) ?_
   refine sw 14 (.int .i64 (qq1)) rfl (rk 3 1 L2) ?_
   refine sv 15 (.bool (decide ((0:Int)<qq1))) ?_
   refine sv 2 (.bool (decide ((0:Int)<qq1))) ?_
   refine za0 ?_
   refine ai _ _ ?_
   try clear ai aS
   refine wp_ret ?_
   simp only [Exit.then,Exit.inBlock]
   refine bodyPost_ret (v:=(.bool (decide ((0:Int)<qq1)))) (zb0 rfl rfl) rfl ⟨?_,hB⟩
   exact (congrArg (fun z=>Ending.returned (.bool z)) (posq1 ad aa))
  ·refine wp_skip ?_
   refine ah _ _ ?_
   try clear ah aH
   refine rg [0,1,2] ?_
   refine sv 6 (.int .i64 1) ?_
   refine sv 7 (.int .i64 2) ?_
   refine sv 3 (.int .i64 2) ?_
   refine za0 ?_
   show Code.rounds _ _ _ _ _ _
   show Code.wp _ _ _ _ _
   refine wp_seq_k (fun aF az=>?_)
   refine wp_seq_k (fun aC au=>?_)
   refine rg [0,1] ?_
   refine sv 4 (.int .i64 2) ?_
   refine sv 5 (.bool true) ?_
   refine za0 ?_
   refine au _ _ ?_
   try clear au aC
   refine wp_cond_true rfl ?_
   refine wp_skip ?_
   refine az _ _ ?_
   try clear az aF
   refine wp_seq_k (fun aR ap=>?_)
   refine wp_block ?_
   refine wp_seq_k (fun aE ar=>?_)
   refine rg [0,1,2,3] ?_
   refine sv 8 (.int .i64 2) ?_
   refine sv 9 (.pointer (some ⟨b2,2,none⟩)) ?_
   refine sw 10 (.int .i64 (qq2)) rfl (rk 3 2 L2) ?_
   refine sv 11 (.bool ((qq2 !=(0:Int)))) ?_
   refine za0 ?_
   refine ar _ _ ?_
   try clear ar aE
   refine wp_cond_split (t:=(qq2 !=(0:Int))) rfl (fun ab=>?_) (fun ab=>?_)
   ·refine wp_seq_k (fun aD ak=>?_)
    refine rg [0,1,2,3,4] ?_
    refine sv 12 (.int .i64 2) ?_
    refine sv 13 (.pointer (some ⟨b2,2,none⟩)) ?_
    refine sw 14 (.int .i64 (qq2)) rfl (rk 3 2 L2) ?_
    refine sv 15 (.bool (decide ((0:Int)<qq2))) ?_
    refine sv 2 (.bool (decide ((0:Int)<qq2))) ?_
    refine za0 ?_
    refine ak _ _ ?_
    try clear ak aD
    refine wp_ret ?_
    simp only [Exit.then,Exit.inBlock]
    refine bodyPost_ret (v:=(.bool (decide ((0:Int)<qq2)))) (zb0 rfl rfl) rfl ⟨?_,hB⟩
    exact (congrArg (fun z=>Ending.returned (.bool z)) (posq2 ad aa ab))
   ·refine wp_skip ?_
    refine ap _ _ ?_
    try clear ap aR
    refine rg [0,1,2] ?_
    refine sv 6 (.int .i64 2) ?_
    refine sv 7 (.int .i64 3) ?_
    refine sv 3 (.int .i64 3) ?_
    refine za0 ?_
    show Code.rounds _ _ _ _ _ _
    show Code.wp _ _ _ _ _
    refine wp_seq_k (fun aG ae=>?_)
    refine wp_seq_k (fun aK al=>?_)
    refine rg [0,1] ?_
    refine sv 4 (.int .i64 3) ?_
    refine sv 5 (.bool true) ?_
    refine za0 ?_
    refine al _ _ ?_
    try clear al aK
    refine wp_cond_true rfl ?_
    refine wp_skip ?_
    refine ae _ _ ?_
    try clear ae aG
    refine wp_seq_k (fun aP aA=>?_)
    refine wp_block ?_
    refine wp_seq_k (fun aN av=>?_)
    refine rg [0,1,2,3] ?_
    refine sv 8 (.int .i64 3) ?_
    refine sv 9 (.pointer (some ⟨b2,3,none⟩)) ?_
    refine sw 10 (.int .i64 (qq3)) rfl (rk 3 3 L2) ?_
    refine sv 11 (.bool ((qq3 !=(0:Int)))) ?_
    refine za0 ?_
    refine av _ _ ?_
    try clear av aN
    refine wp_cond_split (t:=(qq3 !=(0:Int))) rfl (fun ac=>?_) (fun ac=>?_)
    ·refine wp_seq_k (fun aL aq=>?_)
     refine rg [0,1,2,3,4] ?_
     refine sv 12 (.int .i64 3) ?_
     refine sv 13 (.pointer (some ⟨b2,3,none⟩)) ?_
     refine sw 14 (.int .i64 (qq3)) rfl (rk 3 3 L2) ?_
     refine sv 15 (.bool (decide ((0:Int)<qq3))) ?_
     refine sv 2 (.bool (decide ((0:Int)<qq3))) ?_
     refine za0 ?_
     refine aq _ _ ?_
     try clear aq aL
     refine wp_ret ?_
     simp only [Exit.then,Exit.inBlock]
     refine bodyPost_ret (v:=(.bool (decide ((0:Int)<qq3)))) (zb0 rfl rfl) rfl ⟨?_,hB⟩
     exact (congrArg (fun z=>Ending.returned (.bool z)) (posq3 ad aa ab ac))
    ·refine wp_skip ?_
     refine aA _ _ ?_
     try clear aA aP
     refine rg [0,1,2] ?_
     refine sv 6 (.int .i64 3) ?_
     refine sv 7 (.int .i64 4) ?_
     refine sv 3 (.int .i64 4) ?_
     refine za0 ?_
     show Code.rounds _ _ _ _ _ _
     show Code.wp _ _ _ _ _
     refine wp_seq_k (fun aU aV=>?_)
     refine wp_seq_k (fun aQ aw=>?_)
     refine rg [0,1] ?_
     refine sv 4 (.int .i64 4) ?_
     refine sv 5 (.bool false) ?_
     refine za0 ?_
     refine aw _ _ ?_
     try clear aw aQ
     refine wp_cond_false rfl ?_
     refine wp_exit ?_
     simp only [Exit.then,Exit.inBlock,↓reduceIte]
     refine k3 _ _ ?_
     try clear k3 K3
     refine wp_seq_k (fun aJ ay=>?_)
     refine rg [0] ?_
     refine sv 2 (.bool false) ?_
     refine za0 ?_
     refine ay _ _ ?_
     try clear ay aJ
     refine wp_ret ?_
     refine bodyPost_ret (v:=(.bool false)) (zb0 rfl rfl) rfl ⟨?_,hB⟩
     exact (congrArg (fun z=>Ending.returned (.bool z)) (posq4 ad aa ab ac))

set_option maxRecDepth 100000 in
set_option maxHeartbeats 1000000 in
theorem yt2 (qq0 qq1 qq2 qq3:Int) (j0:-1099511627776≤qq0∧qq0≤1099511627776) (j1:-1099511627776≤qq1∧qq1≤1099511627776) (j2:-1099511627776≤qq2∧qq2≤1099511627776) (j3:-1099511627776≤qq3∧qq3≤1099511627776) (hn:¬(qq0=0∧qq1=0∧qq2=0∧qq3=0)) (hs:qsgn qq0 qq1 qq2 qq3=1) (w:World):
    Calls Tryz.prog 66 #[(.agg #[(.int .i64 (qq0)),(.int .i64 (qq1)),(.int .i64 (qq2)),(.int .i64 (qq3))])] w fun e w'=>e=.returned (.agg #[.int .i64 (qprim qq0 qq1 qq2 qq3 qq0),.int .i64 (qprim qq0 qq1 qq2 qq3 qq1),.int .i64 (qprim qq0 qq1 qq2 qq3 qq2),.int .i64 (qprim qq0 qq1 qq2 qq3 qq3)])∧Gr w w':=by
 have hsb:decide (qsgn qq0 qq1 qq2 qq3=1)=true:=by rw [hs];rfl
 have hd:=zk5 qq0 qq1 qq2 qq3
 have hgp:=zs8 hn
 have a3:=ze3 (n:=qq0) hn
 have aW:=ze3 (n:=qq1) hn
 have aV:=ze3 (n:=qq2) hn
 have a5:=ze3 (n:=qq3) hn
 have hgm:qgcd qq0 qq1 qq2 qq3≤1099511627776:=by
    have h1:=hd.1;have h2:=hd.2.1;have h3:=hd.2.2.1;have h4:=hd.2.2.2
    have le:∀ x:Int,x≠0→-1099511627776≤x∧x≤1099511627776→qgcd qq0 qq1 qq2 qq3∣x→qgcd qq0 qq1 qq2 qq3≤1099511627776:=by
      intro x hx hb hdx
      have:=Nat.le_of_dvd (by omega) (Int.natAbs_dvd_natAbs.2 hdx)
      omega
    by_cases z0:qq0=0
    · by_cases z1:qq1=0
      · by_cases z2:qq2=0
        · exact le qq3 (fun z3=>hn ⟨z0,z1,z2,z3⟩) j3 h4
        · exact le qq2 z2 j2 h3
      · exact le qq1 z1 j1 h2
    · exact le qq0 z0 j0 h1
 go_enter Tryz.func66,Tryz.ntmps66
 have hB:=Gr.refl w
 refine wp_seq_k (fun K1 k1=>?_)
 refine rg [0,1] ?_
 refine se ?_
 refine eb 22 #[(.int .i64 (qq0)),(.int .i64 (qq1)),(.int .i64 (qq2)),(.int .i64 (qq3))] 1 hB fun b2 w2 g2 L2 o2 q2 hB=>?_
 simp only [p3,p4]
 refine se ?_
 refine ea 22 #[.int .i64 0,.int .i64 0,.int .i64 0,.int .i64 0] 2 hB fun b3 w3 g3 L3 o3 q3 hB=>?_
 have aa:=L2.ne o3
 simp only [p3,p4]
 refine za0 ?_
 refine k1 _ _ ?_
 try clear k1 K1
 refine wp_seq_k (fun K4 k4=>?_)
 refine rg [0,1,2] ?_
 replace L2:=L2.gr g3
 refine sw 5 (.agg #[(.int .i64 (qq0)),(.int .i64 (qq1)),(.int .i64 (qq2)),(.int .i64 (qq3))]) rfl (rl 22 0 [(.int .i64 (qq0)),(.int .i64 (qq1)),(.int .i64 (qq2)),(.int .i64 (qq3))] L2) ?_
 refine se ?_
 refine ec 6 (zV3 qq0 qq1 qq2 qq3 (by omega) (by omega) (by omega) (by omega) _) ?_
 rintro e5 w5 ⟨rfl,g5⟩
 refine ⟨_,rfl,?_⟩
 replace hB:=hB.trans g5
 simp only [p3,p4]
 refine sv 3 (.int .i64 (qgcd qq0 qq1 qq2 qq3)) ?_
 refine za0 ?_
 refine k4 _ _ ?_
 try clear k4 K4
 refine wp_seq_k (fun K6 k6=>?_)
 refine wp_seq_k (fun K7 k7=>?_)
 refine rg [0,1,2] ?_
 replace L2:=L2.gr g5
 refine sw 7 (.agg #[(.int .i64 (qq0)),(.int .i64 (qq1)),(.int .i64 (qq2)),(.int .i64 (qq3))]) rfl (rl 22 0 [(.int .i64 (qq0)),(.int .i64 (qq1)),(.int .i64 (qq2)),(.int .i64 (qq3))] L2) ?_
 refine se ?_
 refine ec 8 (zH0 qq0 qq1 qq2 qq3 _) ?_
 rintro e8 w8 ⟨rfl,g8⟩
 refine ⟨_,rfl,?_⟩
 replace hB:=hB.trans g8
 simp only [p3,p4]
 refine sw 9 (.bool false) rfl (RunV.bool (x:=!(decide (qsgn qq0 qq1 qq2 qq3=1))) (rvk (by kernel_rfl)) (show (!(decide (qsgn qq0 qq1 qq2 qq3=1)))=false by rw [hsb];rfl)) ?_
 refine za0 ?_
 refine k7 _ _ ?_
 try clear k7 K7
 refine wp_cond_false rfl ?_
 refine wp_skip ?_
 refine k6 _ _ ?_
 try clear k6 K6
 refine wp_seq_k (fun K9 k9=>?_)
 refine wp_seq_k (fun aQ aw=>?_)
 refine rg [0] ?_
 refine sv 4 (.int .i64 0) ?_
 refine za0 ?_
 refine aw _ _ ?_
 try clear aw aQ
 refine wp_block ?_
 refine wp_loop_rounds 6 ?_
 show Code.wp _ _ _ _ _
 refine wp_seq_k (fun aF aq=>?_)
 refine wp_seq_k (fun aI az=>?_)
 refine rg [0,1] ?_
 refine sv 12 (.int .i64 0) ?_
 refine sv 13 (.bool true) ?_
 refine za0 ?_
 refine az _ _ ?_
 try clear az aI
 refine wp_cond_true rfl ?_
 refine wp_skip ?_
 refine aq _ _ ?_
 try clear aq aF
 refine wp_seq_k (fun aE af=>?_)
 refine wp_block ?_
 refine rg [0,1,2,3,4,5,6,7] ?_
 refine sv 16 (.int .i64 0) ?_
 refine sv 17 (.int .i64 0) ?_
 refine sv 18 (.pointer (some ⟨b2,0,none⟩)) ?_
 replace L2:=L2.gr g8
 refine sw 19 (.int .i64 (qq0)) rfl (rk 3 0 L2) ?_
 refine sv 20 (.int .i64 (qgcd qq0 qq1 qq2 qq3)) ?_
 refine sw 21 (.int .i64 (qprim qq0 qq1 qq2 qq3 qq0)) rfl (zq9 3 3 _ _ qq0 (qgcd qq0 qq1 qq2 qq3) (qprim qq0 qq1 qq2 qq3 qq0) rfl rfl rfl (zQ8 hn hd.1 hs) (by omega) (by omega) (by omega)) ?_
 refine sv 22 (.pointer (some ⟨b2,0,none⟩)) ?_
 refine se ?_
 refine es 3 0 (.int .i64 (qprim qq0 qq1 qq2 qq3 qq0)) [(.int .i64 (qprim qq0 qq1 qq2 qq3 qq0))] #[(.int .i64 (qprim qq0 qq1 qq2 qq3 qq0)),(.int .i64 (qq1)),(.int .i64 (qq2)),(.int .i64 (qq3))] L2 hB q2 ⟨rfl,trivial⟩ fun aY ab aL L2 hB=>?_
 refine za0 ?_
 refine af _ _ ?_
 try clear af aE
 refine rg [0,1,2] ?_
 refine sv 14 (.int .i64 0) ?_
 refine sv 15 (.int .i64 1) ?_
 refine sv 4 (.int .i64 1) ?_
 refine za0 ?_
 show Code.rounds _ _ _ _ _ _
 show Code.wp _ _ _ _ _
 refine wp_seq_k (fun aA av=>?_)
 refine wp_seq_k (fun aS ah=>?_)
 refine rg [0,1] ?_
 refine sv 12 (.int .i64 1) ?_
 refine sv 13 (.bool true) ?_
 refine za0 ?_
 refine ah _ _ ?_
 try clear ah aS
 refine wp_cond_true rfl ?_
 refine wp_skip ?_
 refine av _ _ ?_
 try clear av aA
 refine wp_seq_k (fun aC ak=>?_)
 refine wp_block ?_
 refine rg [0,1,2,3,4,5,6,7] ?_
 refine sv 16 (.int .i64 1) ?_
 refine sv 17 (.int .i64 1) ?_
 refine sv 18 (.pointer (some ⟨b2,1,none⟩)) ?_
 refine sw 19 (.int .i64 (qq1)) rfl (rk 3 1 L2) ?_
 refine sv 20 (.int .i64 (qgcd qq0 qq1 qq2 qq3)) ?_
 refine sw 21 (.int .i64 (qprim qq0 qq1 qq2 qq3 qq1)) rfl (zq9 3 3 _ _ qq1 (qgcd qq0 qq1 qq2 qq3) (qprim qq0 qq1 qq2 qq3 qq1) rfl rfl rfl (zQ8 hn hd.2.1 hs) (by omega) (by omega) (by omega)) ?_
 refine sv 22 (.pointer (some ⟨b2,1,none⟩)) ?_
 refine se ?_
 refine es 3 1 (.int .i64 (qprim qq0 qq1 qq2 qq3 qq1)) [(.int .i64 (qprim qq0 qq1 qq2 qq3 qq1))] #[(.int .i64 (qprim qq0 qq1 qq2 qq3 qq0)),(.int .i64 (qprim qq0 qq1 qq2 qq3 qq1)),(.int .i64 (qq2)),(.int .i64 (qq3))] L2 hB q2 ⟨rfl,trivial⟩ fun a2 ad aB L2 hB=>?_
 refine za0 ?_
 refine ak _ _ ?_
 try clear ak aC
 refine rg [0,1,2] ?_
 refine sv 14 (.int .i64 1) ?_
 refine sv 15 (.int .i64 2) ?_
 refine sv 4 (.int .i64 2) ?_
 refine za0 ?_
 show Code.rounds _ _ _ _ _ _
 show Code.wp _ _ _ _ _
 refine wp_seq_k (fun aK au=>?_)
 refine wp_seq_k (fun aM aj=>?_)
 refine rg [0,1] ?_
 refine sv 12 (.int .i64 2) ?_
 refine sv 13 (.bool true) ?_
 refine za0 ?_
 refine aj _ _ ?_
 try clear aj aM
 refine wp_cond_true rfl ?_
 refine wp_skip ?_
 refine au _ _ ?_
 try clear au aK
 refine wp_seq_k (fun aN al=>?_)
 refine wp_block ?_
 refine rg [0,1,2,3,4,5,6,7] ?_
 refine sv 16 (.int .i64 2) ?_
 refine sv 17 (.int .i64 2) ?_
 refine sv 18 (.pointer (some ⟨b2,2,none⟩)) ?_
 refine sw 19 (.int .i64 (qq2)) rfl (rk 3 2 L2) ?_
 refine sv 20 (.int .i64 (qgcd qq0 qq1 qq2 qq3)) ?_
 refine sw 21 (.int .i64 (qprim qq0 qq1 qq2 qq3 qq2)) rfl (zq9 3 3 _ _ qq2 (qgcd qq0 qq1 qq2 qq3) (qprim qq0 qq1 qq2 qq3 qq2) rfl rfl rfl (zQ8 hn hd.2.2.1 hs) (by omega) (by omega) (by omega)) ?_
 refine sv 22 (.pointer (some ⟨b2,2,none⟩)) ?_
 refine se ?_
 refine es 3 2 (.int .i64 (qprim qq0 qq1 qq2 qq3 qq2)) [(.int .i64 (qprim qq0 qq1 qq2 qq3 qq2))] #[(.int .i64 (qprim qq0 qq1 qq2 qq3 qq0)),(.int .i64 (qprim qq0 qq1 qq2 qq3 qq1)),(.int .i64 (qprim qq0 qq1 qq2 qq3 qq2)),(.int .i64 (qq3))] L2 hB q2 ⟨rfl,trivial⟩ fun aX ae aU L2 hB=>?_
 refine za0 ?_
 refine al _ _ ?_
 try clear al aN
 refine rg [0,1,2] ?_
 refine sv 14 (.int .i64 2) ?_
 refine sv 15 (.int .i64 3) ?_
 refine sv 4 (.int .i64 3) ?_
 refine za0 ?_
 show Code.rounds _ _ _ _ _ _
 show Code.wp _ _ _ _ _
 refine wp_seq_k (fun aD ap=>?_)
 refine wp_seq_k (fun aO ar=>?_)
 refine rg [0,1] ?_
 refine sv 12 (.int .i64 3) ?_
 refine sv 13 (.bool true) ?_
 refine za0 ?_
 refine ar _ _ ?_
 try clear ar aO
 refine wp_cond_true rfl ?_
 refine wp_skip ?_
 refine ap _ _ ?_
 try clear ap aD
 refine wp_seq_k (fun aJ ax=>?_)
 refine wp_block ?_
 refine rg [0,1,2,3,4,5,6,7] ?_
 refine sv 16 (.int .i64 3) ?_
 refine sv 17 (.int .i64 3) ?_
 refine sv 18 (.pointer (some ⟨b2,3,none⟩)) ?_
 refine sw 19 (.int .i64 (qq3)) rfl (rk 3 3 L2) ?_
 refine sv 20 (.int .i64 (qgcd qq0 qq1 qq2 qq3)) ?_
 refine sw 21 (.int .i64 (qprim qq0 qq1 qq2 qq3 qq3)) rfl (zq9 3 3 _ _ qq3 (qgcd qq0 qq1 qq2 qq3) (qprim qq0 qq1 qq2 qq3 qq3) rfl rfl rfl (zQ8 hn hd.2.2.2 hs) (by omega) (by omega) (by omega)) ?_
 refine sv 22 (.pointer (some ⟨b2,3,none⟩)) ?_
 refine se ?_
 refine es 3 3 (.int .i64 (qprim qq0 qq1 qq2 qq3 qq3)) [(.int .i64 (qprim qq0 qq1 qq2 qq3 qq3))] #[(.int .i64 (qprim qq0 qq1 qq2 qq3 qq0)),(.int .i64 (qprim qq0 qq1 qq2 qq3 qq1)),(.int .i64 (qprim qq0 qq1 qq2 qq3 qq2)),(.int .i64 (qprim qq0 qq1 qq2 qq3 qq3))] L2 hB q2 ⟨rfl,trivial⟩ fun a0 ac aG L2 hB=>?_
 refine za0 ?_
 refine ax _ _ ?_
 try clear ax aJ
 refine rg [0,1,2] ?_
 refine sv 14 (.int .i64 3) ?_
 refine sv 15 (.int .i64 4) ?_
 refine sv 4 (.int .i64 4) ?_
 refine za0 ?_
 show Code.rounds _ _ _ _ _ _
 show Code.wp _ _ _ _ _
 refine wp_seq_k (fun aZ a4=>?_)
 refine wp_seq_k (fun aP ai=>?_)
 refine rg [0,1] ?_
 refine sv 12 (.int .i64 4) ?_
 refine sv 13 (.bool false) ?_
 refine za0 ?_
 refine ai _ _ ?_
 try clear ai aP
 refine wp_cond_false rfl ?_
 refine wp_exit ?_
 simp only [Exit.then,Exit.inBlock,↓reduceIte]
 refine k9 _ _ ?_
 try clear k9 K9
 refine wp_seq_k (fun aH ay=>?_)
 refine rg [0,1] ?_
 refine sw 23 (.agg #[(.int .i64 (qprim qq0 qq1 qq2 qq3 qq0)),(.int .i64 (qprim qq0 qq1 qq2 qq3 qq1)),(.int .i64 (qprim qq0 qq1 qq2 qq3 qq2)),(.int .i64 (qprim qq0 qq1 qq2 qq3 qq3))]) rfl (rl 22 0 [(.int .i64 (qprim qq0 qq1 qq2 qq3 qq0)),(.int .i64 (qprim qq0 qq1 qq2 qq3 qq1)),(.int .i64 (qprim qq0 qq1 qq2 qq3 qq2)),(.int .i64 (qprim qq0 qq1 qq2 qq3 qq3))] L2) ?_
 refine se ?_
 replace L3:=ac.lc (ae.lc (ad.lc (ab.lc (L3.gr (g5.trans g8)) (Ne.symm aa)) (Ne.symm aa)) (Ne.symm aa)) (Ne.symm aa)
 refine es 22 0 (.agg #[(.int .i64 (qprim qq0 qq1 qq2 qq3 qq0)),(.int .i64 (qprim qq0 qq1 qq2 qq3 qq1)),(.int .i64 (qprim qq0 qq1 qq2 qq3 qq2)),(.int .i64 (qprim qq0 qq1 qq2 qq3 qq3))]) [(.int .i64 (qprim qq0 qq1 qq2 qq3 qq0)),(.int .i64 (qprim qq0 qq1 qq2 qq3 qq1)),(.int .i64 (qprim qq0 qq1 qq2 qq3 qq2)),(.int .i64 (qprim qq0 qq1 qq2 qq3 qq3))] #[(.int .i64 (qprim qq0 qq1 qq2 qq3 qq0)),(.int .i64 (qprim qq0 qq1 qq2 qq3 qq1)),(.int .i64 (qprim qq0 qq1 qq2 qq3 qq2)),(.int .i64 (qprim qq0 qq1 qq2 qq3 qq3))] L3 hB q3 ⟨rfl,rfl,rfl,rfl,trivial⟩ fun a1 aT aR L3 hB=>?_
 refine za0 ?_
 refine ay _ _ ?_
 try clear ay aH
 refine wp_ret ?_
 refine bodyPost_ret (v:=(.agg #[(.int .i64 (qprim qq0 qq1 qq2 qq3 qq0)),(.int .i64 (qprim qq0 qq1 qq2 qq3 qq1)),(.int .i64 (qprim qq0 qq1 qq2 qq3 qq2)),(.int .i64 (qprim qq0 qq1 qq2 qq3 qq3))])) (za9 _ _ _ rfl rfl L3 (by kernel_rfl)) rfl ⟨?_,hB⟩
 exact rfl

set_option maxRecDepth 100000 in
set_option maxHeartbeats 1000000 in
theorem yt3 (qq0 qq1 qq2 qq3:Int) (j0:-1099511627776≤qq0∧qq0≤1099511627776) (j1:-1099511627776≤qq1∧qq1≤1099511627776) (j2:-1099511627776≤qq2∧qq2≤1099511627776) (j3:-1099511627776≤qq3∧qq3≤1099511627776) (hn:¬(qq0=0∧qq1=0∧qq2=0∧qq3=0)) (hs:qsgn qq0 qq1 qq2 qq3=-1) (w:World):
    Calls Tryz.prog 66 #[(.agg #[(.int .i64 (qq0)),(.int .i64 (qq1)),(.int .i64 (qq2)),(.int .i64 (qq3))])] w fun e w'=>e=.returned (.agg #[.int .i64 (qprim qq0 qq1 qq2 qq3 qq0),.int .i64 (qprim qq0 qq1 qq2 qq3 qq1),.int .i64 (qprim qq0 qq1 qq2 qq3 qq2),.int .i64 (qprim qq0 qq1 qq2 qq3 qq3)])∧Gr w w':=by
 have hsb:decide (qsgn qq0 qq1 qq2 qq3=1)=false:=by rw [hs];rfl
 have hd:=zk5 qq0 qq1 qq2 qq3
 have hgp:=zs8 hn
 have a3:=ze3 (n:=qq0) hn
 have aW:=ze3 (n:=qq1) hn
 have aV:=ze3 (n:=qq2) hn
 have a5:=ze3 (n:=qq3) hn
 have hgm:qgcd qq0 qq1 qq2 qq3≤1099511627776:=by
    have h1:=hd.1;have h2:=hd.2.1;have h3:=hd.2.2.1;have h4:=hd.2.2.2
    have le:∀ x:Int,x≠0→-1099511627776≤x∧x≤1099511627776→qgcd qq0 qq1 qq2 qq3∣x→qgcd qq0 qq1 qq2 qq3≤1099511627776:=by
      intro x hx hb hdx
      have:=Nat.le_of_dvd (by omega) (Int.natAbs_dvd_natAbs.2 hdx)
      omega
    by_cases z0:qq0=0
    · by_cases z1:qq1=0
      · by_cases z2:qq2=0
        · exact le qq3 (fun z3=>hn ⟨z0,z1,z2,z3⟩) j3 h4
        · exact le qq2 z2 j2 h3
      · exact le qq1 z1 j1 h2
    · exact le qq0 z0 j0 h1
 go_enter Tryz.func66,Tryz.ntmps66
 have hB:=Gr.refl w
 refine wp_seq_k (fun K1 k1=>?_)
 refine rg [0,1] ?_
 refine se ?_
 refine eb 22 #[(.int .i64 (qq0)),(.int .i64 (qq1)),(.int .i64 (qq2)),(.int .i64 (qq3))] 1 hB fun b2 w2 g2 L2 o2 q2 hB=>?_
 simp only [p3,p4]
 refine se ?_
 refine ea 22 #[.int .i64 0,.int .i64 0,.int .i64 0,.int .i64 0] 2 hB fun b3 w3 g3 L3 o3 q3 hB=>?_
 have aa:=L2.ne o3
 simp only [p3,p4]
 refine za0 ?_
 refine k1 _ _ ?_
 try clear k1 K1
 refine wp_seq_k (fun K4 k4=>?_)
 refine rg [0,1,2] ?_
 replace L2:=L2.gr g3
 refine sw 5 (.agg #[(.int .i64 (qq0)),(.int .i64 (qq1)),(.int .i64 (qq2)),(.int .i64 (qq3))]) rfl (rl 22 0 [(.int .i64 (qq0)),(.int .i64 (qq1)),(.int .i64 (qq2)),(.int .i64 (qq3))] L2) ?_
 refine se ?_
 refine ec 6 (zV3 qq0 qq1 qq2 qq3 (by omega) (by omega) (by omega) (by omega) _) ?_
 rintro e5 w5 ⟨rfl,g5⟩
 refine ⟨_,rfl,?_⟩
 replace hB:=hB.trans g5
 simp only [p3,p4]
 refine sv 3 (.int .i64 (qgcd qq0 qq1 qq2 qq3)) ?_
 refine za0 ?_
 refine k4 _ _ ?_
 try clear k4 K4
 refine wp_seq_k (fun K6 k6=>?_)
 refine wp_seq_k (fun K7 k7=>?_)
 refine rg [0,1,2] ?_
 replace L2:=L2.gr g5
 refine sw 7 (.agg #[(.int .i64 (qq0)),(.int .i64 (qq1)),(.int .i64 (qq2)),(.int .i64 (qq3))]) rfl (rl 22 0 [(.int .i64 (qq0)),(.int .i64 (qq1)),(.int .i64 (qq2)),(.int .i64 (qq3))] L2) ?_
 refine se ?_
 refine ec 8 (zH0 qq0 qq1 qq2 qq3 _) ?_
 rintro e8 w8 ⟨rfl,g8⟩
 refine ⟨_,rfl,?_⟩
 replace hB:=hB.trans g8
 simp only [p3,p4]
 refine sw 9 (.bool true) rfl (RunV.bool (x:=!(decide (qsgn qq0 qq1 qq2 qq3=1))) (rvk (by kernel_rfl)) (show (!(decide (qsgn qq0 qq1 qq2 qq3=1)))=true by rw [hsb];rfl)) ?_
 refine za0 ?_
 refine k7 _ _ ?_
 try clear k7 K7
 refine wp_cond_true rfl ?_
 refine rg [0,1,2] ?_
 refine sv 10 (.int .i64 (qgcd qq0 qq1 qq2 qq3)) ?_
 refine sw 11 (.int .i64 ((0 - qgcd qq0 qq1 qq2 qq3))) rfl (RunV.int (x:=IntKind.i64.wrap ((0 - qgcd qq0 qq1 qq2 qq3))) (y:=(0 - qgcd qq0 qq1 qq2 qq3)) (rvk (by kernel_rfl)) (by first | rfl | (rw [IntKind.wrap_i64];omega))) ?_
 refine sv 3 (.int .i64 ((0 - qgcd qq0 qq1 qq2 qq3))) ?_
 refine za0 ?_
 refine k6 _ _ ?_
 try clear k6 K6
 refine wp_seq_k (fun K9 k9=>?_)
 refine wp_seq_k (fun aQ aw=>?_)
 refine rg [0] ?_
 refine sv 4 (.int .i64 0) ?_
 refine za0 ?_
 refine aw _ _ ?_
 try clear aw aQ
 refine wp_block ?_
 refine wp_loop_rounds 6 ?_
 show Code.wp _ _ _ _ _
 refine wp_seq_k (fun aF aq=>?_)
 refine wp_seq_k (fun aI az=>?_)
 refine rg [0,1] ?_
 refine sv 12 (.int .i64 0) ?_
 refine sv 13 (.bool true) ?_
 refine za0 ?_
 refine az _ _ ?_
 try clear az aI
 refine wp_cond_true rfl ?_
 refine wp_skip ?_
 refine aq _ _ ?_
 try clear aq aF
 refine wp_seq_k (fun aE af=>?_)
 refine wp_block ?_
 refine rg [0,1,2,3,4,5,6,7] ?_
 refine sv 16 (.int .i64 0) ?_
 refine sv 17 (.int .i64 0) ?_
 refine sv 18 (.pointer (some ⟨b2,0,none⟩)) ?_
 replace L2:=L2.gr g8
 refine sw 19 (.int .i64 (qq0)) rfl (rk 3 0 L2) ?_
 refine sv 20 (.int .i64 ((0 - qgcd qq0 qq1 qq2 qq3))) ?_
 refine sw 21 (.int .i64 (qprim qq0 qq1 qq2 qq3 qq0)) rfl (zq9 3 3 _ _ qq0 ((0 - qgcd qq0 qq1 qq2 qq3)) (qprim qq0 qq1 qq2 qq3 qq0) rfl rfl rfl (zQ9 hn hd.1 hs) (by omega) (by omega) (by omega)) ?_
 refine sv 22 (.pointer (some ⟨b2,0,none⟩)) ?_
 refine se ?_
 refine es 3 0 (.int .i64 (qprim qq0 qq1 qq2 qq3 qq0)) [(.int .i64 (qprim qq0 qq1 qq2 qq3 qq0))] #[(.int .i64 (qprim qq0 qq1 qq2 qq3 qq0)),(.int .i64 (qq1)),(.int .i64 (qq2)),(.int .i64 (qq3))] L2 hB q2 ⟨rfl,trivial⟩ fun aY ab aL L2 hB=>?_
 refine za0 ?_
 refine af _ _ ?_
 try clear af aE
 refine rg [0,1,2] ?_
 refine sv 14 (.int .i64 0) ?_
 refine sv 15 (.int .i64 1) ?_
 refine sv 4 (.int .i64 1) ?_
 refine za0 ?_
 show Code.rounds _ _ _ _ _ _
 show Code.wp _ _ _ _ _
 refine wp_seq_k (fun aA av=>?_)
 refine wp_seq_k (fun aS ah=>?_)
 refine rg [0,1] ?_
 refine sv 12 (.int .i64 1) ?_
 refine sv 13 (.bool true) ?_
 refine za0 ?_
 refine ah _ _ ?_
 try clear ah aS
 refine wp_cond_true rfl ?_
 refine wp_skip ?_
 refine av _ _ ?_
 try clear av aA
 refine wp_seq_k (fun aC ak=>?_)
 refine wp_block ?_
 refine rg [0,1,2,3,4,5,6,7] ?_
 refine sv 16 (.int .i64 1) ?_
 refine sv 17 (.int .i64 1) ?_
 refine sv 18 (.pointer (some ⟨b2,1,none⟩)) ?_
 refine sw 19 (.int .i64 (qq1)) rfl (rk 3 1 L2) ?_
 refine sv 20 (.int .i64 ((0 - qgcd qq0 qq1 qq2 qq3))) ?_
 refine sw 21 (.int .i64 (qprim qq0 qq1 qq2 qq3 qq1)) rfl (zq9 3 3 _ _ qq1 ((0 - qgcd qq0 qq1 qq2 qq3)) (qprim qq0 qq1 qq2 qq3 qq1) rfl rfl rfl (zQ9 hn hd.2.1 hs) (by omega) (by omega) (by omega)) ?_
 refine sv 22 (.pointer (some ⟨b2,1,none⟩)) ?_
 refine se ?_
 refine es 3 1 (.int .i64 (qprim qq0 qq1 qq2 qq3 qq1)) [(.int .i64 (qprim qq0 qq1 qq2 qq3 qq1))] #[(.int .i64 (qprim qq0 qq1 qq2 qq3 qq0)),(.int .i64 (qprim qq0 qq1 qq2 qq3 qq1)),(.int .i64 (qq2)),(.int .i64 (qq3))] L2 hB q2 ⟨rfl,trivial⟩ fun a2 ad aB L2 hB=>?_
 refine za0 ?_
 refine ak _ _ ?_
 try clear ak aC
 refine rg [0,1,2] ?_
 refine sv 14 (.int .i64 1) ?_
 refine sv 15 (.int .i64 2) ?_
 refine sv 4 (.int .i64 2) ?_
 refine za0 ?_
 show Code.rounds _ _ _ _ _ _
 show Code.wp _ _ _ _ _
 refine wp_seq_k (fun aK au=>?_)
 refine wp_seq_k (fun aM aj=>?_)
 refine rg [0,1] ?_
 refine sv 12 (.int .i64 2) ?_
 refine sv 13 (.bool true) ?_
 refine za0 ?_
 refine aj _ _ ?_
 try clear aj aM
 refine wp_cond_true rfl ?_
 refine wp_skip ?_
 refine au _ _ ?_
 try clear au aK
 refine wp_seq_k (fun aN al=>?_)
 refine wp_block ?_
 refine rg [0,1,2,3,4,5,6,7] ?_
 refine sv 16 (.int .i64 2) ?_
 refine sv 17 (.int .i64 2) ?_
 refine sv 18 (.pointer (some ⟨b2,2,none⟩)) ?_
 refine sw 19 (.int .i64 (qq2)) rfl (rk 3 2 L2) ?_
 refine sv 20 (.int .i64 ((0 - qgcd qq0 qq1 qq2 qq3))) ?_
 refine sw 21 (.int .i64 (qprim qq0 qq1 qq2 qq3 qq2)) rfl (zq9 3 3 _ _ qq2 ((0 - qgcd qq0 qq1 qq2 qq3)) (qprim qq0 qq1 qq2 qq3 qq2) rfl rfl rfl (zQ9 hn hd.2.2.1 hs) (by omega) (by omega) (by omega)) ?_
 refine sv 22 (.pointer (some ⟨b2,2,none⟩)) ?_
 refine se ?_
 refine es 3 2 (.int .i64 (qprim qq0 qq1 qq2 qq3 qq2)) [(.int .i64 (qprim qq0 qq1 qq2 qq3 qq2))] #[(.int .i64 (qprim qq0 qq1 qq2 qq3 qq0)),(.int .i64 (qprim qq0 qq1 qq2 qq3 qq1)),(.int .i64 (qprim qq0 qq1 qq2 qq3 qq2)),(.int .i64 (qq3))] L2 hB q2 ⟨rfl,trivial⟩ fun aX ae aU L2 hB=>?_
 refine za0 ?_
 refine al _ _ ?_
 try clear al aN
 refine rg [0,1,2] ?_
 refine sv 14 (.int .i64 2) ?_
 refine sv 15 (.int .i64 3) ?_
 refine sv 4 (.int .i64 3) ?_
 refine za0 ?_
 show Code.rounds _ _ _ _ _ _
 show Code.wp _ _ _ _ _
 refine wp_seq_k (fun aD ap=>?_)
 refine wp_seq_k (fun aO ar=>?_)
 refine rg [0,1] ?_
 refine sv 12 (.int .i64 3) ?_
 refine sv 13 (.bool true) ?_
 refine za0 ?_
 refine ar _ _ ?_
 try clear ar aO
 refine wp_cond_true rfl ?_
 refine wp_skip ?_
 refine ap _ _ ?_
 try clear ap aD
 refine wp_seq_k (fun aJ ax=>?_)
 refine wp_block ?_
 refine rg [0,1,2,3,4,5,6,7] ?_
 refine sv 16 (.int .i64 3) ?_
 refine sv 17 (.int .i64 3) ?_
 refine sv 18 (.pointer (some ⟨b2,3,none⟩)) ?_
 refine sw 19 (.int .i64 (qq3)) rfl (rk 3 3 L2) ?_
 refine sv 20 (.int .i64 ((0 - qgcd qq0 qq1 qq2 qq3))) ?_
 refine sw 21 (.int .i64 (qprim qq0 qq1 qq2 qq3 qq3)) rfl (zq9 3 3 _ _ qq3 ((0 - qgcd qq0 qq1 qq2 qq3)) (qprim qq0 qq1 qq2 qq3 qq3) rfl rfl rfl (zQ9 hn hd.2.2.2 hs) (by omega) (by omega) (by omega)) ?_
 refine sv 22 (.pointer (some ⟨b2,3,none⟩)) ?_
 refine se ?_
 refine es 3 3 (.int .i64 (qprim qq0 qq1 qq2 qq3 qq3)) [(.int .i64 (qprim qq0 qq1 qq2 qq3 qq3))] #[(.int .i64 (qprim qq0 qq1 qq2 qq3 qq0)),(.int .i64 (qprim qq0 qq1 qq2 qq3 qq1)),(.int .i64 (qprim qq0 qq1 qq2 qq3 qq2)),(.int .i64 (qprim qq0 qq1 qq2 qq3 qq3))] L2 hB q2 ⟨rfl,trivial⟩ fun a0 ac aG L2 hB=>?_
 refine za0 ?_
 refine ax _ _ ?_
 try clear ax aJ
 refine rg [0,1,2] ?_
 refine sv 14 (.int .i64 3) ?_
 refine sv 15 (.int .i64 4) ?_
 refine sv 4 (.int .i64 4) ?_
 refine za0 ?_
 show Code.rounds _ _ _ _ _ _
 show Code.wp _ _ _ _ _
 refine wp_seq_k (fun aZ a4=>?_)
 refine wp_seq_k (fun aP ai=>?_)
 refine rg [0,1] ?_
 refine sv 12 (.int .i64 4) ?_
 refine sv 13 (.bool false) ?_
 refine za0 ?_
 refine ai _ _ ?_
 try clear ai aP
 refine wp_cond_false rfl ?_
 refine wp_exit ?_
 simp only [Exit.then,Exit.inBlock,↓reduceIte]
 refine k9 _ _ ?_
 try clear k9 K9
 refine wp_seq_k (fun aH ay=>?_)
 refine rg [0,1] ?_
 refine sw 23 (.agg #[(.int .i64 (qprim qq0 qq1 qq2 qq3 qq0)),(.int .i64 (qprim qq0 qq1 qq2 qq3 qq1)),(.int .i64 (qprim qq0 qq1 qq2 qq3 qq2)),(.int .i64 (qprim qq0 qq1 qq2 qq3 qq3))]) rfl (rl 22 0 [(.int .i64 (qprim qq0 qq1 qq2 qq3 qq0)),(.int .i64 (qprim qq0 qq1 qq2 qq3 qq1)),(.int .i64 (qprim qq0 qq1 qq2 qq3 qq2)),(.int .i64 (qprim qq0 qq1 qq2 qq3 qq3))] L2) ?_
 refine se ?_
 replace L3:=ac.lc (ae.lc (ad.lc (ab.lc (L3.gr (g5.trans g8)) (Ne.symm aa)) (Ne.symm aa)) (Ne.symm aa)) (Ne.symm aa)
 refine es 22 0 (.agg #[(.int .i64 (qprim qq0 qq1 qq2 qq3 qq0)),(.int .i64 (qprim qq0 qq1 qq2 qq3 qq1)),(.int .i64 (qprim qq0 qq1 qq2 qq3 qq2)),(.int .i64 (qprim qq0 qq1 qq2 qq3 qq3))]) [(.int .i64 (qprim qq0 qq1 qq2 qq3 qq0)),(.int .i64 (qprim qq0 qq1 qq2 qq3 qq1)),(.int .i64 (qprim qq0 qq1 qq2 qq3 qq2)),(.int .i64 (qprim qq0 qq1 qq2 qq3 qq3))] #[(.int .i64 (qprim qq0 qq1 qq2 qq3 qq0)),(.int .i64 (qprim qq0 qq1 qq2 qq3 qq1)),(.int .i64 (qprim qq0 qq1 qq2 qq3 qq2)),(.int .i64 (qprim qq0 qq1 qq2 qq3 qq3))] L3 hB q3 ⟨rfl,rfl,rfl,rfl,trivial⟩ fun a1 aT aR L3 hB=>?_
 refine za0 ?_
 refine ay _ _ ?_
 try clear ay aH
 refine wp_ret ?_
 refine bodyPost_ret (v:=(.agg #[(.int .i64 (qprim qq0 qq1 qq2 qq3 qq0)),(.int .i64 (qprim qq0 qq1 qq2 qq3 qq1)),(.int .i64 (qprim qq0 qq1 qq2 qq3 qq2)),(.int .i64 (qprim qq0 qq1 qq2 qq3 qq3))])) (za9 _ _ _ rfl rfl L3 (by kernel_rfl)) rfl ⟨?_,hB⟩
 exact rfl

theorem zB9 (qq0 qq1 qq2 qq3:Int) (j0:-1099511627776≤qq0∧qq0≤1099511627776) (j1:-1099511627776≤qq1∧qq1≤1099511627776) (j2:-1099511627776≤qq2∧qq2≤1099511627776) (j3:-1099511627776≤qq3∧qq3≤1099511627776) (hn:¬(qq0=0∧qq1=0∧qq2=0∧qq3=0)) (w:World):
  Calls Tryz.prog 66 #[(.agg #[(.int .i64 (qq0)),(.int .i64 (qq1)),(.int .i64 (qq2)),(.int .i64 (qq3))])] w fun e w'=>e=.returned (.agg #[.int .i64 (qprim qq0 qq1 qq2 qq3 qq0),.int .i64 (qprim qq0 qq1 qq2 qq3 qq1),.int .i64 (qprim qq0 qq1 qq2 qq3 qq2),.int .i64 (qprim qq0 qq1 qq2 qq3 qq3)])∧Gr w w':=by
 rcases zm3 hn with hs | hs
 ·exact yt2 qq0 qq1 qq2 qq3 j0 j1 j2 j3 hn hs w
 ·exact yt3 qq0 qq1 qq2 qq3 j0 j1 j2 j3 hn hs w

set_option maxRecDepth 100000 in
set_option maxHeartbeats 4000000 in
theorem yb3 (ab aa ah ai:Int) (ar:-1000000≤ab∧ab≤1000000) (ap:-1000000≤aa∧aa≤1000000) (av:-1000000≤ah∧ah≤1000000) (au:-1000000≤ai∧ai≤1000000) (af ae ac ad:Int) (ak:-1000≤af∧af≤1000) (aq:-1000≤ae∧ae≤1000) (al:-1000≤ac∧ac≤1000) (aj:-1000≤ad∧ad≤1000) (hcn:¬(((((ab*af) - (aa*ae)) - (ah*ac)) - (ai*ad))=0∧((((ab*ae)+(aa*af))+(ah*ad)) - (ai*ac))=0∧((((ab*ac) - (aa*ad))+(ah*af))+(ai*ae))=0∧((((ab*ad)+(aa*ac)) - (ah*ae))+(ai*af))=0)) (w:World):
    Calls Tryz.prog 25 #[(.agg #[(.int .i64 (ab)),(.int .i64 (aa)),(.int .i64 (ah)),(.int .i64 (ai))]),(.agg #[(.int .i64 (af)),(.int .i64 (ae)),(.int .i64 (ac)),(.int .i64 (ad))])] w fun e w'=>e=.returned (.agg #[.int .i64 (qprim (((((ab*af) - (aa*ae)) - (ah*ac)) - (ai*ad))) (((((ab*ae)+(aa*af))+(ah*ad)) - (ai*ac))) (((((ab*ac) - (aa*ad))+(ah*af))+(ai*ae))) (((((ab*ad)+(aa*ac)) - (ah*ae))+(ai*af))) (((((ab*af) - (aa*ae)) - (ah*ac)) - (ai*ad)))),.int .i64 (qprim (((((ab*af) - (aa*ae)) - (ah*ac)) - (ai*ad))) (((((ab*ae)+(aa*af))+(ah*ad)) - (ai*ac))) (((((ab*ac) - (aa*ad))+(ah*af))+(ai*ae))) (((((ab*ad)+(aa*ac)) - (ah*ae))+(ai*af))) (((((ab*ae)+(aa*af))+(ah*ad)) - (ai*ac)))),.int .i64 (qprim (((((ab*af) - (aa*ae)) - (ah*ac)) - (ai*ad))) (((((ab*ae)+(aa*af))+(ah*ad)) - (ai*ac))) (((((ab*ac) - (aa*ad))+(ah*af))+(ai*ae))) (((((ab*ad)+(aa*ac)) - (ah*ae))+(ai*af))) (((((ab*ac) - (aa*ad))+(ah*af))+(ai*ae)))),.int .i64 (qprim (((((ab*af) - (aa*ae)) - (ah*ac)) - (ai*ad))) (((((ab*ae)+(aa*af))+(ah*ad)) - (ai*ac))) (((((ab*ac) - (aa*ad))+(ah*af))+(ai*ae))) (((((ab*ad)+(aa*ac)) - (ah*ae))+(ai*af))) (((((ab*ad)+(aa*ac)) - (ah*ae))+(ai*af))))])∧Gr w w':=by
 have aL:=ze8 ar ak
 have aI:=ze8 ar aq
 have aw:=ze8 ar al
 have ay:=ze8 ar aj
 have aG:=ze8 ap ak
 have aJ:=ze8 ap aq
 have aA:=ze8 ap al
 have aB:=ze8 ap aj
 have aD:=ze8 av ak
 have az:=ze8 av aq
 have aH:=ze8 av al
 have aE:=ze8 av aj
 have aC:=ze8 au ak
 have ax:=ze8 au aq
 have aK:=ze8 au al
 have aF:=ze8 au aj
 go_enter Tryz.func25,Tryz.ntmps25
 have hB:=Gr.refl w
 refine wp_seq_k (fun K1 k1=>?_)
 refine rg [0,1,2] ?_
 refine se ?_
 refine eb 22 #[(.int .i64 (ab)),(.int .i64 (aa)),(.int .i64 (ah)),(.int .i64 (ai))] 2 hB fun b2 w2 g2 L2 o2 q2 hB=>?_
 simp only [p3,p4]
 refine se ?_
 refine eb 22 #[(.int .i64 (af)),(.int .i64 (ae)),(.int .i64 (ac)),(.int .i64 (ad))] 3 hB fun b3 w3 g3 L3 o3 q3 hB=>?_
 simp only [p3,p4]
 refine se ?_
 refine ea 22 #[.int .i64 0,.int .i64 0,.int .i64 0,.int .i64 0] 4 hB fun b4 w4 g4 L4 o4 q4 hB=>?_
 replace L2:=L2.gr g3
 simp only [p3,p4]
 refine za0 ?_
 refine k1 _ _ ?_
 try clear k1 K1
 refine wp_seq_k (fun K5 k5=>?_)
 refine rg [0,1,2,3,4,5,6,7,8,9,10,11,12,13,14,15,16,17,18,19,20,21,22,23,24,25,26,27,28,29,30,31,32,33,34,35,36,37,38,39,40,41,42,43,44,45,46,47,48,49,50,51,52,53,54,55,56,57,58,59,60,61,62,63,64,65,66,67,68,69,70,71,72,73,74,75,76,77,78,79,80,81,82,83,84,85,86,87,88,89,90,91,92,93,94] ?_
 refine sv 5 (.pointer (some ⟨b2,0,none⟩)) ?_
 replace L2:=L2.gr g4
 refine sw 6 (.int .i64 (ab)) rfl (rk 3 0 L2) ?_
 refine sv 7 (.pointer (some ⟨b3,0,none⟩)) ?_
 replace L3:=L3.gr g4
 refine sw 8 (.int .i64 (af)) rfl (rk 3 0 L3) ?_
 refine sw 9 (.int .i64 ((ab*af))) rfl (RunV.int (x:=IntKind.i64.wrap ((ab*af))) (y:=(ab*af)) (rvk (by kernel_rfl)) (by first | rfl | (rw [IntKind.wrap_i64];omega))) ?_
 refine sv 10 (.pointer (some ⟨b2,1,none⟩)) ?_
 refine sw 11 (.int .i64 (aa)) rfl (rk 3 1 L2) ?_
 refine sv 12 (.pointer (some ⟨b3,1,none⟩)) ?_
 refine sw 13 (.int .i64 (ae)) rfl (rk 3 1 L3) ?_
 refine sw 14 (.int .i64 ((aa*ae))) rfl (RunV.int (x:=IntKind.i64.wrap ((aa*ae))) (y:=(aa*ae)) (rvk (by kernel_rfl)) (by first | rfl | (rw [IntKind.wrap_i64];omega))) ?_
 refine sw 15 (.int .i64 (((ab*af) - (aa*ae)))) rfl (RunV.int (x:=IntKind.i64.wrap (((ab*af) - (aa*ae)))) (y:=((ab*af) - (aa*ae))) (rvk (by kernel_rfl)) (by first | rfl | (rw [IntKind.wrap_i64];omega))) ?_
 refine sv 16 (.pointer (some ⟨b2,2,none⟩)) ?_
 refine sw 17 (.int .i64 (ah)) rfl (rk 3 2 L2) ?_
 refine sv 18 (.pointer (some ⟨b3,2,none⟩)) ?_
 refine sw 19 (.int .i64 (ac)) rfl (rk 3 2 L3) ?_
 refine sw 20 (.int .i64 ((ah*ac))) rfl (RunV.int (x:=IntKind.i64.wrap ((ah*ac))) (y:=(ah*ac)) (rvk (by kernel_rfl)) (by first | rfl | (rw [IntKind.wrap_i64];omega))) ?_
 refine sw 21 (.int .i64 ((((ab*af) - (aa*ae)) - (ah*ac)))) rfl (RunV.int (x:=IntKind.i64.wrap ((((ab*af) - (aa*ae)) - (ah*ac)))) (y:=(((ab*af) - (aa*ae)) - (ah*ac))) (rvk (by kernel_rfl)) (by first | rfl | (rw [IntKind.wrap_i64];omega))) ?_
 refine sv 22 (.pointer (some ⟨b2,3,none⟩)) ?_
 refine sw 23 (.int .i64 (ai)) rfl (rk 3 3 L2) ?_
 refine sv 24 (.pointer (some ⟨b3,3,none⟩)) ?_
 refine sw 25 (.int .i64 (ad)) rfl (rk 3 3 L3) ?_
 refine sw 26 (.int .i64 ((ai*ad))) rfl (RunV.int (x:=IntKind.i64.wrap ((ai*ad))) (y:=(ai*ad)) (rvk (by kernel_rfl)) (by first | rfl | (rw [IntKind.wrap_i64];omega))) ?_
 refine sw 27 (.int .i64 (((((ab*af) - (aa*ae)) - (ah*ac)) - (ai*ad)))) rfl (RunV.int (x:=IntKind.i64.wrap (((((ab*af) - (aa*ae)) - (ah*ac)) - (ai*ad)))) (y:=((((ab*af) - (aa*ae)) - (ah*ac)) - (ai*ad))) (rvk (by kernel_rfl)) (by first | rfl | (rw [IntKind.wrap_i64];omega))) ?_
 refine sv 28 (.pointer (some ⟨b2,0,none⟩)) ?_
 refine sw 29 (.int .i64 (ab)) rfl (rk 3 0 L2) ?_
 refine sv 30 (.pointer (some ⟨b3,1,none⟩)) ?_
 refine sw 31 (.int .i64 (ae)) rfl (rk 3 1 L3) ?_
 refine sw 32 (.int .i64 ((ab*ae))) rfl (RunV.int (x:=IntKind.i64.wrap ((ab*ae))) (y:=(ab*ae)) (rvk (by kernel_rfl)) (by first | rfl | (rw [IntKind.wrap_i64];omega))) ?_
 refine sv 33 (.pointer (some ⟨b2,1,none⟩)) ?_
 refine sw 34 (.int .i64 (aa)) rfl (rk 3 1 L2) ?_
 refine sv 35 (.pointer (some ⟨b3,0,none⟩)) ?_
 refine sw 36 (.int .i64 (af)) rfl (rk 3 0 L3) ?_
 refine sw 37 (.int .i64 ((aa*af))) rfl (RunV.int (x:=IntKind.i64.wrap ((aa*af))) (y:=(aa*af)) (rvk (by kernel_rfl)) (by first | rfl | (rw [IntKind.wrap_i64];omega))) ?_
 refine sw 38 (.int .i64 (((ab*ae)+(aa*af)))) rfl (RunV.int (x:=IntKind.i64.wrap (((ab*ae)+(aa*af)))) (y:=((ab*ae)+(aa*af))) (rvk (by kernel_rfl)) (by first | rfl | (rw [IntKind.wrap_i64];omega))) ?_
 refine sv 39 (.pointer (some ⟨b2,2,none⟩)) ?_
 refine sw 40 (.int .i64 (ah)) rfl (rk 3 2 L2) ?_
 refine sv 41 (.pointer (some ⟨b3,3,none⟩)) ?_
 refine sw 42 (.int .i64 (ad)) rfl (rk 3 3 L3) ?_
 refine sw 43 (.int .i64 ((ah*ad))) rfl (RunV.int (x:=IntKind.i64.wrap ((ah*ad))) (y:=(ah*ad)) (rvk (by kernel_rfl)) (by first | rfl | (rw [IntKind.wrap_i64];omega))) ?_
 refine sw 44 (.int .i64 ((((ab*ae)+(aa*af))+(ah*ad)))) rfl (RunV.int (x:=IntKind.i64.wrap ((((ab*ae)+(aa*af))+(ah*ad)))) (y:=(((ab*ae)+(aa*af))+(ah*ad))) (rvk (by kernel_rfl)) (by first | rfl | (rw [IntKind.wrap_i64];omega))) ?_
 refine sv 45 (.pointer (some ⟨b2,3,none⟩)) ?_
 refine sw 46 (.int .i64 (ai)) rfl (rk 3 3 L2) ?_
 refine sv 47 (.pointer (some ⟨b3,2,none⟩)) ?_
 refine sw 48 (.int .i64 (ac)) rfl (rk 3 2 L3) ?_
 refine sw 49 (.int .i64 ((ai*ac))) rfl (RunV.int (x:=IntKind.i64.wrap ((ai*ac))) (y:=(ai*ac)) (rvk (by kernel_rfl)) (by first | rfl | (rw [IntKind.wrap_i64];omega))) ?_
 refine sw 50 (.int .i64 (((((ab*ae)+(aa*af))+(ah*ad)) - (ai*ac)))) rfl (RunV.int (x:=IntKind.i64.wrap (((((ab*ae)+(aa*af))+(ah*ad)) - (ai*ac)))) (y:=((((ab*ae)+(aa*af))+(ah*ad)) - (ai*ac))) (rvk (by kernel_rfl)) (by first | rfl | (rw [IntKind.wrap_i64];omega))) ?_
 refine sv 51 (.pointer (some ⟨b2,0,none⟩)) ?_
 refine sw 52 (.int .i64 (ab)) rfl (rk 3 0 L2) ?_
 refine sv 53 (.pointer (some ⟨b3,2,none⟩)) ?_
 refine sw 54 (.int .i64 (ac)) rfl (rk 3 2 L3) ?_
 refine sw 55 (.int .i64 ((ab*ac))) rfl (RunV.int (x:=IntKind.i64.wrap ((ab*ac))) (y:=(ab*ac)) (rvk (by kernel_rfl)) (by first | rfl | (rw [IntKind.wrap_i64];omega))) ?_
 refine sv 56 (.pointer (some ⟨b2,1,none⟩)) ?_
 refine sw 57 (.int .i64 (aa)) rfl (rk 3 1 L2) ?_
 refine sv 58 (.pointer (some ⟨b3,3,none⟩)) ?_
 refine sw 59 (.int .i64 (ad)) rfl (rk 3 3 L3) ?_
 refine sw 60 (.int .i64 ((aa*ad))) rfl (RunV.int (x:=IntKind.i64.wrap ((aa*ad))) (y:=(aa*ad)) (rvk (by kernel_rfl)) (by first | rfl | (rw [IntKind.wrap_i64];omega))) ?_
 refine sw 61 (.int .i64 (((ab*ac) - (aa*ad)))) rfl (RunV.int (x:=IntKind.i64.wrap (((ab*ac) - (aa*ad)))) (y:=((ab*ac) - (aa*ad))) (rvk (by kernel_rfl)) (by first | rfl | (rw [IntKind.wrap_i64];omega))) ?_
 refine sv 62 (.pointer (some ⟨b2,2,none⟩)) ?_
 refine sw 63 (.int .i64 (ah)) rfl (rk 3 2 L2) ?_
 refine sv 64 (.pointer (some ⟨b3,0,none⟩)) ?_
 refine sw 65 (.int .i64 (af)) rfl (rk 3 0 L3) ?_
 refine sw 66 (.int .i64 ((ah*af))) rfl (RunV.int (x:=IntKind.i64.wrap ((ah*af))) (y:=(ah*af)) (rvk (by kernel_rfl)) (by first | rfl | (rw [IntKind.wrap_i64];omega))) ?_
 refine sw 67 (.int .i64 ((((ab*ac) - (aa*ad))+(ah*af)))) rfl (RunV.int (x:=IntKind.i64.wrap ((((ab*ac) - (aa*ad))+(ah*af)))) (y:=(((ab*ac) - (aa*ad))+(ah*af))) (rvk (by kernel_rfl)) (by first | rfl | (rw [IntKind.wrap_i64];omega))) ?_
 refine sv 68 (.pointer (some ⟨b2,3,none⟩)) ?_
 refine sw 69 (.int .i64 (ai)) rfl (rk 3 3 L2) ?_
 refine sv 70 (.pointer (some ⟨b3,1,none⟩)) ?_
 refine sw 71 (.int .i64 (ae)) rfl (rk 3 1 L3) ?_
 refine sw 72 (.int .i64 ((ai*ae))) rfl (RunV.int (x:=IntKind.i64.wrap ((ai*ae))) (y:=(ai*ae)) (rvk (by kernel_rfl)) (by first | rfl | (rw [IntKind.wrap_i64];omega))) ?_
 refine sw 73 (.int .i64 (((((ab*ac) - (aa*ad))+(ah*af))+(ai*ae)))) rfl (RunV.int (x:=IntKind.i64.wrap (((((ab*ac) - (aa*ad))+(ah*af))+(ai*ae)))) (y:=((((ab*ac) - (aa*ad))+(ah*af))+(ai*ae))) (rvk (by kernel_rfl)) (by first | rfl | (rw [IntKind.wrap_i64];omega))) ?_
 refine sv 74 (.pointer (some ⟨b2,0,none⟩)) ?_
 refine sw 75 (.int .i64 (ab)) rfl (rk 3 0 L2) ?_
 refine sv 76 (.pointer (some ⟨b3,3,none⟩)) ?_
 refine sw 77 (.int .i64 (ad)) rfl (rk 3 3 L3) ?_
 refine sw 78 (.int .i64 ((ab*ad))) rfl (RunV.int (x:=IntKind.i64.wrap ((ab*ad))) (y:=(ab*ad)) (rvk (by kernel_rfl)) (by first | rfl | (rw [IntKind.wrap_i64];omega))) ?_
 refine sv 79 (.pointer (some ⟨b2,1,none⟩)) ?_
 refine sw 80 (.int .i64 (aa)) rfl (rk 3 1 L2) ?_
 refine sv 81 (.pointer (some ⟨b3,2,none⟩)) ?_
 refine sw 82 (.int .i64 (ac)) rfl (rk 3 2 L3) ?_
 refine sw 83 (.int .i64 ((aa*ac))) rfl (RunV.int (x:=IntKind.i64.wrap ((aa*ac))) (y:=(aa*ac)) (rvk (by kernel_rfl)) (by first | rfl | (rw [IntKind.wrap_i64];omega))) ?_
 refine sw 84 (.int .i64 (((ab*ad)+(aa*ac)))) rfl (RunV.int (x:=IntKind.i64.wrap (((ab*ad)+(aa*ac)))) (y:=((ab*ad)+(aa*ac))) (rvk (by kernel_rfl)) (by first | rfl | (rw [IntKind.wrap_i64];omega))) ?_
 refine sv 85 (.pointer (some ⟨b2,2,none⟩)) ?_
 refine sw 86 (.int .i64 (ah)) rfl (rk 3 2 L2) ?_
 refine sv 87 (.pointer (some ⟨b3,1,none⟩)) ?_
 refine sw 88 (.int .i64 (ae)) rfl (rk 3 1 L3) ?_
 refine sw 89 (.int .i64 ((ah*ae))) rfl (RunV.int (x:=IntKind.i64.wrap ((ah*ae))) (y:=(ah*ae)) (rvk (by kernel_rfl)) (by first | rfl | (rw [IntKind.wrap_i64];omega))) ?_
 refine sw 90 (.int .i64 ((((ab*ad)+(aa*ac)) - (ah*ae)))) rfl (RunV.int (x:=IntKind.i64.wrap ((((ab*ad)+(aa*ac)) - (ah*ae)))) (y:=(((ab*ad)+(aa*ac)) - (ah*ae))) (rvk (by kernel_rfl)) (by first | rfl | (rw [IntKind.wrap_i64];omega))) ?_
 refine sv 91 (.pointer (some ⟨b2,3,none⟩)) ?_
 refine sw 92 (.int .i64 (ai)) rfl (rk 3 3 L2) ?_
 refine sv 93 (.pointer (some ⟨b3,0,none⟩)) ?_
 refine sw 94 (.int .i64 (af)) rfl (rk 3 0 L3) ?_
 refine sw 95 (.int .i64 ((ai*af))) rfl (RunV.int (x:=IntKind.i64.wrap ((ai*af))) (y:=(ai*af)) (rvk (by kernel_rfl)) (by first | rfl | (rw [IntKind.wrap_i64];omega))) ?_
 refine sw 96 (.int .i64 (((((ab*ad)+(aa*ac)) - (ah*ae))+(ai*af)))) rfl (RunV.int (x:=IntKind.i64.wrap (((((ab*ad)+(aa*ac)) - (ah*ae))+(ai*af)))) (y:=((((ab*ad)+(aa*ac)) - (ah*ae))+(ai*af))) (rvk (by kernel_rfl)) (by first | rfl | (rw [IntKind.wrap_i64];omega))) ?_
 refine sv 97 (.agg #[(.int .i64 (((((ab*af) - (aa*ae)) - (ah*ac)) - (ai*ad)))),(.int .i64 (((((ab*ae)+(aa*af))+(ah*ad)) - (ai*ac)))),(.int .i64 (((((ab*ac) - (aa*ad))+(ah*af))+(ai*ae)))),(.int .i64 (((((ab*ad)+(aa*ac)) - (ah*ae))+(ai*af))))]) ?_
 refine se ?_
 refine ec 98 (zB9 (((((ab*af) - (aa*ae)) - (ah*ac)) - (ai*ad))) (((((ab*ae)+(aa*af))+(ah*ad)) - (ai*ac))) (((((ab*ac) - (aa*ad))+(ah*af))+(ai*ae))) (((((ab*ad)+(aa*ac)) - (ah*ae))+(ai*af))) (by omega) (by omega) (by omega) (by omega) hcn _) ?_
 rintro e6 w6 ⟨rfl,g6⟩
 refine ⟨_,rfl,?_⟩
 replace hB:=hB.trans g6
 simp only [p3,p4]
 refine se ?_
 replace L4:=L4.gr g6
 refine es 22 0 (.agg #[(.int .i64 (qprim (((((ab*af) - (aa*ae)) - (ah*ac)) - (ai*ad))) (((((ab*ae)+(aa*af))+(ah*ad)) - (ai*ac))) (((((ab*ac) - (aa*ad))+(ah*af))+(ai*ae))) (((((ab*ad)+(aa*ac)) - (ah*ae))+(ai*af))) (((((ab*af) - (aa*ae)) - (ah*ac)) - (ai*ad))))),(.int .i64 (qprim (((((ab*af) - (aa*ae)) - (ah*ac)) - (ai*ad))) (((((ab*ae)+(aa*af))+(ah*ad)) - (ai*ac))) (((((ab*ac) - (aa*ad))+(ah*af))+(ai*ae))) (((((ab*ad)+(aa*ac)) - (ah*ae))+(ai*af))) (((((ab*ae)+(aa*af))+(ah*ad)) - (ai*ac))))),(.int .i64 (qprim (((((ab*af) - (aa*ae)) - (ah*ac)) - (ai*ad))) (((((ab*ae)+(aa*af))+(ah*ad)) - (ai*ac))) (((((ab*ac) - (aa*ad))+(ah*af))+(ai*ae))) (((((ab*ad)+(aa*ac)) - (ah*ae))+(ai*af))) (((((ab*ac) - (aa*ad))+(ah*af))+(ai*ae))))),(.int .i64 (qprim (((((ab*af) - (aa*ae)) - (ah*ac)) - (ai*ad))) (((((ab*ae)+(aa*af))+(ah*ad)) - (ai*ac))) (((((ab*ac) - (aa*ad))+(ah*af))+(ai*ae))) (((((ab*ad)+(aa*ac)) - (ah*ae))+(ai*af))) (((((ab*ad)+(aa*ac)) - (ah*ae))+(ai*af)))))]) [(.int .i64 (qprim (((((ab*af) - (aa*ae)) - (ah*ac)) - (ai*ad))) (((((ab*ae)+(aa*af))+(ah*ad)) - (ai*ac))) (((((ab*ac) - (aa*ad))+(ah*af))+(ai*ae))) (((((ab*ad)+(aa*ac)) - (ah*ae))+(ai*af))) (((((ab*af) - (aa*ae)) - (ah*ac)) - (ai*ad))))),(.int .i64 (qprim (((((ab*af) - (aa*ae)) - (ah*ac)) - (ai*ad))) (((((ab*ae)+(aa*af))+(ah*ad)) - (ai*ac))) (((((ab*ac) - (aa*ad))+(ah*af))+(ai*ae))) (((((ab*ad)+(aa*ac)) - (ah*ae))+(ai*af))) (((((ab*ae)+(aa*af))+(ah*ad)) - (ai*ac))))),(.int .i64 (qprim (((((ab*af) - (aa*ae)) - (ah*ac)) - (ai*ad))) (((((ab*ae)+(aa*af))+(ah*ad)) - (ai*ac))) (((((ab*ac) - (aa*ad))+(ah*af))+(ai*ae))) (((((ab*ad)+(aa*ac)) - (ah*ae))+(ai*af))) (((((ab*ac) - (aa*ad))+(ah*af))+(ai*ae))))),(.int .i64 (qprim (((((ab*af) - (aa*ae)) - (ah*ac)) - (ai*ad))) (((((ab*ae)+(aa*af))+(ah*ad)) - (ai*ac))) (((((ab*ac) - (aa*ad))+(ah*af))+(ai*ae))) (((((ab*ad)+(aa*ac)) - (ah*ae))+(ai*af))) (((((ab*ad)+(aa*ac)) - (ah*ae))+(ai*af)))))] #[(.int .i64 (qprim (((((ab*af) - (aa*ae)) - (ah*ac)) - (ai*ad))) (((((ab*ae)+(aa*af))+(ah*ad)) - (ai*ac))) (((((ab*ac) - (aa*ad))+(ah*af))+(ai*ae))) (((((ab*ad)+(aa*ac)) - (ah*ae))+(ai*af))) (((((ab*af) - (aa*ae)) - (ah*ac)) - (ai*ad))))),(.int .i64 (qprim (((((ab*af) - (aa*ae)) - (ah*ac)) - (ai*ad))) (((((ab*ae)+(aa*af))+(ah*ad)) - (ai*ac))) (((((ab*ac) - (aa*ad))+(ah*af))+(ai*ae))) (((((ab*ad)+(aa*ac)) - (ah*ae))+(ai*af))) (((((ab*ae)+(aa*af))+(ah*ad)) - (ai*ac))))),(.int .i64 (qprim (((((ab*af) - (aa*ae)) - (ah*ac)) - (ai*ad))) (((((ab*ae)+(aa*af))+(ah*ad)) - (ai*ac))) (((((ab*ac) - (aa*ad))+(ah*af))+(ai*ae))) (((((ab*ad)+(aa*ac)) - (ah*ae))+(ai*af))) (((((ab*ac) - (aa*ad))+(ah*af))+(ai*ae))))),(.int .i64 (qprim (((((ab*af) - (aa*ae)) - (ah*ac)) - (ai*ad))) (((((ab*ae)+(aa*af))+(ah*ad)) - (ai*ac))) (((((ab*ac) - (aa*ad))+(ah*af))+(ai*ae))) (((((ab*ad)+(aa*ac)) - (ah*ae))+(ai*af))) (((((ab*ad)+(aa*ac)) - (ah*ae))+(ai*af)))))] L4 hB q4 ⟨rfl,rfl,rfl,rfl,trivial⟩ fun w7 aN aM L4 hB=>?_
 refine za0 ?_
 refine k5 _ _ ?_
 try clear k5 K5
 refine wp_ret ?_
 refine bodyPost_ret (v:=(.agg #[(.int .i64 (qprim (((((ab*af) - (aa*ae)) - (ah*ac)) - (ai*ad))) (((((ab*ae)+(aa*af))+(ah*ad)) - (ai*ac))) (((((ab*ac) - (aa*ad))+(ah*af))+(ai*ae))) (((((ab*ad)+(aa*ac)) - (ah*ae))+(ai*af))) (((((ab*af) - (aa*ae)) - (ah*ac)) - (ai*ad))))),(.int .i64 (qprim (((((ab*af) - (aa*ae)) - (ah*ac)) - (ai*ad))) (((((ab*ae)+(aa*af))+(ah*ad)) - (ai*ac))) (((((ab*ac) - (aa*ad))+(ah*af))+(ai*ae))) (((((ab*ad)+(aa*ac)) - (ah*ae))+(ai*af))) (((((ab*ae)+(aa*af))+(ah*ad)) - (ai*ac))))),(.int .i64 (qprim (((((ab*af) - (aa*ae)) - (ah*ac)) - (ai*ad))) (((((ab*ae)+(aa*af))+(ah*ad)) - (ai*ac))) (((((ab*ac) - (aa*ad))+(ah*af))+(ai*ae))) (((((ab*ad)+(aa*ac)) - (ah*ae))+(ai*af))) (((((ab*ac) - (aa*ad))+(ah*af))+(ai*ae))))),(.int .i64 (qprim (((((ab*af) - (aa*ae)) - (ah*ac)) - (ai*ad))) (((((ab*ae)+(aa*af))+(ah*ad)) - (ai*ac))) (((((ab*ac) - (aa*ad))+(ah*af))+(ai*ae))) (((((ab*ad)+(aa*ac)) - (ah*ae))+(ai*af))) (((((ab*ad)+(aa*ac)) - (ah*ae))+(ai*af)))))])) (za9 _ _ _ rfl rfl L4 (by kernel_rfl)) rfl ⟨?_,hB⟩
 exact rfl

theorem ym7 (af ah ai aa:Int) (au:-1000000≤af∧af≤1000000) (aq:-1000000≤ah∧ah≤1000000) (aD:-1000000≤ai∧ai≤1000000) (aC:-1000000≤aa∧aa≤1000000) (ad ae ab ac:Int) (ax:-1000≤ad∧ad≤1000) (ar:-1000≤ae∧ae≤1000) (ay:-1000≤ab∧ab≤1000) (av:-1000≤ac∧ac≤1000) (ak aj ap al:Int) (aA:ak=af*ad - ah*ae - ai*ab - aa*ac) (aw:aj=af*ae+ah*ad+ai*ac - aa*ab) (az:ap=af*ab - ah*ac+ai*ad+aa*ae) (aB:al=af*ac+ah*ab - ai*ae+aa*ad) (hcn:¬(ak=0∧aj=0∧ap=0∧al=0)) (w:World):
  Calls Tryz.prog 25 #[(.agg #[(.int .i64 (af)),(.int .i64 (ah)),(.int .i64 (ai)),(.int .i64 (aa))]),(.agg #[(.int .i64 (ad)),(.int .i64 (ae)),(.int .i64 (ab)),(.int .i64 (ac))])] w fun e w'=>e=.returned (.agg #[.int .i64 (qprim ak aj ap al ak),.int .i64 (qprim ak aj ap al aj),.int .i64 (qprim ak aj ap al ap),.int .i64 (qprim ak aj ap al al)])∧Gr w w':=by
 subst aA aw az aB
 exact yb3 af ah ai aa au aq aD aC ad ae ab ac ax ar ay av hcn w

def ye5 (j k:Nat) (z0 z1 z2 z3:Int):SV:=.so (.vg [.cz j 0 k z0,.cz j 1 k z0,.cz (j+1) 0 k z1,.cz (j+1) 1 k z1,.cz (j+2) 0 k z2,.cz (j+2) 1 k z2,.cz (j+3) 0 k z3,.cz (j+3) 1 k z3])
theorem zT3 {n:Nn} {X:Env} {w w':World} {e:Ending} {k:Nat} {z0 z1 z2 z3:Int} (h:(∃ t0 t1 t2 t3 t4 t5 t6 t7,e=.returned (.agg #[t0,t1,t2,t3,t4,t5,t6,t7])∧IsInt w' k t0 t1 z0∧IsInt w' k t2 t3 z1∧IsInt w' k t4 t5 z2∧IsInt w' k t6 t7 z3)∧Gr w w'):
  (Tr.leaf (ye5 n.z k z0 z1 z2 z3) 0 4).holds n X w e w':=by
 obtain ⟨⟨t0,t1,t2,t3,t4,t5,t6,t7,rfl,h0,h1,h2,h3⟩,g⟩:=h
 let Y:Env:={X with Z:=fun i c=>if i<n.z then X.Z i c else ([t0,t1,t2,t3,t4,t5,t6,t7]:List Value).getD (2*(i - n.z)+c) undef}
 have e0:∀ i c,Y.Z (n.z+i) c=([t0,t1,t2,t3,t4,t5,t6,t7]:List Value).getD (2*i+c) undef:=fun i c=>by
  show (if n.z+i<n.z then _ else _)=_
  rw [if_neg (by omega),Nat.add_sub_cancel_left]
 have aa:∀ c,Y.Z n.z c=([t0,t1,t2,t3,t4,t5,t6,t7]:List Value).getD c undef:=fun c=>by have:=e0 0 c;simpa using this
 refine ⟨Y,?_,g,⟨fun _ _=>rfl,fun _ _ _=>rfl,fun i c hi=>(if_pos hi).symm,rfl⟩,fun c hc=>?_⟩
 ·simp [ye5,SV.den,TV.den,dnL,Cl.den,e0,aa]
 ·simp only [List.mem_cons,List.not_mem_nil,or_false] at hc
  have l0:Nat.blt n.z (n.z+4)=true:=zp7 (by omega)
  have l1:Nat.blt (n.z+1) (n.z+4)=true:=zp7 (by omega)
  have l2:Nat.blt (n.z+2) (n.z+4)=true:=zp7 (by omega)
  have l3:Nat.blt (n.z+3) (n.z+4)=true:=zp7 (by omega)
  rcases hc with rfl | rfl | rfl | rfl | rfl | rfl | rfl | rfl<;>refine ⟨by simp only [Cl.lt,l0,l1,l2,l3];rfl,?_⟩<;>simp only [Cl.good,e0,aa]<;>assumption
def in12 (lo hi:Int):Bool:=ile (-12) lo&&ile hi 12
theorem zT4 {z lo hi:Int} (h:in12 lo hi=true) (h0:lo≤z∧z≤hi):-12≤z∧z≤12:=by
 unfold in12 at h
 simp only [zh7,Bool.and_eq_true,decide_eq_true_eq] at h
 omega
def cChk:ConT:=fun args _ _=>match args with
 | [.so (.vg [.ci .i64 q0 l0 h0,.ci .i64 q1 l1 h1,.ci .i64 q2 l2 h2,.ci .i64 q3 l3 h3,c1,c2,c3])]=>match txC c1,txC c2,txC c3 with
  | some (k1,_x1),some (k2,_x2),some (k3,_x3)=>tr (in12 l0 h0&&in12 l1 h1&&in12 l2 h2&&in12 l3 h3&&Nat.ble k1 64&&Nat.ble k2 64&&Nat.ble k3 64) (.as (decide (chk q0 q1 q2 q3 0=0)) (.leaf (.so (.vc (.ci .i64 0 0 0))) 0 0))
  | _,_,_=>none
 | _=>none
theorem zB1 {I:World→Prop} (hI:∀ w,I w→Mx w):ConOK Tryz.prog I 15 cChk:=by
 intro args E n w T hw ha hT hp
 unfold cChk at hT
 split at hT
 ·rename_i q0 l0 h0 q1 l1 h1 q2 l2 h2 q3 l3 h3 c1 c2 c3
  split at hT
  ·rename_i k1 x1 k2 x2 k3 x3 e1 e2 e3
   obtain ⟨hb,rfl⟩:=zd1 hT
   simp only [Bool.and_eq_true,Nat.ble_eq] at hb
   obtain ⟨⟨⟨⟨⟨⟨b0,b1⟩,b2⟩,b3⟩,b4⟩,b5⟩,b6⟩:=hb
   have g:=fun c hc=>ha _ (List.mem_singleton.2 rfl) c hc
   obtain ⟨d1,s1⟩:=zl0 e1 (g c1 (by simp))
   obtain ⟨d2,s2⟩:=zl0 e2 (g c2 (by simp))
   obtain ⟨d3,s3⟩:=zl0 e3 (g c3 (by simp))
   have s1:=s1.mono b4
   have s2:=s2.mono b5
   have s3:=s3.mono b6
   show Calls _ _ #[.agg #[.int .i64 q0,.int .i64 q1,.int .i64 q2,.int .i64 q3,c1.den E,c2.den E,c3.den E]] w _
   rw [d1,d2,d3]
   refine (yr7 (zT4 b0 (g (.ci .i64 q0 l0 h0) (by simp)).2) (zT4 b1 (g (.ci .i64 q1 l1 h1) (by simp)).2) (zT4 b2 (g (.ci .i64 q2 l2 h2) (by simp)).2) (zT4 b3 (g (.ci .i64 q3 l3 h3) (by simp)).2) x1 x2 x3 s1 s2 s3 w (hI w hw)).mono fun e w' he=>?_
   rw [of_decide_eq_true hp.1] at he
   exact zb6 he ⟨rfl,Int.le_refl _,Int.le_refl _⟩
  ·cases hT
 ·cases hT
def mag4 (l h:Int):Int:=max (-l) h
def inP (l h:Int):Bool:=ile (-1099511627776) l&&ile h 1099511627776
theorem zD2 {z lo hi:Int} (h:inP lo hi=true) (h0:lo≤z∧z≤hi):-1099511627776≤z∧z≤1099511627776:=by
 unfold inP at h
 simp only [zh7,Bool.and_eq_true,decide_eq_true_eq] at h
 omega
def zB2 (q0 q1 q2 q3 q l h:Int):Cl:=.ci .i64 (qprim q0 q1 q2 q3 q) (-mag4 l h) (mag4 l h)
theorem zE7 {n:Nn} {X:Env} {w:World} {q0 q1 q2 q3 q l h:Int} (hn:¬(q0=0∧q1=0∧q2=0∧q3=0)) (h0:l≤q∧q≤h):(zB2 q0 q1 q2 q3 q l h).ok n X w:=by
 refine ⟨rfl,?_⟩
 have:=ze3 (n:=q) hn
 show -mag4 l h≤_∧_≤mag4 l h
 unfold mag4
 omega
def zT5:ConT:=fun args _ _=>match args with
 | [.so (.vg [.ci .i64 q0 l0 h0,.ci .i64 q1 l1 h1,.ci .i64 q2 l2 h2,.ci .i64 q3 l3 h3])]=>
  tr (inP l0 h0&&inP l1 h1&&inP l2 h2&&inP l3 h3) (.as (decide (¬(q0=0∧q1=0∧q2=0∧q3=0))) (.leaf (.so (.vg [zB2 q0 q1 q2 q3 q0 l0 h0,zB2 q0 q1 q2 q3 q1 l1 h1,zB2 q0 q1 q2 q3 q2 l2 h2,zB2 q0 q1 q2 q3 q3 l3 h3])) 0 0))
 | _=>none
theorem zp1 {I:World→Prop}:ConOK Tryz.prog I 66 zT5:=by
 intro args E n w T _ ha hT hp
 unfold zT5 at hT
 split at hT
 ·rename_i q0 l0 h0 q1 l1 h1 q2 l2 h2 q3 l3 h3
  obtain ⟨hb,rfl⟩:=zd1 hT
  simp only [Bool.and_eq_true] at hb
  obtain ⟨⟨⟨b0,b1⟩,b2⟩,b3⟩:=hb
  have h:=ha _ (List.mem_singleton.2 rfl)
  have g:=fun c hc=>h c hc
  have hn:=of_decide_eq_true hp.1
  have g0:=(g (.ci .i64 q0 l0 h0) (by simp)).2
  have g1:=(g (.ci .i64 q1 l1 h1) (by simp)).2
  have g2:=(g (.ci .i64 q2 l2 h2) (by simp)).2
  have g3:=(g (.ci .i64 q3 l3 h3) (by simp)).2
  refine (zB9 q0 q1 q2 q3 (zD2 b0 g0) (zD2 b1 g1) (zD2 b2 g2) (zD2 b3 g3) hn w).mono fun e w' he=>zb6 he fun c hc=>?_
  simp only [List.mem_cons,List.not_mem_nil,or_false] at hc
  rcases hc with rfl | rfl | rfl | rfl
  ·exact zE7 hn g0
  ·exact zE7 hn g1
  ·exact zE7 hn g2
  ·exact zE7 hn g3
 ·cases hT
theorem yk6 (t:Int):-12≤Int.tmod t 13∧Int.tmod t 13≤12:=by
 have h1:=Int.tmod_lt_of_pos t (show (0:Int)<13 by decide)
 have h2:=Int.tmod_lt_of_pos (-t) (show (0:Int)<13 by decide)
 rw [Int.neg_tmod] at h2
 omega
def mq0 (t0 t1 t2 t3:Int):Int:=if zz3 [Int.tmod t0 13,Int.tmod t1 13,Int.tmod t2 13,Int.tmod t3 13] [0,0,0,0] then 1 else Int.tmod t0 13
def qd (t0 t1 t2 t3:Int):Nat→Int
 | 0=>qprim (mq0 t0 t1 t2 t3) (Int.tmod t1 13) (Int.tmod t2 13) (Int.tmod t3 13) (mq0 t0 t1 t2 t3)
 | 1=>qprim (mq0 t0 t1 t2 t3) (Int.tmod t1 13) (Int.tmod t2 13) (Int.tmod t3 13) (Int.tmod t1 13)
 | 2=>qprim (mq0 t0 t1 t2 t3) (Int.tmod t1 13) (Int.tmod t2 13) (Int.tmod t3 13) (Int.tmod t2 13)
 | _=>qprim (mq0 t0 t1 t2 t3) (Int.tmod t1 13) (Int.tmod t2 13) (Int.tmod t3 13) (Int.tmod t3 13)
theorem conj4 (a b c d:Int):zz3 [a,b,c,d] [0,0,0,0]=decide (a=0∧b=0∧c=0∧d=0):=by
 rw [Bool.eq_iff_iff,decide_eq_true_eq]
 simp [zz3,eqL,and_assoc]
theorem mq_ne (t0 t1 t2 t3:Int):¬(mq0 t0 t1 t2 t3=0∧Int.tmod t1 13=0∧Int.tmod t2 13=0∧Int.tmod t3 13=0):=by
 unfold mq0
 rw [conj4]
 split
 ·rintro ⟨h,_⟩;exact absurd h (by decide)
 ·rename_i h;exact fun g=>h (decide_eq_true g)
theorem mq0_le (t0 t1 t2 t3:Int):-12≤mq0 t0 t1 t2 t3∧mq0 t0 t1 t2 t3≤12:=by
 unfold mq0
 split
 ·decide
 ·exact yk6 t0
theorem qd_vt (t0 t1 t2 t3:Int):VT (qd t0 t1 t2 t3 0) (qd t0 t1 t2 t3 1) (qd t0 t1 t2 t3 2) (qd t0 t1 t2 t3 3):=by
 have hn:=mq_ne t0 t1 t2 t3
 have b0:=mq0_le t0 t1 t2 t3
 have b1:=yk6 t1
 have b2:=yk6 t2
 have b3:=yk6 t3
 simp only [qd]
 generalize mq0 t0 t1 t2 t3=m0 at*
 have l0:=ze3 (n:=m0) hn
 have l1:=ze3 (n:=Int.tmod t1 13) hn
 have l2:=ze3 (n:=Int.tmod t2 13) hn
 have l3:=ze3 (n:=Int.tmod t3 13) hn
 obtain ⟨g,s⟩:=qprim_ok hn
 exact ⟨by omega,by omega,by omega,by omega,g,s⟩
def sq (i d:Int):Rat:=(i:Rat)/((1+d % 6:Int):Rat)
def roN (w x y z:Int):Nat→Int
 | 0=>w*w+x*x - y*y - z*z
 | 1=>2*(x*y - w*z)
 | 2=>2*(x*z+w*y)
 | 3=>2*(x*y+w*z)
 | 4=>w*w - x*x+y*y - z*z
 | 5=>2*(y*z - w*x)
 | 6=>2*(x*z - w*y)
 | 7=>2*(y*z+w*x)
 | _=>w*w - x*x - y*y+z*z
def roE (w x y z:Int) (k:Nat):Rat:=((roN w x y z k:Int):Rat)/((w*w+x*x+y*y+z*z:Int):Rat)
theorem nn_ne {w x y z:Int} (h:VT w x y z):((w*w+x*x+y*y+z*z:Int):Rat)≠0:=by
 have:=yc0 h.ne
 intro e
 have:w*w+x*x+y*y+z*z=0:=by exact_mod_cast e
 omega
theorem ye6 {w x y z:Int} (h:VT w x y z):RotQ (roE w x y z 0) (roE w x y z 1) (roE w x y z 2) (roE w x y z 3) (roE w x y z 4) (roE w x y z 5) (roE w x y z 6) (roE w x y z 7) (roE w x y z 8) w x y z:=by
 have hn:=nn_ne h
 have c:((w*w+x*x+y*y+z*z:Int):Rat)=(w:Rat)*w+x*x+y*y+z*z:=by simp only [Rat.intCast_add,Rat.intCast_mul]
 have key:∀ k,roE w x y z k*((w:Rat)*w+x*x+y*y+z*z)=((roN w x y z k:Int):Rat):=fun k=>by
  unfold roE
  rw [← c,Rat.div_mul_cancel hn]
 constructor<;>rw [key]<;>simp only [roN,Rat.intCast_add,Rat.intCast_sub,Rat.intCast_mul]<;>rfl
theorem roE_rs {w x y z:Int} (h:VT w x y z):∀ k,RS 50 (roE w x y z k):=by
 have b0:=h.b0;have b1:=h.b1;have b2:=h.b2;have b3:=h.b3
 obtain ⟨h0,h1,h2,h3,h4,h5,h6,h7,h8⟩:=yb9 h.ne (by omega) (by omega) (by omega) (by omega) (ye6 h)
 intro k
 match k with
 | 0=>exact h0
 | 1=>exact h1
 | 2=>exact h2
 | 3=>exact h3
 | 4=>exact h4
 | 5=>exact h5
 | 6=>exact h6
 | 7=>exact h7
 | k+8=>exact h8
theorem one_div {N n:Rat}:((1:Int):Rat)/N*n=n/N:=by
 rw [Rat.div_def,Rat.div_def,Rat.mul_comm n]
 congr 1
 exact Rat.one_mul _

noncomputable def tabQ:List (Nat × List (Nat × Ent)):=[(21,[(12,.ord [(true,0),(true,1),(true,2),(true,3),(true,4),(true,5),(true,6),(true,8),(true,9),(true,10),(true,11),(true,12),(true,13),(false,7),(false,14),(false,15),(true,16),(false,17)] [5]),(13,.ord [(true,0),(true,2),(false,1),(false,3),(true,4),(false,5)] [2])]),
 (45,[])]
noncomputable def conQ:List (Nat × ConT):=[(103,zj6 100000 (fun k m=>k+m+1) (fun a b=>a+b)),
 (75,zj6 100000 (fun k m=>k+m+1) (fun a b=>a - b)),
 (82,zj6 100000 (fun k m=>k+m) (fun a b=>a*b)),
 (108,cNeg),
 (59,zY8),
 (37,zY9),
 (76,zS9),
 (87,zZ0),
 (130,cNum),
 (81,cDen),
 (58,cDiv),
 (96,zy6),
 (80,zT0),
 (122,zT1),
 (123,zT2),
 (68,zZ1),
 (105,cTT (fun k m=>k+m+1) fun a b=>a+b),
 (132,cTT (fun k m=>k+m+1) fun a b=>a - b),
 (106,cTT (fun k m=>k+m) fun a b=>a*b),
 (64,zZ2),
 (115,zZ3),
 (65,zD1),
 (94,zt8 400),
 (107,zt8 65536),
 (15,cChk),
 (66,zT5)]
noncomputable def sysQ:Sys:=⟨Tryz.prog,2,199,tabQ,conQ,fun w=>Tab w∧Mx w⟩
theorem sysQ_ok:sysQ.OK where
 mixed:=by kernel_rfl
 calls:=fun f h0 h1=>by
  have:(List.range 199).all (fun f=>Nat.blt f 2||okCall Tryz.prog f)=true:=by kernel_rfl
  have:=List.all_eq_true.1 this f (List.mem_range.2 h1)
  simp only [Bool.or_eq_true] at this
  exact this.resolve_left (fun e=>by have:=ze6 e;exact absurd h0 (by show ¬ 2≤f;omega))
 tab:=by
  have:tabQ.all (okTab Tryz.prog)=true:=by kernel_rfl
  exact fun x hx=>List.all_eq_true.1 this x hx
 lps:=zy1 (by kernel_rfl)
 con:=fun x hx=>by
  simp only [sysQ,conQ,List.mem_cons,List.not_mem_nil,or_false] at hx
  rcases hx with rfl | rfl | rfl | rfl | rfl | rfl | rfl | rfl | rfl | rfl | rfl | rfl | rfl | rfl | rfl | rfl | rfl | rfl | rfl | rfl | rfl | rfl | rfl | rfl | rfl | rfl
  ·exact zc4 fun h1 h2 h3=>zi7 h1 h2 h3
  ·exact zc4 fun h1 h2 h3=>zt6 h1 h2 h3
  ·exact zc4 fun h1 h2 h3=>yb2 h1 h2 h3
  ·exact zu9
  ·exact zo0
  ·exact zo1
  ·exact zl1
  ·exact zo2 fun w h=>h.1
  ·exact zs0
  ·exact zs1
  ·exact zv0
  ·exact zh9
  ·exact zl2
  ·exact zl3
  ·exact zl4
  ·exact zo3
  ·exact zo4
  ·exact zo5
  ·exact zo6
  ·exact zo7
  ·exact zo8
  ·exact zj8
  ·exact zo9 fun w h=>h.2
  ·exact zp0 fun w h=>h.2
  ·exact zB1 fun w h=>h.2
  ·exact zp1
 inv:=fun w w' h g=>⟨h.1.gr g,h.2.gr g⟩
def treeP (t0 t1 t2 t3 i1 i2 i3 d:Int):Lf:=.br (zz3 [Int.tmod t0 13,Int.tmod t1 13,Int.tmod t2 13,Int.tmod t3 13] [0,0,0,0])
 (.as (decide (((1+d % 6:Int):Rat)≠0)) true (.as (decide (((1+d % 6:Int):Rat)≠0)) true (.as (decide (((1+d % 6:Int):Rat)≠0)) true (.as (decide ¬((1:Int)=0∧Int.tmod t1 13=0∧Int.tmod t2 13=0∧Int.tmod t3 13=0)) true (.ret (.so (.vg [zB2 1 (Int.tmod t1 13) (Int.tmod t2 13) (Int.tmod t3 13) 1 1 1,zB2 1 (Int.tmod t1 13) (Int.tmod t2 13) (Int.tmod t3 13) (Int.tmod t1 13) (-12) 12,zB2 1 (Int.tmod t1 13) (Int.tmod t2 13) (Int.tmod t3 13) (Int.tmod t2 13) (-12) 12,zB2 1 (Int.tmod t1 13) (Int.tmod t2 13) (Int.tmod t3 13) (Int.tmod t3 13) (-12) 12,.cw (za1 (sq i1 d)) (some (128,sq i1 d)),.cw (za1 (sq i2 d)) (some (128,sq i2 d)),.cw (za1 (sq i3 d)) (some (128,sq i3 d))])))))))
 (.as (decide (((1+d % 6:Int):Rat)≠0)) true (.as (decide (((1+d % 6:Int):Rat)≠0)) true (.as (decide (((1+d % 6:Int):Rat)≠0)) true (.as (decide ¬(Int.tmod t0 13=0∧Int.tmod t1 13=0∧Int.tmod t2 13=0∧Int.tmod t3 13=0)) true (.ret (.so (.vg [zB2 (Int.tmod t0 13) (Int.tmod t1 13) (Int.tmod t2 13) (Int.tmod t3 13) (Int.tmod t0 13) (-12) 12,zB2 (Int.tmod t0 13) (Int.tmod t1 13) (Int.tmod t2 13) (Int.tmod t3 13) (Int.tmod t1 13) (-12) 12,zB2 (Int.tmod t0 13) (Int.tmod t1 13) (Int.tmod t2 13) (Int.tmod t3 13) (Int.tmod t2 13) (-12) 12,zB2 (Int.tmod t0 13) (Int.tmod t1 13) (Int.tmod t2 13) (Int.tmod t3 13) (Int.tmod t3 13) (-12) 12,.cw (za1 (sq i1 d)) (some (128,sq i1 d)),.cw (za1 (sq i2 d)) (some (128,sq i2 d)),.cw (za1 (sq i3 d)) (some (128,sq i3 d))])))))))
theorem runP (t0 t1 t2 t3 i1 i2 i3 d:Int):zP0 sysQ 21 [.so (.vg [.ci .i8 t0 (-128) 127,.ci .i8 t1 (-128) 127,.ci .i8 t2 (-128) 127,.ci .i8 t3 (-128) 127,.ci .i8 i1 (-128) 127,.ci .i8 i2 (-128) 127,.ci .i8 i3 (-128) 127,.ci .u8 d 0 255])] 0 0 (.s .e .e)=some (treeP t0 t1 t2 t3 i1 i2 i3 d):=by kernel_rfl
theorem den6 (d:Int):decide (((1+d % 6:Int):Rat)≠0)=true:=decide_eq_true fun e=>by
 have:(1+d % 6:Int)=0:=by exact_mod_cast e
 omega
def postP (t0 t1 t2 t3 i1 i2 i3 d:Int) (v:SV):Prop:=∃ a b c e f g h k m n o,v=.so (.vg [.ci .i64 (qd t0 t1 t2 t3 0) a b,.ci .i64 (qd t0 t1 t2 t3 1) c e,.ci .i64 (qd t0 t1 t2 t3 2) f g,.ci .i64 (qd t0 t1 t2 t3 3) h k,.cw (za1 (sq i1 d)) m,.cw (za1 (sq i2 d)) n,.cw (za1 (sq i3 d)) o])
theorem treeP_ok (t0 t1 t2 t3 i1 i2 i3 d:Int):LOK (postP t0 t1 t2 t3 i1 i2 i3 d) (treeP t0 t1 t2 t3 i1 i2 i3 d):=by
 have hn:=mq_ne t0 t1 t2 t3
 refine ⟨fun h=>?_,fun h=>?_⟩
 ·have e:mq0 t0 t1 t2 t3=1:=if_pos h
  rw [e] at hn
  refine ⟨den6 d,den6 d,den6 d,decide_eq_true hn,?_⟩
  unfold LOK postP
  simp only [qd,e]
  exact ⟨_,_,_,_,_,_,_,_,_,_,_,rfl⟩
 ·have e:mq0 t0 t1 t2 t3=Int.tmod t0 13:=if_neg (by rw [h];decide)
  rw [e] at hn
  refine ⟨den6 d,den6 d,den6 d,decide_eq_true hn,?_⟩
  unfold LOK postP
  simp only [qd,e]
  exact ⟨_,_,_,_,_,_,_,_,_,_,_,rfl⟩
theorem place_c {t0 t1 t2 t3 i1 i2 i3 d:Int} (ht:(-128≤t0∧t0≤127)∧(-128≤t1∧t1≤127)∧(-128≤t2∧t2≤127)∧(-128≤t3∧t3≤127)∧(-128≤i1∧i1≤127)∧(-128≤i2∧i2≤127)∧(-128≤i3∧i3≤127)∧0≤d∧d≤255) (w:World) (hI:Tab w∧Mx w):
  Calls Tryz.prog 21 #[.agg #[.int .i8 t0,.int .i8 t1,.int .i8 t2,.int .i8 t3,.int .i8 i1,.int .i8 i2,.int .i8 i3,.int .u8 d]] w fun e w'=>e=.returned (.agg #[.int .i64 (qd t0 t1 t2 t3 0),.int .i64 (qd t0 t1 t2 t3 1),.int .i64 (qd t0 t1 t2 t3 2),.int .i64 (qd t0 t1 t2 t3 3),.string ⟨(za1 (sq i1 d)).toArray⟩,.string ⟨(za1 (sq i2 d)).toArray⟩,.string ⟨(za1 (sq i3 d)).toArray⟩])∧Gr w w':=by
 obtain ⟨h0,h1,h2,h3,h4,h5,h6,h7⟩:=ht
 refine (ze7 sysQ sysQ_ok (runP t0 t1 t2 t3 i1 i2 i3 d) (X:=zF1 []) hI (okF1 (zi1 ⟨⟨rfl,h0⟩,⟨rfl,h1⟩,⟨rfl,h2⟩,⟨rfl,h3⟩,⟨rfl,h4⟩,⟨rfl,h5⟩,⟨rfl,h6⟩,⟨rfl,h7⟩,trivial⟩)) (treeP_ok t0 t1 t2 t3 i1 i2 i3 d)).mono fun e w' he=>?_
 obtain ⟨v,X',n,rfl,g,_,_,_,_,_,_,_,_,_,_,_,_,_,rfl⟩:=he
 exact ⟨rfl,g⟩
def in8 (l h:Int):Bool:=ile (-128) l&&ile h 127
theorem zG5 {z lo hi:Int} (h:in8 lo hi=true) (h0:lo≤z∧z≤hi):-128≤z∧z≤127:=by
 unfold in8 at h
 simp only [zh7,Bool.and_eq_true,decide_eq_true_eq] at h
 omega
def inu8 (l h:Int):Bool:=ile 0 l&&ile h 255
theorem inu8_ok {z lo hi:Int} (h:inu8 lo hi=true) (h0:lo≤z∧z≤hi):0≤z∧z≤255:=by
 unfold inu8 at h
 simp only [zh7,Bool.and_eq_true,decide_eq_true_eq] at h
 omega
def q12 (t0 t1 t2 t3:Int) (k:Nat):Cl:=.ci .i64 (qd t0 t1 t2 t3 k) (-12) 12
def txs (i d:Int):Cl:=.cw (za1 (sq i d)) (some (16,sq i d))
theorem yr2 {i d:Int} (hi:-128≤i∧i≤127) (hd:0≤d∧d≤255) (n:Nn) (X:Env) (w:World):(txs i d).ok n X w:=⟨rfl,fun k q e=>by cases e;exact ⟨rfl,zE8 hi hd rfl⟩⟩
def cPlc:ConT:=fun args _ _=>match args with
 | [.so (.vg [.ci .i8 t0 a0 b0,.ci .i8 t1 a1 b1,.ci .i8 t2 a2 b2,.ci .i8 t3 a3 b3,.ci .i8 i1 a4 b4,.ci .i8 i2 a5 b5,.ci .i8 i3 a6 b6,.ci .u8 d a7 b7])]=>
  tr (in8 a0 b0&&in8 a1 b1&&in8 a2 b2&&in8 a3 b3&&in8 a4 b4&&in8 a5 b5&&in8 a6 b6&&inu8 a7 b7) (.leaf (.so (.vg [q12 t0 t1 t2 t3 0,q12 t0 t1 t2 t3 1,q12 t0 t1 t2 t3 2,q12 t0 t1 t2 t3 3,txs i1 d,txs i2 d,txs i3 d])) 0 0)
 | _=>none
theorem zP7 {I:World→Prop} (hI:∀ w,I w→Tab w∧Mx w):ConOK Tryz.prog I 21 cPlc:=by
 intro args E n w T hw ha hT _
 unfold cPlc at hT
 split at hT
 ·rename_i t0 a0 b0 t1 a1 b1 t2 a2 b2 t3 a3 b3 i1 a4 b4 i2 a5 b5 i3 a6 b6 d a7 b7
  obtain ⟨hb,rfl⟩:=zd1 hT
  simp only [Bool.and_eq_true] at hb
  obtain ⟨⟨⟨⟨⟨⟨⟨c0,c1⟩,c2⟩,c3⟩,c4⟩,c5⟩,c6⟩,c7⟩:=hb
  have h:=ha _ (List.mem_singleton.2 rfl)
  have g:=fun c hc=>h c hc
  have g0:=zG5 c0 (g (.ci .i8 t0 a0 b0) (by simp)).2
  have g1:=zG5 c1 (g (.ci .i8 t1 a1 b1) (by simp)).2
  have g2:=zG5 c2 (g (.ci .i8 t2 a2 b2) (by simp)).2
  have g3:=zG5 c3 (g (.ci .i8 t3 a3 b3) (by simp)).2
  have g4:=zG5 c4 (g (.ci .i8 i1 a4 b4) (by simp)).2
  have g5:=zG5 c5 (g (.ci .i8 i2 a5 b5) (by simp)).2
  have g6:=zG5 c6 (g (.ci .i8 i3 a6 b6) (by simp)).2
  have g7:=inu8_ok c7 (g (.ci .u8 d a7 b7) (by simp)).2
  refine (place_c ⟨g0,g1,g2,g3,g4,g5,g6,g7⟩ w (hI w hw)).mono fun e w' he=>zb6 he fun c hc=>?_
  have v:=qd_vt t0 t1 t2 t3
  have v0:=v.b0;have v1:=v.b1;have v2:=v.b2;have v3:=v.b3
  simp only [List.mem_cons,List.not_mem_nil,or_false] at hc
  rcases hc with rfl | rfl | rfl | rfl | rfl | rfl | rfl
  ·exact ⟨rfl,v0⟩
  ·exact ⟨rfl,v1⟩
  ·exact ⟨rfl,v2⟩
  ·exact ⟨rfl,v3⟩
  ·exact yr2 g4 g7 n E w'
  ·exact yr2 g5 g7 n E w'
  ·exact yr2 g6 g7 n E w'
 ·cases hT
noncomputable def tabO:List (Nat × List (Nat × Ent)):=[(14,[(5,.ord [(true,0),(true,1),(true,2),(true,3),(true,4),(true,5),(true,6),(true,7),(true,8),(true,9),(true,10),(true,11),(true,12),(true,13),(true,14),(true,15)] []),(12,.ord [(true,0),(true,1),(true,3),(true,5),(false,2),(false,4),(true,6),(false,7)] [14])]),
 (53,[]),
 (57,[]),
 (60,[]),
 (74,[(5,.ord [(true,0),(true,1),(true,2),(true,3),(true,4),(true,5),(true,6),(true,7),(false,8),(true,9),(false,10)] [7])]),
 (93,[]),
 (97,[])]
noncomputable def conO:List (Nat × ConT):=[(103,zj6 100000 (fun k m=>k+m+1) (fun a b=>a+b)),
 (75,zj6 100000 (fun k m=>k+m+1) (fun a b=>a - b)),
 (82,zj6 100000 (fun k m=>k+m) (fun a b=>a*b)),
 (108,cNeg),
 (59,zY8),
 (37,zY9),
 (76,zS9),
 (87,zZ0),
 (130,cNum),
 (81,cDen),
 (58,cDiv),
 (96,zy6),
 (80,zT0),
 (122,zT1),
 (123,zT2),
 (68,zZ1),
 (105,cTT (fun k m=>k+m+1) fun a b=>a+b),
 (132,cTT (fun k m=>k+m+1) fun a b=>a - b),
 (106,cTT (fun k m=>k+m) fun a b=>a*b),
 (64,zZ2),
 (115,zZ3),
 (65,zD1),
 (94,zt8 400),
 (107,zt8 65536),
 (15,cChk),
 (66,zT5)]
noncomputable def sysO:Sys:=⟨Tryz.prog,2,199,tabO,conO,fun w=>Tab w∧Mx w⟩
theorem sysO_ok:sysO.OK where
 mixed:=by kernel_rfl
 calls:=fun f h0 h1=>by
  have:(List.range 199).all (fun f=>Nat.blt f 2||okCall Tryz.prog f)=true:=by kernel_rfl
  have:=List.all_eq_true.1 this f (List.mem_range.2 h1)
  simp only [Bool.or_eq_true] at this
  exact this.resolve_left (fun e=>by have:=ze6 e;exact absurd h0 (by show ¬ 2≤f;omega))
 tab:=by
  have:tabO.all (okTab Tryz.prog)=true:=by kernel_rfl
  exact fun x hx=>List.all_eq_true.1 this x hx
 lps:=zy1 (by kernel_rfl)
 con:=fun x hx=>by
  simp only [sysO,conO,List.mem_cons,List.not_mem_nil,or_false] at hx
  rcases hx with rfl | rfl | rfl | rfl | rfl | rfl | rfl | rfl | rfl | rfl | rfl | rfl | rfl | rfl | rfl | rfl | rfl | rfl | rfl | rfl | rfl | rfl | rfl | rfl | rfl | rfl
  ·exact zc4 fun h1 h2 h3=>zi7 h1 h2 h3
  ·exact zc4 fun h1 h2 h3=>zt6 h1 h2 h3
  ·exact zc4 fun h1 h2 h3=>yb2 h1 h2 h3
  ·exact zu9
  ·exact zo0
  ·exact zo1
  ·exact zl1
  ·exact zo2 fun w h=>h.1
  ·exact zs0
  ·exact zs1
  ·exact zv0
  ·exact zh9
  ·exact zl2
  ·exact zl3
  ·exact zl4
  ·exact zo3
  ·exact zo4
  ·exact zo5
  ·exact zo6
  ·exact zo7
  ·exact zo8
  ·exact zj8
  ·exact zo9 fun w h=>h.2
  ·exact zp0 fun w h=>h.2
  ·exact zB1 fun w h=>h.2
  ·exact zp1
 inv:=fun w w' h g=>⟨h.1.gr g,h.2.gr g⟩
def rowC:List Nat→List (Nat × Rat)→List Cl
 | j::l,(k,q)::r=>.cr j 0 k q::.cr j 1 k q::.cr j 2 k q::.cr j 3 k q::rowC l r
 | _,_=>[]
def nN (w x y z:Int):Rat:=((w*w+x*x+y*y+z*z:Int):Rat)
def mOf (w x y z:Int) (k:Nat):Rat:=((1:Int):Rat)/nN w x y z*((roN w x y z k:Int):Rat)
def oRaw (q0 q1 q2 q3:Int) (x1 x2 x3:Rat):List (Nat × Rat):=[(192,mOf q0 q1 q2 q3 0),(192,mOf q0 q1 q2 q3 1),(192,mOf q0 q1 q2 q3 2),(192,mOf q0 q1 q2 q3 3),(192,mOf q0 q1 q2 q3 4),(192,mOf q0 q1 q2 q3 5),(192,mOf q0 q1 q2 q3 6),(192,mOf q0 q1 q2 q3 7),(192,mOf q0 q1 q2 q3 8),(64,x1),(64,x2),(64,x3)]
def oList (q0 q1 q2 q3:Int) (x1 x2 x3:Rat):List (Nat × Rat):=[(64,roE q0 q1 q2 q3 0),(64,roE q0 q1 q2 q3 1),(64,roE q0 q1 q2 q3 2),(64,roE q0 q1 q2 q3 3),(64,roE q0 q1 q2 q3 4),(64,roE q0 q1 q2 q3 5),(64,roE q0 q1 q2 q3 6),(64,roE q0 q1 q2 q3 7),(64,roE q0 q1 q2 q3 8),(64,x1),(64,x2),(64,x3)]
def treeO (q0 q1 q2 q3:Int) (x1 x2 x3:Rat):Lf:=
 .as (decide (chk q0 q1 q2 q3 0=0)) true
 (.as (decide (nN q0 q1 q2 q3=0)) false
 (.ret (.st [.vg (rowC [9,10,11,15,16,17,21,22,23,0,1,2] (oRaw q0 q1 q2 q3 x1 x2 x3)),.vc (.ci .i64 0 0 0)])))
theorem runO (q0 q1 q2 q3:Int) (x1 x2 x3:Rat):zP0 sysO 14 [.so (.vg [.ci .i64 q0 (-12) 12,.ci .i64 q1 (-12) 12,.ci .i64 q2 (-12) 12,.ci .i64 q3 (-12) 12,.cw (za1 x1) (some (64,x1)),.cw (za1 x2) (some (64,x2)),.cw (za1 x3) (some (64,x3))])] 0 0 (.f .e)=some (treeO q0 q1 q2 q3 x1 x2 x3):=by kernel_rfl
theorem of_c {q0 q1 q2 q3:Int} {x1 x2 x3:Rat} (hv:VT q0 q1 q2 q3) (s1:RS 64 x1) (s2:RS 64 x2) (s3:RS 64 x3) (w:World) (hI:Tab w∧Mx w):
  Calls Tryz.prog 14 #[.agg #[.int .i64 q0,.int .i64 q1,.int .i64 q2,.int .i64 q3,.string ⟨(za1 x1).toArray⟩,.string ⟨(za1 x2).toArray⟩,.string ⟨(za1 x3).toArray⟩]] w fun e w'=>(∃ vs:List Value,e=.returned (.tuple #[.agg vs.toArray,.int .i64 0])∧IsRats w' vs (oList q0 q1 q2 q3 x1 x2 x3))∧Gr w w':=by
 have hl:LOK (fun v=>∃ l,v=.st [.vg l,.vc (.ci .i64 0 0 0)]∧rats l=some (oRaw q0 q1 q2 q3 x1 x2 x3)) (treeO q0 q1 q2 q3 x1 x2 x3):=⟨decide_eq_true (hv.chk 0),decide_eq_false (nn_ne hv),_,rfl,rfl⟩
 have tx:∀ {x},RS 64 x→(Cl.cw (za1 x) (some (64,x))).ok ⟨0,0,0⟩ (zF1 []) w:=fun h=>⟨rfl,fun k q e=>by cases e;exact ⟨rfl,h⟩⟩
 refine (ze7 sysO sysO_ok (runO q0 q1 q2 q3 x1 x2 x3) (X:=zF1 []) hI (okF1 (zi1 ⟨⟨rfl,hv.b0⟩,⟨rfl,hv.b1⟩,⟨rfl,hv.b2⟩,⟨rfl,hv.b3⟩,tx s1,tx s2,tx s3,trivial⟩)) hl).mono fun e w' he=>?_
 obtain ⟨v,X',n,rfl,g,_,hv',l,rfl,hr⟩:=he
 have h:=zB3 hr (hv' (.vg l) (by simp))
 have rs:=fun k=>(roE_rs hv k).mono (show 50≤64 by decide)
 have one:=fun k=>@one_div (nN q0 q1 q2 q3) ((roN q0 q1 q2 q3 k:Int):Rat)
 exact ⟨⟨_,rfl,h.conv ⟨⟨one 0,rs 0,Nat.le_refl _⟩,⟨one 1,rs 1,Nat.le_refl _⟩,⟨one 2,rs 2,Nat.le_refl _⟩,⟨one 3,rs 3,Nat.le_refl _⟩,⟨one 4,rs 4,Nat.le_refl _⟩,⟨one 5,rs 5,Nat.le_refl _⟩,⟨one 6,rs 6,Nat.le_refl _⟩,⟨one 7,rs 7,Nat.le_refl _⟩,⟨one 8,rs 8,Nat.le_refl _⟩,⟨rfl,s1,Nat.le_refl _⟩,⟨rfl,s2,Nat.le_refl _⟩,⟨rfl,s3,Nat.le_refl _⟩,trivial⟩⟩,g⟩
def cOf:ConT:=fun args nr _=>match args with
 | [.so (.vg [.ci .i64 q0 _ _,.ci .i64 q1 _ _,.ci .i64 q2 _ _,.ci .i64 q3 _ _,c1,c2,c3])]=>match txC c1,txC c2,txC c3 with
  | some (k1,x1),some (k2,x2),some (k3,x3)=>tr (Nat.ble k1 64&&Nat.ble k2 64&&Nat.ble k3 64) (.as (decide (chk q0 q1 q2 q3 0=0)) (.leaf (.st [.vg (zi0 nr (oList q0 q1 q2 q3 x1 x2 x3)),.vc (.ci .i64 0 0 0)]) 12 0))
  | _,_,_=>none
 | _=>none
theorem yg2 {I:World→Prop} (hI:∀ w,I w→Tab w∧Mx w):ConOK Tryz.prog I 14 cOf:=by
 intro args E n w T hw ha hT hp
 unfold cOf at hT
 split at hT
 ·rename_i q0 _ _ q1 _ _ q2 _ _ q3 _ _ c1 c2 c3
  split at hT
  ·rename_i k1 x1 k2 x2 k3 x3 e1 e2 e3
   obtain ⟨hb,rfl⟩:=zd1 hT
   simp only [Bool.and_eq_true,Nat.ble_eq] at hb
   obtain ⟨⟨l1,l2⟩,l3⟩:=hb
   have g:=fun c hc=>ha _ (List.mem_singleton.2 rfl) c hc
   obtain ⟨d1,s1⟩:=zl0 e1 (g c1 (by simp))
   obtain ⟨d2,s2⟩:=zl0 e2 (g c2 (by simp))
   obtain ⟨d3,s3⟩:=zl0 e3 (g c3 (by simp))
   show Calls _ _ #[.agg #[.int .i64 q0,.int .i64 q1,.int .i64 q2,.int .i64 q3,c1.den E,c2.den E,c3.den E]] w _
   rw [d1,d2,d3]
   refine (of_c (chk_ok (of_decide_eq_true hp.1)).1 (s1.mono l1) (s2.mono l2) (s3.mono l3) w (hI w hw)).mono fun e w' he=>zv1 he
  ·cases hT
 ·cases hT
set_option maxRecDepth 100000 in
set_option maxHeartbeats 1000000 in
theorem sum_4 {k:Nat} {ab:Nat} {u0 u1 u2 u3:Value} {a:Rat} {v0 v1 v2 v3:Value} {b:Rat} {x0 x1 x2 x3:Value} {c:Rat} {z0 z1 z2 z3:Value} {d:Rat} {w:World} (ha:IsRat w k u0 u1 u2 u3 a) (hb:IsRat w k v0 v1 v2 v3 b) (hc:IsRat w k x0 x1 x2 x3 c) (hd:IsRat w k z0 z1 z2 z3 d) (hL:Lc w ab #[u0,u1,u2,u3,v0,v1,v2,v3,x0,x1,x2,x3,z0,z1,z2,z3] 36) (_hk:k≤20000):
    Calls Tryz.prog 83 #[(.slice (some ⟨ab,0,none⟩) 4 4)] w fun e w'=>(∃ z0 z1 z2 z3,e=.returned (.agg #[z0,z1,z2,z3])∧IsRat w' ((((64+k+1)+k+1)+k+1)+k+1) z0 z1 z2 z3 (((((0+a)+b)+c)+d)))∧Gr w w':=by
 have hbig:=ha.big
 go_enter Tryz.func83,Tryz.ntmps83
 have hB:=Gr.refl w
 refine wp_seq_k (fun K1 k1=>?_)
 refine rg [0] ?_
 refine se ?_
 refine ea 36 #[.bool false,.slice none 0 0,.bool false,.slice none 0 0] 2 hB fun b2 w2 g2 L2 o2 q2 hB=>?_
 simp only [p3,p4]
 refine za0 ?_
 refine k1 _ _ ?_
 try clear k1 K1
 refine wp_seq_k (fun K3 k3=>?_)
 refine rg [0] ?_
 refine se ?_
 refine ea 36 #[.bool false,.slice none 0 0,.bool false,.slice none 0 0] 3 hB fun b4 w4 g4 L4 o4 q4 hB=>?_
 replace hL:=hL.gr g2
 have ac:=hL.ne o4
 have aa:=L2.ne o4
 simp only [p3,p4]
 refine za0 ?_
 refine k3 _ _ ?_
 try clear k3 K3
 refine wp_seq_k (fun K5 k5=>?_)
 refine wp_seq_k (fun K6 k6=>?_)
 refine rg [0,1,2] ?_
 refine sv 6 (.slice (some ⟨ab,0,none⟩) 4 4) ?_
 refine sv 7 (.int .i64 4) ?_
 refine sv 8 (.int .i64 0) ?_
 refine za0 ?_
 refine k6 _ _ ?_
 try clear k6 K6
 refine wp_block ?_
 refine wp_loop_rounds 5 ?_
 show Code.wp _ _ _ _ _
 refine wp_seq_k (fun K7 k7=>?_)
 refine rg [0] ?_
 refine sv 9 (.bool true) ?_
 refine za0 ?_
 refine k7 _ _ ?_
 try clear k7 K7
 refine wp_seq_k (fun K8 k8=>?_)
 refine wp_cond_true rfl ?_
 refine wp_skip ?_
 refine k8 _ _ ?_
 try clear k8 K8
 refine wp_seq_k (fun K9 k9=>?_)
 refine wp_block ?_
 refine wp_seq_k (fun b9 bE=>?_)
 refine rg [0,1,2,3] ?_
 refine sv 10 (.pointer (some ⟨ab,0,none⟩)) ?_
 replace hL:=hL.gr g4
 refine sw 11 (.agg #[u0,u1,u2,u3]) rfl (rl 36 0 [u0,u1,u2,u3] hL) ?_
 refine se ?_
 refine ea 36 #[.bool false,.slice none 0 0,.bool false,.slice none 0 0] 5 hB fun cD cH aJ bk bo bP hB=>?_
 have aC:=hL.ne bo
 replace L2:=L2.gr g4
 have aq:=L2.ne bo
 have ar:=L4.ne bo
 simp only [p3,p4]
 refine se ?_
 refine es 36 0 (.agg #[u0,u1,u2,u3]) [u0,u1,u2,u3] #[u0,u1,u2,u3] bk hB bP ⟨ha.one0,ha.one1,ha.one2,ha.one3,trivial⟩ fun ch az ah bk hB=>?_
 refine za0 ?_
 refine bE _ _ ?_
 try clear bE b9
 refine rg [0,1,2,3] ?_
 replace L4:=az.lc (L4.gr aJ) ar
 refine sw 12 (.agg #[.bool false,.slice none 0 0,.bool false,.slice none 0 0]) rfl (rl 36 0 [.bool false,.slice none 0 0,.bool false,.slice none 0 0] L4) ?_
 refine sw 13 (.agg #[u0,u1,u2,u3]) rfl (rl 36 0 [u0,u1,u2,u3] bk) ?_
 refine se ?_
 have bd:=g2.kp.trans (g4.kp.trans (aJ.kp.trans ah))
 replace ha:=ha.kp bd
 refine ec 14 (zi7 (IsRat.zero _ (k:=64) (Nat.le_refl _)) ha (by omega)) ?_
 rintro e13 cA ⟨⟨aP,aS,aX,a6,rfl,ap⟩,aI⟩
 refine ⟨_,rfl,?_⟩
 replace hB:=hB.trans aI
 simp only [p3,p4]
 refine se ?_
 replace L4:=L4.gr aI
 refine es 36 0 (.agg #[aP,aS,aX,a6]) [aP,aS,aX,a6] #[aP,aS,aX,a6] L4 hB q4 ⟨ap.one0,ap.one1,ap.one2,ap.one3,trivial⟩ fun cB aW ai L4 hB=>?_
 refine za0 ?_
 refine k9 _ _ ?_
 try clear k9 K9
 refine rg [0,1] ?_
 refine sv 15 (.int .i64 1) ?_
 refine sv 8 (.int .i64 1) ?_
 refine za0 ?_
 show Code.rounds _ _ _ _ _ _
 show Code.wp _ _ _ _ _
 refine wp_seq_k (fun bU bG=>?_)
 refine rg [0] ?_
 refine sv 9 (.bool true) ?_
 refine za0 ?_
 refine bG _ _ ?_
 try clear bG bU
 refine wp_seq_k (fun bO bJ=>?_)
 refine wp_cond_true rfl ?_
 refine wp_skip ?_
 refine bJ _ _ ?_
 try clear bJ bO
 refine wp_seq_k (fun b8 bK=>?_)
 refine wp_block ?_
 refine wp_seq_k (fun bS bB=>?_)
 refine rg [0,1,2,3] ?_
 refine sv 10 (.pointer (some ⟨ab,4,none⟩)) ?_
 replace hL:=aW.lc ((az.lc (hL.gr aJ) aC).gr aI) ac
 refine sw 11 (.agg #[v0,v1,v2,v3]) rfl (rl 36 4 [v0,v1,v2,v3] hL) ?_
 refine se ?_
 refine ea 36 #[.bool false,.slice none 0 0,.bool false,.slice none 0 0] 5 hB fun cg cJ aF bh bu bW hB=>?_
 have aH:=hL.ne bu
 replace L2:=aW.lc ((az.lc (L2.gr aJ) aq).gr aI) aa
 have au:=L2.ne bu
 have aG:=L4.ne bu
 simp only [p3,p4]
 refine se ?_
 refine es 36 0 (.agg #[v0,v1,v2,v3]) [v0,v1,v2,v3] #[v0,v1,v2,v3] bh hB bW ⟨hb.one0,hb.one1,hb.one2,hb.one3,trivial⟩ fun cC aM ak bh hB=>?_
 refine za0 ?_
 refine bB _ _ ?_
 try clear bB bS
 refine rg [0,1,2,3] ?_
 replace L4:=aM.lc (L4.gr aF) aG
 refine sw 12 (.agg #[aP,aS,aX,a6]) rfl (rl 36 0 [aP,aS,aX,a6] L4) ?_
 refine sw 13 (.agg #[v0,v1,v2,v3]) rfl (rl 36 0 [v0,v1,v2,v3] bh) ?_
 refine se ?_
 have bb:=ai.trans (aF.kp.trans ak)
 replace ap:=ap.kp bb
 have bg:=g2.kp.trans (g4.kp.trans (aJ.kp.trans (ah.trans (aI.kp.trans (ai.trans (aF.kp.trans ak))))))
 replace hb:=hb.kp bg
 refine ec 14 (zi7 ap hb (by omega)) ?_
 rintro e22 cj ⟨⟨aZ,a1,a5,aU,rfl,av⟩,aN⟩
 refine ⟨_,rfl,?_⟩
 replace hB:=hB.trans aN
 simp only [p3,p4]
 refine se ?_
 replace L4:=L4.gr aN
 refine es 36 0 (.agg #[aZ,a1,a5,aU]) [aZ,a1,a5,aU] #[aZ,a1,a5,aU] L4 hB q4 ⟨av.one0,av.one1,av.one2,av.one3,trivial⟩ fun cl a4 aB L4 hB=>?_
 refine za0 ?_
 refine bK _ _ ?_
 try clear bK b8
 refine rg [0,1] ?_
 refine sv 15 (.int .i64 2) ?_
 refine sv 8 (.int .i64 2) ?_
 refine za0 ?_
 show Code.rounds _ _ _ _ _ _
 show Code.wp _ _ _ _ _
 refine wp_seq_k (fun ca bD=>?_)
 refine rg [0] ?_
 refine sv 9 (.bool true) ?_
 refine za0 ?_
 refine bD _ _ ?_
 try clear bD ca
 refine wp_seq_k (fun b6 bL=>?_)
 refine wp_cond_true rfl ?_
 refine wp_skip ?_
 refine bL _ _ ?_
 try clear bL b6
 refine wp_seq_k (fun bT bx=>?_)
 refine wp_block ?_
 refine wp_seq_k (fun bQ bM=>?_)
 refine rg [0,1,2,3] ?_
 refine sv 10 (.pointer (some ⟨ab,8,none⟩)) ?_
 replace hL:=a4.lc ((aM.lc (hL.gr aF) aH).gr aN) ac
 refine sw 11 (.agg #[x0,x1,x2,x3]) rfl (rl 36 8 [x0,x1,x2,x3] hL) ?_
 refine se ?_
 refine ea 36 #[.bool false,.slice none 0 0,.bool false,.slice none 0 0] 5 hB fun cu ck aO bi bc cd hB=>?_
 have aD:=hL.ne bc
 replace L2:=a4.lc ((aM.lc (L2.gr aF) au).gr aN) aa
 have ay:=L2.ne bc
 have aL:=L4.ne bc
 simp only [p3,p4]
 refine se ?_
 refine es 36 0 (.agg #[x0,x1,x2,x3]) [x0,x1,x2,x3] #[x0,x1,x2,x3] bi hB cd ⟨hc.one0,hc.one1,hc.one2,hc.one3,trivial⟩ fun ce aA ax bi hB=>?_
 refine za0 ?_
 refine bM _ _ ?_
 try clear bM bQ
 refine rg [0,1,2,3] ?_
 replace L4:=aA.lc (L4.gr aO) aL
 refine sw 12 (.agg #[aZ,a1,a5,aU]) rfl (rl 36 0 [aZ,a1,a5,aU] L4) ?_
 refine sw 13 (.agg #[x0,x1,x2,x3]) rfl (rl 36 0 [x0,x1,x2,x3] bi) ?_
 refine se ?_
 have ba:=aB.trans (aO.kp.trans ax)
 replace av:=av.kp ba
 have bq:=g2.kp.trans (g4.kp.trans (aJ.kp.trans (ah.trans (aI.kp.trans (ai.trans (aF.kp.trans (ak.trans (aN.kp.trans (aB.trans (aO.kp.trans ax))))))))))
 replace hc:=hc.kp bq
 refine ec 14 (zi7 av hc (by omega)) ?_
 rintro e32 cF ⟨⟨a7,aT,aY,aQ,rfl,aw⟩,aR⟩
 refine ⟨_,rfl,?_⟩
 replace hB:=hB.trans aR
 simp only [p3,p4]
 refine se ?_
 replace L4:=L4.gr aR
 refine es 36 0 (.agg #[a7,aT,aY,aQ]) [a7,aT,aY,aQ] #[a7,aT,aY,aQ] L4 hB q4 ⟨aw.one0,aw.one1,aw.one2,aw.one3,trivial⟩ fun cE a3 a2 L4 hB=>?_
 refine za0 ?_
 refine bx _ _ ?_
 try clear bx bT
 refine rg [0,1] ?_
 refine sv 15 (.int .i64 3) ?_
 refine sv 8 (.int .i64 3) ?_
 refine za0 ?_
 show Code.rounds _ _ _ _ _ _
 show Code.wp _ _ _ _ _
 refine wp_seq_k (fun b7 bF=>?_)
 refine rg [0] ?_
 refine sv 9 (.bool true) ?_
 refine za0 ?_
 refine bF _ _ ?_
 try clear bF b7
 refine wp_seq_k (fun bY bz=>?_)
 refine wp_cond_true rfl ?_
 refine wp_skip ?_
 refine bz _ _ ?_
 try clear bz bY
 refine wp_seq_k (fun bX bC=>?_)
 refine wp_block ?_
 refine wp_seq_k (fun bR bN=>?_)
 refine rg [0,1,2,3] ?_
 refine sv 10 (.pointer (some ⟨ab,12,none⟩)) ?_
 replace hL:=a3.lc ((aA.lc (hL.gr aO) aD).gr aR) ac
 refine sw 11 (.agg #[z0,z1,z2,z3]) rfl (rl 36 12 [z0,z1,z2,z3] hL) ?_
 refine se ?_
 refine ea 36 #[.bool false,.slice none 0 0,.bool false,.slice none 0 0] 5 hB fun cy ct a8 bj bw bZ hB=>?_
 replace L2:=a3.lc ((aA.lc (L2.gr aO) ay).gr aR) aa
 have aE:=L2.ne bw
 have aK:=L4.ne bw
 simp only [p3,p4]
 refine se ?_
 refine es 36 0 (.agg #[z0,z1,z2,z3]) [z0,z1,z2,z3] #[z0,z1,z2,z3] bj hB bZ ⟨hd.one0,hd.one1,hd.one2,hd.one3,trivial⟩ fun cG a0 aV bj hB=>?_
 refine za0 ?_
 refine bN _ _ ?_
 try clear bN bR
 refine rg [0,1,2,3] ?_
 replace L4:=a0.lc (L4.gr a8) aK
 refine sw 12 (.agg #[a7,aT,aY,aQ]) rfl (rl 36 0 [a7,aT,aY,aQ] L4) ?_
 refine sw 13 (.agg #[z0,z1,z2,z3]) rfl (rl 36 0 [z0,z1,z2,z3] bj) ?_
 refine se ?_
 have bv:=a2.trans (a8.kp.trans aV)
 replace aw:=aw.kp bv
 have bf:=g2.kp.trans (g4.kp.trans (aJ.kp.trans (ah.trans (aI.kp.trans (ai.trans (aF.kp.trans (ak.trans (aN.kp.trans (aB.trans (aO.kp.trans (ax.trans (aR.kp.trans (a2.trans (a8.kp.trans aV))))))))))))))
 replace hd:=hd.kp bf
 refine ec 14 (zi7 aw hd (by omega)) ?_
 rintro cq cn ⟨⟨al,af,aj,ae,rfl,ad⟩,a9⟩
 refine ⟨_,rfl,?_⟩
 replace hB:=hB.trans a9
 simp only [p3,p4]
 refine se ?_
 replace L4:=L4.gr a9
 refine es 36 0 (.agg #[al,af,aj,ae]) [al,af,aj,ae] #[al,af,aj,ae] L4 hB q4 ⟨ad.one0,ad.one1,ad.one2,ad.one3,trivial⟩ fun cx bp bn L4 hB=>?_
 refine za0 ?_
 refine bC _ _ ?_
 try clear bC bX
 refine rg [0,1] ?_
 refine sv 15 (.int .i64 4) ?_
 refine sv 8 (.int .i64 4) ?_
 refine za0 ?_
 show Code.rounds _ _ _ _ _ _
 show Code.wp _ _ _ _ _
 refine wp_seq_k (fun b5 bH=>?_)
 refine rg [0] ?_
 refine sv 9 (.bool false) ?_
 refine za0 ?_
 refine bH _ _ ?_
 try clear bH b5
 refine wp_seq_k (fun cK cm=>?_)
 refine wp_cond_false rfl ?_
 refine wp_exit ?_
 simp only [Exit.then,Exit.inBlock,↓reduceIte]
 refine k5 _ _ ?_
 try clear k5 K5
 refine wp_seq_k (fun cc bA=>?_)
 refine rg [0,1] ?_
 refine sw 16 (.agg #[al,af,aj,ae]) rfl (rl 36 0 [al,af,aj,ae] L4) ?_
 refine se ?_
 replace L2:=bp.lc ((a0.lc (L2.gr a8) aE).gr a9) aa
 refine es 36 0 (.agg #[al,af,aj,ae]) [al,af,aj,ae] #[al,af,aj,ae] L2 hB q2 ⟨ad.one0,ad.one1,ad.one2,ad.one3,trivial⟩ fun co bV bt L2 hB=>?_
 refine za0 ?_
 refine bA _ _ ?_
 try clear bA cc
 refine wp_ret ?_
 refine bodyPost_ret (v:=(.agg #[al,af,aj,ae])) (za9 _ _ _ rfl rfl L2 (by kernel_rfl)) rfl ⟨?_,hB⟩
 have bm:=bn.trans bt
 replace ad:=ad.kp bm
 exact ⟨_,_,_,_,rfl,ad⟩

set_option maxRecDepth 100000 in
set_option maxHeartbeats 16000000 in
theorem mturnq {k ks:Nat} {av af aB ax aW aF aH aR aQ aK aT aI aE aV aD aC ai az ak au aL aX aM aU aZ aJ aP aO aY aS aG aN aA ab aj aq a8 a3 a4 bc a9 bb a7 a5 a6 a2 a1 ba:Value} {bL dJ dK dL bT dM dN dI bD gK gH hm:Rat} {w:World} (ac:IsRat w k av af aB ax bL) (al:IsRat w k aW aF aH aR dJ) (ae:IsRat w k aQ aK aT aI dK) (ar:IsRat w k aE aV aD aC dL) (ah:IsRat w k ai az ak au bT) (ad:IsRat w k aL aX aM aU dM) (aw:IsRat w k aZ aJ aP aO dN) (ap:IsRat w k aY aS aG aN dI) (ay:IsRat w k aA ab aj aq bD) (bd:IsRat w ks a8 a3 a4 bc gK) (bf:IsRat w ks a9 bb a7 a5 gH) (bg:IsRat w ks a6 a2 a1 ba hm) (_hk:k≤800) (dG:64≤k):
    Calls Tryz.prog 67 #[(.agg #[av,af,aB,ax,aW,aF,aH,aR,aQ,aK,aT,aI,aE,aV,aD,aC,ai,az,ak,au,aL,aX,aM,aU,aZ,aJ,aP,aO,aY,aS,aG,aN,aA,ab,aj,aq,a8,a3,a4,bc,a9,bb,a7,a5,a6,a2,a1,ba])] w fun e w'=>(∃ t0 t1 t2 t3 t4 t5 t6 t7,e=.returned (.agg #[t0,t1,t2,t3,t4,t5,t6,t7])∧IsInt w' (40128) t0 t1 (wzq (zL4 bL dJ dK dL bT dM dN dI bD) 0)∧IsInt w' (40128) t2 t3 (wzq (zL4 bL dJ dK dL bT dM dN dI bD) 1)∧IsInt w' (40128) t4 t5 (wzq (zL4 bL dJ dK dL bT dM dN dI bD) 2)∧IsInt w' (40128) t6 t7 (wzq (zL4 bL dJ dK dL bT dM dN dI bD) 3))∧Gr w w':=by
 have hmaone:One1 [av,af,aB,ax,aW,aF,aH,aR,aQ,aK,aT,aI,aE,aV,aD,aC,ai,az,ak,au,aL,aX,aM,aU,aZ,aJ,aP,aO,aY,aS,aG,aN,aA,ab,aj,aq,a8,a3,a4,bc,a9,bb,a7,a5,a6,a2,a1,ba]:=⟨ac.one0,ac.one1,ac.one2,ac.one3,al.one0,al.one1,al.one2,al.one3,ae.one0,ae.one1,ae.one2,ae.one3,ar.one0,ar.one1,ar.one2,ar.one3,ah.one0,ah.one1,ah.one2,ah.one3,ad.one0,ad.one1,ad.one2,ad.one3,aw.one0,aw.one1,aw.one2,aw.one3,ap.one0,ap.one1,ap.one2,ap.one3,ay.one0,ay.one1,ay.one2,ay.one3,bd.one0,bd.one1,bd.one2,bd.one3,bf.one0,bf.one1,bf.one2,bf.one3,bg.one0,bg.one1,bg.one2,bg.one3,trivial⟩
 refine enterN Tryz.func67 rfl ?_
 simp only [Tryz.ntmps67,List.size_toArray,List.length_cons,List.length_nil,Nat.reduceAdd,Nat.reduceSub,Array.replicate_succ,Array.replicate_zero,List.push_toArray,List.append_toArray,List.nil_append,List.cons_append]
 have hB:=Gr.refl w
 refine wp_seq_k (fun K1 k1=>?_)
 refine rg [0,1] ?_
 refine se ?_
 refine eb 41 #[av,af,aB,ax,aW,aF,aH,aR,aQ,aK,aT,aI,aE,aV,aD,aC,ai,az,ak,au,aL,aX,aM,aU,aZ,aJ,aP,aO,aY,aS,aG,aN,aA,ab,aj,aq,a8,a3,a4,bc,a9,bb,a7,a5,a6,a2,a1,ba] 1 hB fun b2 w2 g2 L2 o2 q2 hB=>?_
 simp only [p3,p4]
 refine se ?_
 refine ea 125 #[.bool false,.slice none 0 0,.bool false,.slice none 0 0,.bool false,.slice none 0 0,.bool false,.slice none 0 0] 2 hB fun b3 w3 g3 L3 o3 q3 hB=>?_
 simp only [p3,p4]
 refine za0 ?_
 refine k1 _ _ ?_
 try clear k1 K1
 refine wp_seq_k (fun K4 k4=>?_)
 refine rg [0] ?_
 refine se ?_
 refine ea 156 #[.bool false,.slice none 0 0,.bool false,.slice none 0 0,.bool false,.slice none 0 0,.bool false,.slice none 0 0,.bool false,.slice none 0 0,.bool false,.slice none 0 0,.bool false,.slice none 0 0,.bool false,.slice none 0 0,.bool false,.slice none 0 0,.bool false,.slice none 0 0,.bool false,.slice none 0 0,.bool false,.slice none 0 0,.bool false,.slice none 0 0,.bool false,.slice none 0 0,.bool false,.slice none 0 0,.bool false,.slice none 0 0,.bool false,.slice none 0 0,.bool false,.slice none 0 0] 3 hB fun b5 w5 g5 L5 o5 q5 hB=>?_
 replace L2:=L2.gr g3
 have gx:=L2.ne o5
 have fX:=L3.ne o5
 simp only [p3,p4]
 refine za0 ?_
 refine k4 _ _ ?_
 try clear k4 K4
 refine wp_seq_k (fun K6 k6=>?_)
 refine wp_seq_k (fun K7 k7=>?_)
 refine rg [0,1] ?_
 replace L2:=L2.gr g5
 refine sw 9 (.agg #[av,af,aB,ax,aW,aF,aH,aR,aQ,aK,aT,aI,aE,aV,aD,aC,ai,az,ak,au,aL,aX,aM,aU,aZ,aJ,aP,aO,aY,aS,aG,aN,aA,ab,aj,aq,a8,a3,a4,bc,a9,bb,a7,a5,a6,a2,a1,ba]) rfl (rl 41 0 [av,af,aB,ax,aW,aF,aH,aR,aQ,aK,aT,aI,aE,aV,aD,aC,ai,az,ak,au,aL,aX,aM,aU,aZ,aJ,aP,aO,aY,aS,aG,aN,aA,ab,aj,aq,a8,a3,a4,bc,a9,bb,a7,a5,a6,a2,a1,ba] L2) ?_
 refine se ?_
 refine ec 10 (ments _ ac.one0 ac.one1 ac.one2 ac.one3 al.one0 al.one1 al.one2 al.one3 ae.one0 ae.one1 ae.one2 ae.one3 ar.one0 ar.one1 ar.one2 ar.one3 ah.one0 ah.one1 ah.one2 ah.one3 ad.one0 ad.one1 ad.one2 ad.one3 aw.one0 aw.one1 aw.one2 aw.one3 ap.one0 ap.one1 ap.one2 ap.one3 ay.one0 ay.one1 ay.one2 ay.one3 bd.one0 bd.one1 bd.one2 bd.one3 bf.one0 bf.one1 bf.one2 bf.one3 bg.one0 bg.one1 bg.one2 bg.one3) ?_
 rintro e8 w8 ⟨⟨iR,rfl,gX⟩,g8⟩
 refine ⟨_,rfl,?_⟩
 replace hB:=hB.trans g8
 simp only [p3,p4]
 refine za0 ?_
 refine k7 _ _ ?_
 try clear k7 K7
 refine wp_block ?_
 replace L2:=L2.gr g8
 replace L3:=L3.gr (g5.trans g8)
 replace L5:=L5.gr g8
 refine yz0 (Ds:=[]) (d1:=4) (d2:=5) (zG9 _ iR av af aB ax aW aF aH aR aQ aK aT aI aE aV aD aC ai az ak au aL aX aM aU aZ aJ aP aO aY aS aG aN aA ab aj aq a8 a3 a4 bc a9 bb a7 a5 a6 a2 a1 ba ac.one0 ac.one1 ac.one2 ac.one3 al.one0 al.one1 al.one2 al.one3 ae.one0 ae.one1 ae.one2 ae.one3 ar.one0 ar.one1 ar.one2 ar.one3 ah.one0 ah.one1 ah.one2 ah.one3 ad.one0 ad.one1 ad.one2 ad.one3 aw.one0 aw.one1 aw.one2 aw.one3 ap.one0 ap.one1 ap.one2 ap.one3 ay.one0 ay.one1 ay.one2 ay.one3 bd.one0 bd.one1 bd.one2 bd.one3 bf.one0 bf.one1 bf.one2 bf.one3 bg.one0 bg.one1 bg.one2 bg.one3 _ gX) (fun prs W'=>Gr w W'∧Kp w8 W'∧Lc W' b2 #[av,af,aB,ax,aW,aF,aH,aR,aQ,aK,aT,aI,aE,aV,aD,aC,ai,az,ak,au,aL,aX,aM,aU,aZ,aJ,aP,aO,aY,aS,aG,aN,aA,ab,aj,aq,a8,a3,a4,bc,a9,bb,a7,a5,a6,a2,a1,ba] 41∧Lc W' b3 #[.bool false,.slice none 0 0,.bool false,.slice none 0 0,.bool false,.slice none 0 0,.bool false,.slice none 0 0] 125∧∃ xs,Fills 9 [av,af,aB,ax,aW,aF,aH,aR,aQ,aK,aT,aI,aE,aV,aD,aC,ai,az,ak,au,aL,aX,aM,aU,aZ,aJ,aP,aO,aY,aS,aG,aN,aA,ab,aj,aq,a8,a3,a4,bc,a9,bb,a7,a5,a6,a2,a1,ba] prs xs∧Lc W' b5 xs.toArray 156) (fun _ _ _=>False) ((yj6 hB.size).and ((yf9 _ _).and ((zk7 _ _ _ _).and ((zk7 _ _ _ _).and (yy8 fun xs=>(ownFrom_pure _ _).and (zk7 _ _ _ _)))))) (fun _ _ _ _ _ h _ _=>h) ⟨hB,Kp.refl _,L2,L3,⟨_,⟨rfl,zP6 (by decide),fun _ h=>absurd h (by simp)⟩,L5⟩⟩ ?_ ?_ ?_ ?_ rfl (enters_of Tryz.func98 (by kernel_rfl) rfl)
 ·intro ll kk W K hK
  try simp only [p3,p4]
  refine wpIn_seq_k (fun K1 k1=>?_)
  refine rgI (zd8 ll) [0] ?_
  refine sv 4 (.int .i64 (kk.val:Int)) ?_
  try simp only [p3,p4]
  refine za0 ?_
  refine k1 _ _ ?_
  refine rgY [0,1] ?_
  refine zm8 (zd8 ll) 5 36 (.agg #[.bool false,.slice none 0 0,.bool false,.slice none 0 0]) (ent [av,af,aB,ax,aW,aF,aH,aR,aQ,aK,aT,aI,aE,aV,aD,aC,ai,az,ak,au,aL,aX,aM,aU,aZ,aJ,aP,aO,aY,aS,aG,aN,aA,ab,aj,aq,a8,a3,a4,bc,a9,bb,a7,a5,a6,a2,a1,ba] kk) ?_ (zz7 hmaone rfl kk)
  try simp only [p3,p4]
  refine zc7 ?_
  exact hK
 ·rintro ll bB prs kk W ⟨hB,hkW,L2,L3,xs,hF,L5⟩ hqB hLB
  try simp only [p3,p4]
  refine wpIn_block ?_
  refine wpIn_seq_k (fun K1 k1=>?_)
  refine rgI (zd8 ll) [0,1] ?_
  refine sv 13 (.int .i64 (kk.val:Int)) ?_
  try simp only [p3,p4]
  refine sv 14 (.bool (decide ((kk.val:Int)<9))) ?_
  try simp only [p3,p4]
  refine za0 ?_
  refine k1 _ _ ?_
  clear k1 K1
  refine wpIn_cond_split rfl (fun hb=>?_) (fun hb=>?_)
  ·have hlt:kk.val<9:=by have:=of_decide_eq_true hb;omega
   refine rgI (zd8 ll) [0,1,2,3] ?_
   refine sv 15 (.int .i64 (kk.val:Int)) ?_
   try simp only [p3,p4]
   refine sw 16 (.agg (ent [av,af,aB,ax,aW,aF,aH,aR,aQ,aK,aT,aI,aE,aV,aD,aC,ai,az,ak,au,aL,aX,aM,aU,aZ,aJ,aP,aO,aY,aS,aG,aN,aA,ab,aj,aq,a8,a3,a4,bc,a9,bb,a7,a5,a6,a2,a1,ba] kk).toArray) rfl (rl 36 0 (ent [av,af,aB,ax,aW,aF,aH,aR,aQ,aK,aT,aI,aE,aV,aD,aC,ai,az,ak,au,aL,aX,aM,aU,aZ,aJ,aP,aO,aY,aS,aG,aN,aA,ab,aj,aq,a8,a3,a4,bc,a9,bb,a7,a5,a6,a2,a1,ba] kk) hLB) ?_
   try simp only [p3,p4]
   refine sw 17 (.pointer (some ⟨b5,4*kk.val,none⟩)) rfl (yq3 156 _ _ b5 9 36 4 kk.val hlt) ?_
   try simp only [p3,p4]
   obtain ⟨ys,hys,iC⟩:=hF.step hmaone rfl hlt
   refine se ?_
   refine es 36 (4*kk.val) _ (ent [av,af,aB,ax,aW,aF,aH,aR,aQ,aK,aT,aI,aE,aV,aD,aC,ai,az,ak,au,aL,aX,aM,aU,aZ,aJ,aP,aO,aY,aS,aG,aN,aA,ab,aj,aq,a8,a3,a4,bc,a9,bb,a7,a5,a6,a2,a1,ba] kk) ys.toArray L5 hB q5 (zz7 hmaone rfl kk) ?_ (hoff:=by simp [hF.len,ent];omega) (hcs:=hys)
   intro w1 st kp N g
   refine za0 ?_
   have ho:=zJ3 st L5 (Nat.le_of_eq (by rw [st.size]))
   exact ⟨ho.from _,ho.walks,g,hkW.trans kp,st.lc L2 gx,st.lc L3 fX,ys,iC,N⟩
  ·have hlt:¬ kk.val<9:=by have:=of_decide_eq_false hb;omega
   refine wpIn_skip ?_
   exact ⟨(KeepsOthers.refl _).from _,KeepsWalks.refl _,hB,hkW,L2,L3,xs,hF.skip hlt,L5⟩
 ·rintro D9 w9 Q9 ⟨ii,gF,io,g7,xs,hF,gG⟩ L9
  have iP:=hF.done (by decide) rfl
  subst iP
  clear hF
  have dy:=L3.ne Q9
  replace Q9:=Nat.le_trans (Below.size hB) Q9
  replace hB:=ii
  replace L3:=g7
  replace L5:=gG
  change IsMk w9 D9 at L9
  change Lc w9 b5 #[av,af,aB,ax,aW,aF,aH,aR,aQ,aK,aT,aI,aE,aV,aD,aC,ai,az,ak,au,aL,aX,aM,aU,aZ,aJ,aP,aO,aY,aS,aG,aN,aA,ab,aj,aq] 156 at L5
  refine k6 _ _ ?_
  try clear k6 K6
  refine wp_seq_k (fun ir hw=>?_)
  refine rg [0,1,2] ?_
  refine se ?_
  refine ec 18 (zV0 (1) (by omega) (by omega) _) ?_
  rintro e11 j9 ⟨⟨dD,dC,dE,dF,rfl,du⟩,d8⟩
  refine ⟨_,rfl,?_⟩
  replace hB:=hB.trans d8
  simp only [p3,p4]
  refine se ?_
  refine ea 36 #[.bool false,.slice none 0 0,.bool false,.slice none 0 0] 6 hB fun hr jt ei aa hk q12 hB=>?_
  replace L3:=L3.gr d8
  have fb:=L3.ne hk
  replace L5:=L5.gr d8
  have eW:=L5.ne hk
  replace L9:=L9.gr d8
  have eB:=L9.ne hk
  simp only [p3,p4]
  refine se ?_
  refine es 36 0 (.agg #[dD,dC,dE,dF]) [dD,dC,dE,dF] #[dD,dC,dE,dF] aa hB q12 ⟨du.one0,du.one1,du.one2,du.one3,trivial⟩ fun im eG dH aa hB=>?_
  refine za0 ?_
  refine hw _ _ ?_
  try clear hw ir
  refine wp_seq_k (fun iz hv=>?_)
  have gN:=Below.size hB
  replace L3:=eG.lc (L3.gr ei) fb
  have fH:=L3.lt
  replace L5:=eG.lc (L5.gr ei) eW
  have e9:=L5.lt
  have d6:=aa.lt
  replace L9:=(L9.gr ei).st eG eB
  have fd:=L9.lt
  have cu:=Gr.drew im
  replace hB:=hB.trans cu
  replace L5:=L5.gr cu
  replace aa:=aa.gr cu
  refine zL6 (fun w'=>Lc w' b5 #[av,af,aB,ax,aW,aF,aH,aR,aQ,aK,aT,aI,aE,aV,aD,aC,ai,az,ak,au,aL,aX,aM,aU,aZ,aJ,aP,aO,aY,aS,aG,aN,aA,ab,aj,aq] 156∧Lc w' hr #[dD,dC,dE,dF] 36) [(true,0),(true,1),(true,2),(true,3),(true,4),(true,5),(true,6),(true,9),(true,10),(true,11),(true,12),(true,14),(true,15),(true,16),(true,17),(true,19),(true,20),(true,21),(true,22),(true,25),(true,26),(true,27),(true,28),(true,30),(true,31),(true,32),(true,34),(true,35),(true,36),(true,37),(true,40),(true,41),(true,42),(true,43),(true,45),(true,46),(true,47),(true,48),(true,51),(true,52),(true,53),(true,54),(true,56),(true,57),(true,58),(true,59),(true,61),(true,62),(true,63),(true,65),(true,66),(true,67),(true,68),(true,71),(true,72),(true,73),(true,74),(true,77),(true,78),(true,79),(true,80),(true,82),(true,83),(true,84),(true,85),(true,87),(true,88),(true,89),(true,90),(true,92),(true,93),(true,94),(true,96),(true,97),(true,98),(true,99),(false,7),(false,8),(false,13),(false,18),(false,23),(true,24),(false,29),(false,33),(false,38),(false,39),(false,44),(false,49),(true,50),(false,55),(false,60),(false,64),(false,69),(false,70),(false,75),(true,76),(false,81),(false,86),(false,91),(false,95),(false,100),(false,101),(true,102),(true,103)] [⟨104,7,158,#[.bool false,.slice none 0 0,.bool false,.slice none 0 0,.bool false,.slice none 0 0,.bool false,.slice none 0 0,.bool false,.slice none 0 0,.bool false,.slice none 0 0,.bool false,.slice none 0 0,.bool false,.slice none 0 0,.bool false,.slice none 0 0,.bool false,.slice none 0 0,.bool false,.slice none 0 0,.bool false,.slice none 0 0,.bool false,.slice none 0 0,.bool false,.slice none 0 0,.bool false,.slice none 0 0,.bool false,.slice none 0 0,.bool false,.slice none 0 0,.bool false,.slice none 0 0,.bool false,.slice none 0 0,.bool false,.slice none 0 0,.bool false,.slice none 0 0,.bool false,.slice none 0 0,.bool false,.slice none 0 0,.bool false,.slice none 0 0,.bool false,.slice none 0 0,.bool false,.slice none 0 0,.bool false,.slice none 0 0,.bool false,.slice none 0 0,.bool false,.slice none 0 0,.bool false,.slice none 0 0,.bool false,.slice none 0 0,.bool false,.slice none 0 0]⟩] [(false,105)] (by kernel_rfl) (by kernel_rfl) (by kernel_rfl) (by kernel_rfl) (by kernel_rfl) (by decide) (fun _ _ _ _ _ h=>h) (fun _ _ _ _ _ h=>h) (fun w' o h=>⟨Lc.gr h.1 (Gr.alloc w' o),Lc.gr h.2 (Gr.alloc w' o)⟩) ⟨L5,aa⟩ (by intro f hf;simp only [List.mem_cons,List.not_mem_nil,or_false] at hf;rcases hf with rfl<;>first | exact zN2 (z:=(.agg #[.bool false,.slice none 0 0,.bool false,.slice none 0 0,.bool false,.slice none 0 0,.bool false,.slice none 0 0,.bool false,.slice none 0 0,.bool false,.slice none 0 0,.bool false,.slice none 0 0,.bool false,.slice none 0 0,.bool false,.slice none 0 0,.bool false,.slice none 0 0,.bool false,.slice none 0 0,.bool false,.slice none 0 0,.bool false,.slice none 0 0,.bool false,.slice none 0 0,.bool false,.slice none 0 0,.bool false,.slice none 0 0,.bool false,.slice none 0 0,.bool false,.slice none 0 0,.bool false,.slice none 0 0,.bool false,.slice none 0 0,.bool false,.slice none 0 0,.bool false,.slice none 0 0,.bool false,.slice none 0 0,.bool false,.slice none 0 0,.bool false,.slice none 0 0,.bool false,.slice none 0 0,.bool false,.slice none 0 0,.bool false,.slice none 0 0,.bool false,.slice none 0 0,.bool false,.slice none 0 0,.bool false,.slice none 0 0,.bool false,.slice none 0 0])) (by kernel_rfl) rfl) ?_
  refine fw 19 (.agg #[dD,dC,dE,dF]) rfl (fun w' hS=>(rl 36 0 [dD,dC,dE,dF] hS.2)) ?_
  refine fv 20 (.pointer (some ⟨b5,0,none⟩)) ?_
  refine fw 21 (.agg #[av,af,aB,ax]) rfl (fun w' hS=>(rl 36 0 [av,af,aB,ax] hS.1)) ?_
  refine fv 22 (.pointer (some ⟨b5,16,none⟩)) ?_
  refine fw 23 (.agg #[ai,az,ak,au]) rfl (fun w' hS=>(rl 36 16 [ai,az,ak,au] hS.1)) ?_
  refine fv 24 (.pointer (some ⟨b5,32,none⟩)) ?_
  refine fw 25 (.agg #[aA,ab,aj,aq]) rfl (fun w' hS=>(rl 36 32 [aA,ab,aj,aq] hS.1)) ?_
  refine fv 28 (.pointer (some ⟨b5,28,none⟩)) ?_
  refine fw 29 (.agg #[aY,aS,aG,aN]) rfl (fun w' hS=>(rl 36 28 [aY,aS,aG,aN] hS.1)) ?_
  refine fv 30 (.pointer (some ⟨b5,20,none⟩)) ?_
  refine fw 31 (.agg #[aL,aX,aM,aU]) rfl (fun w' hS=>(rl 36 20 [aL,aX,aM,aU] hS.1)) ?_
  refine fv 33 (.pointer (some ⟨b5,8,none⟩)) ?_
  refine fw 34 (.agg #[aQ,aK,aT,aI]) rfl (fun w' hS=>(rl 36 8 [aQ,aK,aT,aI] hS.1)) ?_
  refine fv 35 (.pointer (some ⟨b5,24,none⟩)) ?_
  refine fw 36 (.agg #[aZ,aJ,aP,aO]) rfl (fun w' hS=>(rl 36 24 [aZ,aJ,aP,aO] hS.1)) ?_
  refine fv 38 (.pointer (some ⟨b5,12,none⟩)) ?_
  refine fw 39 (.agg #[aE,aV,aD,aC]) rfl (fun w' hS=>(rl 36 12 [aE,aV,aD,aC] hS.1)) ?_
  refine fv 40 (.pointer (some ⟨b5,4,none⟩)) ?_
  refine fw 41 (.agg #[aW,aF,aH,aR]) rfl (fun w' hS=>(rl 36 4 [aW,aF,aH,aR] hS.1)) ?_
  refine fv 44 (.pointer (some ⟨b5,28,none⟩)) ?_
  refine fw 45 (.agg #[aY,aS,aG,aN]) rfl (fun w' hS=>(rl 36 28 [aY,aS,aG,aN] hS.1)) ?_
  refine fv 46 (.pointer (some ⟨b5,20,none⟩)) ?_
  refine fw 47 (.agg #[aL,aX,aM,aU]) rfl (fun w' hS=>(rl 36 20 [aL,aX,aM,aU] hS.1)) ?_
  refine fw 49 (.agg #[dD,dC,dE,dF]) rfl (fun w' hS=>(rl 36 0 [dD,dC,dE,dF] hS.2)) ?_
  refine fv 50 (.pointer (some ⟨b5,0,none⟩)) ?_
  refine fw 51 (.agg #[av,af,aB,ax]) rfl (fun w' hS=>(rl 36 0 [av,af,aB,ax] hS.1)) ?_
  refine fv 53 (.pointer (some ⟨b5,16,none⟩)) ?_
  refine fw 54 (.agg #[ai,az,ak,au]) rfl (fun w' hS=>(rl 36 16 [ai,az,ak,au] hS.1)) ?_
  refine fv 55 (.pointer (some ⟨b5,32,none⟩)) ?_
  refine fw 56 (.agg #[aA,ab,aj,aq]) rfl (fun w' hS=>(rl 36 32 [aA,ab,aj,aq] hS.1)) ?_
  refine fv 59 (.pointer (some ⟨b5,4,none⟩)) ?_
  refine fw 60 (.agg #[aW,aF,aH,aR]) rfl (fun w' hS=>(rl 36 4 [aW,aF,aH,aR] hS.1)) ?_
  refine fv 61 (.pointer (some ⟨b5,12,none⟩)) ?_
  refine fw 62 (.agg #[aE,aV,aD,aC]) rfl (fun w' hS=>(rl 36 12 [aE,aV,aD,aC] hS.1)) ?_
  refine fv 64 (.pointer (some ⟨b5,8,none⟩)) ?_
  refine fw 65 (.agg #[aQ,aK,aT,aI]) rfl (fun w' hS=>(rl 36 8 [aQ,aK,aT,aI] hS.1)) ?_
  refine fv 66 (.pointer (some ⟨b5,24,none⟩)) ?_
  refine fw 67 (.agg #[aZ,aJ,aP,aO]) rfl (fun w' hS=>(rl 36 24 [aZ,aJ,aP,aO] hS.1)) ?_
  refine fv 70 (.pointer (some ⟨b5,8,none⟩)) ?_
  refine fw 71 (.agg #[aQ,aK,aT,aI]) rfl (fun w' hS=>(rl 36 8 [aQ,aK,aT,aI] hS.1)) ?_
  refine fv 72 (.pointer (some ⟨b5,24,none⟩)) ?_
  refine fw 73 (.agg #[aZ,aJ,aP,aO]) rfl (fun w' hS=>(rl 36 24 [aZ,aJ,aP,aO] hS.1)) ?_
  refine fv 75 (.pointer (some ⟨b5,4,none⟩)) ?_
  refine fw 76 (.agg #[aW,aF,aH,aR]) rfl (fun w' hS=>(rl 36 4 [aW,aF,aH,aR] hS.1)) ?_
  refine fv 77 (.pointer (some ⟨b5,12,none⟩)) ?_
  refine fw 78 (.agg #[aE,aV,aD,aC]) rfl (fun w' hS=>(rl 36 12 [aE,aV,aD,aC] hS.1)) ?_
  refine fw 80 (.agg #[dD,dC,dE,dF]) rfl (fun w' hS=>(rl 36 0 [dD,dC,dE,dF] hS.2)) ?_
  refine fv 81 (.pointer (some ⟨b5,16,none⟩)) ?_
  refine fw 82 (.agg #[ai,az,ak,au]) rfl (fun w' hS=>(rl 36 16 [ai,az,ak,au] hS.1)) ?_
  refine fv 84 (.pointer (some ⟨b5,0,none⟩)) ?_
  refine fw 85 (.agg #[av,af,aB,ax]) rfl (fun w' hS=>(rl 36 0 [av,af,aB,ax] hS.1)) ?_
  refine fv 86 (.pointer (some ⟨b5,32,none⟩)) ?_
  refine fw 87 (.agg #[aA,ab,aj,aq]) rfl (fun w' hS=>(rl 36 32 [aA,ab,aj,aq] hS.1)) ?_
  refine fv 90 (.pointer (some ⟨b5,20,none⟩)) ?_
  refine fw 91 (.agg #[aL,aX,aM,aU]) rfl (fun w' hS=>(rl 36 20 [aL,aX,aM,aU] hS.1)) ?_
  refine fv 92 (.pointer (some ⟨b5,28,none⟩)) ?_
  refine fw 93 (.agg #[aY,aS,aG,aN]) rfl (fun w' hS=>(rl 36 28 [aY,aS,aG,aN] hS.1)) ?_
  refine fv 96 (.pointer (some ⟨b5,12,none⟩)) ?_
  refine fw 97 (.agg #[aE,aV,aD,aC]) rfl (fun w' hS=>(rl 36 12 [aE,aV,aD,aC] hS.1)) ?_
  refine fv 98 (.pointer (some ⟨b5,4,none⟩)) ?_
  refine fw 99 (.agg #[aW,aF,aH,aR]) rfl (fun w' hS=>(rl 36 4 [aW,aF,aH,aR] hS.1)) ?_
  refine fv 101 (.pointer (some ⟨b5,8,none⟩)) ?_
  refine fw 102 (.agg #[aQ,aK,aT,aI]) rfl (fun w' hS=>(rl 36 8 [aQ,aK,aT,aI] hS.1)) ?_
  refine fv 103 (.pointer (some ⟨b5,24,none⟩)) ?_
  refine fw 104 (.agg #[aZ,aJ,aP,aO]) rfl (fun w' hS=>(rl 36 24 [aZ,aJ,aP,aO] hS.1)) ?_
  refine fv 106 (.pointer (some ⟨b5,20,none⟩)) ?_
  refine fw 107 (.agg #[aL,aX,aM,aU]) rfl (fun w' hS=>(rl 36 20 [aL,aX,aM,aU] hS.1)) ?_
  refine fv 108 (.pointer (some ⟨b5,28,none⟩)) ?_
  refine fw 109 (.agg #[aY,aS,aG,aN]) rfl (fun w' hS=>(rl 36 28 [aY,aS,aG,aN] hS.1)) ?_
  refine fw 111 (.agg #[dD,dC,dE,dF]) rfl (fun w' hS=>(rl 36 0 [dD,dC,dE,dF] hS.2)) ?_
  refine fv 112 (.pointer (some ⟨b5,32,none⟩)) ?_
  refine fw 113 (.agg #[aA,ab,aj,aq]) rfl (fun w' hS=>(rl 36 32 [aA,ab,aj,aq] hS.1)) ?_
  refine fv 115 (.pointer (some ⟨b5,0,none⟩)) ?_
  refine fw 116 (.agg #[av,af,aB,ax]) rfl (fun w' hS=>(rl 36 0 [av,af,aB,ax] hS.1)) ?_
  refine fv 117 (.pointer (some ⟨b5,16,none⟩)) ?_
  refine fw 118 (.agg #[ai,az,ak,au]) rfl (fun w' hS=>(rl 36 16 [ai,az,ak,au] hS.1)) ?_
  refine zc8 rfl rfl (fun kd dP _ iS hN=>?_)
  replace hB:=hB.trans dP
  refine yh8 36 4 #[dD,dC,dE,dF,av,af,aB,ax,ai,az,ak,au,aA,ab,aj,aq] (some 26) rfl (fun _=>by kernel_rfl) (fun ji i5 dn g1 jS=>?_)
  replace L3:=L3.gr (cu.trans dP)
  replace L5:=L5.gr dP
  replace aa:=aa.gr dP
  replace L9:=(L9.gr cu).gr dP
  replace hB:=hB.trans dn
  replace L5:=L5.gr dn
  replace aa:=aa.gr dn
  refine hN _ _ dn ⟨L5,aa⟩ ?_
  try clear hN iS
  simp only [zL2,p3,p4]
  refine zc8 rfl rfl (fun jA dm _ iW hI=>?_)
  replace hB:=hB.trans dm
  replace g1:=g1.gr dm
  have ha:=ei.kp.trans (dH.trans (cu.kp.trans (dP.kp.trans (dn.kp.trans dm.kp))))
  replace du:=du.kp ha
  have fc:=g2.kp.trans (g3.kp.trans (g5.kp.trans (g8.kp.trans (gF.trans (d8.kp.trans (ei.kp.trans (dH.trans (cu.kp.trans (dP.kp.trans (dn.kp.trans dm.kp))))))))))
  replace ac:=ac.kp fc
  replace ah:=ah.kp fc
  replace ay:=ay.kp fc
  refine ec 27 (sum_4 (k:=k+64) (du.mono (by omega)) (ac.mono (by omega)) (ah.mono (by omega)) (ay.mono (by omega)) g1 (by omega)) ?_
  rintro jU j4 ⟨⟨d5,dU,dT,dZ,rfl,dQ⟩,dp⟩
  refine ⟨_,rfl,?_⟩
  replace hB:=hB.trans dp
  replace L5:=L5.gr (dm.trans dp)
  replace aa:=aa.gr (dm.trans dp)
  refine hI _ _ dp ⟨L5,aa⟩ ?_
  try clear hI iW
  simp only [p3,p4]
  refine zc8 rfl rfl (fun jV dq _ iB hA=>?_)
  replace hB:=hB.trans dq
  have gz:=g2.kp.trans (g3.kp.trans (g5.kp.trans (g8.kp.trans (gF.trans (d8.kp.trans (ei.kp.trans (dH.trans (cu.kp.trans (dP.kp.trans (dn.kp.trans (dm.kp.trans (dp.kp.trans dq.kp))))))))))))
  replace ap:=ap.kp gz
  replace ad:=ad.kp gz
  refine ec 32 (zt6 ap ad (by omega)) ?_
  rintro e23 jp ⟨⟨eI,eC,fJ,fi,rfl,ej⟩,dk⟩
  refine ⟨_,rfl,?_⟩
  replace hB:=hB.trans dk
  replace L5:=L5.gr (dq.trans dk)
  replace aa:=aa.gr (dq.trans dk)
  refine hA _ _ dk ⟨L5,aa⟩ ?_
  try clear hA iB
  simp only [p3,p4]
  refine zc8 rfl rfl (fun kq dl _ ib hy=>?_)
  replace hB:=hB.trans dl
  have fP:=g2.kp.trans (g3.kp.trans (g5.kp.trans (g8.kp.trans (gF.trans (d8.kp.trans (ei.kp.trans (dH.trans (cu.kp.trans (dP.kp.trans (dn.kp.trans (dm.kp.trans (dp.kp.trans (dq.kp.trans (dk.kp.trans dl.kp))))))))))))))
  replace ae:=ae.kp fP
  replace aw:=aw.kp fP
  refine ec 37 (zt6 ae aw (by omega)) ?_
  rintro kg jl ⟨⟨eN,ez,fj,eL,rfl,e3⟩,di⟩
  refine ⟨_,rfl,?_⟩
  replace hB:=hB.trans di
  replace L5:=L5.gr (dl.trans di)
  replace aa:=aa.gr (dl.trans di)
  refine hy _ _ di ⟨L5,aa⟩ ?_
  try clear hy ib
  simp only [p3,p4]
  refine zc8 rfl rfl (fun jm c4 _ iy ht=>?_)
  replace hB:=hB.trans c4
  have gd:=g2.kp.trans (g3.kp.trans (g5.kp.trans (g8.kp.trans (gF.trans (d8.kp.trans (ei.kp.trans (dH.trans (cu.kp.trans (dP.kp.trans (dn.kp.trans (dm.kp.trans (dp.kp.trans (dq.kp.trans (dk.kp.trans (dl.kp.trans (di.kp.trans c4.kp))))))))))))))))
  replace ar:=ar.kp gd
  replace al:=al.kp gd
  refine ec 42 (zt6 ar al (by omega)) ?_
  rintro i8 ja ⟨⟨eU,fM,eT,fm,rfl,eR⟩,cC⟩
  refine ⟨_,rfl,?_⟩
  replace hB:=hB.trans cC
  replace L5:=L5.gr (c4.trans cC)
  replace aa:=aa.gr (c4.trans cC)
  refine ht _ _ cC ⟨L5,aa⟩ ?_
  try clear ht iy
  simp only [p3,p4]
  refine fv 43 (.agg #[d5,dU,dT,dZ,eI,eC,fJ,fi,eN,ez,fj,eL,eU,fM,eT,fm]) ?_
  refine zc8 rfl rfl (fun js cB _ iw hD=>?_)
  replace hB:=hB.trans cB
  have gf:=dk.kp.trans (dl.kp.trans (di.kp.trans (c4.kp.trans (cC.kp.trans cB.kp))))
  replace ap:=ap.kp gf
  replace ad:=ad.kp gf
  refine ec 48 (zt6 ap ad (by omega)) ?_
  rintro e32 jr ⟨⟨eJ,fC,eP,e4,rfl,fx⟩,cA⟩
  refine ⟨_,rfl,?_⟩
  replace hB:=hB.trans cA
  replace L5:=L5.gr (cB.trans cA)
  replace aa:=aa.gr (cB.trans cA)
  refine hD _ _ cA ⟨L5,aa⟩ ?_
  try clear hD iw
  simp only [p3,p4]
  refine zc8 rfl rfl (fun ki cy _ h5 hQ=>?_)
  replace hB:=hB.trans cy
  have gm:=dp.kp.trans (dq.kp.trans (dk.kp.trans (dl.kp.trans (di.kp.trans (c4.kp.trans (cC.kp.trans (cB.kp.trans (cA.kp.trans cy.kp))))))))
  replace du:=du.kp gm
  replace ac:=ac.kp gm
  refine ec 52 (zi7 du ac (by omega)) ?_
  rintro kj j7 ⟨⟨kl,jO,j6,jd,rfl,gT⟩,cq⟩
  refine ⟨_,rfl,?_⟩
  replace hB:=hB.trans cq
  replace L5:=L5.gr (cy.trans cq)
  replace aa:=aa.gr (cy.trans cq)
  refine hQ _ _ cq ⟨L5,aa⟩ ?_
  try clear hQ h5
  simp only [p3,p4]
  refine zc8 rfl rfl (fun jX ct _ iU hu=>?_)
  replace hB:=hB.trans ct
  have gb:=dp.kp.trans (dq.kp.trans (dk.kp.trans (dl.kp.trans (di.kp.trans (c4.kp.trans (cC.kp.trans (cB.kp.trans (cA.kp.trans (cy.kp.trans (cq.kp.trans ct.kp))))))))))
  replace ah:=ah.kp gb
  replace ay:=ay.kp gb
  refine ec 57 (zi7 ah ay (by omega)) ?_
  rintro kC kv ⟨⟨jg,j1,jc,jP,rfl,gV⟩,ch⟩
  refine ⟨_,rfl,?_⟩
  replace hB:=hB.trans ch
  replace L5:=L5.gr (ct.trans ch)
  replace aa:=aa.gr (ct.trans ch)
  refine hu _ _ ch ⟨L5,aa⟩ ?_
  try clear hu iU
  simp only [p3,p4]
  refine zc8 rfl rfl (fun jI cj _ h1 hX=>?_)
  replace hB:=hB.trans cj
  have hg:=ct.kp.trans (ch.kp.trans cj.kp)
  replace gT:=gT.kp hg
  replace gV:=gV.kp cj.kp
  refine ec 58 (zt6 gT gV (by omega)) ?_
  rintro jE j8 ⟨⟨dS,dV,dR,d0,rfl,dO⟩,cm⟩
  refine ⟨_,rfl,?_⟩
  replace hB:=hB.trans cm
  replace L5:=L5.gr (cj.trans cm)
  replace aa:=aa.gr (cj.trans cm)
  refine hX _ _ cm ⟨L5,aa⟩ ?_
  try clear hX h1
  simp only [p3,p4]
  refine zc8 rfl rfl (fun jN cl _ iL hU=>?_)
  replace hB:=hB.trans cl
  have fY:=cC.kp.trans (cB.kp.trans (cA.kp.trans (cy.kp.trans (cq.kp.trans (ct.kp.trans (ch.kp.trans (cj.kp.trans (cm.kp.trans cl.kp))))))))
  replace al:=al.kp fY
  replace ar:=ar.kp fY
  refine ec 63 (zi7 al ar (by omega)) ?_
  rintro ko kr ⟨⟨fI,eZ,en,e1,rfl,fK⟩,cg⟩
  refine ⟨_,rfl,?_⟩
  replace hB:=hB.trans cg
  replace L5:=L5.gr (cl.trans cg)
  replace aa:=aa.gr (cl.trans cg)
  refine hU _ _ cg ⟨L5,aa⟩ ?_
  try clear hU iL
  simp only [p3,p4]
  refine zc8 rfl rfl (fun kA ck _ iE hO=>?_)
  replace hB:=hB.trans ck
  have gk:=di.kp.trans (c4.kp.trans (cC.kp.trans (cB.kp.trans (cA.kp.trans (cy.kp.trans (cq.kp.trans (ct.kp.trans (ch.kp.trans (cj.kp.trans (cm.kp.trans (cl.kp.trans (cg.kp.trans ck.kp))))))))))))
  replace ae:=ae.kp gk
  replace aw:=aw.kp gk
  refine ec 68 (zi7 ae aw (by omega)) ?_
  rintro ju jZ ⟨⟨fL,eK,fA,fk,rfl,eD⟩,ce⟩
  refine ⟨_,rfl,?_⟩
  replace hB:=hB.trans ce
  replace L5:=L5.gr (ck.trans ce)
  replace aa:=aa.gr (ck.trans ce)
  refine hO _ _ ce ⟨L5,aa⟩ ?_
  try clear hO iE
  simp only [p3,p4]
  refine fv 69 (.agg #[eJ,fC,eP,e4,dS,dV,dR,d0,fI,eZ,en,e1,fL,eK,fA,fk]) ?_
  refine zc8 rfl rfl (fun jD cd _ iF hM=>?_)
  replace hB:=hB.trans cd
  have f4:=ce.kp.trans cd.kp
  replace ae:=ae.kp f4
  replace aw:=aw.kp f4
  refine ec 74 (zt6 ae aw (by omega)) ?_
  rintro jf jW ⟨⟨ff,et,eM,eX,rfl,fG⟩,b7⟩
  refine ⟨_,rfl,?_⟩
  replace hB:=hB.trans b7
  replace L5:=L5.gr (cd.trans b7)
  replace aa:=aa.gr (cd.trans b7)
  refine hM _ _ b7 ⟨L5,aa⟩ ?_
  try clear hM iF
  simp only [p3,p4]
  refine zc8 rfl rfl (fun ke b9 _ ie hC=>?_)
  replace hB:=hB.trans b9
  have f7:=cg.kp.trans (ck.kp.trans (ce.kp.trans (cd.kp.trans (b7.kp.trans b9.kp))))
  replace al:=al.kp f7
  replace ar:=ar.kp f7
  refine ec 79 (zi7 al ar (by omega)) ?_
  rintro kw jx ⟨⟨eH,fp,eF,eS,rfl,fD⟩,b6⟩
  refine ⟨_,rfl,?_⟩
  replace hB:=hB.trans b6
  replace L5:=L5.gr (b9.trans b6)
  replace aa:=aa.gr (b9.trans b6)
  refine hC _ _ b6 ⟨L5,aa⟩ ?_
  try clear hC ie
  simp only [p3,p4]
  refine zc8 rfl rfl (fun jR bY _ iX hJ=>?_)
  replace hB:=hB.trans bY
  have hp:=cq.kp.trans (ct.kp.trans (ch.kp.trans (cj.kp.trans (cm.kp.trans (cl.kp.trans (cg.kp.trans (ck.kp.trans (ce.kp.trans (cd.kp.trans (b7.kp.trans (b9.kp.trans (b6.kp.trans bY.kp))))))))))))
  replace du:=du.kp hp
  have hc:=ch.kp.trans (cj.kp.trans (cm.kp.trans (cl.kp.trans (cg.kp.trans (ck.kp.trans (ce.kp.trans (cd.kp.trans (b7.kp.trans (b9.kp.trans (b6.kp.trans bY.kp))))))))))
  replace ah:=ah.kp hc
  refine ec 83 (zi7 du ah (by omega)) ?_
  rintro i7 jB ⟨⟨jq,kh,ky,jy,rfl,hd⟩,bS⟩
  refine ⟨_,rfl,?_⟩
  replace hB:=hB.trans bS
  replace L5:=L5.gr (bY.trans bS)
  replace aa:=aa.gr (bY.trans bS)
  refine hJ _ _ bS ⟨L5,aa⟩ ?_
  try clear hJ iX
  simp only [p3,p4]
  refine zc8 rfl rfl (fun jQ bw _ iH hV=>?_)
  replace hB:=hB.trans bw
  have g9:=cq.kp.trans (ct.kp.trans (ch.kp.trans (cj.kp.trans (cm.kp.trans (cl.kp.trans (cg.kp.trans (ck.kp.trans (ce.kp.trans (cd.kp.trans (b7.kp.trans (b9.kp.trans (b6.kp.trans (bY.kp.trans (bS.kp.trans bw.kp))))))))))))))
  replace ac:=ac.kp g9
  have g4:=ch.kp.trans (cj.kp.trans (cm.kp.trans (cl.kp.trans (cg.kp.trans (ck.kp.trans (ce.kp.trans (cd.kp.trans (b7.kp.trans (b9.kp.trans (b6.kp.trans (bY.kp.trans (bS.kp.trans bw.kp))))))))))))
  replace ay:=ay.kp g4
  refine ec 88 (zi7 ac ay (by omega)) ?_
  rintro ka jH ⟨⟨jj,km,jG,kz,rfl,hn⟩,bn⟩
  refine ⟨_,rfl,?_⟩
  replace hB:=hB.trans bn
  replace L5:=L5.gr (bw.trans bn)
  replace aa:=aa.gr (bw.trans bn)
  refine hV _ _ bn ⟨L5,aa⟩ ?_
  try clear hV iH
  simp only [p3,p4]
  refine zc8 rfl rfl (fun i4 bq _ h2 hz=>?_)
  replace hB:=hB.trans bq
  have hl:=bw.kp.trans (bn.kp.trans bq.kp)
  replace hd:=hd.kp hl
  replace hn:=hn.kp bq.kp
  refine ec 89 (zt6 hd hn (by omega)) ?_
  rintro i6 jz ⟨⟨dX,dY,dW,d7,rfl,dG⟩,bC⟩
  refine ⟨_,rfl,?_⟩
  replace hB:=hB.trans bC
  replace L5:=L5.gr (bq.trans bC)
  replace aa:=aa.gr (bq.trans bC)
  refine hz _ _ bC ⟨L5,aa⟩ ?_
  try clear hz h2
  simp only [p3,p4]
  refine zc8 rfl rfl (fun jF bJ _ ih hE=>?_)
  replace hB:=hB.trans bJ
  have fZ:=cA.kp.trans (cy.kp.trans (cq.kp.trans (ct.kp.trans (ch.kp.trans (cj.kp.trans (cm.kp.trans (cl.kp.trans (cg.kp.trans (ck.kp.trans (ce.kp.trans (cd.kp.trans (b7.kp.trans (b9.kp.trans (b6.kp.trans (bY.kp.trans (bS.kp.trans (bw.kp.trans (bn.kp.trans (bq.kp.trans (bC.kp.trans bJ.kp))))))))))))))))))))
  replace ad:=ad.kp fZ
  replace ap:=ap.kp fZ
  refine ec 94 (zi7 ad ap (by omega)) ?_
  rintro kG jY ⟨⟨em,eu,fh,fz,rfl,ep⟩,bp⟩
  refine ⟨_,rfl,?_⟩
  replace hB:=hB.trans bp
  replace L5:=L5.gr (bJ.trans bp)
  replace aa:=aa.gr (bJ.trans bp)
  refine hE _ _ bp ⟨L5,aa⟩ ?_
  try clear hE ih
  simp only [p3,p4]
  refine fv 95 (.agg #[ff,et,eM,eX,eH,fp,eF,eS,dX,dY,dW,d7,em,eu,fh,fz]) ?_
  refine zc8 rfl rfl (fun jv bv _ iT hH=>?_)
  replace hB:=hB.trans bv
  have fU:=b6.kp.trans (bY.kp.trans (bS.kp.trans (bw.kp.trans (bn.kp.trans (bq.kp.trans (bC.kp.trans (bJ.kp.trans (bp.kp.trans bv.kp))))))))
  replace ar:=ar.kp fU
  replace al:=al.kp fU
  refine ec 100 (zt6 ar al (by omega)) ?_
  rintro kf j0 ⟨⟨fB,eO,eQ,e6,rfl,e5⟩,bo⟩
  refine ⟨_,rfl,?_⟩
  replace hB:=hB.trans bo
  replace L5:=L5.gr (bv.trans bo)
  replace aa:=aa.gr (bv.trans bo)
  refine hH _ _ bo ⟨L5,aa⟩ ?_
  try clear hH iT
  simp only [p3,p4]
  refine zc8 rfl rfl (fun kE bj _ h6 hL=>?_)
  replace hB:=hB.trans bj
  have gD:=b7.kp.trans (b9.kp.trans (b6.kp.trans (bY.kp.trans (bS.kp.trans (bw.kp.trans (bn.kp.trans (bq.kp.trans (bC.kp.trans (bJ.kp.trans (bp.kp.trans (bv.kp.trans (bo.kp.trans bj.kp))))))))))))
  replace ae:=ae.kp gD
  replace aw:=aw.kp gD
  refine ec 105 (zi7 ae aw (by omega)) ?_
  rintro kH i9 ⟨⟨eA,fg,fo,eV,rfl,ey⟩,bt⟩
  refine ⟨_,rfl,?_⟩
  replace hB:=hB.trans bt
  replace L5:=L5.gr (bj.trans bt)
  replace aa:=aa.gr (bj.trans bt)
  refine hL _ _ bt ⟨L5,aa⟩ ?_
  try clear hL h6
  simp only [p3,p4]
  refine zc8 rfl rfl (fun iZ bm _ iJ hT=>?_)
  replace hB:=hB.trans bm
  have gC:=bp.kp.trans (bv.kp.trans (bo.kp.trans (bj.kp.trans (bt.kp.trans bm.kp))))
  replace ad:=ad.kp gC
  replace ap:=ap.kp gC
  refine ec 110 (zi7 ad ap (by omega)) ?_
  rintro ku kF ⟨⟨eE,fy,ft,fO,rfl,e2⟩,bu⟩
  refine ⟨_,rfl,?_⟩
  replace hB:=hB.trans bu
  replace L5:=L5.gr (bm.trans bu)
  replace aa:=aa.gr (bm.trans bu)
  refine hT _ _ bu ⟨L5,aa⟩ ?_
  try clear hT iJ
  simp only [p3,p4]
  refine zc8 rfl rfl (fun jJ bk _ ik hR=>?_)
  replace hB:=hB.trans bk
  have gR:=bS.kp.trans (bw.kp.trans (bn.kp.trans (bq.kp.trans (bC.kp.trans (bJ.kp.trans (bp.kp.trans (bv.kp.trans (bo.kp.trans (bj.kp.trans (bt.kp.trans (bm.kp.trans (bu.kp.trans bk.kp))))))))))))
  replace du:=du.kp gR
  have gL:=bn.kp.trans (bq.kp.trans (bC.kp.trans (bJ.kp.trans (bp.kp.trans (bv.kp.trans (bo.kp.trans (bj.kp.trans (bt.kp.trans (bm.kp.trans (bu.kp.trans bk.kp))))))))))
  replace ay:=ay.kp gL
  refine ec 114 (zi7 du ay (by omega)) ?_
  rintro jb kD ⟨⟨jh,jk,j2,kB,rfl,g0⟩,bM⟩
  refine ⟨_,rfl,?_⟩
  replace hB:=hB.trans bM
  replace L5:=L5.gr (bk.trans bM)
  replace aa:=aa.gr (bk.trans bM)
  refine hR _ _ bM ⟨L5,aa⟩ ?_
  try clear hR ik
  simp only [p3,p4]
  refine zc8 rfl rfl (fun j3 bH _ ia hx=>?_)
  replace hB:=hB.trans bH
  have gY:=bn.kp.trans (bq.kp.trans (bC.kp.trans (bJ.kp.trans (bp.kp.trans (bv.kp.trans (bo.kp.trans (bj.kp.trans (bt.kp.trans (bm.kp.trans (bu.kp.trans (bk.kp.trans (bM.kp.trans bH.kp))))))))))))
  replace ac:=ac.kp gY
  have gJ:=bS.kp.trans (bw.kp.trans (bn.kp.trans (bq.kp.trans (bC.kp.trans (bJ.kp.trans (bp.kp.trans (bv.kp.trans (bo.kp.trans (bj.kp.trans (bt.kp.trans (bm.kp.trans (bu.kp.trans (bk.kp.trans (bM.kp.trans bH.kp))))))))))))))
  replace ah:=ah.kp gJ
  refine ec 119 (zi7 ac ah (by omega)) ?_
  rintro kc jM ⟨⟨kI,jn,jK,jo,rfl,hj⟩,b4⟩
  refine ⟨_,rfl,?_⟩
  replace hB:=hB.trans b4
  replace L5:=L5.gr (bH.trans b4)
  replace aa:=aa.gr (bH.trans b4)
  refine hx _ _ b4 ⟨L5,aa⟩ ?_
  try clear hx ia
  simp only [p3,p4]
  refine zc8 rfl rfl (fun jC bZ _ iD hW=>?_)
  replace hB:=hB.trans bZ
  have gM:=bH.kp.trans (b4.kp.trans bZ.kp)
  replace g0:=g0.kp gM
  replace hj:=hj.kp bZ.kp
  refine ec 120 (zt6 g0 hj (by omega)) ?_
  rintro jL j5 ⟨⟨fq,e7,el,fu,rfl,fE⟩,cc⟩
  refine ⟨_,rfl,?_⟩
  replace hB:=hB.trans cc
  replace L5:=L5.gr (bZ.trans cc)
  replace aa:=aa.gr (bZ.trans cc)
  refine hW _ _ cc ⟨L5,aa⟩ ?_
  try clear hW iD
  simp only [p3,p4]
  refine fv 121 (.agg #[fB,eO,eQ,e6,eA,fg,fo,eV,eE,fy,ft,fO,fq,e7,el,fu]) ?_
  refine fv 122 (.agg #[d5,dU,dT,dZ,eI,eC,fJ,fi,eN,ez,fj,eL,eU,fM,eT,fm,eJ,fC,eP,e4,dS,dV,dR,d0,fI,eZ,en,e1,fL,eK,fA,fk,ff,et,eM,eX,eH,fp,eF,eS,dX,dY,dW,d7,em,eu,fh,fz,fB,eO,eQ,e6,eA,fg,fo,eV,eE,fy,ft,fO,fq,e7,el,fu]) ?_
  refine flo_nil (fun kn ca _=>?_)
  replace hB:=hB.trans ca
  refine floFin1 (fun dx cn e0=>?_)
  replace cn:Lc _ _ _ _:=cn
  have cS:b3≠dx:=Nat.ne_of_lt (Nat.lt_of_lt_of_le fH e0)
  have eY:b5≠dx:=Nat.ne_of_lt (Nat.lt_of_lt_of_le e9 e0)
  have d4:hr≠dx:=Nat.ne_of_lt (Nat.lt_of_lt_of_le d6 e0)
  have dd:D9≠dx:=Nat.ne_of_lt (Nat.lt_of_lt_of_le fd e0)
  replace e0:=Nat.le_trans gN e0
  simp only [zL2,p3,p4]
  refine oe ?_
  refine es 158 0 (.agg #[d5,dU,dT,dZ,eI,eC,fJ,fi,eN,ez,fj,eL,eU,fM,eT,fm,eJ,fC,eP,e4,dS,dV,dR,d0,fI,eZ,en,e1,fL,eK,fA,fk,ff,et,eM,eX,eH,fp,eF,eS,dX,dY,dW,d7,em,eu,fh,fz,fB,eO,eQ,e6,eA,fg,fo,eV,eE,fy,ft,fO,fq,e7,el,fu]) [d5,dU,dT,dZ,eI,eC,fJ,fi,eN,ez,fj,eL,eU,fM,eT,fm,eJ,fC,eP,e4,dS,dV,dR,d0,fI,eZ,en,e1,fL,eK,fA,fk,ff,et,eM,eX,eH,fp,eF,eS,dX,dY,dW,d7,em,eu,fh,fz,fB,eO,eQ,e6,eA,fg,fo,eV,eE,fy,ft,fO,fq,e7,el,fu] #[d5,dU,dT,dZ,eI,eC,fJ,fi,eN,ez,fj,eL,eU,fM,eT,fm,eJ,fC,eP,e4,dS,dV,dR,d0,fI,eZ,en,e1,fL,eK,fA,fk,ff,et,eM,eX,eH,fp,eF,eS,dX,dY,dW,d7,em,eu,fh,fz,fB,eO,eQ,e6,eA,fg,fo,eV,eE,fy,ft,fO,fq,e7,el,fu] cn hB e0 ⟨dQ.one0,dQ.one1,dQ.one2,dQ.one3,ej.one0,ej.one1,ej.one2,ej.one3,e3.one0,e3.one1,e3.one2,e3.one3,eR.one0,eR.one1,eR.one2,eR.one3,fx.one0,fx.one1,fx.one2,fx.one3,dO.one0,dO.one1,dO.one2,dO.one3,fK.one0,fK.one1,fK.one2,fK.one3,eD.one0,eD.one1,eD.one2,eD.one3,fG.one0,fG.one1,fG.one2,fG.one3,fD.one0,fD.one1,fD.one2,fD.one3,dG.one0,dG.one1,dG.one2,dG.one3,ep.one0,ep.one1,ep.one2,ep.one3,e5.one0,e5.one1,e5.one2,e5.one3,ey.one0,ey.one1,ey.one2,ey.one3,e2.one0,e2.one1,e2.one2,e2.one3,fE.one0,fE.one1,fE.one2,fE.one3,trivial⟩ fun jT cx bh cn hB=>?_
  replace L5:=cx.lc (L5.gr ca) eY
  replace aa:=cx.lc (aa.gr ca) d4
  refine ⟨⟨L5,aa⟩,?_⟩
  refine zb8 ?_
  refine hv _ _ ?_
  try clear hv iz
  refine wp_seq_k (fun ix hY=>?_)
  refine rg [0] ?_
  refine sv 8 (.int .i64 0) ?_
  refine za0 ?_
  refine hY _ _ ?_
  try clear hY ix
  refine wp_seq_k (fun gE ee=>?_)
  refine wp_block ?_
  refine wp_loop_rounds 4 ?_
  show Code.wp _ _ _ _ _
  refine wp_seq_k (fun iN hP=>?_)
  refine wp_seq_k (fun ip hG=>?_)
  refine rg [0,1,2,3,4,5,6,7,8,9,10] ?_
  refine sv 123 (.int .i64 0) ?_
  refine sv 124 (.bool true) ?_
  refine sv 125 (.bool true) ?_
  refine sv 126 (.int .i64 0) ?_
  refine sv 127 (.int .i64 0) ?_
  refine sv 128 (.pointer (some ⟨dx,0,none⟩)) ?_
  refine sv 129 (.pointer (some ⟨dx,0,none⟩)) ?_
  refine sw 130 (.agg #[d5,dU,dT,dZ]) rfl (rl 36 0 [d5,dU,dT,dZ] cn) ?_
  refine se ?_
  have hq:=dq.kp.trans (dk.kp.trans (dl.kp.trans (di.kp.trans (c4.kp.trans (cC.kp.trans (cB.kp.trans (cA.kp.trans (cy.kp.trans (cq.kp.trans (ct.kp.trans (ch.kp.trans (cj.kp.trans (cm.kp.trans (cl.kp.trans (cg.kp.trans (ck.kp.trans (ce.kp.trans (cd.kp.trans (b7.kp.trans (b9.kp.trans (b6.kp.trans (bY.kp.trans (bS.kp.trans (bw.kp.trans (bn.kp.trans (bq.kp.trans (bC.kp.trans (bJ.kp.trans (bp.kp.trans (bv.kp.trans (bo.kp.trans (bj.kp.trans (bt.kp.trans (bm.kp.trans (bu.kp.trans (bk.kp.trans (bM.kp.trans (bH.kp.trans (b4.kp.trans (bZ.kp.trans (cc.kp.trans (ca.kp.trans bh))))))))))))))))))))))))))))))))))))))))))
  replace dQ:=dQ.kp hq
  refine ec 131 (zM8 dQ) ?_
  rintro jw je ⟨rfl,b8⟩
  refine ⟨_,rfl,?_⟩
  replace hB:=hB.trans b8
  simp only [p3,p4]
  refine sv 132 (.bool ((sgn (((((0+1)+bL)+bT)+bD)).num==(0:Int)))) ?_
  refine sv 133 (.bool ((sgn (((((0+1)+bL)+bT)+bD)).num==(0:Int)))) ?_
  refine za0 ?_
  refine hG _ _ ?_
  try clear hG ip
  refine wp_cond_split (t:=(sgn (((((0+1)+bL)+bT)+bD)).num==(0:Int))) rfl (fun cL=>?_) (fun cL=>?_)
  ·refine wp_skip ?_
   refine hP _ _ ?_
   try clear hP iN
   refine wp_block ?_
   refine rg [0,1,2] ?_
   refine sv 134 (.int .i64 0) ?_
   refine sv 135 (.int .i64 1) ?_
   refine sv 8 (.int .i64 1) ?_
   refine za0 ?_
   show Code.rounds _ _ _ _ _ _
   show Code.wp _ _ _ _ _
   refine wp_seq_k (fun g6 gl=>?_)
   refine wp_seq_k (fun gU f5=>?_)
   refine rg [0,1,2,3,4,5,6,7,8,9,10] ?_
   refine sv 123 (.int .i64 1) ?_
   refine sv 124 (.bool true) ?_
   refine sv 125 (.bool true) ?_
   refine sv 126 (.int .i64 1) ?_
   refine sv 127 (.int .i64 1) ?_
   refine sv 128 (.pointer (some ⟨dx,16,none⟩)) ?_
   refine sv 129 (.pointer (some ⟨dx,20,none⟩)) ?_
   replace cn:=cn.gr b8
   refine sw 130 (.agg #[dS,dV,dR,d0]) rfl (rl 36 20 [dS,dV,dR,d0] cn) ?_
   refine se ?_
   have gh:=cl.kp.trans (cg.kp.trans (ck.kp.trans (ce.kp.trans (cd.kp.trans (b7.kp.trans (b9.kp.trans (b6.kp.trans (bY.kp.trans (bS.kp.trans (bw.kp.trans (bn.kp.trans (bq.kp.trans (bC.kp.trans (bJ.kp.trans (bp.kp.trans (bv.kp.trans (bo.kp.trans (bj.kp.trans (bt.kp.trans (bm.kp.trans (bu.kp.trans (bk.kp.trans (bM.kp.trans (bH.kp.trans (b4.kp.trans (bZ.kp.trans (cc.kp.trans (ca.kp.trans (bh.trans b8.kp)))))))))))))))))))))))))))))
   replace dO:=dO.kp gh
   refine ec 131 (zM8 dO) ?_
   rintro iQ iK ⟨rfl,a0⟩
   refine ⟨_,rfl,?_⟩
   replace hB:=hB.trans a0
   simp only [p3,p4]
   refine sv 132 (.bool ((sgn (((1+bL) - (bT+bD))).num==(0:Int)))) ?_
   refine sv 133 (.bool ((sgn (((1+bL) - (bT+bD))).num==(0:Int)))) ?_
   refine za0 ?_
   refine f5 _ _ ?_
   try clear f5 gU
   refine wp_cond_split (t:=(sgn (((1+bL) - (bT+bD))).num==(0:Int))) rfl (fun co=>?_) (fun co=>?_)
   ·refine wp_skip ?_
    refine gl _ _ ?_
    try clear gl g6
    refine wp_block ?_
    refine rg [0,1,2] ?_
    refine sv 134 (.int .i64 1) ?_
    refine sv 135 (.int .i64 2) ?_
    refine sv 8 (.int .i64 2) ?_
    refine za0 ?_
    show Code.rounds _ _ _ _ _ _
    show Code.wp _ _ _ _ _
    refine wp_seq_k (fun gW f9=>?_)
    refine wp_seq_k (fun gZ gn=>?_)
    refine rg [0,1,2,3,4,5,6,7,8,9,10] ?_
    refine sv 123 (.int .i64 2) ?_
    refine sv 124 (.bool true) ?_
    refine sv 125 (.bool true) ?_
    refine sv 126 (.int .i64 2) ?_
    refine sv 127 (.int .i64 2) ?_
    refine sv 128 (.pointer (some ⟨dx,32,none⟩)) ?_
    refine sv 129 (.pointer (some ⟨dx,40,none⟩)) ?_
    replace cn:=cn.gr a0
    refine sw 130 (.agg #[dX,dY,dW,d7]) rfl (rl 36 40 [dX,dY,dW,d7] cn) ?_
    refine se ?_
    have ge:=bJ.kp.trans (bp.kp.trans (bv.kp.trans (bo.kp.trans (bj.kp.trans (bt.kp.trans (bm.kp.trans (bu.kp.trans (bk.kp.trans (bM.kp.trans (bH.kp.trans (b4.kp.trans (bZ.kp.trans (cc.kp.trans (ca.kp.trans (bh.trans (b8.kp.trans a0.kp))))))))))))))))
    replace dG:=dG.kp ge
    refine ec 131 (zM8 dG) ?_
    rintro hZ iq ⟨rfl,bi⟩
    refine ⟨_,rfl,?_⟩
    replace hB:=hB.trans bi
    simp only [p3,p4]
    refine sv 132 (.bool ((sgn (((1+bT) - (bL+bD))).num==(0:Int)))) ?_
    refine sv 133 (.bool ((sgn (((1+bT) - (bL+bD))).num==(0:Int)))) ?_
    refine za0 ?_
    refine gn _ _ ?_
    try clear gn gZ
    refine wp_cond_split (t:=(sgn (((1+bT) - (bL+bD))).num==(0:Int))) rfl (fun dt=>?_) (fun dt=>?_)
    ·refine wp_skip ?_
     refine f9 _ _ ?_
     try clear f9 gW
     refine wp_block ?_
     refine rg [0,1,2] ?_
     refine sv 134 (.int .i64 2) ?_
     refine sv 135 (.int .i64 3) ?_
     refine sv 8 (.int .i64 3) ?_
     refine za0 ?_
     show Code.rounds _ _ _ _ _ _
     show Code.wp _ _ _ _ _
     refine wp_seq_k (fun il h8=>?_)
     refine wp_seq_k (fun gS gp=>?_)
     refine rg [0,1,2,3,4,5,6,7,8,9,10] ?_
     refine sv 123 (.int .i64 3) ?_
     refine sv 124 (.bool false) ?_
     refine sv 125 (.bool false) ?_
     refine ss 126 ?_
     refine ss 127 ?_
     refine ss 128 ?_
     refine ss 129 ?_
     refine ss 130 ?_
     refine ss 131 ?_
     refine ss 132 ?_
     refine sv 133 (.bool false) ?_
     refine za0 ?_
     refine gp _ _ ?_
     try clear gp gS
     refine wp_cond_false rfl ?_
     refine wp_exit ?_
     simp only [Exit.then,Exit.inBlock,↓reduceIte]
     refine ee _ _ ?_
     try clear ee gE
     refine wp_seq_k (fun gP gg=>?_)
     refine rg [0,1,2,3,4] ?_
     refine sv 136 (.int .i64 3) ?_
     refine sv 137 (.pointer (some ⟨dx,48,none⟩)) ?_
     replace cn:=cn.gr bi
     refine sw 138 (.agg #[fB,eO,eQ,e6,eA,fg,fo,eV,eE,fy,ft,fO,fq,e7,el,fu]) rfl (rl 157 48 [fB,eO,eQ,e6,eA,fg,fo,eV,eE,fy,ft,fO,fq,e7,el,fu] cn) ?_
     refine se ?_
     have gt:=bj.kp.trans (bt.kp.trans (bm.kp.trans (bu.kp.trans (bk.kp.trans (bM.kp.trans (bH.kp.trans (b4.kp.trans (bZ.kp.trans (cc.kp.trans (ca.kp.trans (bh.trans (b8.kp.trans (a0.kp.trans bi.kp)))))))))))))
     replace e5:=e5.kp gt
     have fQ:=bm.kp.trans (bu.kp.trans (bk.kp.trans (bM.kp.trans (bH.kp.trans (b4.kp.trans (bZ.kp.trans (cc.kp.trans (ca.kp.trans (bh.trans (b8.kp.trans (a0.kp.trans bi.kp)))))))))))
     replace ey:=ey.kp fQ
     have gu:=bk.kp.trans (bM.kp.trans (bH.kp.trans (b4.kp.trans (bZ.kp.trans (cc.kp.trans (ca.kp.trans (bh.trans (b8.kp.trans (a0.kp.trans bi.kp)))))))))
     replace e2:=e2.kp gu
     have f8:=ca.kp.trans (bh.trans (b8.kp.trans (a0.kp.trans bi.kp)))
     replace fE:=fE.kp f8
     refine ec 139 (yl4 (k:=8*k+900) (e5.mono (by omega)) (ey.mono (by omega)) (e2.mono (by omega)) (fE.mono (by omega)) (yD9 cL co dt) (by omega)) ?_
     rintro iA iI ⟨⟨c7,cQ,c5,db,cG,c6,c8,cW,rfl,bU,bz,bA,bE⟩,fF⟩
     refine ⟨_,rfl,?_⟩
     replace hB:=hB.trans fF
     simp only [p3,p4]
     refine se ?_
     replace L3:=(cx.lc (L3.gr (dn.trans (dm.trans (dp.trans (dq.trans (dk.trans (dl.trans (di.trans (c4.trans (cC.trans (cB.trans (cA.trans (cy.trans (cq.trans (ct.trans (ch.trans (cj.trans (cm.trans (cl.trans (cg.trans (ck.trans (ce.trans (cd.trans (b7.trans (b9.trans (b6.trans (bY.trans (bS.trans (bw.trans (bn.trans (bq.trans (bC.trans (bJ.trans (bp.trans (bv.trans (bo.trans (bj.trans (bt.trans (bm.trans (bu.trans (bk.trans (bM.trans (bH.trans (b4.trans (bZ.trans (cc.trans ca)))))))))))))))))))))))))))))))))))))))))))))) cS).gr (b8.trans (a0.trans (bi.trans fF)))
     refine es 125 0 (.agg #[c7,cQ,c5,db,cG,c6,c8,cW]) [c7,cQ,c5,db,cG,c6,c8,cW] #[c7,cQ,c5,db,cG,c6,c8,cW] L3 hB q3 ⟨bU.one0,bU.one1,bz.one0,bz.one1,bA.one0,bA.one1,bE.one0,bE.one1,trivial⟩ fun h4 gq ga L3 hB=>?_
     refine za0 ?_
     refine gg _ _ ?_
     try clear gg gP
     refine wp_ret ?_
     replace L9:=(((((((((((((((((((((((((((((((((((((((((((((((((((L9.gr dn).gr dm).gr dp).gr dq).gr dk).gr dl).gr di).gr c4).gr cC).gr cB).gr cA).gr cy).gr cq).gr ct).gr ch).gr cj).gr cm).gr cl).gr cg).gr ck).gr ce).gr cd).gr b7).gr b9).gr b6).gr bY).gr bS).gr bw).gr bn).gr bq).gr bC).gr bJ).gr bp).gr bv).gr bo).gr bj).gr bt).gr bm).gr bu).gr bk).gr bM).gr bH).gr b4).gr bZ).gr cc).gr ca).st cx dd).gr b8).gr a0).gr bi).gr fF).st gq (Ne.symm dy)
     refine endN [D9] _ (List.Pairwise.cons (fun _ h=>absurd h (by simp)) List.Pairwise.nil) (List.forall_mem_cons.2 ⟨⟨Q9,L9⟩,(fun _ h=>absurd h (by simp))⟩) hB (fun h7 eh hB=>?_)
     replace L3:=eh.lc L3 (by decide)
     refine ⟨(.agg #[c7,cQ,c5,db,cG,c6,c8,cW]),(za9 _ _ _ rfl rfl L3 (by kernel_rfl)),?_,hB⟩
     have dB:=ga.trans (eh.kp (by decide))
     replace bU:=bU.kp dB
     replace bz:=bz.kp dB
     replace bA:=bA.kp dB
     replace bE:=bE.kp dB
     exact (by rw [qrow3t cL co dt];exact ⟨_,_,_,_,_,_,_,_,rfl,bU.mono (by omega),bz.mono (by omega),bA.mono (by omega),bE.mono (by omega)⟩)
    ·refine wp_exit ?_
     simp only [Exit.then,Exit.inBlock,↓reduceIte]
     refine ee _ _ ?_
     try clear ee gE
     refine wp_seq_k (fun gQ gs=>?_)
     refine rg [0,1,2,3,4] ?_
     refine sv 136 (.int .i64 2) ?_
     refine sv 137 (.pointer (some ⟨dx,32,none⟩)) ?_
     replace cn:=cn.gr bi
     refine sw 138 (.agg #[ff,et,eM,eX,eH,fp,eF,eS,dX,dY,dW,d7,em,eu,fh,fz]) rfl (rl 157 32 [ff,et,eM,eX,eH,fp,eF,eS,dX,dY,dW,d7,em,eu,fh,fz] cn) ?_
     refine se ?_
     have fW:=b9.kp.trans (b6.kp.trans (bY.kp.trans (bS.kp.trans (bw.kp.trans (bn.kp.trans (bq.kp.trans (bC.kp.trans (bJ.kp.trans (bp.kp.trans (bv.kp.trans (bo.kp.trans (bj.kp.trans (bt.kp.trans (bm.kp.trans (bu.kp.trans (bk.kp.trans (bM.kp.trans (bH.kp.trans (b4.kp.trans (bZ.kp.trans (cc.kp.trans (ca.kp.trans (bh.trans (b8.kp.trans (a0.kp.trans bi.kp)))))))))))))))))))))))))
     replace fG:=fG.kp fW
     have gy:=bY.kp.trans (bS.kp.trans (bw.kp.trans (bn.kp.trans (bq.kp.trans (bC.kp.trans (bJ.kp.trans (bp.kp.trans (bv.kp.trans (bo.kp.trans (bj.kp.trans (bt.kp.trans (bm.kp.trans (bu.kp.trans (bk.kp.trans (bM.kp.trans (bH.kp.trans (b4.kp.trans (bZ.kp.trans (cc.kp.trans (ca.kp.trans (bh.trans (b8.kp.trans (a0.kp.trans bi.kp)))))))))))))))))))))))
     replace fD:=fD.kp gy
     replace dG:=dG.kp bi.kp
     have f2:=bv.kp.trans (bo.kp.trans (bj.kp.trans (bt.kp.trans (bm.kp.trans (bu.kp.trans (bk.kp.trans (bM.kp.trans (bH.kp.trans (b4.kp.trans (bZ.kp.trans (cc.kp.trans (ca.kp.trans (bh.trans (b8.kp.trans (a0.kp.trans bi.kp)))))))))))))))
     replace ep:=ep.kp f2
     refine ec 139 (yl4 (k:=8*k+900) (fG.mono (by omega)) (fD.mono (by omega)) (dG.mono (by omega)) (ep.mono (by omega)) (yD8 cL co dt) (by omega)) ?_
     rintro iY iO ⟨⟨de,cZ,dj,cN,cH,cM,cD,dc,rfl,bF,bG,bQ,bO⟩,fN⟩
     refine ⟨_,rfl,?_⟩
     replace hB:=hB.trans fN
     simp only [p3,p4]
     refine se ?_
     replace L3:=(cx.lc (L3.gr (dn.trans (dm.trans (dp.trans (dq.trans (dk.trans (dl.trans (di.trans (c4.trans (cC.trans (cB.trans (cA.trans (cy.trans (cq.trans (ct.trans (ch.trans (cj.trans (cm.trans (cl.trans (cg.trans (ck.trans (ce.trans (cd.trans (b7.trans (b9.trans (b6.trans (bY.trans (bS.trans (bw.trans (bn.trans (bq.trans (bC.trans (bJ.trans (bp.trans (bv.trans (bo.trans (bj.trans (bt.trans (bm.trans (bu.trans (bk.trans (bM.trans (bH.trans (b4.trans (bZ.trans (cc.trans ca)))))))))))))))))))))))))))))))))))))))))))))) cS).gr (b8.trans (a0.trans (bi.trans fN)))
     refine es 125 0 (.agg #[de,cZ,dj,cN,cH,cM,cD,dc]) [de,cZ,dj,cN,cH,cM,cD,dc] #[de,cZ,dj,cN,cH,cM,cD,dc] L3 hB q3 ⟨bF.one0,bF.one1,bG.one0,bG.one1,bQ.one0,bQ.one1,bO.one0,bO.one1,trivial⟩ fun iu fS gv L3 hB=>?_
     refine za0 ?_
     refine gs _ _ ?_
     try clear gs gQ
     refine wp_ret ?_
     replace L9:=(((((((((((((((((((((((((((((((((((((((((((((((((((L9.gr dn).gr dm).gr dp).gr dq).gr dk).gr dl).gr di).gr c4).gr cC).gr cB).gr cA).gr cy).gr cq).gr ct).gr ch).gr cj).gr cm).gr cl).gr cg).gr ck).gr ce).gr cd).gr b7).gr b9).gr b6).gr bY).gr bS).gr bw).gr bn).gr bq).gr bC).gr bJ).gr bp).gr bv).gr bo).gr bj).gr bt).gr bm).gr bu).gr bk).gr bM).gr bH).gr b4).gr bZ).gr cc).gr ca).st cx dd).gr b8).gr a0).gr bi).gr fN).st fS (Ne.symm dy)
     refine endN [D9] _ (List.Pairwise.cons (fun _ h=>absurd h (by simp)) List.Pairwise.nil) (List.forall_mem_cons.2 ⟨⟨Q9,L9⟩,(fun _ h=>absurd h (by simp))⟩) hB (fun ij ed hB=>?_)
     replace L3:=ed.lc L3 (by decide)
     refine ⟨(.agg #[de,cZ,dj,cN,cH,cM,cD,dc]),(za9 _ _ _ rfl rfl L3 (by kernel_rfl)),?_,hB⟩
     have dA:=gv.trans (ed.kp (by decide))
     replace bF:=bF.kp dA
     replace bG:=bG.kp dA
     replace bQ:=bQ.kp dA
     replace bO:=bO.kp dA
     exact (by rw [qrow3f cL co dt];exact ⟨_,_,_,_,_,_,_,_,rfl,bF.mono (by omega),bG.mono (by omega),bQ.mono (by omega),bO.mono (by omega)⟩)
   ·refine wp_exit ?_
    simp only [Exit.then,Exit.inBlock,↓reduceIte]
    refine ee _ _ ?_
    try clear ee gE
    refine wp_seq_k (fun gO gi=>?_)
    refine rg [0,1,2,3,4] ?_
    refine sv 136 (.int .i64 1) ?_
    refine sv 137 (.pointer (some ⟨dx,16,none⟩)) ?_
    replace cn:=cn.gr a0
    refine sw 138 (.agg #[eJ,fC,eP,e4,dS,dV,dR,d0,fI,eZ,en,e1,fL,eK,fA,fk]) rfl (rl 157 16 [eJ,fC,eP,e4,dS,dV,dR,d0,fI,eZ,en,e1,fL,eK,fA,fk] cn) ?_
    refine se ?_
    have f0:=cy.kp.trans (cq.kp.trans (ct.kp.trans (ch.kp.trans (cj.kp.trans (cm.kp.trans (cl.kp.trans (cg.kp.trans (ck.kp.trans (ce.kp.trans (cd.kp.trans (b7.kp.trans (b9.kp.trans (b6.kp.trans (bY.kp.trans (bS.kp.trans (bw.kp.trans (bn.kp.trans (bq.kp.trans (bC.kp.trans (bJ.kp.trans (bp.kp.trans (bv.kp.trans (bo.kp.trans (bj.kp.trans (bt.kp.trans (bm.kp.trans (bu.kp.trans (bk.kp.trans (bM.kp.trans (bH.kp.trans (b4.kp.trans (bZ.kp.trans (cc.kp.trans (ca.kp.trans (bh.trans (b8.kp.trans a0.kp))))))))))))))))))))))))))))))))))))
    replace fx:=fx.kp f0
    replace dO:=dO.kp a0.kp
    have gj:=ck.kp.trans (ce.kp.trans (cd.kp.trans (b7.kp.trans (b9.kp.trans (b6.kp.trans (bY.kp.trans (bS.kp.trans (bw.kp.trans (bn.kp.trans (bq.kp.trans (bC.kp.trans (bJ.kp.trans (bp.kp.trans (bv.kp.trans (bo.kp.trans (bj.kp.trans (bt.kp.trans (bm.kp.trans (bu.kp.trans (bk.kp.trans (bM.kp.trans (bH.kp.trans (b4.kp.trans (bZ.kp.trans (cc.kp.trans (ca.kp.trans (bh.trans (b8.kp.trans a0.kp))))))))))))))))))))))))))))
    replace fK:=fK.kp gj
    have fV:=cd.kp.trans (b7.kp.trans (b9.kp.trans (b6.kp.trans (bY.kp.trans (bS.kp.trans (bw.kp.trans (bn.kp.trans (bq.kp.trans (bC.kp.trans (bJ.kp.trans (bp.kp.trans (bv.kp.trans (bo.kp.trans (bj.kp.trans (bt.kp.trans (bm.kp.trans (bu.kp.trans (bk.kp.trans (bM.kp.trans (bH.kp.trans (b4.kp.trans (bZ.kp.trans (cc.kp.trans (ca.kp.trans (bh.trans (b8.kp.trans a0.kp))))))))))))))))))))))))))
    replace eD:=eD.kp fV
    refine ec 139 (yl4 (k:=8*k+900) (fx.mono (by omega)) (dO.mono (by omega)) (fK.mono (by omega)) (eD.mono (by omega)) (yD7 cL co) (by omega)) ?_
    rintro iV iv ⟨⟨cT,cK,cP,cU,cO,cJ,dh,da,rfl,bX,bW,bV,bN⟩,eo⟩
    refine ⟨_,rfl,?_⟩
    replace hB:=hB.trans eo
    simp only [p3,p4]
    refine se ?_
    replace L3:=(cx.lc (L3.gr (dn.trans (dm.trans (dp.trans (dq.trans (dk.trans (dl.trans (di.trans (c4.trans (cC.trans (cB.trans (cA.trans (cy.trans (cq.trans (ct.trans (ch.trans (cj.trans (cm.trans (cl.trans (cg.trans (ck.trans (ce.trans (cd.trans (b7.trans (b9.trans (b6.trans (bY.trans (bS.trans (bw.trans (bn.trans (bq.trans (bC.trans (bJ.trans (bp.trans (bv.trans (bo.trans (bj.trans (bt.trans (bm.trans (bu.trans (bk.trans (bM.trans (bH.trans (b4.trans (bZ.trans (cc.trans ca)))))))))))))))))))))))))))))))))))))))))))))) cS).gr (b8.trans (a0.trans eo))
    refine es 125 0 (.agg #[cT,cK,cP,cU,cO,cJ,dh,da]) [cT,cK,cP,cU,cO,cJ,dh,da] #[cT,cK,cP,cU,cO,cJ,dh,da] L3 hB q3 ⟨bX.one0,bX.one1,bW.one0,bW.one1,bV.one0,bV.one1,bN.one0,bN.one1,trivial⟩ fun iM gA gw L3 hB=>?_
    refine za0 ?_
    refine gi _ _ ?_
    try clear gi gO
    refine wp_ret ?_
    replace L9:=((((((((((((((((((((((((((((((((((((((((((((((((((L9.gr dn).gr dm).gr dp).gr dq).gr dk).gr dl).gr di).gr c4).gr cC).gr cB).gr cA).gr cy).gr cq).gr ct).gr ch).gr cj).gr cm).gr cl).gr cg).gr ck).gr ce).gr cd).gr b7).gr b9).gr b6).gr bY).gr bS).gr bw).gr bn).gr bq).gr bC).gr bJ).gr bp).gr bv).gr bo).gr bj).gr bt).gr bm).gr bu).gr bk).gr bM).gr bH).gr b4).gr bZ).gr cc).gr ca).st cx dd).gr b8).gr a0).gr eo).st gA (Ne.symm dy)
    refine endN [D9] _ (List.Pairwise.cons (fun _ h=>absurd h (by simp)) List.Pairwise.nil) (List.forall_mem_cons.2 ⟨⟨Q9,L9⟩,(fun _ h=>absurd h (by simp))⟩) hB (fun ig ef hB=>?_)
    replace L3:=ef.lc L3 (by decide)
    refine ⟨(.agg #[cT,cK,cP,cU,cO,cJ,dh,da]),(za9 _ _ _ rfl rfl L3 (by kernel_rfl)),?_,hB⟩
    have dw:=gw.trans (ef.kp (by decide))
    replace bX:=bX.kp dw
    replace bW:=bW.kp dw
    replace bV:=bV.kp dw
    replace bN:=bN.kp dw
    exact (by rw [qrow2f cL co];exact ⟨_,_,_,_,_,_,_,_,rfl,bX.mono (by omega),bW.mono (by omega),bV.mono (by omega),bN.mono (by omega)⟩)
  ·refine wp_exit ?_
   simp only [Exit.then,Exit.inBlock,↓reduceIte]
   refine ee _ _ ?_
   try clear ee gE
   refine wp_seq_k (fun hh f1=>?_)
   refine rg [0,1,2,3,4] ?_
   refine sv 136 (.int .i64 0) ?_
   refine sv 137 (.pointer (some ⟨dx,0,none⟩)) ?_
   replace cn:=cn.gr b8
   refine sw 138 (.agg #[d5,dU,dT,dZ,eI,eC,fJ,fi,eN,ez,fj,eL,eU,fM,eT,fm]) rfl (rl 157 0 [d5,dU,dT,dZ,eI,eC,fJ,fi,eN,ez,fj,eL,eU,fM,eT,fm] cn) ?_
   refine se ?_
   replace dQ:=dQ.kp b8.kp
   have fR:=dl.kp.trans (di.kp.trans (c4.kp.trans (cC.kp.trans (cB.kp.trans (cA.kp.trans (cy.kp.trans (cq.kp.trans (ct.kp.trans (ch.kp.trans (cj.kp.trans (cm.kp.trans (cl.kp.trans (cg.kp.trans (ck.kp.trans (ce.kp.trans (cd.kp.trans (b7.kp.trans (b9.kp.trans (b6.kp.trans (bY.kp.trans (bS.kp.trans (bw.kp.trans (bn.kp.trans (bq.kp.trans (bC.kp.trans (bJ.kp.trans (bp.kp.trans (bv.kp.trans (bo.kp.trans (bj.kp.trans (bt.kp.trans (bm.kp.trans (bu.kp.trans (bk.kp.trans (bM.kp.trans (bH.kp.trans (b4.kp.trans (bZ.kp.trans (cc.kp.trans (ca.kp.trans (bh.trans b8.kp)))))))))))))))))))))))))))))))))))))))))
   replace ej:=ej.kp fR
   have gB:=c4.kp.trans (cC.kp.trans (cB.kp.trans (cA.kp.trans (cy.kp.trans (cq.kp.trans (ct.kp.trans (ch.kp.trans (cj.kp.trans (cm.kp.trans (cl.kp.trans (cg.kp.trans (ck.kp.trans (ce.kp.trans (cd.kp.trans (b7.kp.trans (b9.kp.trans (b6.kp.trans (bY.kp.trans (bS.kp.trans (bw.kp.trans (bn.kp.trans (bq.kp.trans (bC.kp.trans (bJ.kp.trans (bp.kp.trans (bv.kp.trans (bo.kp.trans (bj.kp.trans (bt.kp.trans (bm.kp.trans (bu.kp.trans (bk.kp.trans (bM.kp.trans (bH.kp.trans (b4.kp.trans (bZ.kp.trans (cc.kp.trans (ca.kp.trans (bh.trans b8.kp)))))))))))))))))))))))))))))))))))))))
   replace e3:=e3.kp gB
   have gc:=cB.kp.trans (cA.kp.trans (cy.kp.trans (cq.kp.trans (ct.kp.trans (ch.kp.trans (cj.kp.trans (cm.kp.trans (cl.kp.trans (cg.kp.trans (ck.kp.trans (ce.kp.trans (cd.kp.trans (b7.kp.trans (b9.kp.trans (b6.kp.trans (bY.kp.trans (bS.kp.trans (bw.kp.trans (bn.kp.trans (bq.kp.trans (bC.kp.trans (bJ.kp.trans (bp.kp.trans (bv.kp.trans (bo.kp.trans (bj.kp.trans (bt.kp.trans (bm.kp.trans (bu.kp.trans (bk.kp.trans (bM.kp.trans (bH.kp.trans (b4.kp.trans (bZ.kp.trans (cc.kp.trans (ca.kp.trans (bh.trans b8.kp)))))))))))))))))))))))))))))))))))))
   replace eR:=eR.kp gc
   refine ec 139 (yl4 (k:=8*k+900) (dQ.mono (by omega)) (ej.mono (by omega)) (e3.mono (by omega)) (eR.mono (by omega)) (yD6 cL) (by omega)) ?_
   rintro h3 h9 ⟨⟨cE,df,cF,cV,cR,cY,c9,cX,rfl,bP,bR,bK,bx⟩,ew⟩
   refine ⟨_,rfl,?_⟩
   replace hB:=hB.trans ew
   simp only [p3,p4]
   refine se ?_
   replace L3:=(cx.lc (L3.gr (dn.trans (dm.trans (dp.trans (dq.trans (dk.trans (dl.trans (di.trans (c4.trans (cC.trans (cB.trans (cA.trans (cy.trans (cq.trans (ct.trans (ch.trans (cj.trans (cm.trans (cl.trans (cg.trans (ck.trans (ce.trans (cd.trans (b7.trans (b9.trans (b6.trans (bY.trans (bS.trans (bw.trans (bn.trans (bq.trans (bC.trans (bJ.trans (bp.trans (bv.trans (bo.trans (bj.trans (bt.trans (bm.trans (bu.trans (bk.trans (bM.trans (bH.trans (b4.trans (bZ.trans (cc.trans ca)))))))))))))))))))))))))))))))))))))))))))))) cS).gr (b8.trans ew)
   refine es 125 0 (.agg #[cE,df,cF,cV,cR,cY,c9,cX]) [cE,df,cF,cV,cR,cY,c9,cX] #[cE,df,cF,cV,cR,cY,c9,cX] L3 hB q3 ⟨bP.one0,bP.one1,bR.one0,bR.one1,bK.one0,bK.one1,bx.one0,bx.one1,trivial⟩ fun iG f6 fT L3 hB=>?_
   refine za0 ?_
   refine f1 _ _ ?_
   try clear f1 hh
   refine wp_ret ?_
   replace L9:=(((((((((((((((((((((((((((((((((((((((((((((((((L9.gr dn).gr dm).gr dp).gr dq).gr dk).gr dl).gr di).gr c4).gr cC).gr cB).gr cA).gr cy).gr cq).gr ct).gr ch).gr cj).gr cm).gr cl).gr cg).gr ck).gr ce).gr cd).gr b7).gr b9).gr b6).gr bY).gr bS).gr bw).gr bn).gr bq).gr bC).gr bJ).gr bp).gr bv).gr bo).gr bj).gr bt).gr bm).gr bu).gr bk).gr bM).gr bH).gr b4).gr bZ).gr cc).gr ca).st cx dd).gr b8).gr ew).st f6 (Ne.symm dy)
   refine endN [D9] _ (List.Pairwise.cons (fun _ h=>absurd h (by simp)) List.Pairwise.nil) (List.forall_mem_cons.2 ⟨⟨Q9,L9⟩,(fun _ h=>absurd h (by simp))⟩) hB (fun ic d9 hB=>?_)
   replace L3:=d9.lc L3 (by decide)
   refine ⟨(.agg #[cE,df,cF,cV,cR,cY,c9,cX]),(za9 _ _ _ rfl rfl L3 (by kernel_rfl)),?_,hB⟩
   have dv:=fT.trans (d9.kp (by decide))
   replace bP:=bP.kp dv
   replace bR:=bR.kp dv
   replace bK:=bK.kp dv
   replace bx:=bx.kp dv
   exact (by rw [qrow1f cL];exact ⟨_,_,_,_,_,_,_,_,rfl,bP.mono (by omega),bR.mono (by omega),bK.mono (by omega),bx.mono (by omega)⟩)
 ·intro D c prs W _ h;exact h.elim

def cMEq:ConT:=yC9 zy7 zy7 fun
 | [(k0,a0),(k1,a1),(k2,a2),(k3,a3),(k4,a4),(k5,a5),(k6,a6),(k7,a7),(k8,a8),(k9,a9),(k10,a10),(k11,a11)],[(m0,b0),(m1,b1),(m2,b2),(m3,b3),(m4,b4),(m5,b5),(m6,b6),(m7,b7),(m8,b8),(m9,b9),(m10,b10),(m11,b11)],_,_=>tr (Nat.ble k0 40000&&Nat.ble k1 40000&&Nat.ble k2 40000&&Nat.ble k3 40000&&Nat.ble k4 40000&&Nat.ble k5 40000&&Nat.ble k6 40000&&Nat.ble k7 40000&&Nat.ble k8 40000&&Nat.ble k9 40000&&Nat.ble k10 40000&&Nat.ble k11 40000&&Nat.ble m0 40000&&Nat.ble m1 40000&&Nat.ble m2 40000&&Nat.ble m3 40000&&Nat.ble m4 40000&&Nat.ble m5 40000&&Nat.ble m6 40000&&Nat.ble m7 40000&&Nat.ble m8 40000&&Nat.ble m9 40000&&Nat.ble m10 40000&&Nat.ble m11 40000) (.leaf (.so (.vc (.cb (decide ([a0,a1,a2,a3,a4,a5,a6,a7,a8,a9,a10,a11]=[b0,b1,b2,b3,b4,b5,b6,b7,b8,b9,b10,b11])) none))) 0 0)
 | _,_,_,_=>none
def yl8:ConT:=zZ9 zy7 fun
 | [(k0,a0),(k1,a1),(k2,a2),(k3,a3),(k4,a4),(k5,a5),(k6,a6),(k7,a7),(k8,a8),(k9,_a9),(k10,_a10),(k11,_a11)],_,nz=>tr (Nat.ble k0 800&&Nat.ble k1 800&&Nat.ble k2 800&&Nat.ble k3 800&&Nat.ble k4 800&&Nat.ble k5 800&&Nat.ble k6 800&&Nat.ble k7 800&&Nat.ble k8 800&&Nat.ble k9 100000&&Nat.ble k10 100000&&Nat.ble k11 100000) (.leaf (ye5 nz 40128 (wzq (zL4 a0 a1 a2 a3 a4 a5 a6 a7 a8) 0) (wzq (zL4 a0 a1 a2 a3 a4 a5 a6 a7 a8) 1) (wzq (zL4 a0 a1 a2 a3 a4 a5 a6 a7 a8) 2) (wzq (zL4 a0 a1 a2 a3 a4 a5 a6 a7 a8) 3)) 0 4)
 | _,_,_=>none
section
variable {I:World→Prop}
theorem zG4:ConOK Tryz.prog I 16 cMEq:=zj7 fun _ _ _ _ _ _ _ _ _ h1 h2 hx hy hT _=>by
 split at hT
 ·obtain ⟨hb,rfl⟩:=zd1 hT
  simp only [Bool.and_eq_true,Nat.ble_eq] at hb
  obtain ⟨vs,e1,hA⟩:=zj9 h1 hx
  obtain ⟨us,e2,hB⟩:=zj9 h2 hy
  rw [e1,e2]
  obtain ⟨bc,cx,bj,bS,a6,rfl,af,hA⟩:=hA.cons
  obtain ⟨pa1,bV,a8,aY,b6,rfl,al,hA⟩:=hA.cons
  obtain ⟨cC,cq,bD,cy,bF,rfl,aq,hA⟩:=hA.cons
  obtain ⟨bC,bw,a0,bT,bf,rfl,ak,hA⟩:=hA.cons
  obtain ⟨bW,cM,bL,ch,bb,rfl,ap,hA⟩:=hA.cons
  obtain ⟨b7,bE,bX,bt,bP,rfl,ai,hA⟩:=hA.cons
  obtain ⟨bA,cm,cg,cP,b8,rfl,aj,hA⟩:=hA.cons
  obtain ⟨cj,bG,ca,bO,bR,rfl,aC,hA⟩:=hA.cons
  obtain ⟨bN,cn,cE,bK,bH,rfl,au,hA⟩:=hA.cons
  obtain ⟨bn,cQ,cD,bB,cF,rfl,aA,hA⟩:=hA.cons
  obtain ⟨aK,aS,aG,aX,aU,rfl,ab,hA⟩:=hA.cons
  obtain ⟨aI,aJ,aW,aE,aP,rfl,ac,hA⟩:=hA.cons
  obtain rfl:=hA.nil
  replace af:=af.mono (m:=40000) (by omega)
  replace al:=al.mono (m:=40000) (by omega)
  replace aq:=aq.mono (m:=40000) (by omega)
  replace ak:=ak.mono (m:=40000) (by omega)
  replace ap:=ap.mono (m:=40000) (by omega)
  replace ai:=ai.mono (m:=40000) (by omega)
  replace aj:=aj.mono (m:=40000) (by omega)
  replace aC:=aC.mono (m:=40000) (by omega)
  replace au:=au.mono (m:=40000) (by omega)
  replace aA:=aA.mono (m:=40000) (by omega)
  replace ab:=ab.mono (m:=40000) (by omega)
  replace ac:=ac.mono (m:=40000) (by omega)
  obtain ⟨cR,cc,cG,bd,cN,rfl,ay,hB⟩:=hB.cons
  obtain ⟨cB,bx,bQ,ck,bU,rfl,aw,hB⟩:=hB.cons
  obtain ⟨cS,a1,bZ,b4,bi,rfl,aB,hB⟩:=hB.cons
  obtain ⟨cK,a2,bY,cd,ba,rfl,ar,hB⟩:=hB.cons
  obtain ⟨bM,cL,aZ,cA,bk,rfl,av,hB⟩:=hB.cons
  obtain ⟨ct,bg,bm,b9,bq,rfl,ae,hB⟩:=hB.cons
  obtain ⟨a3,b5,cJ,cu,bJ,rfl,az,hB⟩:=hB.cons
  obtain ⟨a4,a7,cl,bu,bz,rfl,ax,hB⟩:=hB.cons
  obtain ⟨co,bp,a5,cO,bh,rfl,ah,hB⟩:=hB.cons
  obtain ⟨a9,bv,ce,cH,bo,rfl,aD,hB⟩:=hB.cons
  obtain ⟨aR,aL,aO,aV,aH,rfl,aa,hB⟩:=hB.cons
  obtain ⟨aQ,aF,aT,aM,aN,rfl,ad,hB⟩:=hB.cons
  obtain rfl:=hB.nil
  replace ay:=ay.mono (m:=40000) (by omega)
  replace aw:=aw.mono (m:=40000) (by omega)
  replace aB:=aB.mono (m:=40000) (by omega)
  replace ar:=ar.mono (m:=40000) (by omega)
  replace av:=av.mono (m:=40000) (by omega)
  replace ae:=ae.mono (m:=40000) (by omega)
  replace az:=az.mono (m:=40000) (by omega)
  replace ax:=ax.mono (m:=40000) (by omega)
  replace ah:=ah.mono (m:=40000) (by omega)
  replace aD:=aD.mono (m:=40000) (by omega)
  replace aa:=aa.mono (m:=40000) (by omega)
  replace ad:=ad.mono (m:=40000) (by omega)
  exact (mequal (k:=40000) (m:=40000) af al aq ak ap ai aj aC au aA ab ac ay aw aB ar av ae az ax ah aD aa ad (by decide)).mono fun e w' he=>zb6 he ⟨rfl,fun v hv=>by cases hv⟩
 ·cases hT
theorem zv9:ConOK Tryz.prog I 67 yl8:=zf8 fun _ _ _ _ _ _ _ h1 h2 hT _=>by
 split at hT
 ·obtain ⟨hb,rfl⟩:=zd1 hT
  simp only [Bool.and_eq_true,Nat.ble_eq] at hb
  obtain ⟨vs,e1,hA⟩:=zj9 h1 h2
  rw [e1]
  obtain ⟨aH,bh,aJ,a1,aE,rfl,ac,hA⟩:=hA.cons
  obtain ⟨pa1,a3,aF,aC,a6,rfl,ah,hA⟩:=hA.cons
  obtain ⟨bj,bg,aQ,bi,aS,rfl,aj,hA⟩:=hA.cons
  obtain ⟨aP,aM,aD,a2,aI,rfl,af,hA⟩:=hA.cons
  obtain ⟨a4,bo,aW,bb,aG,rfl,ai,hA⟩:=hA.cons
  obtain ⟨a7,aR,a5,aL,aZ,rfl,ad,hA⟩:=hA.cons
  obtain ⟨aN,bd,ba,bp,a8,rfl,ae,hA⟩:=hA.cons
  obtain ⟨bc,aT,a9,aY,a0,rfl,ap,hA⟩:=hA.cons
  obtain ⟨aX,bf,bm,aV,aU,rfl,ak,hA⟩:=hA.cons
  obtain ⟨aK,bq,bk,aO,bn,rfl,al,hA⟩:=hA.cons
  obtain ⟨aw,ay,ar,aB,az,rfl,aa,hA⟩:=hA.cons
  obtain ⟨au,av,aA,aq,ax,rfl,ab,hA⟩:=hA.cons
  obtain rfl:=hA.nil
  replace ac:=ac.mono (m:=800) (by omega)
  replace ah:=ah.mono (m:=800) (by omega)
  replace aj:=aj.mono (m:=800) (by omega)
  replace af:=af.mono (m:=800) (by omega)
  replace ai:=ai.mono (m:=800) (by omega)
  replace ad:=ad.mono (m:=800) (by omega)
  replace ae:=ae.mono (m:=800) (by omega)
  replace ap:=ap.mono (m:=800) (by omega)
  replace ak:=ak.mono (m:=800) (by omega)
  replace al:=al.mono (m:=100000) (by omega)
  replace aa:=aa.mono (m:=100000) (by omega)
  replace ab:=ab.mono (m:=100000) (by omega)
  exact (mturnq (k:=800) (ks:=100000) ac ah aj af ai ad ae ap ak al aa ab (by decide) (by decide)).mono fun e w' he=>zT3 he
 ·cases hT
end
noncomputable def tabN:List (Nat × List (Nat × Ent)):=[(19,[(5,.ord [(true,0),(true,1),(true,3),(true,4),(false,2),(true,5),(false,6)] [1])]),
 (22,[]),
 (24,[(9,.ord [(true,0),(true,1),(true,2),(true,3),(true,5),(true,6),(false,4),(true,7),(false,8)] [5])]),
 (30,[(1,.flo [(true,0),(true,1),(true,2),(true,3),(false,4),(true,5),(false,6)] [(7,3,41)] [(false,8)] []),(2,.ord [(true,0),(false,1),(false,2),(true,3),(true,4),(true,5),(true,6),(true,7),(true,8),(true,9),(true,10),(true,11),(true,12),(false,13),(false,14),(true,15),(true,16),(true,17)] [])]),
 (32,[]),
 (36,[]),
 (38,[]),
 (39,[(1,.ord [(true,0),(true,1),(true,2),(false,3),(false,4),(false,5)] [6])]),
 (41,[(6,.ord [(true,0),(true,1),(true,2),(true,3),(true,4),(true,5),(true,6),(true,8),(true,9),(true,10),(true,11),(true,12),(true,13),(false,7),(false,14),(false,15),(true,16),(false,17)] [5])]),
 (43,[(1,.ord [(true,0),(true,1),(true,3),(true,4),(false,2),(false,5),(false,6)] [4])]),
 (44,[]),
 (69,[(8,.ord [(true,0),(true,1),(true,2),(true,3),(true,4),(false,5)] [3])]),
 (74,[(5,.ord [(true,0),(true,1),(true,2),(true,3),(true,4),(true,5),(true,6),(true,7),(false,8),(true,9),(false,10)] [7])]),
 (83,[]),
 (86,[])]
noncomputable def conN:List (Nat × ConT):=[(103,zj6 100000 (fun k m=>k+m+1) (fun a b=>a+b)),
 (75,zj6 100000 (fun k m=>k+m+1) (fun a b=>a - b)),
 (82,zj6 100000 (fun k m=>k+m) (fun a b=>a*b)),
 (108,cNeg),
 (59,zY8),
 (37,zY9),
 (76,zS9),
 (87,zZ0),
 (130,cNum),
 (81,cDen),
 (58,cDiv),
 (96,zy6),
 (80,zT0),
 (122,zT1),
 (123,zT2),
 (68,zZ1),
 (105,cTT (fun k m=>k+m+1) fun a b=>a+b),
 (132,cTT (fun k m=>k+m+1) fun a b=>a - b),
 (106,cTT (fun k m=>k+m) fun a b=>a*b),
 (64,zZ2),
 (115,zZ3),
 (65,zD1),
 (94,zt8 400),
 (107,zt8 65536),
 (15,cChk),
 (66,zT5),
 (14,cOf),
 (16,cMEq),
 (67,yl8)]
noncomputable def sysN:Sys:=⟨Tryz.prog,2,199,tabN,conN,fun w=>Tab w∧Mx w⟩
theorem ya7:sysN.OK where
 mixed:=by kernel_rfl
 calls:=fun f h0 h1=>by
  have:(List.range 199).all (fun f=>Nat.blt f 2||okCall Tryz.prog f)=true:=by kernel_rfl
  have:=List.all_eq_true.1 this f (List.mem_range.2 h1)
  simp only [Bool.or_eq_true] at this
  exact this.resolve_left (fun e=>by have:=ze6 e;exact absurd h0 (by show ¬ 2≤f;omega))
 tab:=by
  have:tabN.all (okTab Tryz.prog)=true:=by kernel_rfl
  exact fun x hx=>List.all_eq_true.1 this x hx
 lps:=zy1 (by kernel_rfl)
 con:=fun x hx=>by
  simp only [sysN,conN,List.mem_cons,List.not_mem_nil,or_false] at hx
  rcases hx with rfl | rfl | rfl | rfl | rfl | rfl | rfl | rfl | rfl | rfl | rfl | rfl | rfl | rfl | rfl | rfl | rfl | rfl | rfl | rfl | rfl | rfl | rfl | rfl | rfl | rfl | rfl | rfl | rfl
  ·exact zc4 fun h1 h2 h3=>zi7 h1 h2 h3
  ·exact zc4 fun h1 h2 h3=>zt6 h1 h2 h3
  ·exact zc4 fun h1 h2 h3=>yb2 h1 h2 h3
  ·exact zu9
  ·exact zo0
  ·exact zo1
  ·exact zl1
  ·exact zo2 fun w h=>h.1
  ·exact zs0
  ·exact zs1
  ·exact zv0
  ·exact zh9
  ·exact zl2
  ·exact zl3
  ·exact zl4
  ·exact zo3
  ·exact zo4
  ·exact zo5
  ·exact zo6
  ·exact zo7
  ·exact zo8
  ·exact zj8
  ·exact zo9 fun w h=>h.2
  ·exact zp0 fun w h=>h.2
  ·exact zB1 fun w h=>h.2
  ·exact zp1
  ·exact yg2 fun w h=>h
  ·exact zG4
  ·exact zv9
 inv:=fun w w' h g=>⟨h.1.gr g,h.2.gr g⟩
def okLf (p:SV→Bool):Lf→Bool
 | .ret v=>p v
 | .br t a b=>match t with
  | true=>okLf p a
  | false=>okLf p b
 | .as t v a=>match t,v with
  | true,true=>okLf p a
  | false,false=>okLf p a
  | _,_=>false
theorem zP8 {p:SV→Bool}:∀ {L:Lf},okLf p L=true→LOK (fun v=>p v=true) L
 | .ret v,h=>h
 | .br t a b,h=>by
  cases t with
  | true=>exact ⟨fun _=>zP8 (L:=a) h,fun e=>by cases e⟩
  | false=>exact ⟨fun e=>(by cases e),fun _=>zP8 (L:=b) h⟩
 | .as t v a,h=>by
  cases t<;>cases v<;>first | exact absurd h (by show ¬(false=true);decide) | exact ⟨rfl,zP8 (L:=a) h⟩
def okRun (p:SV→Bool):Rs→Bool
 | some L=>okLf p L
 | none=>false
theorem yg3 {p:SV→Bool} {r:Rs} (h:okRun p r=true):∃ L,r=some L∧LOK (fun v=>p v=true) L:=by
 cases r with
 | none=>cases h
 | some L=>exact ⟨L,rfl,zP8 h⟩
def tz0 (c:Cl):Bool:=match txC c with
 | some (_,q)=>decide (q=0)
 | none=>false
def tzE:Cl→Bool
 | .cw [] _=>true
 | _=>false
def pJ (z e:Int) (tz:Cl→Bool):SV→Bool
 | .st [.vg [.ci .i64 a _ _,.ci .i64 b _ _,.ci .i64 c _ _,.ci .i64 d _ _,t1,t2,t3],.vc (.ci .i64 f _ _)]=>decide (a=0)&&decide (b=0)&&decide (c=0)&&decide (d=z)&&decide (f=e)&&tz t1&&tz t2&&tz t3
 | _=>false
theorem runJ1:okRun (pJ 1 0 tz0) (zP0 sysN 32 [.so (.vg [.ci .i64 1 1 1,.ci .i64 0 0 0,.ci .i64 0 0 0,.ci .i64 1 1 1,.cw (za1 0) (some (64,0)),.cw (za1 0) (some (64,0)),.cw (za1 0) (some (64,0))]),.so (.vg [.ci .i64 1 1 1,.ci .i64 0 0 0,.ci .i64 0 0 0,.ci .i64 1 1 1,.cw (za1 0) (some (64,0)),.cw (za1 0) (some (64,0)),.cw (za1 0) (some (64,0))])] 0 0 .c)=true:=by kernel_rfl
theorem runJ2:okRun (pJ 0 2 tzE) (zP0 sysN 32 [.so (.vg [.ci .i64 12 12 12,.ci .i64 1 1 1,.ci .i64 0 0 0,.ci .i64 0 0 0,.cw (za1 0) (some (64,0)),.cw (za1 0) (some (64,0)),.cw (za1 0) (some (64,0))]),.so (.vg [.ci .i64 12 12 12,.ci .i64 1 1 1,.ci .i64 0 0 0,.ci .i64 0 0 0,.cw (za1 0) (some (64,0)),.cw (za1 0) (some (64,0)),.cw (za1 0) (some (64,0))])] 0 0 .c)=true:=by kernel_rfl
theorem yr3 {n:Nn} {X:Env} {w:World} {c:Cl} (h:tz0 c=true) (hc:c.ok n X w):c.den X=.string ⟨([48]:List UInt8).toArray⟩:=by
 unfold tz0 at h
 split at h
 ·rename_i k q e
  rw [(zl0 e hc).1,of_decide_eq_true h,ye4]
 ·cases h
theorem yr4 {X:Env} {c:Cl} (h:tzE c=true):c.den X=.string ⟨([]:List UInt8).toArray⟩:=by
 unfold tzE at h
 split at h
 ·rfl
 ·cases h
theorem pJ_ok {n:Nn} {X:Env} {w:World} {z e:Int} {tz:Cl→Bool} {v:SV} (h:pJ z e tz v=true) (hv:v.ok n X w):∃ c1 c2 c3:Cl,v.den X=.tuple #[.agg #[.int .i64 0,.int .i64 0,.int .i64 0,.int .i64 z,c1.den X,c2.den X,c3.den X],.int .i64 e]∧(tz c1=true∧c1.ok n X w)∧(tz c2=true∧c2.ok n X w)∧(tz c3=true∧c3.ok n X w):=by
 unfold pJ at h
 split at h
 ·rename_i a _ _ b _ _ c _ _ d _ _ t1 t2 t3 f _ _
  simp only [Bool.and_eq_true,decide_eq_true_eq] at h
  obtain ⟨⟨⟨⟨⟨⟨⟨rfl,rfl⟩,rfl⟩,rfl⟩,rfl⟩,h1⟩,h2⟩,h3⟩:=h
  have g:=hv (.vg _) (.head _)
  exact ⟨t1,t2,t3,rfl,⟨h1,g t1 (by simp)⟩,⟨h2,g t2 (by simp)⟩,⟨h3,g t3 (by simp)⟩⟩
 ·cases h
theorem tx0 (w:World):(Cl.cw (za1 0) (some (64,0))).ok ⟨0,0,0⟩ (zF1 []) w:=⟨rfl,fun k q e=>by cases e;exact ⟨rfl,Nat.two_pow_pos _,Nat.one_lt_two_pow (by decide)⟩⟩
theorem ci0 (z:Int) (w:World):(Cl.ci .i64 z z z).ok ⟨0,0,0⟩ (zF1 []) w:=⟨rfl,Int.le_refl _,Int.le_refl _⟩
theorem okq (a b c d:Int) (w:World):SV.ok ⟨0,0,0⟩ (zF1 []) w (.so (.vg [.ci .i64 a a a,.ci .i64 b b b,.ci .i64 c c c,.ci .i64 d d d,.cw (za1 0) (some (64,0)),.cw (za1 0) (some (64,0)),.cw (za1 0) (some (64,0))])):=zi1 ⟨ci0 _ _,ci0 _ _,ci0 _ _,ci0 _ _,tx0 _,tx0 _,tx0 _,trivial⟩
theorem okF2 {n:Nn} {X:Env} {W:World} {u v:SV} (h1:u.ok n X W) (h2:v.ok n X W):okF n X W [u,v]:=fun x hx=>by
 simp only [List.mem_cons,List.not_mem_nil,or_false] at hx
 rcases hx with rfl | rfl
 ·exact h1
 ·exact h2
theorem join_k1 (w:World) (hm:Mx w) (ht:Tab w):
  Calls Tryz.prog 32 #[.agg #[.int .i64 1,.int .i64 0,.int .i64 0,.int .i64 1,.string ⟨([48]:List UInt8).toArray⟩,.string ⟨([48]:List UInt8).toArray⟩,.string ⟨([48]:List UInt8).toArray⟩],.agg #[.int .i64 1,.int .i64 0,.int .i64 0,.int .i64 1,.string ⟨([48]:List UInt8).toArray⟩,.string ⟨([48]:List UInt8).toArray⟩,.string ⟨([48]:List UInt8).toArray⟩]] w fun e w'=>e=.returned (.tuple #[.agg #[.int .i64 0,.int .i64 0,.int .i64 0,.int .i64 1,.string ⟨([48]:List UInt8).toArray⟩,.string ⟨([48]:List UInt8).toArray⟩,.string ⟨([48]:List UInt8).toArray⟩],.int .i64 0])∧Gr w w':=by
 obtain ⟨L,hr,hL⟩:=yg3 runJ1
 have:=(ze7 sysN ya7 hr (X:=zF1 []) ⟨ht,hm⟩ (okF2 (okq 1 0 0 1 w) (okq 1 0 0 1 w)) hL)
 rw [show ([.so (.vg [.ci .i64 1 1 1,.ci .i64 0 0 0,.ci .i64 0 0 0,.ci .i64 1 1 1,.cw (za1 0) (some (64,0)),.cw (za1 0) (some (64,0)),.cw (za1 0) (some (64,0))]),.so (.vg [.ci .i64 1 1 1,.ci .i64 0 0 0,.ci .i64 0 0 0,.ci .i64 1 1 1,.cw (za1 0) (some (64,0)),.cw (za1 0) (some (64,0)),.cw (za1 0) (some (64,0))])].map (SV.den (zF1 []))).toArray=#[.agg #[.int .i64 1,.int .i64 0,.int .i64 0,.int .i64 1,.string ⟨(za1 0).toArray⟩,.string ⟨(za1 0).toArray⟩,.string ⟨(za1 0).toArray⟩],.agg #[.int .i64 1,.int .i64 0,.int .i64 0,.int .i64 1,.string ⟨(za1 0).toArray⟩,.string ⟨(za1 0).toArray⟩,.string ⟨(za1 0).toArray⟩]] from rfl,ye4] at this
 refine this.mono fun e w' he=>?_
 obtain ⟨v,X',n,rfl,g,_,hv,hp⟩:=he
 obtain ⟨c1,c2,c3,e,h1,h2,h3⟩:=pJ_ok hp hv
 exact ⟨by rw [e,yr3 h1.1 h1.2,yr3 h2.1 h2.2,yr3 h3.1 h3.2],g⟩
theorem join_k2 (w:World) (hm:Mx w) (ht:Tab w):
  Calls Tryz.prog 32 #[.agg #[.int .i64 12,.int .i64 1,.int .i64 0,.int .i64 0,.string ⟨([48]:List UInt8).toArray⟩,.string ⟨([48]:List UInt8).toArray⟩,.string ⟨([48]:List UInt8).toArray⟩],.agg #[.int .i64 12,.int .i64 1,.int .i64 0,.int .i64 0,.string ⟨([48]:List UInt8).toArray⟩,.string ⟨([48]:List UInt8).toArray⟩,.string ⟨([48]:List UInt8).toArray⟩]] w fun e w'=>e=.returned (.tuple #[.agg #[.int .i64 0,.int .i64 0,.int .i64 0,.int .i64 0,.string ⟨([]:List UInt8).toArray⟩,.string ⟨([]:List UInt8).toArray⟩,.string ⟨([]:List UInt8).toArray⟩],.int .i64 2])∧Gr w w':=by
 obtain ⟨L,hr,hL⟩:=yg3 runJ2
 have:=(ze7 sysN ya7 hr (X:=zF1 []) ⟨ht,hm⟩ (okF2 (okq 12 1 0 0 w) (okq 12 1 0 0 w)) hL)
 rw [show ([.so (.vg [.ci .i64 12 12 12,.ci .i64 1 1 1,.ci .i64 0 0 0,.ci .i64 0 0 0,.cw (za1 0) (some (64,0)),.cw (za1 0) (some (64,0)),.cw (za1 0) (some (64,0))]),.so (.vg [.ci .i64 12 12 12,.ci .i64 1 1 1,.ci .i64 0 0 0,.ci .i64 0 0 0,.cw (za1 0) (some (64,0)),.cw (za1 0) (some (64,0)),.cw (za1 0) (some (64,0))])].map (SV.den (zF1 []))).toArray=#[.agg #[.int .i64 12,.int .i64 1,.int .i64 0,.int .i64 0,.string ⟨(za1 0).toArray⟩,.string ⟨(za1 0).toArray⟩,.string ⟨(za1 0).toArray⟩],.agg #[.int .i64 12,.int .i64 1,.int .i64 0,.int .i64 0,.string ⟨(za1 0).toArray⟩,.string ⟨(za1 0).toArray⟩,.string ⟨(za1 0).toArray⟩]] from rfl,ye4] at this
 refine this.mono fun e w' he=>?_
 obtain ⟨v,X',n,rfl,g,_,hv,hp⟩:=he
 obtain ⟨c1,c2,c3,e,h1,h2,h3⟩:=pJ_ok hp hv
 exact ⟨by rw [e,yr4 h1.1,yr4 h2.1,yr4 h3.1],g⟩
theorem IsRats.open12 {w':World} {vs:List Value} {r0 r1 r2 r3 r4 r5 r6 r7 r8 r9 aT aS:Rat} (h:IsRats w' vs [(64,r0),(64,r1),(64,r2),(64,r3),(64,r4),(64,r5),(64,r6),(64,r7),(64,r8),(64,r9),(64,aT),(64,aS)]):∃ t0 t1 t2 t3 t4 t5 t6 t7 t8 t9 aq aE aA aM aF aK av ae aj aG aw aH aJ ah aP aD al ay af aa aR ac aB ar au az ab aI aO ap aL ax ai ad aQ aN ak aC,vs=[t0,t1,t2,t3,t4,t5,t6,t7,t8,t9,aq,aE,aA,aM,aF,aK,av,ae,aj,aG,aw,aH,aJ,ah,aP,aD,al,ay,af,aa,aR,ac,aB,ar,au,az,ab,aI,aO,ap,aL,ax,ai,ad,aQ,aN,ak,aC]∧IsRat w' 64 t0 t1 t2 t3 r0∧IsRat w' 64 t4 t5 t6 t7 r1∧IsRat w' 64 t8 t9 aq aE r2∧IsRat w' 64 aA aM aF aK r3∧IsRat w' 64 av ae aj aG r4∧IsRat w' 64 aw aH aJ ah r5∧IsRat w' 64 aP aD al ay r6∧IsRat w' 64 af aa aR ac r7∧IsRat w' 64 aB ar au az r8∧IsRat w' 64 ab aI aO ap r9∧IsRat w' 64 aL ax ai ad aT∧IsRat w' 64 aQ aN ak aC aS:=by
 obtain ⟨t0,t1,t2,t3,u0,rfl,h0,g0⟩:=h.cons
 obtain ⟨t4,t5,t6,t7,u1,rfl,h1,g1⟩:=g0.cons
 obtain ⟨t8,t9,aq,aE,u2,rfl,h2,g2⟩:=g1.cons
 obtain ⟨aA,aM,aF,aK,u3,rfl,h3,g3⟩:=g2.cons
 obtain ⟨av,ae,aj,aG,u4,rfl,h4,g4⟩:=g3.cons
 obtain ⟨aw,aH,aJ,ah,u5,rfl,h5,g5⟩:=g4.cons
 obtain ⟨aP,aD,al,ay,u6,rfl,h6,g6⟩:=g5.cons
 obtain ⟨af,aa,aR,ac,u7,rfl,h7,g7⟩:=g6.cons
 obtain ⟨aB,ar,au,az,u8,rfl,h8,g8⟩:=g7.cons
 obtain ⟨ab,aI,aO,ap,u9,rfl,h9,g9⟩:=g8.cons
 obtain ⟨aL,ax,ai,ad,aZ,rfl,aX,aU⟩:=g9.cons
 obtain ⟨aQ,aN,ak,aC,aY,rfl,aW,aV⟩:=aU.cons
 obtain rfl:=aV.nil
 exact ⟨t0,t1,t2,t3,t4,t5,t6,t7,t8,t9,aq,aE,aA,aM,aF,aK,av,ae,aj,aG,aw,aH,aJ,ah,aP,aD,al,ay,af,aa,aR,ac,aB,ar,au,az,ab,aI,aO,ap,aL,ax,ai,ad,aQ,aN,ak,aC,rfl,h0,h1,h2,h3,h4,h5,h6,h7,h8,h9,aX,aW⟩
theorem vk1:VT 1 0 0 1:=⟨by decide,by decide,by decide,by decide,by decide+kernel,by decide+kernel⟩
theorem mof_k1 (w:World) (hm:Mx w) (ht:Tab w):
  Calls Tryz.prog 14 #[.agg #[.int .i64 1,.int .i64 0,.int .i64 0,.int .i64 1,.string ⟨([48]:List UInt8).toArray⟩,.string ⟨([48]:List UInt8).toArray⟩,.string ⟨([48]:List UInt8).toArray⟩]] w fun e w'=>(∃ t0 t1 t2 t3 t4 t5 t6 t7 t8 t9 ax aB ar aD aG av aQ au aa aK aR aj ap aM aJ az ak ae aE ab aL af ay aI aO aq ad al aH aw aC ac aN ai aP aF ah aA,e=.returned (.tuple #[.agg #[t0,t1,t2,t3,t4,t5,t6,t7,t8,t9,ax,aB,ar,aD,aG,av,aQ,au,aa,aK,aR,aj,ap,aM,aJ,az,ak,ae,aE,ab,aL,af,ay,aI,aO,aq,ad,al,aH,aw,aC,ac,aN,ai,aP,aF,ah,aA],.int .i64 0])∧IsRat w' 64 t0 t1 t2 t3 0∧IsRat w' 64 t4 t5 t6 t7 (-1)∧IsRat w' 64 t8 t9 ax aB 0∧IsRat w' 64 ar aD aG av 1∧IsRat w' 64 aQ au aa aK 0∧IsRat w' 64 aR aj ap aM 0∧IsRat w' 64 aJ az ak ae 0∧IsRat w' 64 aE ab aL af 0∧IsRat w' 64 ay aI aO aq 1∧IsRat w' 64 ad al aH aw 0∧IsRat w' 64 aC ac aN ai 0∧IsRat w' 64 aP aF ah aA 0)∧Gr w w':=by
 have z:RS 64 (0:Rat):=⟨Nat.two_pow_pos _,Nat.one_lt_two_pow (by decide)⟩
 have:=of_c vk1 z z z w ⟨ht,hm⟩
 rw [ye4,show oList 1 0 0 1 0 0 0=[(64,0),(64,(-1)),(64,0),(64,1),(64,0),(64,0),(64,0),(64,0),(64,1),(64,0),(64,0),(64,0)] by decide+kernel] at this
 refine this.mono fun e w' he=>?_
 obtain ⟨⟨vs,rfl,h⟩,g⟩:=he
 obtain ⟨t0,t1,t2,t3,t4,t5,t6,t7,t8,t9,ax,aB,ar,aD,aG,av,aQ,au,aa,aK,aR,aj,ap,aM,aJ,az,ak,ae,aE,ab,aL,af,ay,aI,aO,aq,ad,al,aH,aw,aC,ac,aN,ai,aP,aF,ah,aA,rfl,k⟩:=h.open12
 exact ⟨⟨t0,t1,t2,t3,t4,t5,t6,t7,t8,t9,ax,aB,ar,aD,aG,av,aQ,au,aa,aK,aR,aj,ap,aM,aJ,az,ak,ae,aE,ab,aL,af,ay,aI,aO,aq,ad,al,aH,aw,aC,ac,aN,ai,aP,aF,ah,aA,rfl,k⟩,g⟩
theorem vk2:VT 2 1 0 0:=⟨by decide,by decide,by decide,by decide,by decide+kernel,by decide+kernel⟩
theorem mof_k2 (w:World) (hm:Mx w) (ht:Tab w):
  Calls Tryz.prog 14 #[.agg #[.int .i64 2,.int .i64 1,.int .i64 0,.int .i64 0,.string ⟨([48]:List UInt8).toArray⟩,.string ⟨([48]:List UInt8).toArray⟩,.string ⟨([48]:List UInt8).toArray⟩]] w fun e w'=>(∃ t0 t1 t2 t3 t4 t5 t6 t7 t8 t9 ax aB ar aD aG av aQ au aa aK aR aj ap aM aJ az ak ae aE ab aL af ay aI aO aq ad al aH aw aC ac aN ai aP aF ah aA,e=.returned (.tuple #[.agg #[t0,t1,t2,t3,t4,t5,t6,t7,t8,t9,ax,aB,ar,aD,aG,av,aQ,au,aa,aK,aR,aj,ap,aM,aJ,az,ak,ae,aE,ab,aL,af,ay,aI,aO,aq,ad,al,aH,aw,aC,ac,aN,ai,aP,aF,ah,aA],.int .i64 0])∧IsRat w' 64 t0 t1 t2 t3 1∧IsRat w' 64 t4 t5 t6 t7 0∧IsRat w' 64 t8 t9 ax aB 0∧IsRat w' 64 ar aD aG av 0∧IsRat w' 64 aQ au aa aK (3/5)∧IsRat w' 64 aR aj ap aM (-4/5)∧IsRat w' 64 aJ az ak ae 0∧IsRat w' 64 aE ab aL af (4/5)∧IsRat w' 64 ay aI aO aq (3/5)∧IsRat w' 64 ad al aH aw 0∧IsRat w' 64 aC ac aN ai 0∧IsRat w' 64 aP aF ah aA 0)∧Gr w w':=by
 have z:RS 64 (0:Rat):=⟨Nat.two_pow_pos _,Nat.one_lt_two_pow (by decide)⟩
 have:=of_c vk2 z z z w ⟨ht,hm⟩
 rw [ye4,show oList 2 1 0 0 0 0 0=[(64,1),(64,0),(64,0),(64,0),(64,(3/5)),(64,(-4/5)),(64,0),(64,(4/5)),(64,(3/5)),(64,0),(64,0),(64,0)] by decide+kernel] at this
 refine this.mono fun e w' he=>?_
 obtain ⟨⟨vs,rfl,h⟩,g⟩:=he
 obtain ⟨t0,t1,t2,t3,t4,t5,t6,t7,t8,t9,ax,aB,ar,aD,aG,av,aQ,au,aa,aK,aR,aj,ap,aM,aJ,az,ak,ae,aE,ab,aL,af,ay,aI,aO,aq,ad,al,aH,aw,aC,ac,aN,ai,aP,aF,ah,aA,rfl,k⟩:=h.open12
 exact ⟨⟨t0,t1,t2,t3,t4,t5,t6,t7,t8,t9,ax,aB,ar,aD,aG,av,aQ,au,aa,aK,aR,aj,ap,aM,aJ,az,ak,ae,aE,ab,aL,af,ay,aI,aO,aq,ad,al,aH,aw,aC,ac,aN,ai,aP,aF,ah,aA,rfl,k⟩,g⟩
theorem runA (r0 r1 r2 r3 r4 r5 r6 r7 r8 r9 aa ab v1 v2 v3:Rat):zP0 sysN 43 [.so (.vg [.cr 0 0 64 r0,.cr 0 1 64 r0,.cr 0 2 64 r0,.cr 0 3 64 r0,.cr 1 0 64 r1,.cr 1 1 64 r1,.cr 1 2 64 r1,.cr 1 3 64 r1,.cr 2 0 64 r2,.cr 2 1 64 r2,.cr 2 2 64 r2,.cr 2 3 64 r2,.cr 3 0 64 r3,.cr 3 1 64 r3,.cr 3 2 64 r3,.cr 3 3 64 r3,.cr 4 0 64 r4,.cr 4 1 64 r4,.cr 4 2 64 r4,.cr 4 3 64 r4,.cr 5 0 64 r5,.cr 5 1 64 r5,.cr 5 2 64 r5,.cr 5 3 64 r5,.cr 6 0 64 r6,.cr 6 1 64 r6,.cr 6 2 64 r6,.cr 6 3 64 r6,.cr 7 0 64 r7,.cr 7 1 64 r7,.cr 7 2 64 r7,.cr 7 3 64 r7,.cr 8 0 64 r8,.cr 8 1 64 r8,.cr 8 2 64 r8,.cr 8 3 64 r8,.cr 9 0 64 r9,.cr 9 1 64 r9,.cr 9 2 64 r9,.cr 9 3 64 r9,.cr 10 0 64 aa,.cr 10 1 64 aa,.cr 10 2 64 aa,.cr 10 3 64 aa,.cr 11 0 64 ab,.cr 11 1 64 ab,.cr 11 2 64 ab,.cr 11 3 64 ab]),.so (.vg [.cr 12 0 64 v1,.cr 12 1 64 v1,.cr 12 2 64 v1,.cr 12 3 64 v1,.cr 13 0 64 v2,.cr 13 1 64 v2,.cr 13 2 64 v2,.cr 13 3 64 v2,.cr 14 0 64 v3,.cr 14 1 64 v3,.cr 14 2 64 v3,.cr 14 3 64 v3])] 15 0 .e=some (.ret (.so (.vg (rowC [33,34,35] [(516,0+r0*v1+r1*v2+r2*v3+r9),(516,0+r3*v1+r4*v2+r5*v3+aa),(516,0+r6*v1+r7*v2+r8*v3+ab)])))):=by kernel_rfl
theorem mapply64 {c0 c1 c2 c3 c4 c5 c6 c7 c8 c9 ba aU a8 aG aF bb aM aT aD aJ aZ aq au aA al av aQ aB aP aN bc a6 aK a7 ai aO ay aY a2 aE aw a0 ar ap aR aV aH aS aL aI aW ax a5 aX a4 a3 ak a9 az aj:Value} {r0 r1 r2 r3 r4 r5 r6 r7 r8 r9 ae ad v1 v2 v3:Rat} {w:World} (h0:IsRat w 64 c0 c1 c2 c3 r0) (h1:IsRat w 64 c4 c5 c6 c7 r1) (h2:IsRat w 64 c8 c9 ba aU r2) (h3:IsRat w 64 a8 aG aF bb r3) (h4:IsRat w 64 aM aT aD aJ r4) (h5:IsRat w 64 aZ aq au aA r5) (h6:IsRat w 64 al av aQ aB r6) (h7:IsRat w 64 aP aN bc a6 r7) (h8:IsRat w 64 aK a7 ai aO r8) (h9:IsRat w 64 ay aY a2 aE r9) (ah:IsRat w 64 aw a0 ar ap ae) (af:IsRat w 64 aR aV aH aS ad) (ab:IsRat w 64 aL aI aW ax v1) (aa:IsRat w 64 a5 aX a4 a3 v2) (ac:IsRat w 64 ak a9 az aj v3) (ht:Tab w) (hm:Mx w):
  Calls Tryz.prog 43 #[.agg #[c0,c1,c2,c3,c4,c5,c6,c7,c8,c9,ba,aU,a8,aG,aF,bb,aM,aT,aD,aJ,aZ,aq,au,aA,al,av,aQ,aB,aP,aN,bc,a6,aK,a7,ai,aO,ay,aY,a2,aE,aw,a0,ar,ap,aR,aV,aH,aS],.agg #[aL,aI,aW,ax,a5,aX,a4,a3,ak,a9,az,aj]] w fun e w'=>(∃ t0 t1 t2 t3 t4 t5 t6 t7 t8 t9 a1 aC,e=.returned (.agg #[t0,t1,t2,t3,t4,t5,t6,t7,t8,t9,a1,aC])∧IsRat w' 516 t0 t1 t2 t3 ((0+r0*v1+r1*v2+r2*v3)+r9)∧IsRat w' 516 t4 t5 t6 t7 ((0+r3*v1+r4*v2+r5*v3)+ae)∧IsRat w' 516 t8 t9 a1 aC ((0+r6*v1+r7*v2+r8*v3)+ad))∧Gr w w':=by
 refine (ze7 sysN ya7 (runA r0 r1 r2 r3 r4 r5 r6 r7 r8 r9 ae ad v1 v2 v3) (X:=zF1 [c0,c1,c2,c3,c4,c5,c6,c7,c8,c9,ba,aU,a8,aG,aF,bb,aM,aT,aD,aJ,aZ,aq,au,aA,al,av,aQ,aB,aP,aN,bc,a6,aK,a7,ai,aO,ay,aY,a2,aE,aw,a0,ar,ap,aR,aV,aH,aS,aL,aI,aW,ax,a5,aX,a4,a3,ak,a9,az,aj]) ⟨ht,hm⟩ (okF2 (zi1 ⟨⟨rfl,h0⟩,⟨rfl,h0⟩,⟨rfl,h0⟩,⟨rfl,h0⟩,⟨rfl,h1⟩,⟨rfl,h1⟩,⟨rfl,h1⟩,⟨rfl,h1⟩,⟨rfl,h2⟩,⟨rfl,h2⟩,⟨rfl,h2⟩,⟨rfl,h2⟩,⟨rfl,h3⟩,⟨rfl,h3⟩,⟨rfl,h3⟩,⟨rfl,h3⟩,⟨rfl,h4⟩,⟨rfl,h4⟩,⟨rfl,h4⟩,⟨rfl,h4⟩,⟨rfl,h5⟩,⟨rfl,h5⟩,⟨rfl,h5⟩,⟨rfl,h5⟩,⟨rfl,h6⟩,⟨rfl,h6⟩,⟨rfl,h6⟩,⟨rfl,h6⟩,⟨rfl,h7⟩,⟨rfl,h7⟩,⟨rfl,h7⟩,⟨rfl,h7⟩,⟨rfl,h8⟩,⟨rfl,h8⟩,⟨rfl,h8⟩,⟨rfl,h8⟩,⟨rfl,h9⟩,⟨rfl,h9⟩,⟨rfl,h9⟩,⟨rfl,h9⟩,⟨rfl,ah⟩,⟨rfl,ah⟩,⟨rfl,ah⟩,⟨rfl,ah⟩,⟨rfl,af⟩,⟨rfl,af⟩,⟨rfl,af⟩,⟨rfl,af⟩,trivial⟩) (zi1 ⟨⟨rfl,ab⟩,⟨rfl,ab⟩,⟨rfl,ab⟩,⟨rfl,ab⟩,⟨rfl,aa⟩,⟨rfl,aa⟩,⟨rfl,aa⟩,⟨rfl,aa⟩,⟨rfl,ac⟩,⟨rfl,ac⟩,⟨rfl,ac⟩,⟨rfl,ac⟩,trivial⟩)) (Post:=fun v=>zy7 v=some [(516,0+r0*v1+r1*v2+r2*v3+r9),(516,0+r3*v1+r4*v2+r5*v3+ae),(516,0+r6*v1+r7*v2+r8*v3+ad)]) rfl).mono fun e w' he=>?_
 obtain ⟨v,X',n,rfl,g,_,hv,hr⟩:=he
 obtain ⟨vs,e1,h⟩:=zj9 hr hv
 obtain ⟨t0,t1,t2,t3,u0,rfl,h0,g0⟩:=h.cons
 obtain ⟨t4,t5,t6,t7,u1,rfl,h1,g1⟩:=g0.cons
 obtain ⟨t8,t9,a1,aC,u2,rfl,h2,g2⟩:=g1.cons
 obtain rfl:=g2.nil
 exact ⟨⟨_,_,_,_,_,_,_,_,_,_,_,_,by rw [e1],h0,h1,h2⟩,g⟩
def EQ4 (_:World) (z:Int × Int × Int × Int) (vs:List Value):Prop:=vs=[.int .i64 z.1,.int .i64 z.2.1,.int .i64 z.2.2.1,.int .i64 z.2.2.2]
theorem zl8:Stab EQ4 []:=fun _ _ _ _ _ h=>h
def qAt (n:Nat):Int × Int × Int × Int:=((n:Int)/27 - 1,(n:Int)/9 % 3 - 1,(n:Int)/3 % 3 - 1,(n:Int) % 3 - 1)
def qSq (z:Int × Int × Int × Int):Int:=0+z.1*z.1+z.2.1*z.2.1+z.2.2.1*z.2.2.1+z.2.2.2*z.2.2.2
def qOk (z:Int × Int × Int × Int):Bool:=(qSq z !=3)&&(chk z.1 z.2.1 z.2.2.1 z.2.2.2 0==0)
def zI4 (n:Nat):List (Int × Int × Int × Int):=((List.range n).map qAt).filter qOk
theorem yw3 {n:Nat} {z:Int × Int × Int × Int} (hz:qAt n=z) (h:qOk z=true):zI4 (n+1)=zI4 n++[z]:=by
 unfold zI4
 rw [List.range_succ,List.map_append,List.filter_append,List.map_cons,List.map_nil,hz]
 simp [h]
theorem yj2 {n:Nat} {z:Int × Int × Int × Int} (hz:qAt n=z) (h:qOk z=false):zI4 (n+1)=zI4 n:=by
 unfold zI4
 rw [List.range_succ,List.map_append,List.filter_append,List.map_cons,List.map_nil,hz]
 simp [h]
theorem yw4 (n:Nat):(zI4 n).length≤n:=by
 unfold zI4
 refine Nat.le_trans (List.length_filter_le ..) ?_
 simp
def quarters:List (Int × Int × Int × Int):=zI4 81
theorem zC8:quarters.length=24:=by decide+kernel
theorem mcheck0 {q0 q1 q2 q3:Int} (j0:-12≤q0∧q0≤12) (j1:-12≤q1∧q1≤12) (j2:-12≤q2∧q2≤12) (j3:-12≤q3∧q3≤12) (w:World) (hm:Mx w):
  Calls Tryz.prog 15 #[.agg #[.int .i64 q0,.int .i64 q1,.int .i64 q2,.int .i64 q3,.string ⟨([48]:List UInt8).toArray⟩,.string ⟨([48]:List UInt8).toArray⟩,.string ⟨([48]:List UInt8).toArray⟩]] w fun e w'=>e=.returned (.int .i64 (chk q0 q1 q2 q3 0))∧Gr w w':=by
 have z:RS 64 (0:Rat):=⟨Nat.two_pow_pos _,Nat.one_lt_two_pow (by decide)⟩
 have:=yr7 j0 j1 j2 j3 0 0 0 z z z w hm
 rw [ye4] at this
 exact this
set_option maxRecDepth 100000 in
set_option maxHeartbeats 4000000 in
theorem yq9 (w:World) (hm:Mx w):
    Calls Tryz.prog 50 #[] w fun e w'=>(∃ v,e=.returned v∧Sl EQ4 22 4 w' v quarters)∧Gr w w':=by
 go_enter Tryz.func50,Tryz.ntmps50
 have hB:=Gr.refl w
 refine wp_seq_k (fun K1 k1=>?_)
 refine rg [0] ?_
 refine sv 0 (.slice none 0 0) ?_
 refine za0 ?_
 refine k1 _ _ ?_
 try clear k1 K1
 refine wp_seq_k (fun K2 k2=>?_)
 refine rg [0] ?_
 refine sv 1 (.slice none 0 0) ?_
 refine za0 ?_
 refine k2 _ _ ?_
 try clear k2 K2
 refine wp_seq_k (fun K3 k3=>?_)
 refine wp_seq_k (fun K4 k4=>?_)
 refine rg [0] ?_
 refine sv 7 (.int .i64 0) ?_
 refine za0 ?_
 refine k4 _ _ ?_
 try clear k4 K4
 refine wp_block ?_
 refine zm9 (a:=⟨List.toArray ?l5,[]⟩) (fun n a w'=>∃ (v:Value) (nn:Nat) (u5:Nat→Value),81 - nn=n∧a=⟨[.slice none 0 0,v,(u5 2),(u5 3),(u5 4),undef,(u5 6),(.int .i64 ((nn:Int))),(u5 8),(u5 9),(u5 10),(u5 11),(u5 12),(u5 13),(u5 14),(u5 15),(u5 16),(u5 17),(u5 18),(u5 19),(u5 20),(u5 21),(u5 22),(u5 23),(u5 24),(u5 25),(u5 26),(u5 27),(u5 28),(u5 29),(u5 30),(u5 31),(u5 32),(u5 33),(u5 34),(u5 35),(u5 36),(u5 37),(u5 38),(u5 39),(u5 40),(u5 41),(u5 42),(u5 43),(u5 44),(u5 45),(u5 46),(u5 47),(u5 48),undef].toArray,[]⟩∧nn≤81∧Ow EQ4 22 4 w' w.heap.size v (zI4 nn)∧Gr w w') (81 - 0) ?_ ?_
 ·exact ⟨_,0,(fun i=>List.getD ?l5 i undef),rfl,rfl,(by omega),(Ow.nil _ _ _ _ _),hB⟩
 rintro n5 a5 w5 ⟨v,nn,u5,rfl,rfl,hnn,hv,hB⟩ K5 k5
 refine wp_seq_k (fun K6 k6=>?_)
 refine rg [0] ?_
 refine sv 8 (.bool (decide ((nn:Int)<(81:Int)))) ?_
 refine za0 ?_
 refine k6 _ _ ?_
 try clear k6 K6
 refine wp_seq_k (fun K7 k7=>?_)
 refine wp_cond_split (t:=decide ((nn:Int)<(81:Int))) rfl (fun ak=>?_) (fun ak=>?_)
 ·have hlt:nn<81:=by have:=of_decide_eq_true ak;omega
  refine wp_skip ?_
  refine k7 _ _ ?_
  try clear k7 K7
  refine wp_seq_k (fun K9 k9=>?_)
  refine wp_block ?_
  refine wp_seq_k (fun bk aO=>?_)
  refine rg [0,1] ?_
  refine sv 9 (.int .i64 ((nn:Int))) ?_
  refine sv 2 (.int .i64 ((nn:Int))) ?_
  refine za0 ?_
  refine aO _ _ ?_
  try clear aO bk
  refine wp_seq_k (fun aX aE=>?_)
  refine rg [0,1,2,3,4,5,6,7,8,9,10,11,12,13,14,15,16] ?_
  refine sv 10 (.int .i64 ((nn:Int))) ?_
  refine sw 11 (.int .i64 (((nn:Int)/27))) rfl (yz5 3 3 _ _ (nn:Int) 27 ((nn:Int)/27) rfl rfl rfl (Int.tdiv_eq_ediv_of_nonneg (by omega)) (by omega) (by omega) (by omega)) ?_
  refine sw 12 (.int .i64 ((((nn:Int)/27) - 1))) rfl (RunV.int (x:=IntKind.i64.wrap ((((nn:Int)/27) - 1))) (y:=(((nn:Int)/27) - 1)) (rvk (by kernel_rfl)) (by first | rfl | (rw [IntKind.wrap_i64];omega))) ?_
  refine sv 13 (.int .i64 ((nn:Int))) ?_
  refine sw 14 (.int .i64 (((nn:Int)/9))) rfl (yz5 3 3 _ _ (nn:Int) 9 ((nn:Int)/9) rfl rfl rfl (Int.tdiv_eq_ediv_of_nonneg (by omega)) (by omega) (by omega) (by omega)) ?_
  refine sw 15 (.int .i64 ((((nn:Int)/9) % 3))) rfl (RunV.int (x:=Int.tmod (((nn:Int)/9)) 3) (y:=((nn:Int)/9) % 3) (rvk (by kernel_rfl)) (by rw [Int.tmod_eq_emod_of_nonneg (by first | omega | exact Int.natCast_nonneg _)])) ?_
  refine sw 16 (.int .i64 (((((nn:Int)/9) % 3) - 1))) rfl (RunV.int (x:=IntKind.i64.wrap (((((nn:Int)/9) % 3) - 1))) (y:=((((nn:Int)/9) % 3) - 1)) (rvk (by kernel_rfl)) (by first | rfl | (rw [IntKind.wrap_i64];omega))) ?_
  refine sv 17 (.int .i64 ((nn:Int))) ?_
  refine sw 18 (.int .i64 (((nn:Int)/3))) rfl (yz5 3 3 _ _ (nn:Int) 3 ((nn:Int)/3) rfl rfl rfl (Int.tdiv_eq_ediv_of_nonneg (by omega)) (by omega) (by omega) (by omega)) ?_
  refine sw 19 (.int .i64 ((((nn:Int)/3) % 3))) rfl (RunV.int (x:=Int.tmod (((nn:Int)/3)) 3) (y:=((nn:Int)/3) % 3) (rvk (by kernel_rfl)) (by rw [Int.tmod_eq_emod_of_nonneg (by first | omega | exact Int.natCast_nonneg _)])) ?_
  refine sw 20 (.int .i64 (((((nn:Int)/3) % 3) - 1))) rfl (RunV.int (x:=IntKind.i64.wrap (((((nn:Int)/3) % 3) - 1))) (y:=((((nn:Int)/3) % 3) - 1)) (rvk (by kernel_rfl)) (by first | rfl | (rw [IntKind.wrap_i64];omega))) ?_
  refine sv 21 (.int .i64 ((nn:Int))) ?_
  refine sw 22 (.int .i64 (((nn:Int) % 3))) rfl (RunV.int (x:=Int.tmod ((nn:Int)) 3) (y:=(nn:Int) % 3) (rvk (by kernel_rfl)) (by rw [Int.tmod_eq_emod_of_nonneg (by first | omega | exact Int.natCast_nonneg _)])) ?_
  refine sw 23 (.int .i64 ((((nn:Int) % 3) - 1))) rfl (RunV.int (x:=IntKind.i64.wrap ((((nn:Int) % 3) - 1))) (y:=(((nn:Int) % 3) - 1)) (rvk (by kernel_rfl)) (by first | rfl | (rw [IntKind.wrap_i64];omega))) ?_
  refine sv 24 (.agg #[(.int .i64 ((((nn:Int)/27) - 1))),(.int .i64 (((((nn:Int)/9) % 3) - 1))),(.int .i64 (((((nn:Int)/3) % 3) - 1))),(.int .i64 ((((nn:Int) % 3) - 1)))]) ?_
  refine se ?_
  refine ea 22 #[.int .i64 0,.int .i64 0,.int .i64 0,.int .i64 0] 3 hB fun bv bx aj ac aY q12 hB=>?_
  have aa:=hv.ne aY
  simp only [p3,p4]
  refine se ?_
  have ad:=ac
  refine es 22 0 (.agg #[(.int .i64 ((((nn:Int)/27) - 1))),(.int .i64 (((((nn:Int)/9) % 3) - 1))),(.int .i64 (((((nn:Int)/3) % 3) - 1))),(.int .i64 ((((nn:Int) % 3) - 1)))]) [(.int .i64 ((((nn:Int)/27) - 1))),(.int .i64 (((((nn:Int)/9) % 3) - 1))),(.int .i64 (((((nn:Int)/3) % 3) - 1))),(.int .i64 ((((nn:Int) % 3) - 1)))] #[(.int .i64 ((((nn:Int)/27) - 1))),(.int .i64 (((((nn:Int)/9) % 3) - 1))),(.int .i64 (((((nn:Int)/3) % 3) - 1))),(.int .i64 ((((nn:Int) % 3) - 1)))] ac hB q12 ⟨rfl,rfl,rfl,rfl,trivial⟩ fun bF ab a3 ac hB=>?_
  refine za0 ?_
  refine aE _ _ ?_
  try clear aE aX
  refine wp_seq_k (fun bt aF=>?_)
  generalize bf:((((nn:Int)/27) - 1):Int)=qx0 at*
  generalize bn:(((((nn:Int)/9) % 3) - 1):Int)=qx1 at*
  generalize a2:(((((nn:Int)/3) % 3) - 1):Int)=qx2 at*
  generalize a9:((((nn:Int) % 3) - 1):Int)=qx3 at*
  have bG:-1≤qx0∧qx0≤1:=by omega
  have bz:=zD7 (a:=qx0) (b:=1) (by omega) (by omega)
  have bJ:-1≤qx1∧qx1≤1:=by omega
  have bH:=zD7 (a:=qx1) (b:=1) (by omega) (by omega)
  have bD:-1≤qx2∧qx2≤1:=by omega
  have bL:=zD7 (a:=qx2) (b:=1) (by omega) (by omega)
  have bw:-1≤qx3∧qx3≤1:=by omega
  have bA:=zD7 (a:=qx3) (b:=1) (by omega) (by omega)
  have hqa:qAt nn=(qx0,qx1,qx2,qx3):=by unfold qAt;rw [bf,bn,a2,a9]
  refine rg [0] ?_
  refine sv 4 (.int .i64 0) ?_
  refine za0 ?_
  refine aF _ _ ?_
  try clear aF bt
  refine wp_seq_k (fun bq ar=>?_)
  refine wp_seq_k (fun aV az=>?_)
  refine rg [0,1] ?_
  refine sw 25 (.agg #[(.int .i64 (qx0)),(.int .i64 (qx1)),(.int .i64 (qx2)),(.int .i64 (qx3))]) rfl (rl 22 0 [(.int .i64 (qx0)),(.int .i64 (qx1)),(.int .i64 (qx2)),(.int .i64 (qx3))] ac) ?_
  refine sv 26 (.int .i64 0) ?_
  refine za0 ?_
  refine az _ _ ?_
  try clear az aV
  refine wp_block ?_
  refine wp_loop_rounds 6 ?_
  show Code.wp _ _ _ _ _
  refine wp_seq_k (fun bb aK=>?_)
  refine rg [0] ?_
  refine sv 27 (.bool true) ?_
  refine za0 ?_
  refine aK _ _ ?_
  try clear aK bb
  refine wp_seq_k (fun a8 aI=>?_)
  refine wp_cond_true rfl ?_
  refine wp_skip ?_
  refine aI _ _ ?_
  try clear aI a8
  refine wp_seq_k (fun bg aw=>?_)
  refine wp_block ?_
  refine wp_seq_k (fun bh aC=>?_)
  refine rg [0,1] ?_
  refine sv 28 (.int .i64 (qx0)) ?_
  refine sv 6 (.int .i64 (qx0)) ?_
  refine za0 ?_
  refine aC _ _ ?_
  try clear aC bh
  refine rg [0,1,2,3,4,5] ?_
  refine sv 29 (.int .i64 0) ?_
  refine sv 30 (.int .i64 (qx0)) ?_
  refine sv 31 (.int .i64 (qx0)) ?_
  refine sw 32 (.int .i64 ((qx0*qx0))) rfl (RunV.int (x:=IntKind.i64.wrap ((qx0*qx0))) (y:=(qx0*qx0)) (rvk (by kernel_rfl)) (by first | rfl | (rw [IntKind.wrap_i64];omega))) ?_
  refine sw 33 (.int .i64 ((0+(qx0*qx0)))) rfl (RunV.int (x:=IntKind.i64.wrap ((0+(qx0*qx0)))) (y:=(0+(qx0*qx0))) (rvk (by kernel_rfl)) (by first | rfl | (rw [IntKind.wrap_i64];omega))) ?_
  refine sv 4 (.int .i64 ((0+(qx0*qx0)))) ?_
  refine za0 ?_
  refine aw _ _ ?_
  try clear aw bg
  refine rg [0,1] ?_
  refine sv 34 (.int .i64 1) ?_
  refine sv 26 (.int .i64 1) ?_
  refine za0 ?_
  show Code.rounds _ _ _ _ _ _
  show Code.wp _ _ _ _ _
  refine wp_seq_k (fun aT aG=>?_)
  refine rg [0] ?_
  refine sv 27 (.bool true) ?_
  refine za0 ?_
  refine aG _ _ ?_
  try clear aG aT
  refine wp_seq_k (fun aW aD=>?_)
  refine wp_cond_true rfl ?_
  refine wp_skip ?_
  refine aD _ _ ?_
  try clear aD aW
  refine wp_seq_k (fun bi aH=>?_)
  refine wp_block ?_
  refine wp_seq_k (fun a7 aQ=>?_)
  refine rg [0,1] ?_
  refine sv 28 (.int .i64 (qx1)) ?_
  refine sv 6 (.int .i64 (qx1)) ?_
  refine za0 ?_
  refine aQ _ _ ?_
  try clear aQ a7
  refine rg [0,1,2,3,4,5] ?_
  refine sv 29 (.int .i64 ((0+(qx0*qx0)))) ?_
  refine sv 30 (.int .i64 (qx1)) ?_
  refine sv 31 (.int .i64 (qx1)) ?_
  refine sw 32 (.int .i64 ((qx1*qx1))) rfl (RunV.int (x:=IntKind.i64.wrap ((qx1*qx1))) (y:=(qx1*qx1)) (rvk (by kernel_rfl)) (by first | rfl | (rw [IntKind.wrap_i64];omega))) ?_
  refine sw 33 (.int .i64 (((0+(qx0*qx0))+(qx1*qx1)))) rfl (RunV.int (x:=IntKind.i64.wrap (((0+(qx0*qx0))+(qx1*qx1)))) (y:=((0+(qx0*qx0))+(qx1*qx1))) (rvk (by kernel_rfl)) (by first | rfl | (rw [IntKind.wrap_i64];omega))) ?_
  refine sv 4 (.int .i64 (((0+(qx0*qx0))+(qx1*qx1)))) ?_
  refine za0 ?_
  refine aH _ _ ?_
  try clear aH bi
  refine rg [0,1] ?_
  refine sv 34 (.int .i64 2) ?_
  refine sv 26 (.int .i64 2) ?_
  refine za0 ?_
  show Code.rounds _ _ _ _ _ _
  show Code.wp _ _ _ _ _
  refine wp_seq_k (fun bm aL=>?_)
  refine rg [0] ?_
  refine sv 27 (.bool true) ?_
  refine za0 ?_
  refine aL _ _ ?_
  try clear aL bm
  refine wp_seq_k (fun a6 aP=>?_)
  refine wp_cond_true rfl ?_
  refine wp_skip ?_
  refine aP _ _ ?_
  try clear aP a6
  refine wp_seq_k (fun bj av=>?_)
  refine wp_block ?_
  refine wp_seq_k (fun a4 aR=>?_)
  refine rg [0,1] ?_
  refine sv 28 (.int .i64 (qx2)) ?_
  refine sv 6 (.int .i64 (qx2)) ?_
  refine za0 ?_
  refine aR _ _ ?_
  try clear aR a4
  refine rg [0,1,2,3,4,5] ?_
  refine sv 29 (.int .i64 (((0+(qx0*qx0))+(qx1*qx1)))) ?_
  refine sv 30 (.int .i64 (qx2)) ?_
  refine sv 31 (.int .i64 (qx2)) ?_
  refine sw 32 (.int .i64 ((qx2*qx2))) rfl (RunV.int (x:=IntKind.i64.wrap ((qx2*qx2))) (y:=(qx2*qx2)) (rvk (by kernel_rfl)) (by first | rfl | (rw [IntKind.wrap_i64];omega))) ?_
  refine sw 33 (.int .i64 ((((0+(qx0*qx0))+(qx1*qx1))+(qx2*qx2)))) rfl (RunV.int (x:=IntKind.i64.wrap ((((0+(qx0*qx0))+(qx1*qx1))+(qx2*qx2)))) (y:=(((0+(qx0*qx0))+(qx1*qx1))+(qx2*qx2))) (rvk (by kernel_rfl)) (by first | rfl | (rw [IntKind.wrap_i64];omega))) ?_
  refine sv 4 (.int .i64 ((((0+(qx0*qx0))+(qx1*qx1))+(qx2*qx2)))) ?_
  refine za0 ?_
  refine av _ _ ?_
  try clear av bj
  refine rg [0,1] ?_
  refine sv 34 (.int .i64 3) ?_
  refine sv 26 (.int .i64 3) ?_
  refine za0 ?_
  show Code.rounds _ _ _ _ _ _
  show Code.wp _ _ _ _ _
  refine wp_seq_k (fun bo ax=>?_)
  refine rg [0] ?_
  refine sv 27 (.bool true) ?_
  refine za0 ?_
  refine ax _ _ ?_
  try clear ax bo
  refine wp_seq_k (fun aZ ay=>?_)
  refine wp_cond_true rfl ?_
  refine wp_skip ?_
  refine ay _ _ ?_
  try clear ay aZ
  refine wp_seq_k (fun a0 aN=>?_)
  refine wp_block ?_
  refine wp_seq_k (fun aS aq=>?_)
  refine rg [0,1] ?_
  refine sv 28 (.int .i64 (qx3)) ?_
  refine sv 6 (.int .i64 (qx3)) ?_
  refine za0 ?_
  refine aq _ _ ?_
  try clear aq aS
  refine rg [0,1,2,3,4,5] ?_
  refine sv 29 (.int .i64 ((((0+(qx0*qx0))+(qx1*qx1))+(qx2*qx2)))) ?_
  refine sv 30 (.int .i64 (qx3)) ?_
  refine sv 31 (.int .i64 (qx3)) ?_
  refine sw 32 (.int .i64 ((qx3*qx3))) rfl (RunV.int (x:=IntKind.i64.wrap ((qx3*qx3))) (y:=(qx3*qx3)) (rvk (by kernel_rfl)) (by first | rfl | (rw [IntKind.wrap_i64];omega))) ?_
  refine sw 33 (.int .i64 (((((0+(qx0*qx0))+(qx1*qx1))+(qx2*qx2))+(qx3*qx3)))) rfl (RunV.int (x:=IntKind.i64.wrap (((((0+(qx0*qx0))+(qx1*qx1))+(qx2*qx2))+(qx3*qx3)))) (y:=((((0+(qx0*qx0))+(qx1*qx1))+(qx2*qx2))+(qx3*qx3))) (rvk (by kernel_rfl)) (by first | rfl | (rw [IntKind.wrap_i64];omega))) ?_
  refine sv 4 (.int .i64 (((((0+(qx0*qx0))+(qx1*qx1))+(qx2*qx2))+(qx3*qx3)))) ?_
  refine za0 ?_
  refine aN _ _ ?_
  try clear aN a0
  refine rg [0,1] ?_
  refine sv 34 (.int .i64 4) ?_
  refine sv 26 (.int .i64 4) ?_
  refine za0 ?_
  show Code.rounds _ _ _ _ _ _
  show Code.wp _ _ _ _ _
  refine wp_seq_k (fun ba au=>?_)
  refine rg [0] ?_
  refine sv 27 (.bool false) ?_
  refine za0 ?_
  refine au _ _ ?_
  try clear au ba
  refine wp_seq_k (fun bC bM=>?_)
  refine wp_cond_false rfl ?_
  refine wp_exit ?_
  simp only [Exit.then,Exit.inBlock,↓reduceIte]
  refine ar _ _ ?_
  try clear ar bq
  refine wp_seq_k (fun aB ai=>?_)
  refine rg [0,1,2,3,4,5,6,7,8] ?_
  refine sv 35 (.int .i64 (((((0+(qx0*qx0))+(qx1*qx1))+(qx2*qx2))+(qx3*qx3)))) ?_
  refine sv 36 (.bool ((((((0+(qx0*qx0))+(qx1*qx1))+(qx2*qx2))+(qx3*qx3)) !=(3:Int)))) ?_
  rcases Bool.eq_false_or_eq_true ((((((0+(qx0*qx0))+(qx1*qx1))+(qx2*qx2))+(qx3*qx3)) !=(3:Int))) with hb37 | hb37
  ·refine sw 37 (.bool true) rfl (RunV.bool (x:=(((((0+(qx0*qx0))+(qx1*qx1))+(qx2*qx2))+(qx3*qx3)) !=(3:Int))) (rvk (by kernel_rfl)) hb37) ?_
   refine sw 38 (.agg #[(.int .i64 (qx0)),(.int .i64 (qx1)),(.int .i64 (qx2)),(.int .i64 (qx3))]) rfl (rl 22 0 [(.int .i64 (qx0)),(.int .i64 (qx1)),(.int .i64 (qx2)),(.int .i64 (qx3))] ac) ?_
   refine sv 39 (.agg #[(.string ⟨([48]:List UInt8).toArray⟩),(.string ⟨([48]:List UInt8).toArray⟩),(.string ⟨([48]:List UInt8).toArray⟩)]) ?_
   refine sv 40 (.agg #[(.int .i64 (qx0)),(.int .i64 (qx1)),(.int .i64 (qx2)),(.int .i64 (qx3)),(.string ⟨([48]:List UInt8).toArray⟩),(.string ⟨([48]:List UInt8).toArray⟩),(.string ⟨([48]:List UInt8).toArray⟩)]) ?_
   refine se ?_
   refine ec 41 (mcheck0 (q0:=qx0) (q1:=qx1) (q2:=qx2) (q3:=qx3) (by omega) (by omega) (by omega) (by omega) _ (hm.gr hB)) ?_
   rintro bE bu ⟨rfl,ah⟩
   refine ⟨_,rfl,?_⟩
   replace hB:=hB.trans ah
   simp only [p3,p4]
   refine sv 42 (.bool ((chk qx0 qx1 qx2 qx3 0==(0:Int)))) ?_
   refine sv 43 (.bool ((chk qx0 qx1 qx2 qx3 0==(0:Int)))) ?_
   refine za0 ?_
   refine ai _ _ ?_
   try clear ai aB
   refine wp_cond_split (t:=(chk qx0 qx1 qx2 qx3 0==(0:Int))) rfl (fun ae=>?_) (fun ae=>?_)
   ·refine rg [0,1,2,3,4] ?_
    refine sv 44 v ?_
    replace ac:=ac.gr ah
    refine sw 45 (.agg #[(.int .i64 (qx0)),(.int .i64 (qx1)),(.int .i64 (qx2)),(.int .i64 (qx3))]) rfl (rl 22 0 [(.int .i64 (qx0)),(.int .i64 (qx1)),(.int .i64 (qx2)),(.int .i64 (qx3))] ac) ?_
    refine se ?_
    refine yh8 22 1 #[(.int .i64 (qx0)),(.int .i64 (qx1)),(.int .i64 (qx2)),(.int .i64 (qx3))] (some 46) rfl (fun _=>by kernel_rfl) (fun bd bB aJ bp a1=>?_)
    replace hv:=((hv.gr zl8 aj).st zl8 ab aa (ab.kts ad (by decide))).gr zl8 ah
    have af:=hv.ne a1
    replace hB:=hB.trans aJ
    simp only [zL2,p3,p4]
    refine se ?_
    replace hv:=hv.gr zl8 aJ
    refine eff_app zl8 _ _ 97 22 w.heap.size (.agg #[.int .i64 0,.int .i64 0,.int .i64 0,.int .i64 0]) v (zI4 nn) bd [(.int .i64 (qx0)),(.int .i64 (qx1)),(.int .i64 (qx2)),(.int .i64 (qx3))] ((qx0,qx1,qx2,qx3):Int × Int × Int × Int) 4 1 (some 47) 32 rfl rfl rfl rfl hv bp ⟨rfl,rfl,rfl,rfl,trivial⟩ rfl rfl w hB (Nat.le_refl _) (Below.size hB) (by have:=yw4 nn;simp;omega) (by decide) (by kernel_rfl) (by kernel_rfl) (by decide) (by decide) (fun aA bK al bc ap=>?_)
    replace hB:=ap
    simp only [zL2,p3,p4]
    refine sv 1 aA ?_
    refine za0 ?_
    refine k9 _ _ ?_
    try clear k9 K9
    refine rg [0,1] ?_
    refine sw 48 (.int .i64 (((nn:Int)+1))) rfl (RunV.int (x:=IntKind.i64.wrap (((nn:Int)+1))) (y:=((nn:Int)+1)) (rvk (by kernel_rfl)) (by first | rfl | (rw [IntKind.wrap_i64];omega))) ?_
    refine sv 7 (.int .i64 (((nn:Int)+1))) ?_
    refine za0 ?_
    refine k5 (81 - (nn+1)) ⟨List.toArray ?l42,[]⟩ _ (by omega) ?_
    exact ⟨aA,nn+1,(fun i=>List.getD ?l42 i undef),rfl,rfl,(by omega),(by rw [yw3 hqa (by unfold qOk qSq;rw [Bool.and_eq_true];exact ⟨hb37,ae⟩)];exact al),hB⟩
   ·refine wp_skip ?_
    refine k9 _ _ ?_
    try clear k9 K9
    refine rg [0,1] ?_
    refine sw 48 (.int .i64 (((nn:Int)+1))) rfl (RunV.int (x:=IntKind.i64.wrap (((nn:Int)+1))) (y:=((nn:Int)+1)) (rvk (by kernel_rfl)) (by first | rfl | (rw [IntKind.wrap_i64];omega))) ?_
    refine sv 7 (.int .i64 (((nn:Int)+1))) ?_
    refine za0 ?_
    replace hv:=((hv.gr zl8 aj).st zl8 ab aa (ab.kts ad (by decide))).gr zl8 ah
    refine k5 (81 - (nn+1)) ⟨List.toArray ?l43,[]⟩ _ (by omega) ?_
    exact ⟨v,nn+1,(fun i=>List.getD ?l43 i undef),rfl,rfl,(by omega),(by rw [yj2 hqa (by unfold qOk qSq;rw [hb37,ae,Bool.and_false])];exact hv),hB⟩
  ·refine sw 37 (.bool false) rfl (RunV.bool (x:=(((((0+(qx0*qx0))+(qx1*qx1))+(qx2*qx2))+(qx3*qx3)) !=(3:Int))) (rvk (by kernel_rfl)) hb37) ?_
   refine ss 38 ?_
   refine ss 39 ?_
   refine ss 40 ?_
   refine ss 41 ?_
   refine ss 42 ?_
   refine sv 43 (.bool false) ?_
   refine za0 ?_
   refine ai _ _ ?_
   try clear ai aB
   refine wp_cond_false rfl ?_
   refine wp_skip ?_
   refine k9 _ _ ?_
   try clear k9 K9
   refine rg [0,1] ?_
   refine sw 48 (.int .i64 (((nn:Int)+1))) rfl (RunV.int (x:=IntKind.i64.wrap (((nn:Int)+1))) (y:=((nn:Int)+1)) (rvk (by kernel_rfl)) (by first | rfl | (rw [IntKind.wrap_i64];omega))) ?_
   refine sv 7 (.int .i64 (((nn:Int)+1))) ?_
   refine za0 ?_
   replace hv:=(hv.gr zl8 aj).st zl8 ab aa (ab.kts ad (by decide))
   refine k5 (81 - (nn+1)) ⟨List.toArray ?l44,[]⟩ _ (by omega) ?_
   exact ⟨v,nn+1,(fun i=>List.getD ?l44 i undef),rfl,rfl,(by omega),(by rw [yj2 hqa (by unfold qOk qSq;rw [hb37,Bool.false_and])];exact hv),hB⟩
 ·have hge:nn=81:=by have:=of_decide_eq_false ak;omega
  refine wp_exit ?_
  simp only [Exit.then,Exit.inBlock,↓reduceIte]
  refine k3 _ _ ?_
  try clear k3 K3
  refine wp_seq_k (fun aU aM=>?_)
  refine rg [0,1] ?_
  refine sv 49 v ?_
  refine sv 0 v ?_
  refine za0 ?_
  refine aM _ _ ?_
  try clear aM aU
  refine wp_ret ?_
  refine bodyPost_ret (v:=v) (zb0 rfl rfl) rfl ⟨?_,hB⟩
  subst hge
  exact ⟨_,rfl,(hv.sl)⟩

end Go.Proofs.YtaldbfflkpgfoaaGreatDoor
