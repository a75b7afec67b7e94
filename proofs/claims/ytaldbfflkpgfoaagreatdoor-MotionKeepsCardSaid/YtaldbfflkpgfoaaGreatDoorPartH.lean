/- Joined of: Gen100, Gen127, Gen128, Law, Law2, Law3, Gen120. -/
import Derived.Test.YtaldbfflkpgfoaaGreatDoorPartG
import Derived.Test.YtaldbfflkpgfoaaGreatDoorPartD
import Derived.Test.YtaldbfflkpgfoaaGreatDoorPartE
import Derived.Test.YtaldbfflkpgfoaaGreatDoorPartC
import Derived.ProofKit
import Derived.Below
import Derived.Deep.DeepHandedRow
import Derived.Lib.LaidTab
import Derived.Stop.LaidErr
import Derived.LaidSub
import Derived.Lay
import Derived.MakeChecks
import Derived.SizedLaws
import Derived.ChangeArms
import Derived.OpenShut
/- Printed by a program of the prover's:the rotations of the cube. -/
namespace Go.Proofs.YtaldbfflkpgfoaaGreatDoor
open Go.RowKit

set_option maxRecDepth 100000 in
set_option maxHeartbeats 4000000 in
theorem mquarters (w:World) (hm:Mx w):
    Calls Tryz.prog 50 #[] w fun e w'=>(∃ v,e=.returned v∧Sl EQ4 22 4 w' v quarters)∧Gr w w':=by
 go_enter Tryz.func50,Tryz.ntmps50
 have hB:=Gr.refl w
 refine wp_seq_k (fun K1 k1=>?_)
 refine rg [0] ?_
 refine sv 0 (.slice none 0 0) ?_
 refine sq_nil ?_
 refine k1 _ _ ?_
 try clear k1 K1
 refine wp_seq_k (fun K2 k2=>?_)
 refine rg [0] ?_
 refine sv 1 (.slice none 0 0) ?_
 refine sq_nil ?_
 refine k2 _ _ ?_
 try clear k2 K2
 refine wp_seq_k (fun K3 k3=>?_)
 refine wp_seq_k (fun K4 k4=>?_)
 refine rg [0] ?_
 refine sv 7 (.int .i64 0) ?_
 refine sq_nil ?_
 refine k4 _ _ ?_
 try clear k4 K4
 refine wp_block ?_
 refine wp_loop_inv (a:=⟨List.toArray ?l5,[]⟩) (fun n a w'=>∃ (v:Value) (nn:Nat) (u5:Nat→Value),81 - nn=n∧a=⟨[(.slice none 0 0),v,(u5 2),(u5 3),(u5 4),undef,(u5 6),(.int .i64 ((nn:Int))),(u5 8),(u5 9),(u5 10),(u5 11),(u5 12),(u5 13),(u5 14),(u5 15),(u5 16),(u5 17),(u5 18),(u5 19),(u5 20),(u5 21),(u5 22),(u5 23),(u5 24),(u5 25),(u5 26),(u5 27),(u5 28),(u5 29),(u5 30),(u5 31),(u5 32),(u5 33),(u5 34),(u5 35),(u5 36),(u5 37),(u5 38),(u5 39),(u5 40),(u5 41),(u5 42),(u5 43),(u5 44),(u5 45),(u5 46),(u5 47),(u5 48),undef].toArray,[]⟩∧nn≤81∧Ow EQ4 22 4 w' w.heap.size v (qUpto nn)∧Gr w w') (81 - 0) ?_ ?_
 ·exact ⟨_,0,(fun i=>List.getD ?l5 i undef),rfl,rfl,(by omega),(Ow.nil _ _ _ _ _),hB⟩
 rintro n5 a5 w5 ⟨v,nn,u5,rfl,rfl,hnn,hv,hB⟩ K5 k5
 refine wp_seq_k (fun K6 k6=>?_)
 refine rg [0] ?_
 refine sv 8 (.bool (decide ((nn:Int)<(81:Int)))) ?_
 refine sq_nil ?_
 refine k6 _ _ ?_
 try clear k6 K6
 refine wp_seq_k (fun K7 k7=>?_)
 refine wp_cond_split (t:=decide ((nn:Int)<(81:Int))) rfl (fun hb8=>?_) (fun hb8=>?_)
 ·have hlt:nn<81:=by have:=of_decide_eq_true hb8;omega
  refine wp_skip ?_
  refine k7 _ _ ?_
  try clear k7 K7
  refine wp_seq_k (fun K9 k9=>?_)
  refine wp_block ?_
  refine wp_seq_k (fun K10 k10=>?_)
  refine rg [0,1] ?_
  refine sv 9 (.int .i64 ((nn:Int))) ?_
  refine sv 2 (.int .i64 ((nn:Int))) ?_
  refine sq_nil ?_
  refine k10 _ _ ?_
  try clear k10 K10
  refine wp_seq_k (fun K11 k11=>?_)
  refine rg [0,1,2,3,4,5,6,7,8,9,10,11,12,13,14,15,16] ?_
  refine sv 10 (.int .i64 ((nn:Int))) ?_
  refine sw 11 (.int .i64 (((nn:Int)/27))) rfl (rv_quo 3 3 _ _ (nn:Int) 27 ((nn:Int)/27) rfl rfl rfl (Int.tdiv_eq_ediv_of_nonneg (by omega)) (by omega) (by omega) (by omega)) ?_
  refine sw 12 (.int .i64 ((((nn:Int)/27) - 1))) rfl (RunV.int (x:=IntKind.i64.wrap ((((nn:Int)/27) - 1))) (y:=(((nn:Int)/27) - 1)) (rvk (by kernel_rfl)) (by first | rfl | (rw [IntKind.wrap_i64];omega))) ?_
  refine sv 13 (.int .i64 ((nn:Int))) ?_
  refine sw 14 (.int .i64 (((nn:Int)/9))) rfl (rv_quo 3 3 _ _ (nn:Int) 9 ((nn:Int)/9) rfl rfl rfl (Int.tdiv_eq_ediv_of_nonneg (by omega)) (by omega) (by omega) (by omega)) ?_
  refine sw 15 (.int .i64 ((((nn:Int)/9) % 3))) rfl (RunV.int (x:=Int.tmod (((nn:Int)/9)) 3) (y:=((nn:Int)/9) % 3) (rvk (by kernel_rfl)) (by rw [Int.tmod_eq_emod_of_nonneg (by first | omega | exact Int.natCast_nonneg _)])) ?_
  refine sw 16 (.int .i64 (((((nn:Int)/9) % 3) - 1))) rfl (RunV.int (x:=IntKind.i64.wrap (((((nn:Int)/9) % 3) - 1))) (y:=((((nn:Int)/9) % 3) - 1)) (rvk (by kernel_rfl)) (by first | rfl | (rw [IntKind.wrap_i64];omega))) ?_
  refine sv 17 (.int .i64 ((nn:Int))) ?_
  refine sw 18 (.int .i64 (((nn:Int)/3))) rfl (rv_quo 3 3 _ _ (nn:Int) 3 ((nn:Int)/3) rfl rfl rfl (Int.tdiv_eq_ediv_of_nonneg (by omega)) (by omega) (by omega) (by omega)) ?_
  refine sw 19 (.int .i64 ((((nn:Int)/3) % 3))) rfl (RunV.int (x:=Int.tmod (((nn:Int)/3)) 3) (y:=((nn:Int)/3) % 3) (rvk (by kernel_rfl)) (by rw [Int.tmod_eq_emod_of_nonneg (by first | omega | exact Int.natCast_nonneg _)])) ?_
  refine sw 20 (.int .i64 (((((nn:Int)/3) % 3) - 1))) rfl (RunV.int (x:=IntKind.i64.wrap (((((nn:Int)/3) % 3) - 1))) (y:=((((nn:Int)/3) % 3) - 1)) (rvk (by kernel_rfl)) (by first | rfl | (rw [IntKind.wrap_i64];omega))) ?_
  refine sv 21 (.int .i64 ((nn:Int))) ?_
  refine sw 22 (.int .i64 (((nn:Int) % 3))) rfl (RunV.int (x:=Int.tmod ((nn:Int)) 3) (y:=(nn:Int) % 3) (rvk (by kernel_rfl)) (by rw [Int.tmod_eq_emod_of_nonneg (by first | omega | exact Int.natCast_nonneg _)])) ?_
  refine sw 23 (.int .i64 ((((nn:Int) % 3) - 1))) rfl (RunV.int (x:=IntKind.i64.wrap ((((nn:Int) % 3) - 1))) (y:=(((nn:Int) % 3) - 1)) (rvk (by kernel_rfl)) (by first | rfl | (rw [IntKind.wrap_i64];omega))) ?_
  refine sv 24 (.agg #[(.int .i64 ((((nn:Int)/27) - 1))),(.int .i64 (((((nn:Int)/9) % 3) - 1))),(.int .i64 (((((nn:Int)/3) % 3) - 1))),(.int .i64 ((((nn:Int) % 3) - 1)))]) ?_
  refine se ?_
  refine ea 22 #[(.int .i64 0),(.int .i64 0),(.int .i64 0),(.int .i64 0)] 3 hB fun b12 w12 g12 L12 o12 q12 hB=>?_
  have no12_hv:=hv.ne o12
  simp only [p3,p4]
  refine se ?_
  have lo13:=L12
  refine es 22 0 (.agg #[(.int .i64 ((((nn:Int)/27) - 1))),(.int .i64 (((((nn:Int)/9) % 3) - 1))),(.int .i64 (((((nn:Int)/3) % 3) - 1))),(.int .i64 ((((nn:Int) % 3) - 1)))]) [(.int .i64 ((((nn:Int)/27) - 1))),(.int .i64 (((((nn:Int)/9) % 3) - 1))),(.int .i64 (((((nn:Int)/3) % 3) - 1))),(.int .i64 ((((nn:Int) % 3) - 1)))] #[(.int .i64 ((((nn:Int)/27) - 1))),(.int .i64 (((((nn:Int)/9) % 3) - 1))),(.int .i64 (((((nn:Int)/3) % 3) - 1))),(.int .i64 ((((nn:Int) % 3) - 1)))] L12 hB q12 ⟨rfl,rfl,rfl,rfl,trivial⟩ fun w13 st13 kp13 L12 hB=>?_
  refine sq_nil ?_
  refine k11 _ _ ?_
  try clear k11 K11
  refine wp_seq_k (fun K14 k14=>?_)
  generalize hq0:((((nn:Int)/27) - 1):Int)=qx0 at*
  generalize hq1:(((((nn:Int)/9) % 3) - 1):Int)=qx1 at*
  generalize hq2:(((((nn:Int)/3) % 3) - 1):Int)=qx2 at*
  generalize hq3:((((nn:Int) % 3) - 1):Int)=qx3 at*
  have bq0:-1≤qx0∧qx0≤1:=by omega
  have sq0:=sq_le (a:=qx0) (b:=1) (by omega) (by omega)
  have bq1:-1≤qx1∧qx1≤1:=by omega
  have sq1:=sq_le (a:=qx1) (b:=1) (by omega) (by omega)
  have bq2:-1≤qx2∧qx2≤1:=by omega
  have sq2:=sq_le (a:=qx2) (b:=1) (by omega) (by omega)
  have bq3:-1≤qx3∧qx3≤1:=by omega
  have sq3:=sq_le (a:=qx3) (b:=1) (by omega) (by omega)
  have hqa:qAt nn=(qx0,qx1,qx2,qx3):=by unfold qAt;rw [hq0,hq1,hq2,hq3]
  refine rg [0] ?_
  refine sv 4 (.int .i64 0) ?_
  refine sq_nil ?_
  refine k14 _ _ ?_
  try clear k14 K14
  refine wp_seq_k (fun K16 k16=>?_)
  refine wp_seq_k (fun K17 k17=>?_)
  refine rg [0,1] ?_
  refine sw 25 (.agg #[(.int .i64 (qx0)),(.int .i64 (qx1)),(.int .i64 (qx2)),(.int .i64 (qx3))]) rfl (rl 22 0 [(.int .i64 (qx0)),(.int .i64 (qx1)),(.int .i64 (qx2)),(.int .i64 (qx3))] L12) ?_
  refine sv 26 (.int .i64 0) ?_
  refine sq_nil ?_
  refine k17 _ _ ?_
  try clear k17 K17
  refine wp_block ?_
  refine wp_loop_rounds 6 ?_
  show Code.wp _ _ _ _ _
  refine wp_seq_k (fun K18 k18=>?_)
  refine rg [0] ?_
  refine sv 27 (.bool true) ?_
  refine sq_nil ?_
  refine k18 _ _ ?_
  try clear k18 K18
  refine wp_seq_k (fun K19 k19=>?_)
  refine wp_cond_true rfl ?_
  refine wp_skip ?_
  refine k19 _ _ ?_
  try clear k19 K19
  refine wp_seq_k (fun K20 k20=>?_)
  refine wp_block ?_
  refine wp_seq_k (fun K21 k21=>?_)
  refine rg [0,1] ?_
  refine sv 28 (.int .i64 (qx0)) ?_
  refine sv 6 (.int .i64 (qx0)) ?_
  refine sq_nil ?_
  refine k21 _ _ ?_
  try clear k21 K21
  refine rg [0,1,2,3,4,5] ?_
  refine sv 29 (.int .i64 0) ?_
  refine sv 30 (.int .i64 (qx0)) ?_
  refine sv 31 (.int .i64 (qx0)) ?_
  refine sw 32 (.int .i64 ((qx0*qx0))) rfl (RunV.int (x:=IntKind.i64.wrap ((qx0*qx0))) (y:=(qx0*qx0)) (rvk (by kernel_rfl)) (by first | rfl | (rw [IntKind.wrap_i64];omega))) ?_
  refine sw 33 (.int .i64 ((0+(qx0*qx0)))) rfl (RunV.int (x:=IntKind.i64.wrap ((0+(qx0*qx0)))) (y:=(0+(qx0*qx0))) (rvk (by kernel_rfl)) (by first | rfl | (rw [IntKind.wrap_i64];omega))) ?_
  refine sv 4 (.int .i64 ((0+(qx0*qx0)))) ?_
  refine sq_nil ?_
  refine k20 _ _ ?_
  try clear k20 K20
  refine rg [0,1] ?_
  refine sv 34 (.int .i64 1) ?_
  refine sv 26 (.int .i64 1) ?_
  refine sq_nil ?_
  show Code.rounds _ _ _ _ _ _
  show Code.wp _ _ _ _ _
  refine wp_seq_k (fun K22 k22=>?_)
  refine rg [0] ?_
  refine sv 27 (.bool true) ?_
  refine sq_nil ?_
  refine k22 _ _ ?_
  try clear k22 K22
  refine wp_seq_k (fun K23 k23=>?_)
  refine wp_cond_true rfl ?_
  refine wp_skip ?_
  refine k23 _ _ ?_
  try clear k23 K23
  refine wp_seq_k (fun K24 k24=>?_)
  refine wp_block ?_
  refine wp_seq_k (fun K25 k25=>?_)
  refine rg [0,1] ?_
  refine sv 28 (.int .i64 (qx1)) ?_
  refine sv 6 (.int .i64 (qx1)) ?_
  refine sq_nil ?_
  refine k25 _ _ ?_
  try clear k25 K25
  refine rg [0,1,2,3,4,5] ?_
  refine sv 29 (.int .i64 ((0+(qx0*qx0)))) ?_
  refine sv 30 (.int .i64 (qx1)) ?_
  refine sv 31 (.int .i64 (qx1)) ?_
  refine sw 32 (.int .i64 ((qx1*qx1))) rfl (RunV.int (x:=IntKind.i64.wrap ((qx1*qx1))) (y:=(qx1*qx1)) (rvk (by kernel_rfl)) (by first | rfl | (rw [IntKind.wrap_i64];omega))) ?_
  refine sw 33 (.int .i64 (((0+(qx0*qx0))+(qx1*qx1)))) rfl (RunV.int (x:=IntKind.i64.wrap (((0+(qx0*qx0))+(qx1*qx1)))) (y:=((0+(qx0*qx0))+(qx1*qx1))) (rvk (by kernel_rfl)) (by first | rfl | (rw [IntKind.wrap_i64];omega))) ?_
  refine sv 4 (.int .i64 (((0+(qx0*qx0))+(qx1*qx1)))) ?_
  refine sq_nil ?_
  refine k24 _ _ ?_
  try clear k24 K24
  refine rg [0,1] ?_
  refine sv 34 (.int .i64 2) ?_
  refine sv 26 (.int .i64 2) ?_
  refine sq_nil ?_
  show Code.rounds _ _ _ _ _ _
  show Code.wp _ _ _ _ _
  refine wp_seq_k (fun K26 k26=>?_)
  refine rg [0] ?_
  refine sv 27 (.bool true) ?_
  refine sq_nil ?_
  refine k26 _ _ ?_
  try clear k26 K26
  refine wp_seq_k (fun K27 k27=>?_)
  refine wp_cond_true rfl ?_
  refine wp_skip ?_
  refine k27 _ _ ?_
  try clear k27 K27
  refine wp_seq_k (fun K28 k28=>?_)
  refine wp_block ?_
  refine wp_seq_k (fun K29 k29=>?_)
  refine rg [0,1] ?_
  refine sv 28 (.int .i64 (qx2)) ?_
  refine sv 6 (.int .i64 (qx2)) ?_
  refine sq_nil ?_
  refine k29 _ _ ?_
  try clear k29 K29
  refine rg [0,1,2,3,4,5] ?_
  refine sv 29 (.int .i64 (((0+(qx0*qx0))+(qx1*qx1)))) ?_
  refine sv 30 (.int .i64 (qx2)) ?_
  refine sv 31 (.int .i64 (qx2)) ?_
  refine sw 32 (.int .i64 ((qx2*qx2))) rfl (RunV.int (x:=IntKind.i64.wrap ((qx2*qx2))) (y:=(qx2*qx2)) (rvk (by kernel_rfl)) (by first | rfl | (rw [IntKind.wrap_i64];omega))) ?_
  refine sw 33 (.int .i64 ((((0+(qx0*qx0))+(qx1*qx1))+(qx2*qx2)))) rfl (RunV.int (x:=IntKind.i64.wrap ((((0+(qx0*qx0))+(qx1*qx1))+(qx2*qx2)))) (y:=(((0+(qx0*qx0))+(qx1*qx1))+(qx2*qx2))) (rvk (by kernel_rfl)) (by first | rfl | (rw [IntKind.wrap_i64];omega))) ?_
  refine sv 4 (.int .i64 ((((0+(qx0*qx0))+(qx1*qx1))+(qx2*qx2)))) ?_
  refine sq_nil ?_
  refine k28 _ _ ?_
  try clear k28 K28
  refine rg [0,1] ?_
  refine sv 34 (.int .i64 3) ?_
  refine sv 26 (.int .i64 3) ?_
  refine sq_nil ?_
  show Code.rounds _ _ _ _ _ _
  show Code.wp _ _ _ _ _
  refine wp_seq_k (fun K30 k30=>?_)
  refine rg [0] ?_
  refine sv 27 (.bool true) ?_
  refine sq_nil ?_
  refine k30 _ _ ?_
  try clear k30 K30
  refine wp_seq_k (fun K31 k31=>?_)
  refine wp_cond_true rfl ?_
  refine wp_skip ?_
  refine k31 _ _ ?_
  try clear k31 K31
  refine wp_seq_k (fun K32 k32=>?_)
  refine wp_block ?_
  refine wp_seq_k (fun K33 k33=>?_)
  refine rg [0,1] ?_
  refine sv 28 (.int .i64 (qx3)) ?_
  refine sv 6 (.int .i64 (qx3)) ?_
  refine sq_nil ?_
  refine k33 _ _ ?_
  try clear k33 K33
  refine rg [0,1,2,3,4,5] ?_
  refine sv 29 (.int .i64 ((((0+(qx0*qx0))+(qx1*qx1))+(qx2*qx2)))) ?_
  refine sv 30 (.int .i64 (qx3)) ?_
  refine sv 31 (.int .i64 (qx3)) ?_
  refine sw 32 (.int .i64 ((qx3*qx3))) rfl (RunV.int (x:=IntKind.i64.wrap ((qx3*qx3))) (y:=(qx3*qx3)) (rvk (by kernel_rfl)) (by first | rfl | (rw [IntKind.wrap_i64];omega))) ?_
  refine sw 33 (.int .i64 (((((0+(qx0*qx0))+(qx1*qx1))+(qx2*qx2))+(qx3*qx3)))) rfl (RunV.int (x:=IntKind.i64.wrap (((((0+(qx0*qx0))+(qx1*qx1))+(qx2*qx2))+(qx3*qx3)))) (y:=((((0+(qx0*qx0))+(qx1*qx1))+(qx2*qx2))+(qx3*qx3))) (rvk (by kernel_rfl)) (by first | rfl | (rw [IntKind.wrap_i64];omega))) ?_
  refine sv 4 (.int .i64 (((((0+(qx0*qx0))+(qx1*qx1))+(qx2*qx2))+(qx3*qx3)))) ?_
  refine sq_nil ?_
  refine k32 _ _ ?_
  try clear k32 K32
  refine rg [0,1] ?_
  refine sv 34 (.int .i64 4) ?_
  refine sv 26 (.int .i64 4) ?_
  refine sq_nil ?_
  show Code.rounds _ _ _ _ _ _
  show Code.wp _ _ _ _ _
  refine wp_seq_k (fun K34 k34=>?_)
  refine rg [0] ?_
  refine sv 27 (.bool false) ?_
  refine sq_nil ?_
  refine k34 _ _ ?_
  try clear k34 K34
  refine wp_seq_k (fun K35 k35=>?_)
  refine wp_cond_false rfl ?_
  refine wp_exit ?_
  simp only [Exit.then,Exit.inBlock,↓reduceIte]
  refine k16 _ _ ?_
  try clear k16 K16
  refine wp_seq_k (fun K36 k36=>?_)
  refine rg [0,1,2,3,4,5,6,7,8] ?_
  refine sv 35 (.int .i64 (((((0+(qx0*qx0))+(qx1*qx1))+(qx2*qx2))+(qx3*qx3)))) ?_
  refine sv 36 (.bool ((((((0+(qx0*qx0))+(qx1*qx1))+(qx2*qx2))+(qx3*qx3)) !=(3:Int)))) ?_
  rcases Bool.eq_false_or_eq_true ((((((0+(qx0*qx0))+(qx1*qx1))+(qx2*qx2))+(qx3*qx3)) !=(3:Int))) with hb37 | hb37
  ·refine sw 37 (.bool true) rfl (RunV.bool (x:=(((((0+(qx0*qx0))+(qx1*qx1))+(qx2*qx2))+(qx3*qx3)) !=(3:Int))) (rvk (by kernel_rfl)) hb37) ?_
   refine sw 38 (.agg #[(.int .i64 (qx0)),(.int .i64 (qx1)),(.int .i64 (qx2)),(.int .i64 (qx3))]) rfl (rl 22 0 [(.int .i64 (qx0)),(.int .i64 (qx1)),(.int .i64 (qx2)),(.int .i64 (qx3))] L12) ?_
   refine sv 39 (.agg #[(.string ⟨([48]:List UInt8).toArray⟩),(.string ⟨([48]:List UInt8).toArray⟩),(.string ⟨([48]:List UInt8).toArray⟩)]) ?_
   refine sv 40 (.agg #[(.int .i64 (qx0)),(.int .i64 (qx1)),(.int .i64 (qx2)),(.int .i64 (qx3)),(.string ⟨([48]:List UInt8).toArray⟩),(.string ⟨([48]:List UInt8).toArray⟩),(.string ⟨([48]:List UInt8).toArray⟩)]) ?_
   refine se ?_
   refine ec 41 (mcheck0 (q0:=qx0) (q1:=qx1) (q2:=qx2) (q3:=qx3) (by omega) (by omega) (by omega) (by omega) _ (hm.gr hB)) ?_
   rintro e38 w38 ⟨rfl,g38⟩
   refine ⟨_,rfl,?_⟩
   replace hB:=hB.trans g38
   simp only [p3,p4]
   refine sv 42 (.bool ((chk qx0 qx1 qx2 qx3 0==(0:Int)))) ?_
   refine sv 43 (.bool ((chk qx0 qx1 qx2 qx3 0==(0:Int)))) ?_
   refine sq_nil ?_
   refine k36 _ _ ?_
   try clear k36 K36
   refine wp_cond_split (t:=(chk qx0 qx1 qx2 qx3 0==(0:Int))) rfl (fun hb39=>?_) (fun hb39=>?_)
   ·refine rg [0,1,2,3,4] ?_
    refine sv 44 v ?_
    replace L12:=L12.gr g38
    refine sw 45 (.agg #[(.int .i64 (qx0)),(.int .i64 (qx1)),(.int .i64 (qx2)),(.int .i64 (qx3))]) rfl (rl 22 0 [(.int .i64 (qx0)),(.int .i64 (qx1)),(.int .i64 (qx2)),(.int .i64 (qx3))] L12) ?_
    refine se ?_
    refine eff_bs 22 1 #[(.int .i64 (qx0)),(.int .i64 (qx1)),(.int .i64 (qx2)),(.int .i64 (qx3))] (some 46) rfl (fun _=>by kernel_rfl) (fun b40 w40 g40 L40 q40=>?_)
    replace hv:=((hv.gr stab_q4 g12).st stab_q4 st13 no12_hv (st13.kts lo13 (by decide))).gr stab_q4 g38
    have no40_hv:=hv.ne q40
    replace hB:=hB.trans g40
    simp only [putl,p3,p4]
    refine se ?_
    replace hv:=hv.gr stab_q4 g40
    refine eff_app stab_q4 _ _ 97 22 w.heap.size (.agg #[(.int .i64 0),(.int .i64 0),(.int .i64 0),(.int .i64 0)]) v (qUpto nn) b40 [(.int .i64 (qx0)),(.int .i64 (qx1)),(.int .i64 (qx2)),(.int .i64 (qx3))] ((qx0,qx1,qx2,qx3):Int × Int × Int × Int) 4 1 (some 47) 32 rfl rfl rfl rfl hv L40 ⟨rfl,rfl,rfl,rfl,trivial⟩ rfl rfl w hB (Nat.le_refl _) (Below.size hB) (by have:=qUpto_len nn;simp;omega) (by decide) (by kernel_rfl) (by kernel_rfl) (by decide) (by decide) (fun v41 w41 ow41 wt41 hb41=>?_)
    replace hB:=hb41
    simp only [putl,p3,p4]
    refine sv 1 v41 ?_
    refine sq_nil ?_
    refine k9 _ _ ?_
    try clear k9 K9
    refine rg [0,1] ?_
    refine sw 48 (.int .i64 (((nn:Int)+1))) rfl (RunV.int (x:=IntKind.i64.wrap (((nn:Int)+1))) (y:=((nn:Int)+1)) (rvk (by kernel_rfl)) (by first | rfl | (rw [IntKind.wrap_i64];omega))) ?_
    refine sv 7 (.int .i64 (((nn:Int)+1))) ?_
    refine sq_nil ?_
    refine k5 (81 - (nn+1)) ⟨List.toArray ?l42,[]⟩ _ (by omega) ?_
    exact ⟨v41,nn+1,(fun i=>List.getD ?l42 i undef),rfl,rfl,(by omega),(by rw [qUpto_yes hqa (by unfold qOk qSq;rw [Bool.and_eq_true];exact ⟨hb37,hb39⟩)];exact ow41),hB⟩
   ·refine wp_skip ?_
    refine k9 _ _ ?_
    try clear k9 K9
    refine rg [0,1] ?_
    refine sw 48 (.int .i64 (((nn:Int)+1))) rfl (RunV.int (x:=IntKind.i64.wrap (((nn:Int)+1))) (y:=((nn:Int)+1)) (rvk (by kernel_rfl)) (by first | rfl | (rw [IntKind.wrap_i64];omega))) ?_
    refine sv 7 (.int .i64 (((nn:Int)+1))) ?_
    refine sq_nil ?_
    replace hv:=((hv.gr stab_q4 g12).st stab_q4 st13 no12_hv (st13.kts lo13 (by decide))).gr stab_q4 g38
    refine k5 (81 - (nn+1)) ⟨List.toArray ?l43,[]⟩ _ (by omega) ?_
    exact ⟨v,nn+1,(fun i=>List.getD ?l43 i undef),rfl,rfl,(by omega),(by rw [qUpto_no hqa (by unfold qOk qSq;rw [hb37,hb39,Bool.and_false])];exact hv),hB⟩
  ·refine sw 37 (.bool false) rfl (RunV.bool (x:=(((((0+(qx0*qx0))+(qx1*qx1))+(qx2*qx2))+(qx3*qx3)) !=(3:Int))) (rvk (by kernel_rfl)) hb37) ?_
   refine ss 38 ?_
   refine ss 39 ?_
   refine ss 40 ?_
   refine ss 41 ?_
   refine ss 42 ?_
   refine sv 43 (.bool false) ?_
   refine sq_nil ?_
   refine k36 _ _ ?_
   try clear k36 K36
   refine wp_cond_false rfl ?_
   refine wp_skip ?_
   refine k9 _ _ ?_
   try clear k9 K9
   refine rg [0,1] ?_
   refine sw 48 (.int .i64 (((nn:Int)+1))) rfl (RunV.int (x:=IntKind.i64.wrap (((nn:Int)+1))) (y:=((nn:Int)+1)) (rvk (by kernel_rfl)) (by first | rfl | (rw [IntKind.wrap_i64];omega))) ?_
   refine sv 7 (.int .i64 (((nn:Int)+1))) ?_
   refine sq_nil ?_
   replace hv:=(hv.gr stab_q4 g12).st stab_q4 st13 no12_hv (st13.kts lo13 (by decide))
   refine k5 (81 - (nn+1)) ⟨List.toArray ?l44,[]⟩ _ (by omega) ?_
   exact ⟨v,nn+1,(fun i=>List.getD ?l44 i undef),rfl,rfl,(by omega),(by rw [qUpto_no hqa (by unfold qOk qSq;rw [hb37,Bool.false_and])];exact hv),hB⟩
 ·have hge:nn=81:=by have:=of_decide_eq_false hb8;omega
  refine wp_exit ?_
  simp only [Exit.then,Exit.inBlock,↓reduceIte]
  refine k3 _ _ ?_
  try clear k3 K3
  refine wp_seq_k (fun K45 k45=>?_)
  refine rg [0,1] ?_
  refine sv 49 v ?_
  refine sv 0 v ?_
  refine sq_nil ?_
  refine k45 _ _ ?_
  try clear k45 K45
  refine wp_ret ?_
  refine bodyPost_ret (v:=v) (ret_tmp rfl rfl) rfl ⟨?_,hB⟩
  subst hge
  exact ⟨_,rfl,(hv.sl)⟩

end Go.Proofs.YtaldbfflkpgfoaaGreatDoor
/- Printed by a program of the prover's:the examples of chapter 07. -/
namespace Go.Proofs.YtaldbfflkpgfoaaGreatDoor
open Go.RowKit

set_option maxRecDepth 100000 in
set_option maxHeartbeats 1000000 in
theorem zero7 (w:World):
    Calls Tryz.prog 20 #[] w fun e w'=>e=.returned (.agg #[.string ⟨([48]:List UInt8).toArray⟩,.string ⟨([48]:List UInt8).toArray⟩,.string ⟨([48]:List UInt8).toArray⟩])∧Gr w w':=by
 go_enter Tryz.func20,Tryz.ntmps20
 have hB:=Gr.refl w
 refine wp_seq_k (fun K1 k1=>?_)
 refine rg [0] ?_
 refine se ?_
 refine ea 25 #[(.string ⟨([]:List UInt8).toArray⟩),(.string ⟨([]:List UInt8).toArray⟩),(.string ⟨([]:List UInt8).toArray⟩)] 0 hB fun b2 w2 g2 L2 o2 q2 hB=>?_
 simp only [p3]
 refine sq_nil ?_
 refine k1 _ _ ?_
 try clear k1 K1
 refine wp_seq_k (fun K3 k3=>?_)
 refine rg [0,1] ?_
 refine sv 1 (.agg #[(.string ⟨([48]:List UInt8).toArray⟩),(.string ⟨([48]:List UInt8).toArray⟩),(.string ⟨([48]:List UInt8).toArray⟩)]) ?_
 refine se ?_
 refine es 25 0 (.agg #[(.string ⟨([48]:List UInt8).toArray⟩),(.string ⟨([48]:List UInt8).toArray⟩),(.string ⟨([48]:List UInt8).toArray⟩)]) [(.string ⟨([48]:List UInt8).toArray⟩),(.string ⟨([48]:List UInt8).toArray⟩),(.string ⟨([48]:List UInt8).toArray⟩)] #[(.string ⟨([48]:List UInt8).toArray⟩),(.string ⟨([48]:List UInt8).toArray⟩),(.string ⟨([48]:List UInt8).toArray⟩)] L2 hB q2 ⟨rfl,rfl,rfl,trivial⟩ fun w4 st4 kp4 L2 hB=>?_
 refine sq_nil ?_
 refine k3 _ _ ?_
 try clear k3 K3
 refine wp_ret ?_
 refine bodyPost_ret (v:=(.agg #[(.string ⟨([48]:List UInt8).toArray⟩),(.string ⟨([48]:List UInt8).toArray⟩),(.string ⟨([48]:List UInt8).toArray⟩)])) (ret_cell _ _ _ rfl rfl L2 (by kernel_rfl)) rfl ⟨?_,hB⟩
 exact rfl

theorem lawK70:sEq [(ratL ((0:Rat))),(ratL ((1:Rat))),(ratL ((0:Rat)))] [([48]:List UInt8),([49]:List UInt8),([48]:List UInt8)]=true:=sEq_lit (ratL_litw (by kernel_rfl) (itoa_litp 0 (by kernel_rfl) (by decide))) (ratL_litw (by kernel_rfl) (itoa_litp 1 (by kernel_rfl) (by decide))) (ratL_litw (by kernel_rfl) (itoa_litp 0 (by kernel_rfl) (by decide)))
theorem lawK71:sEq [(ratL ((0:Rat))),(ratL ((3/5:Rat))),(ratL ((-4/5:Rat)))] [([48]:List UInt8),([51,47,53]:List UInt8),([45,52,47,53]:List UInt8)]=true:=sEq_lit (ratL_litw (by kernel_rfl) (itoa_litp 0 (by kernel_rfl) (by decide))) (ratL_litf (by kernel_rfl) (itoa_litp 3 (by kernel_rfl) (by decide)) (itoa_litp 5 (by kernel_rfl) (by decide)) rfl) (ratL_litf (by kernel_rfl) (itoa_litn 4 (by kernel_rfl) (by decide) (by decide)) (itoa_litp 5 (by kernel_rfl) (by decide)) rfl)
theorem lawK72:((((quarters).length:Int)==(24:Int)))=true:=by decide+kernel
theorem lawK73:((((quarters).getD 1 (0,0,0,0)).1==0&&((quarters).getD 1 (0,0,0,0)).2.1==0&&((quarters).getD 1 (0,0,0,0)).2.2.1==1&&((quarters).getD 1 (0,0,0,0)).2.2.2==(-1)))=true:=by decide+kernel
set_option maxRecDepth 100000 in
set_option maxHeartbeats 8000000 in
theorem known7 (w:World) (ht:Tab w) (hm:Mx w):
    Calls Tryz.prog 11 #[] w fun e w'=>e=.returned (.bool true)∧Gr w w':=by
 go_enter Tryz.func11,Tryz.ntmps11
 have hB:=Gr.refl w
 refine wp_seq_k (fun K1 k1=>?_)
 refine rg [0] ?_
 refine sv 0 (.bool false) ?_
 refine sq_nil ?_
 refine k1 _ _ ?_
 try clear k1 K1
 refine wp_seq_k (fun K2 k2=>?_)
 refine rg [0,1,2,3,4,5,6,7,8,9] ?_
 refine sv 11 (.agg #[(.int .i64 1),(.int .i64 0),(.int .i64 0),(.int .i64 1)]) ?_
 refine se ?_
 refine ec 12 (zero7 _) ?_
 rintro e3 w3 ⟨rfl,g3⟩
 refine ⟨_,rfl,?_⟩
 replace hB:=hB.trans g3
 simp only [p3,p4]
 refine sv 13 (.agg #[(.int .i64 1),(.int .i64 0),(.int .i64 0),(.int .i64 1),(.string ⟨([48]:List UInt8).toArray⟩),(.string ⟨([48]:List UInt8).toArray⟩),(.string ⟨([48]:List UInt8).toArray⟩)]) ?_
 refine se ?_
 refine ec 14 (mof_k1 _ (hm.gr hB) (ht.gr hB)) ?_
 rintro e4 w4 ⟨⟨m4_0,m4_1,m4_2,m4_3,m4_4,m4_5,m4_6,m4_7,m4_8,m4_9,m4_10,m4_11,m4_12,m4_13,m4_14,m4_15,m4_16,m4_17,m4_18,m4_19,m4_20,m4_21,m4_22,m4_23,m4_24,m4_25,m4_26,m4_27,m4_28,m4_29,m4_30,m4_31,m4_32,m4_33,m4_34,m4_35,m4_36,m4_37,m4_38,m4_39,m4_40,m4_41,m4_42,m4_43,m4_44,m4_45,m4_46,m4_47,rfl,h4_0,h4_1,h4_2,h4_3,h4_4,h4_5,h4_6,h4_7,h4_8,h4_9,h4_10,h4_11⟩,g4⟩
 refine ⟨_,rfl,?_⟩
 replace hB:=hB.trans g4
 simp only [p3,p4]
 refine sv 10 (.tuple #[(.agg #[m4_0,m4_1,m4_2,m4_3,m4_4,m4_5,m4_6,m4_7,m4_8,m4_9,m4_10,m4_11,m4_12,m4_13,m4_14,m4_15,m4_16,m4_17,m4_18,m4_19,m4_20,m4_21,m4_22,m4_23,m4_24,m4_25,m4_26,m4_27,m4_28,m4_29,m4_30,m4_31,m4_32,m4_33,m4_34,m4_35,m4_36,m4_37,m4_38,m4_39,m4_40,m4_41,m4_42,m4_43,m4_44,m4_45,m4_46,m4_47]),(.int .i64 0)]) ?_
 refine sv 15 (.agg #[m4_0,m4_1,m4_2,m4_3,m4_4,m4_5,m4_6,m4_7,m4_8,m4_9,m4_10,m4_11,m4_12,m4_13,m4_14,m4_15,m4_16,m4_17,m4_18,m4_19,m4_20,m4_21,m4_22,m4_23,m4_24,m4_25,m4_26,m4_27,m4_28,m4_29,m4_30,m4_31,m4_32,m4_33,m4_34,m4_35,m4_36,m4_37,m4_38,m4_39,m4_40,m4_41,m4_42,m4_43,m4_44,m4_45,m4_46,m4_47]) ?_
 refine sv 16 (.int .i64 0) ?_
 refine se ?_
 refine ea 41 #[(.bool false),(.slice none 0 0),(.bool false),(.slice none 0 0),(.bool false),(.slice none 0 0),(.bool false),(.slice none 0 0),(.bool false),(.slice none 0 0),(.bool false),(.slice none 0 0),(.bool false),(.slice none 0 0),(.bool false),(.slice none 0 0),(.bool false),(.slice none 0 0),(.bool false),(.slice none 0 0),(.bool false),(.slice none 0 0),(.bool false),(.slice none 0 0),(.bool false),(.slice none 0 0),(.bool false),(.slice none 0 0),(.bool false),(.slice none 0 0),(.bool false),(.slice none 0 0),(.bool false),(.slice none 0 0),(.bool false),(.slice none 0 0),(.bool false),(.slice none 0 0),(.bool false),(.slice none 0 0),(.bool false),(.slice none 0 0),(.bool false),(.slice none 0 0),(.bool false),(.slice none 0 0),(.bool false),(.slice none 0 0)] 1 hB fun b5 w5 g5 L5 o5 q5 hB=>?_
 simp only [p3,p4]
 refine se ?_
 have lo6:=L5
 refine es 41 0 (.agg #[m4_0,m4_1,m4_2,m4_3,m4_4,m4_5,m4_6,m4_7,m4_8,m4_9,m4_10,m4_11,m4_12,m4_13,m4_14,m4_15,m4_16,m4_17,m4_18,m4_19,m4_20,m4_21,m4_22,m4_23,m4_24,m4_25,m4_26,m4_27,m4_28,m4_29,m4_30,m4_31,m4_32,m4_33,m4_34,m4_35,m4_36,m4_37,m4_38,m4_39,m4_40,m4_41,m4_42,m4_43,m4_44,m4_45,m4_46,m4_47]) [m4_0,m4_1,m4_2,m4_3,m4_4,m4_5,m4_6,m4_7,m4_8,m4_9,m4_10,m4_11,m4_12,m4_13,m4_14,m4_15,m4_16,m4_17,m4_18,m4_19,m4_20,m4_21,m4_22,m4_23,m4_24,m4_25,m4_26,m4_27,m4_28,m4_29,m4_30,m4_31,m4_32,m4_33,m4_34,m4_35,m4_36,m4_37,m4_38,m4_39,m4_40,m4_41,m4_42,m4_43,m4_44,m4_45,m4_46,m4_47] #[m4_0,m4_1,m4_2,m4_3,m4_4,m4_5,m4_6,m4_7,m4_8,m4_9,m4_10,m4_11,m4_12,m4_13,m4_14,m4_15,m4_16,m4_17,m4_18,m4_19,m4_20,m4_21,m4_22,m4_23,m4_24,m4_25,m4_26,m4_27,m4_28,m4_29,m4_30,m4_31,m4_32,m4_33,m4_34,m4_35,m4_36,m4_37,m4_38,m4_39,m4_40,m4_41,m4_42,m4_43,m4_44,m4_45,m4_46,m4_47] L5 hB q5 ⟨h4_0.one0,h4_0.one1,h4_0.one2,h4_0.one3,h4_1.one0,h4_1.one1,h4_1.one2,h4_1.one3,h4_2.one0,h4_2.one1,h4_2.one2,h4_2.one3,h4_3.one0,h4_3.one1,h4_3.one2,h4_3.one3,h4_4.one0,h4_4.one1,h4_4.one2,h4_4.one3,h4_5.one0,h4_5.one1,h4_5.one2,h4_5.one3,h4_6.one0,h4_6.one1,h4_6.one2,h4_6.one3,h4_7.one0,h4_7.one1,h4_7.one2,h4_7.one3,h4_8.one0,h4_8.one1,h4_8.one2,h4_8.one3,h4_9.one0,h4_9.one1,h4_9.one2,h4_9.one3,h4_10.one0,h4_10.one1,h4_10.one2,h4_10.one3,h4_11.one0,h4_11.one1,h4_11.one2,h4_11.one3,trivial⟩ fun w6 st6 kp6 L5 hB=>?_
 refine sv 2 (.int .i64 0) ?_
 refine sq_nil ?_
 refine k2 _ _ ?_
 try clear k2 K2
 refine wp_seq_k (fun K7 k7=>?_)
 refine rg [0,1,2,3,4,5,6,7,8,9] ?_
 refine sv 18 (.agg #[(.int .i64 2),(.int .i64 1),(.int .i64 0),(.int .i64 0)]) ?_
 refine se ?_
 refine ec 19 (zero7 _) ?_
 rintro e8 w8 ⟨rfl,g8⟩
 refine ⟨_,rfl,?_⟩
 replace hB:=hB.trans g8
 simp only [p3,p4]
 refine sv 20 (.agg #[(.int .i64 2),(.int .i64 1),(.int .i64 0),(.int .i64 0),(.string ⟨([48]:List UInt8).toArray⟩),(.string ⟨([48]:List UInt8).toArray⟩),(.string ⟨([48]:List UInt8).toArray⟩)]) ?_
 refine se ?_
 refine ec 21 (mof_k2 _ (hm.gr hB) (ht.gr hB)) ?_
 rintro e9 w9 ⟨⟨m9_0,m9_1,m9_2,m9_3,m9_4,m9_5,m9_6,m9_7,m9_8,m9_9,m9_10,m9_11,m9_12,m9_13,m9_14,m9_15,m9_16,m9_17,m9_18,m9_19,m9_20,m9_21,m9_22,m9_23,m9_24,m9_25,m9_26,m9_27,m9_28,m9_29,m9_30,m9_31,m9_32,m9_33,m9_34,m9_35,m9_36,m9_37,m9_38,m9_39,m9_40,m9_41,m9_42,m9_43,m9_44,m9_45,m9_46,m9_47,rfl,h9_0,h9_1,h9_2,h9_3,h9_4,h9_5,h9_6,h9_7,h9_8,h9_9,h9_10,h9_11⟩,g9⟩
 refine ⟨_,rfl,?_⟩
 replace hB:=hB.trans g9
 simp only [p3,p4]
 refine sv 17 (.tuple #[(.agg #[m9_0,m9_1,m9_2,m9_3,m9_4,m9_5,m9_6,m9_7,m9_8,m9_9,m9_10,m9_11,m9_12,m9_13,m9_14,m9_15,m9_16,m9_17,m9_18,m9_19,m9_20,m9_21,m9_22,m9_23,m9_24,m9_25,m9_26,m9_27,m9_28,m9_29,m9_30,m9_31,m9_32,m9_33,m9_34,m9_35,m9_36,m9_37,m9_38,m9_39,m9_40,m9_41,m9_42,m9_43,m9_44,m9_45,m9_46,m9_47]),(.int .i64 0)]) ?_
 refine sv 22 (.agg #[m9_0,m9_1,m9_2,m9_3,m9_4,m9_5,m9_6,m9_7,m9_8,m9_9,m9_10,m9_11,m9_12,m9_13,m9_14,m9_15,m9_16,m9_17,m9_18,m9_19,m9_20,m9_21,m9_22,m9_23,m9_24,m9_25,m9_26,m9_27,m9_28,m9_29,m9_30,m9_31,m9_32,m9_33,m9_34,m9_35,m9_36,m9_37,m9_38,m9_39,m9_40,m9_41,m9_42,m9_43,m9_44,m9_45,m9_46,m9_47]) ?_
 refine sv 23 (.int .i64 0) ?_
 refine se ?_
 refine ea 41 #[(.bool false),(.slice none 0 0),(.bool false),(.slice none 0 0),(.bool false),(.slice none 0 0),(.bool false),(.slice none 0 0),(.bool false),(.slice none 0 0),(.bool false),(.slice none 0 0),(.bool false),(.slice none 0 0),(.bool false),(.slice none 0 0),(.bool false),(.slice none 0 0),(.bool false),(.slice none 0 0),(.bool false),(.slice none 0 0),(.bool false),(.slice none 0 0),(.bool false),(.slice none 0 0),(.bool false),(.slice none 0 0),(.bool false),(.slice none 0 0),(.bool false),(.slice none 0 0),(.bool false),(.slice none 0 0),(.bool false),(.slice none 0 0),(.bool false),(.slice none 0 0),(.bool false),(.slice none 0 0),(.bool false),(.slice none 0 0),(.bool false),(.slice none 0 0),(.bool false),(.slice none 0 0),(.bool false),(.slice none 0 0)] 3 hB fun b10 w10 g10 L10 o10 q10 hB=>?_
 replace L5:=L5.gr (g8.trans g9)
 have ne5_10:=L5.ne o10
 simp only [p3,p4]
 refine se ?_
 have lo11:=L10
 refine es 41 0 (.agg #[m9_0,m9_1,m9_2,m9_3,m9_4,m9_5,m9_6,m9_7,m9_8,m9_9,m9_10,m9_11,m9_12,m9_13,m9_14,m9_15,m9_16,m9_17,m9_18,m9_19,m9_20,m9_21,m9_22,m9_23,m9_24,m9_25,m9_26,m9_27,m9_28,m9_29,m9_30,m9_31,m9_32,m9_33,m9_34,m9_35,m9_36,m9_37,m9_38,m9_39,m9_40,m9_41,m9_42,m9_43,m9_44,m9_45,m9_46,m9_47]) [m9_0,m9_1,m9_2,m9_3,m9_4,m9_5,m9_6,m9_7,m9_8,m9_9,m9_10,m9_11,m9_12,m9_13,m9_14,m9_15,m9_16,m9_17,m9_18,m9_19,m9_20,m9_21,m9_22,m9_23,m9_24,m9_25,m9_26,m9_27,m9_28,m9_29,m9_30,m9_31,m9_32,m9_33,m9_34,m9_35,m9_36,m9_37,m9_38,m9_39,m9_40,m9_41,m9_42,m9_43,m9_44,m9_45,m9_46,m9_47] #[m9_0,m9_1,m9_2,m9_3,m9_4,m9_5,m9_6,m9_7,m9_8,m9_9,m9_10,m9_11,m9_12,m9_13,m9_14,m9_15,m9_16,m9_17,m9_18,m9_19,m9_20,m9_21,m9_22,m9_23,m9_24,m9_25,m9_26,m9_27,m9_28,m9_29,m9_30,m9_31,m9_32,m9_33,m9_34,m9_35,m9_36,m9_37,m9_38,m9_39,m9_40,m9_41,m9_42,m9_43,m9_44,m9_45,m9_46,m9_47] L10 hB q10 ⟨h9_0.one0,h9_0.one1,h9_0.one2,h9_0.one3,h9_1.one0,h9_1.one1,h9_1.one2,h9_1.one3,h9_2.one0,h9_2.one1,h9_2.one2,h9_2.one3,h9_3.one0,h9_3.one1,h9_3.one2,h9_3.one3,h9_4.one0,h9_4.one1,h9_4.one2,h9_4.one3,h9_5.one0,h9_5.one1,h9_5.one2,h9_5.one3,h9_6.one0,h9_6.one1,h9_6.one2,h9_6.one3,h9_7.one0,h9_7.one1,h9_7.one2,h9_7.one3,h9_8.one0,h9_8.one1,h9_8.one2,h9_8.one3,h9_9.one0,h9_9.one1,h9_9.one2,h9_9.one3,h9_10.one0,h9_10.one1,h9_10.one2,h9_10.one3,h9_11.one0,h9_11.one1,h9_11.one2,h9_11.one3,trivial⟩ fun w11 st11 kp11 L10 hB=>?_
 refine sv 4 (.int .i64 0) ?_
 refine sq_nil ?_
 refine k7 _ _ ?_
 try clear k7 K7
 refine wp_seq_k (fun K12 k12=>?_)
 refine rg [0,1,2,3,4,5,6,7,8,9,10,11,12] ?_
 refine sv 25 (.agg #[(.int .i64 1),(.int .i64 0),(.int .i64 0),(.int .i64 1)]) ?_
 refine se ?_
 refine ec 26 (zero7 _) ?_
 rintro e13 w13 ⟨rfl,g13⟩
 refine ⟨_,rfl,?_⟩
 replace hB:=hB.trans g13
 simp only [p3,p4]
 refine sv 27 (.agg #[(.int .i64 1),(.int .i64 0),(.int .i64 0),(.int .i64 1),(.string ⟨([48]:List UInt8).toArray⟩),(.string ⟨([48]:List UInt8).toArray⟩),(.string ⟨([48]:List UInt8).toArray⟩)]) ?_
 refine sv 28 (.agg #[(.int .i64 1),(.int .i64 0),(.int .i64 0),(.int .i64 1)]) ?_
 refine se ?_
 refine ec 29 (zero7 _) ?_
 rintro e14 w14 ⟨rfl,g14⟩
 refine ⟨_,rfl,?_⟩
 replace hB:=hB.trans g14
 simp only [p3,p4]
 refine sv 30 (.agg #[(.int .i64 1),(.int .i64 0),(.int .i64 0),(.int .i64 1),(.string ⟨([48]:List UInt8).toArray⟩),(.string ⟨([48]:List UInt8).toArray⟩),(.string ⟨([48]:List UInt8).toArray⟩)]) ?_
 refine se ?_
 refine ec 31 (join_k1 _ (hm.gr hB) (ht.gr hB)) ?_
 rintro e15 w15 ⟨rfl,g15⟩
 refine ⟨_,rfl,?_⟩
 replace hB:=hB.trans g15
 simp only [p3,p4]
 refine sv 24 (.tuple #[(.agg #[(.int .i64 0),(.int .i64 0),(.int .i64 0),(.int .i64 1),(.string ⟨([48]:List UInt8).toArray⟩),(.string ⟨([48]:List UInt8).toArray⟩),(.string ⟨([48]:List UInt8).toArray⟩)]),(.int .i64 0)]) ?_
 refine sv 32 (.agg #[(.int .i64 0),(.int .i64 0),(.int .i64 0),(.int .i64 1),(.string ⟨([48]:List UInt8).toArray⟩),(.string ⟨([48]:List UInt8).toArray⟩),(.string ⟨([48]:List UInt8).toArray⟩)]) ?_
 refine sv 33 (.int .i64 0) ?_
 refine se ?_
 refine ea 27 #[(.int .i64 0),(.int .i64 0),(.int .i64 0),(.int .i64 0),(.string ⟨([]:List UInt8).toArray⟩),(.string ⟨([]:List UInt8).toArray⟩),(.string ⟨([]:List UInt8).toArray⟩)] 5 hB fun b16 w16 g16 L16 o16 q16 hB=>?_
 replace L5:=(st11.lc (L5.gr g10) ne5_10).gr (g13.trans (g14.trans g15))
 have ne5_16:=L5.ne o16
 replace L10:=L10.gr (g13.trans (g14.trans g15))
 have ne10_16:=L10.ne o16
 simp only [p3,p4]
 refine se ?_
 have lo17:=L16
 refine es 27 0 (.agg #[(.int .i64 0),(.int .i64 0),(.int .i64 0),(.int .i64 1),(.string ⟨([48]:List UInt8).toArray⟩),(.string ⟨([48]:List UInt8).toArray⟩),(.string ⟨([48]:List UInt8).toArray⟩)]) [(.int .i64 0),(.int .i64 0),(.int .i64 0),(.int .i64 1),(.string ⟨([48]:List UInt8).toArray⟩),(.string ⟨([48]:List UInt8).toArray⟩),(.string ⟨([48]:List UInt8).toArray⟩)] #[(.int .i64 0),(.int .i64 0),(.int .i64 0),(.int .i64 1),(.string ⟨([48]:List UInt8).toArray⟩),(.string ⟨([48]:List UInt8).toArray⟩),(.string ⟨([48]:List UInt8).toArray⟩)] L16 hB q16 ⟨rfl,rfl,rfl,rfl,rfl,rfl,rfl,trivial⟩ fun w17 st17 kp17 L16 hB=>?_
 refine sv 6 (.int .i64 0) ?_
 refine sq_nil ?_
 refine k12 _ _ ?_
 try clear k12 K12
 refine wp_seq_k (fun K18 k18=>?_)
 refine rg [0,1,2,3,4,5,6,7,8,9,10,11,12] ?_
 refine sv 35 (.agg #[(.int .i64 12),(.int .i64 1),(.int .i64 0),(.int .i64 0)]) ?_
 refine se ?_
 refine ec 36 (zero7 _) ?_
 rintro e19 w19 ⟨rfl,g19⟩
 refine ⟨_,rfl,?_⟩
 replace hB:=hB.trans g19
 simp only [p3,p4]
 refine sv 37 (.agg #[(.int .i64 12),(.int .i64 1),(.int .i64 0),(.int .i64 0),(.string ⟨([48]:List UInt8).toArray⟩),(.string ⟨([48]:List UInt8).toArray⟩),(.string ⟨([48]:List UInt8).toArray⟩)]) ?_
 refine sv 38 (.agg #[(.int .i64 12),(.int .i64 1),(.int .i64 0),(.int .i64 0)]) ?_
 refine se ?_
 refine ec 39 (zero7 _) ?_
 rintro e20 w20 ⟨rfl,g20⟩
 refine ⟨_,rfl,?_⟩
 replace hB:=hB.trans g20
 simp only [p3,p4]
 refine sv 40 (.agg #[(.int .i64 12),(.int .i64 1),(.int .i64 0),(.int .i64 0),(.string ⟨([48]:List UInt8).toArray⟩),(.string ⟨([48]:List UInt8).toArray⟩),(.string ⟨([48]:List UInt8).toArray⟩)]) ?_
 refine se ?_
 refine ec 41 (join_k2 _ (hm.gr hB) (ht.gr hB)) ?_
 rintro e21 w21 ⟨rfl,g21⟩
 refine ⟨_,rfl,?_⟩
 replace hB:=hB.trans g21
 simp only [p3,p4]
 refine sv 34 (.tuple #[(.agg #[(.int .i64 0),(.int .i64 0),(.int .i64 0),(.int .i64 0),(.string ⟨([]:List UInt8).toArray⟩),(.string ⟨([]:List UInt8).toArray⟩),(.string ⟨([]:List UInt8).toArray⟩)]),(.int .i64 2)]) ?_
 refine sv 42 (.agg #[(.int .i64 0),(.int .i64 0),(.int .i64 0),(.int .i64 0),(.string ⟨([]:List UInt8).toArray⟩),(.string ⟨([]:List UInt8).toArray⟩),(.string ⟨([]:List UInt8).toArray⟩)]) ?_
 refine sv 43 (.int .i64 2) ?_
 refine se ?_
 refine ea 27 #[(.int .i64 0),(.int .i64 0),(.int .i64 0),(.int .i64 0),(.string ⟨([]:List UInt8).toArray⟩),(.string ⟨([]:List UInt8).toArray⟩),(.string ⟨([]:List UInt8).toArray⟩)] 7 hB fun b22 w22 g22 L22 o22 q22 hB=>?_
 replace L5:=(st17.lc (L5.gr g16) ne5_16).gr (g19.trans (g20.trans g21))
 have ne5_22:=L5.ne o22
 replace L10:=(st17.lc (L10.gr g16) ne10_16).gr (g19.trans (g20.trans g21))
 have ne10_22:=L10.ne o22
 replace L16:=L16.gr (g19.trans (g20.trans g21))
 have ne16_22:=L16.ne o22
 simp only [p3,p4]
 refine se ?_
 have lo23:=L22
 refine es 27 0 (.agg #[(.int .i64 0),(.int .i64 0),(.int .i64 0),(.int .i64 0),(.string ⟨([]:List UInt8).toArray⟩),(.string ⟨([]:List UInt8).toArray⟩),(.string ⟨([]:List UInt8).toArray⟩)]) [(.int .i64 0),(.int .i64 0),(.int .i64 0),(.int .i64 0),(.string ⟨([]:List UInt8).toArray⟩),(.string ⟨([]:List UInt8).toArray⟩),(.string ⟨([]:List UInt8).toArray⟩)] #[(.int .i64 0),(.int .i64 0),(.int .i64 0),(.int .i64 0),(.string ⟨([]:List UInt8).toArray⟩),(.string ⟨([]:List UInt8).toArray⟩),(.string ⟨([]:List UInt8).toArray⟩)] L22 hB q22 ⟨rfl,rfl,rfl,rfl,rfl,rfl,rfl,trivial⟩ fun w23 st23 kp23 L22 hB=>?_
 refine sv 8 (.int .i64 2) ?_
 refine sq_nil ?_
 refine k18 _ _ ?_
 try clear k18 K18
 refine wp_seq_k (fun K24 k24=>?_)
 refine rg [0,1] ?_
 refine se ?_
 refine ec 44 (mquarters _ (hm.gr hB)) ?_
 rintro e25 w25 ⟨⟨v25,rfl,hs25⟩,g25⟩
 refine ⟨_,rfl,?_⟩
 replace hB:=hB.trans g25
 simp only [p3,p4]
 refine sv 9 v25 ?_
 refine sq_nil ?_
 refine k24 _ _ ?_
 try clear k24 K24
 refine wp_seq_k (fun K26 k26=>?_)
 obtain ⟨_,_,rfl,at42⟩:=hs25.get (by decide) (getD_some (d:=((0,0,0,0):Int × Int × Int × Int)) (i:=1) (xs:=quarters) (by rw [quarters_len];omega))
 have gd43:=Gr.drew w25
 replace hB:=hB.trans gd43
 replace L5:=(st23.lc (L5.gr g22) ne5_22).gr (g25.trans gd43)
 replace L10:=(st23.lc (L10.gr g22) ne10_22).gr (g25.trans gd43)
 replace L16:=(st23.lc (L16.gr g22) ne16_22).gr (g25.trans gd43)
 replace at42:=at42.gr gd43
 refine wp_region_ord (fun w'=>Lc w' b5 #[m4_0,m4_1,m4_2,m4_3,m4_4,m4_5,m4_6,m4_7,m4_8,m4_9,m4_10,m4_11,m4_12,m4_13,m4_14,m4_15,m4_16,m4_17,m4_18,m4_19,m4_20,m4_21,m4_22,m4_23,m4_24,m4_25,m4_26,m4_27,m4_28,m4_29,m4_30,m4_31,m4_32,m4_33,m4_34,m4_35,m4_36,m4_37,m4_38,m4_39,m4_40,m4_41,m4_42,m4_43,m4_44,m4_45,m4_46,m4_47] 41∧Lc w' b10 #[m9_0,m9_1,m9_2,m9_3,m9_4,m9_5,m9_6,m9_7,m9_8,m9_9,m9_10,m9_11,m9_12,m9_13,m9_14,m9_15,m9_16,m9_17,m9_18,m9_19,m9_20,m9_21,m9_22,m9_23,m9_24,m9_25,m9_26,m9_27,m9_28,m9_29,m9_30,m9_31,m9_32,m9_33,m9_34,m9_35,m9_36,m9_37,m9_38,m9_39,m9_40,m9_41,m9_42,m9_43,m9_44,m9_45,m9_46,m9_47] 41∧Lc w' b16 #[(.int .i64 0),(.int .i64 0),(.int .i64 0),(.int .i64 1),(.string ⟨([48]:List UInt8).toArray⟩),(.string ⟨([48]:List UInt8).toArray⟩),(.string ⟨([48]:List UInt8).toArray⟩)] 27∧AtV w' v25 (1*4) [(.int .i64 (((quarters).getD 1 (0,0,0,0)).1)),(.int .i64 (((quarters).getD 1 (0,0,0,0)).2.1)),(.int .i64 (((quarters).getD 1 (0,0,0,0)).2.2.1)),(.int .i64 (((quarters).getD 1 (0,0,0,0)).2.2.2))]) [(true,0),(true,1),(true,2),(true,3),(true,4),(true,5),(true,6),(true,7),(true,8),(true,9),(true,10),(true,11),(true,12),(true,13),(true,14),(true,15),(true,16),(true,20),(false,17),(false,18),(false,19),(true,21),(true,22),(true,23),(true,24),(true,25),(true,26),(true,28),(false,27),(true,29),(true,30),(true,31),(true,32),(true,33),(true,34),(true,35),(true,36),(true,37),(true,38),(true,39),(true,40),(true,41),(true,42),(true,43),(true,44),(true,45),(true,46),(true,47),(true,48),(true,49)] (by kernel_rfl) (by kernel_rfl) (by kernel_rfl) (by decide) (fun _ _ _ _ _ h=>h) ⟨L5,L10,L16,at42⟩ ?_
 refine ov 45 (.int .i64 0) ?_
 refine ov 46 (.bool true) ?_
 refine ov 47 (.bool true) ?_
 refine ov 48 (.int .i64 0) ?_
 refine ov 49 (.bool true) ?_
 refine ov 50 (.bool true) ?_
 refine ov 51 (.bool true) ?_
 refine ov 52 (.int .i64 0) ?_
 refine ov 53 (.bool true) ?_
 refine ov 54 (.bool true) ?_
 refine ov 55 (.bool true) ?_
 refine ov 56 (.int .i64 2) ?_
 refine ov 57 (.bool true) ?_
 refine ov 58 (.bool true) ?_
 refine ov 59 (.bool true) ?_
 refine ow 60 (.agg #[m4_0,m4_1,m4_2,m4_3,m4_4,m4_5,m4_6,m4_7,m4_8,m4_9,m4_10,m4_11,m4_12,m4_13,m4_14,m4_15,m4_16,m4_17,m4_18,m4_19,m4_20,m4_21,m4_22,m4_23,m4_24,m4_25,m4_26,m4_27,m4_28,m4_29,m4_30,m4_31,m4_32,m4_33,m4_34,m4_35,m4_36,m4_37,m4_38,m4_39,m4_40,m4_41,m4_42,m4_43,m4_44,m4_45,m4_46,m4_47]) rfl (fun w' hS=>(rl 41 0 [m4_0,m4_1,m4_2,m4_3,m4_4,m4_5,m4_6,m4_7,m4_8,m4_9,m4_10,m4_11,m4_12,m4_13,m4_14,m4_15,m4_16,m4_17,m4_18,m4_19,m4_20,m4_21,m4_22,m4_23,m4_24,m4_25,m4_26,m4_27,m4_28,m4_29,m4_30,m4_31,m4_32,m4_33,m4_34,m4_35,m4_36,m4_37,m4_38,m4_39,m4_40,m4_41,m4_42,m4_43,m4_44,m4_45,m4_46,m4_47] hS.1)) ?_
 refine ov 61 (.agg #[(.int .i64 1),(.int .i64 0),(.int .i64 0)]) ?_
 refine ov 65 (.agg #[(.string ⟨([48]:List UInt8).toArray⟩),(.string ⟨([49]:List UInt8).toArray⟩),(.string ⟨([48]:List UInt8).toArray⟩)]) ?_
 refine oe ?_
 refine ec 62 (vof_v (1) (0) (0) (by omega) (by omega) (by omega) _) ?_
 rintro e45 w45 ⟨⟨t45_0,t45_1,t45_2,t45_3,t45_4,t45_5,t45_6,t45_7,t45_8,t45_9,t45_10,t45_11,rfl,h45a,h45b,h45c⟩,g45⟩
 refine ⟨_,rfl,?_⟩
 replace hB:=hB.trans g45
 rw [show ((((1:Int):Rat)):Rat)=(1:Rat) from by kernel_rfl] at h45a
 rw [show ((((0:Int):Rat)):Rat)=(0:Rat) from by kernel_rfl] at h45b
 rw [show ((((0:Int):Rat)):Rat)=(0:Rat) from by kernel_rfl] at h45c
 replace L5:=L5.gr g45
 replace L10:=L10.gr g45
 replace L16:=L16.gr g45
 replace at42:=at42.gr g45
 refine ⟨⟨L5,L10,L16,at42⟩,?_⟩
 simp only [p3,p4]
 refine oe ?_
 have kq48:=g5.kp.trans (kp6.trans (g8.kp.trans (g9.kp.trans (g10.kp.trans (kp11.trans (g13.kp.trans (g14.kp.trans (g15.kp.trans (g16.kp.trans (kp17.trans (g19.kp.trans (g20.kp.trans (g21.kp.trans (g22.kp.trans (kp23.trans (g25.kp.trans (gd43.kp.trans g45.kp)))))))))))))))))
 replace h4_0:=h4_0.kp kq48
 replace h4_1:=h4_1.kp kq48
 replace h4_2:=h4_2.kp kq48
 replace h4_3:=h4_3.kp kq48
 replace h4_4:=h4_4.kp kq48
 replace h4_5:=h4_5.kp kq48
 replace h4_6:=h4_6.kp kq48
 replace h4_7:=h4_7.kp kq48
 replace h4_8:=h4_8.kp kq48
 replace h4_9:=h4_9.kp kq48
 replace h4_10:=h4_10.kp kq48
 replace h4_11:=h4_11.kp kq48
 refine ec 63 (mapply64 h4_0 h4_1 h4_2 h4_3 h4_4 h4_5 h4_6 h4_7 h4_8 h4_9 h4_10 h4_11 h45a h45b h45c (ht.gr hB) (hm.gr hB)) ?_
 rintro e47 w47 ⟨⟨t47_0,t47_1,t47_2,t47_3,t47_4,t47_5,t47_6,t47_7,t47_8,t47_9,t47_10,t47_11,rfl,h47_0,h47_1,h47_2⟩,g47⟩
 refine ⟨_,rfl,?_⟩
 replace hB:=hB.trans g47
 rw [show (((0+(0:Rat)*(1:Rat)+(-1:Rat)*(0:Rat)+(0:Rat)*(0:Rat))+(0:Rat)):Rat)=(0:Rat) from by kernel_rfl] at h47_0
 rw [show (((0+(1:Rat)*(1:Rat)+(0:Rat)*(0:Rat)+(0:Rat)*(0:Rat))+(0:Rat)):Rat)=(1:Rat) from by kernel_rfl] at h47_1
 rw [show (((0+(0:Rat)*(1:Rat)+(0:Rat)*(0:Rat)+(1:Rat)*(0:Rat))+(0:Rat)):Rat)=(0:Rat) from by kernel_rfl] at h47_2
 replace L5:=L5.gr g47
 replace L10:=L10.gr g47
 replace L16:=L16.gr g47
 replace at42:=at42.gr g47
 refine ⟨⟨L5,L10,L16,at42⟩,?_⟩
 simp only [p3,p4]
 refine oe ?_
 refine ec 64 (vpoint_v h47_0 h47_1 h47_2 (by omega) (ht.gr hB)) ?_
 rintro e50 w50 ⟨rfl,g50⟩
 refine ⟨_,rfl,?_⟩
 replace hB:=hB.trans g50
 replace L5:=L5.gr g50
 replace L10:=L10.gr g50
 replace L16:=L16.gr g50
 replace at42:=at42.gr g50
 refine ⟨⟨L5,L10,L16,at42⟩,?_⟩
 simp only [p3,p4]
 have hb51:(sEq [(ratL ((0:Rat))),(ratL ((1:Rat))),(ratL ((0:Rat)))] [([48]:List UInt8),([49]:List UInt8),([48]:List UInt8)])=true:=(lawK70)
 refine ow 66 (.bool true) rfl (fun w' hS=>(RunV.bool (x:=sEq [(ratL ((0:Rat))),(ratL ((1:Rat))),(ratL ((0:Rat)))] [([48]:List UInt8),([49]:List UInt8),([48]:List UInt8)]) (rv_ssq 25 25 23 _ _ [(ratL ((0:Rat))),(ratL ((1:Rat))),(ratL ((0:Rat)))] [([48]:List UInt8),([49]:List UInt8),([48]:List UInt8)] rfl rfl rfl (by kernel_rfl) (by kernel_rfl) (by kernel_rfl)) hb51)) ?_
 refine ov 67 (.bool true) ?_
 refine ov 68 (.bool true) ?_
 refine ov 69 (.pointer (some ⟨b10,0,none⟩)) ?_
 refine ov 70 (.pointer (some ⟨b10,12,none⟩)) ?_
 refine ow 71 (.agg #[m9_12,m9_13,m9_14,m9_15,m9_16,m9_17,m9_18,m9_19,m9_20,m9_21,m9_22,m9_23]) rfl (fun w' hS=>(rl 38 12 [m9_12,m9_13,m9_14,m9_15,m9_16,m9_17,m9_18,m9_19,m9_20,m9_21,m9_22,m9_23] hS.2.1)) ?_
 refine ov 73 (.agg #[(.string ⟨([48]:List UInt8).toArray⟩),(.string ⟨([51,47,53]:List UInt8).toArray⟩),(.string ⟨([45,52,47,53]:List UInt8).toArray⟩)]) ?_
 refine oe ?_
 have kq54:=g10.kp.trans (kp11.trans (g13.kp.trans (g14.kp.trans (g15.kp.trans (g16.kp.trans (kp17.trans (g19.kp.trans (g20.kp.trans (g21.kp.trans (g22.kp.trans (kp23.trans (g25.kp.trans (gd43.kp.trans (g45.kp.trans (g47.kp.trans g50.kp)))))))))))))))
 replace h9_3:=h9_3.kp kq54
 replace h9_4:=h9_4.kp kq54
 replace h9_5:=h9_5.kp kq54
 refine ec 72 (vpoint_v h9_3 h9_4 h9_5 (by omega) (ht.gr hB)) ?_
 rintro e53 w53 ⟨rfl,g53⟩
 refine ⟨_,rfl,?_⟩
 replace hB:=hB.trans g53
 replace L5:=L5.gr g53
 replace L10:=L10.gr g53
 replace L16:=L16.gr g53
 replace at42:=at42.gr g53
 refine ⟨⟨L5,L10,L16,at42⟩,?_⟩
 simp only [p3,p4]
 have hb55:(sEq [(ratL ((0:Rat))),(ratL ((3/5:Rat))),(ratL ((-4/5:Rat)))] [([48]:List UInt8),([51,47,53]:List UInt8),([45,52,47,53]:List UInt8)])=true:=(lawK71)
 refine ow 74 (.bool true) rfl (fun w' hS=>(RunV.bool (x:=sEq [(ratL ((0:Rat))),(ratL ((3/5:Rat))),(ratL ((-4/5:Rat)))] [([48]:List UInt8),([51,47,53]:List UInt8),([45,52,47,53]:List UInt8)]) (rv_ssq 25 25 23 _ _ [(ratL ((0:Rat))),(ratL ((3/5:Rat))),(ratL ((-4/5:Rat)))] [([48]:List UInt8),([51,47,53]:List UInt8),([45,52,47,53]:List UInt8)] rfl rfl rfl (by kernel_rfl) (by kernel_rfl) (by kernel_rfl)) hb55)) ?_
 refine ov 75 (.bool true) ?_
 refine ov 76 (.bool true) ?_
 refine ov 77 (.pointer (some ⟨b16,0,none⟩)) ?_
 refine ow 78 (.agg #[(.int .i64 0),(.int .i64 0),(.int .i64 0),(.int .i64 1)]) rfl (fun w' hS=>(rl 22 0 [(.int .i64 0),(.int .i64 0),(.int .i64 0),(.int .i64 1)] hS.2.2.1)) ?_
 refine ov 79 (.agg #[(.int .i64 0),(.int .i64 0),(.int .i64 0),(.int .i64 1)]) ?_
 refine ov 80 (.bool true) ?_
 refine ov 81 (.bool true) ?_
 refine ov 82 (.bool true) ?_
 refine ov 83 v25 ?_
 refine ow 84 (.int .i64 (((quarters).length:Int))) rfl (fun w' hS=>(rv_len (e:=22) hs25 _ _ rfl rfl (by kernel_rfl))) ?_
 have hb56:((((quarters).length:Int)==(24:Int)))=true:=(lawK72)
 refine ow 85 (.bool true) rfl (fun w' hS=>(RunV.bool (x:=(((quarters).length:Int)==(24:Int))) (rvk (by kernel_rfl)) hb56)) ?_
 refine ov 86 (.bool true) ?_
 refine ov 87 (.bool true) ?_
 refine ov 88 v25 ?_
 refine ow 89 (adr v25 (1*4)) rfl (fun w' hS=>(rv_idx (e:=22) hs25 (by decide) 1 (by rw [quarters_len];omega) _ _ _ rfl rfl rfl (by kernel_rfl) (by kernel_rfl))) ?_
 refine ow 90 (.agg #[(.int .i64 (((quarters).getD 1 (0,0,0,0)).1)),(.int .i64 (((quarters).getD 1 (0,0,0,0)).2.1)),(.int .i64 (((quarters).getD 1 (0,0,0,0)).2.2.1)),(.int .i64 (((quarters).getD 1 (0,0,0,0)).2.2.2))]) rfl (fun w' hS=>(rv_ldn [(.int .i64 (((quarters).getD 1 (0,0,0,0)).1)),(.int .i64 (((quarters).getD 1 (0,0,0,0)).2.1)),(.int .i64 (((quarters).getD 1 (0,0,0,0)).2.2.1)),(.int .i64 (((quarters).getD 1 (0,0,0,0)).2.2.2))] hS.2.2.2 _ _ rfl rfl (by kernel_rfl))) ?_
 refine ov 91 (.agg #[(.int .i64 0),(.int .i64 0),(.int .i64 1),(.int .i64 (-1))]) ?_
 have hb57:((((quarters).getD 1 (0,0,0,0)).1==0&&((quarters).getD 1 (0,0,0,0)).2.1==0&&((quarters).getD 1 (0,0,0,0)).2.2.1==1&&((quarters).getD 1 (0,0,0,0)).2.2.2==(-1)))=true:=(lawK73)
 refine ow 92 (.bool true) rfl (fun w' hS=>(RunV.bool (x:=(((quarters).getD 1 (0,0,0,0)).1==0&&((quarters).getD 1 (0,0,0,0)).2.1==0&&((quarters).getD 1 (0,0,0,0)).2.2.1==1&&((quarters).getD 1 (0,0,0,0)).2.2.2==(-1))) (rv_arreq 22 22 3 (k:=.i64) _ _ [((quarters).getD 1 (0,0,0,0)).1,((quarters).getD 1 (0,0,0,0)).2.1,((quarters).getD 1 (0,0,0,0)).2.2.1,((quarters).getD 1 (0,0,0,0)).2.2.2] [0,0,1,-1] rfl rfl rfl (by kernel_rfl) (by kernel_rfl) (by kernel_rfl)) hb57)) ?_
 refine ov 93 (.bool true) ?_
 refine ov 0 (.bool true) ?_
 refine ord_nil ?_
 refine k26 _ _ ?_
 try clear k26 K26
 refine wp_ret ?_
 refine bodyPost_ret (v:=(.bool true)) (ret_tmp rfl rfl) rfl ⟨?_,hB⟩
 exact rfl

end Go.Proofs.YtaldbfflkpgfoaaGreatDoor
/- Printed by a program of the prover's:the contract of known. -/
namespace Go.Proofs.YtaldbfflkpgfoaaGreatDoor
open Go.RowKit

def cKnown:ConT:=fun args _ _=>match args with
  | []=>some (.leaf (.so (.vc (.cb true (some true)))) 0 0)
  | _=>none
theorem cKnown_ok {I:World→Prop} (hI:∀ w,I w→Tab w∧Mx w):ConOK Tryz.prog I 11 cKnown:=by
  intro args E n w T hw _ hT _
  unfold cKnown at hT
  split at hT
  · cases hT
    exact (known7 w (hI w hw).1 (hI w hw).2).mono fun e w' he=>val_holds he ⟨rfl,fun v hv=>by cases hv;rfl⟩
  · cases hT
end Go.Proofs.YtaldbfflkpgfoaaGreatDoor
/- From a walk to a row:a law whose arguments hold integers. -/
namespace Go.Proofs.YtaldbfflkpgfoaaGreatDoor
open Go.ChangeShapes Go.WideShapes Go.ChangeAt Go.RowKit

theorem trodAll_kept {H:Type} {enc:TypeId × Value→H} {P:Program} (hl:laidOutB P=true) {W W':World} (hb:Below W.heap.size W W'):
    ∀ {ts:List TypeId} {vs:List Value} {ds:List (DataW H)} {ps:List MemPlace},(∀ t ∈ ts,P.readableRec t=true∧t<P.types.size)→DataW.TrodAll enc P W 0 (fun _=>true) true ts vs ds ps→
      (∀ x ∈ ps,x.block<W.heap.size)→DataW.TrodAll enc P W' 0 (fun b=>decide (b<W.heap.size)) true ts vs ds ps
  | [],[],[],_,_,h,_=>h
  | t::ts,v::vs,d::ds,ps,ht,h,hp=>by
    obtain ⟨p,q,h1,h2,rfl⟩:=h
    exact ⟨p,q,Below.trod hl (ht t (by simp)).1 (ht t (by simp)).2 h1 hb (fun x hx=>hp x (by simp [hx])),trodAll_kept hl hb (fun u hu=>ht u (by simp [hu])) h2 (fun x hx=>hp x (by simp [hx])),rfl⟩
  | [],[],_::_,_,_,h,_=>by cases h
  | [],_::_,_,_,_,h,_=>by cases h
  | _::_,[],_,_,_,h,_=>by cases h
  | _::_,_::_,[],_,_,h,_=>by cases h

/-- the row's last step:the law has returned true,and nothing of what was there has turned -/
theorem law_post {H:Type} {enc:TypeId × Value→H} {P:Program} {f:Func} {s:ChangeSpec} {W W':World} {args:Array Value} {ds gs:List (DataW H)} {before:List MemPlace} {tb:TypeId}
    (hl:laidOutB P=true) (hr0:(f.params.toList.all fun t=>P.readableRec t&&decide (t<P.types.size))=true) (hres:f.resultTypes=#[tb]) (htb:P.underlying tb=some .bool) (hv:s.vars=[])
    (hW:DataW.Whole enc P f.params.toList s.vars false W args.toList ds gs before) (hfn:s.fn H (ds++gs)={results:=[.lit (.bool true)],args:=ds}) (hb:Below W.heap.size W W'):
    s.post enc P f false true false false W args (.bool true) W':=by
  have hr:∀ t ∈ f.params.toList,P.readableRec t=true∧t<P.types.size:=fun t ht=>by
    have:=List.all_eq_true.1 hr0 t ht
    simpa using this
  have hlt:∀ p ∈ before,p.block<W.heap.size:=fun p hp=>hW.lt p hp
  have hW':=hW
  obtain ⟨p,q,hA,hV,rfl,_,_⟩:=hW
  rw [hv] at hV
  obtain ⟨rfl,rfl⟩:=trodVars_none hV
  refine ⟨ds,[],_,[],p,[],hW',?_,?_,?_,World.keptBut_mono (fun x hx=>⟨hx,.inr (.inl (by simpa using hx))⟩) (hb.frame (· ∈ p++[])),fun h=>by cases h⟩
  · rw [hfn,hres]
    exact trodAll_mk1 (shut_bool htb true)
  · rw [hfn]
    exact trodAll_kept hl hb hr hA (fun x hx=>hlt x (by simp [hx]))
  · rw [hfn,hv];rfl

theorem cell_int {P:Program} {W:World} {base u:Nat} {k:IntKind} {v:Value} (hu:P.underlying u=some (.int k)) (h:Cell.okWide P W .any base u v):∃ n,v=.int k n∧k.has n:=by
  unfold Cell.okWide at h
  rw [hu] at h
  unfold Cell.ok at h
  rw [hu] at h
  cases v<;>simp at h
  obtain ⟨rfl,h⟩:=h
  exact ⟨_,rfl,h⟩
/-- a parameter of cells that are integers -/
theorem open_cells {P:Program} {W:World} {base t:Nat} {v:Value} {ts:List TypeId} (ks:List IntKind) (hagg:(match P.underlying t with | some (.struct _) | some (.array _ _)=>true | _=>false)=true)
    (hct:P.cellTypes P.depth t=some ts) (hC:P.cellsOf t=ts.length) (hk:ts.map (fun u=>P.underlying u)=ks.map fun k=>some (.int k)) (h:Value.okWide P W .any base t v):
    ∃ cs,v=.agg cs∧cs.size=ks.length∧∀ (i:Nat) (k:IntKind),ks[i]?=some k→∃ n:Int,cs[i]?=some (.int k n)∧k.has n:=by
  have hlen:ts.length=ks.length:=by have:=congrArg List.length hk;simpa using this
  have h':∃ cs,v=.agg cs∧cs.size=P.cellsOf t∧Row.okWide P W .any base t cs:=by
    unfold Value.okWide at h
    split at h<;>first | exact h | (rename_i h1 h2;revert hagg;split<;>simp_all)
  obtain ⟨cs,hv,hs,ts',hct',_,hc⟩:=h'
  rw [hct] at hct'
  obtain rfl:=Option.some.inj hct'
  refine ⟨cs,hv,by omega,fun i k hi=>?_⟩
  have hil:i<ks.length:=(List.getElem?_eq_some_iff.1 hi).1
  have hic:i<cs.size:=by omega
  obtain ⟨u,hu,hcell⟩:=hc i cs[i] (Array.getElem?_eq_getElem hic)
  rw [Nat.mod_eq_of_lt (by omega)] at hu
  have:(ts.map (fun u=>P.underlying u))[i]?=some (P.underlying u):=by simp [hu]
  rw [hk] at this
  simp only [List.getElem?_map,hi,Option.map_some,Option.some.injEq] at this
  obtain ⟨n,hn,hh⟩:=cell_int this.symm hcell
  exact ⟨n,by rw [Array.getElem?_eq_getElem hic,hn],hh⟩
theorem has_i8 {n:Int} (h:IntKind.i8.has n):-128≤n∧n≤127:=h
theorem has_u8 {n:Int} (h:IntKind.u8.has n):0≤n∧n≤255:=h
theorem own:ownKnob Tryz.prog.godebug=none:=by kernel_rfl
theorem laidOut:laidOutB Tryz.prog=true:=by kernel_rfl
end Go.Proofs.YtaldbfflkpgfoaaGreatDoor
/- From a walk to a row:laws whose arguments hold strings,over worlds with sentinels laid. -/
namespace Go.Proofs.YtaldbfflkpgfoaaGreatDoor
open Go.ChangeShapes Go.WideShapes Go.ChangeAt Go.RowKit

section
variable {H:Type} {enc:TypeId × Value→H}
/-- there is an input that fits,at a world of which the shape is known -/
theorem witness_row_sh {C:Checked} {os:Os} {f:FuncId} {fn:Func} {s:OpenSpec} {conds:List PathCond} {apart:Bool} {laid:List (String × DataW Unit)} (modest:Bool) (w0:World) (args:Array Value) (hos:w0.os=os)
    (hsh:(w0.forCall (fun _ _=>0) ⟨#[],args,[]⟩).Shaped C.prog)
    (hok:Input.okWideB C.prog (w0.forCall (fun _ _=>0) ⟨#[],args,[]⟩) f ⟨#[],args,[]⟩=true)
    (hrow:s.preRow enc C.prog fn conds apart laid (w0.forCall (fun _ _=>0) ⟨#[],args,[]⟩).memory args):
    ∃ (w:World) (tape:Tape) (i:Input),w.os=os∧(w.forCall tape i).Shaped C.prog∧i.vars=[]∧Input.okWide C.prog (w.forCall tape i) .any w.heap.size f i∧
      s.preRow enc C.prog fn conds apart laid (w.forCall tape i).memory i.args∧({modest:=modest}:Assume).holds C.prog (lone (Frame.enter C.prog f i.args .normal) [] (w.forCall tape i)):=
  ⟨w0,fun _ _=>0,⟨#[],args,[]⟩,hos,hsh,(Input.okWide_of_okWideB (base:=0) hok).1,(Input.okWide_of_okWideB hok).2,hrow,by
    simp only [Assume.holds]
    exact ⟨by simp,by simp,fun _=>Modest.zero,by simp,by simp⟩⟩
end
end Go.Proofs.YtaldbfflkpgfoaaGreatDoor
/- What an input weighs:strings in an array are no longer than memory. -/
namespace Go.Proofs.YtaldbfflkpgfoaaGreatDoor
open Go.ChangeShapes Go.WideShapes Go.ChangeAt Go.RowKit

end Go.Proofs.YtaldbfflkpgfoaaGreatDoor
/- Printed by a program of the prover's:what runs on symbols are given. -/
namespace Go.Proofs.YtaldbfflkpgfoaaGreatDoor
open Go.RowKit

end Go.Proofs.YtaldbfflkpgfoaaGreatDoor
