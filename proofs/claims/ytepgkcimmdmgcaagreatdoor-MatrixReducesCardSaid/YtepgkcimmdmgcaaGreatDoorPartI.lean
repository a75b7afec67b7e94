/- Joined of: Gen186, RowMatrixReduces. -/
import Derived.Test.YtepgkcimmdmgcaaGreatDoorPartH
import Derived.Test.YtepgkcimmdmgcaaGreatDoorCards
import Derived.Test.YtepgkcimmdmgcaaGreatDoorTie
import Derived.Test.YtepgkcimmdmgcaaGreatDoorPartA
import Derived.Test.YtepgkcimmdmgcaaGreatDoorPartB
namespace Go.Proofs.YtepgkcimmdmgcaaGreatDoor
open Go.RowKit

set_option maxRecDepth 100000 in
set_option maxHeartbeats 1000000 in
theorem mr_s {z:Int} {R N ca:Nat} {va:Value} {m:Mx_} (hR0:0<R) (hne:¬ (N:Int)=z) {w:World} (hm:Mx w) (ht:Tab w) (hta:TA w (.agg #[.int .u8 (ca:Int),va]) R N m):
    Calls Tryz.prog 3 #[(.agg #[(.int .u8 ((ca:Int))),va]),(.int .i64 (z))] w fun e w'=>e=.returned (.bool true)∧Gr w w':=by
 have hR5:=hta.R5
 have hN6:=hta.N6
 have hRN:=hta.R0
 have hpl:=rs_len R m N
 have hpn:=rs_ple R m N
 have hnf:=nfr_le R m N N
 go_enter Tryz.func3,Tryz.ntmps3
 have hB:=Gr.refl w
 refine wp_seq_k (fun K10 k10=>?_)
 refine rg [0,1] ?_
 refine se ?_
 refine eb 24 #[(.int .u8 ((ca:Int))),va] 2 hB fun b11 w11 g11 L11 o11 q11 hB=>?_
 simp only [p3,p4]
 refine sv 4 (.bool false) ?_
 refine sq_nil ?_
 refine k10 _ _ ?_
 try clear k10 K10
 refine wp_seq_k (fun K12 k12=>?_)
 refine wp_seq_k (fun K13 k13=>?_)
 refine rg [0,1] ?_
 refine se ?_
 refine ec 16 (l5_known _ (hm.gr hB) (ht.gr hB)) ?_
 rintro e14 w14 ⟨rfl,g14⟩
 refine ⟨_,rfl,?_⟩
 replace hB:=hB.trans g14
 simp only [p3,p4]
 refine sv 17 (.bool false) ?_
 refine sq_nil ?_
 refine k13 _ _ ?_
 try clear k13 K13
 refine wp_cond_false rfl ?_
 refine wp_skip ?_
 refine k12 _ _ ?_
 try clear k12 K12
 refine wp_seq_k (fun K15 k15=>?_)
 refine rg [0,1,2] ?_
 replace L11:=L11.gr g14
 refine sw 18 (.agg #[(.int .u8 ((ca:Int))),va]) rfl (rl 24 0 [(.int .u8 ((ca:Int))),va] L11) ?_
 refine se ?_
 refine ec 19 (l5_rowsT (hta.gr hB)) ?_
 rintro e16 w16 ⟨⟨u16,rfl,hs16⟩,g16⟩
 refine ⟨_,rfl,?_⟩
 replace hB:=hB.trans g16
 simp only [p3,p4]
 refine sv 5 u16 ?_
 refine sq_nil ?_
 refine k15 _ _ ?_
 try clear k15 K15
 refine wp_seq_k (fun K17 k17=>?_)
 refine rg [0,1,2,3,4,5,6,7,8,9] ?_
 refine sv 21 u16 ?_
 refine se ?_
 refine ec 22 (l5_own (by omega) (by omega) (fun i _ k _=>(hta.z i k).mono (by omega) (by omega)) (hm.gr hB) hs16) ?_
 rintro e18 w18 ⟨⟨u18,rfl,hs18⟩,g18⟩
 refine ⟨_,rfl,?_⟩
 replace hB:=hB.trans g18
 simp only [p3,p4]
 refine se ?_
 refine ec 23 (mx_Reduce (K:=4899) (R:=R) (N:=N) (m:=m) hRN (by omega) (by omega) (by omega) (by omega) hta.bd (hs18.ratrows (by omega))) ?_
 rintro e19 w19 ⟨⟨u19,v19,rfl,hs19,hp19⟩,g19⟩
 refine ⟨_,rfl,?_⟩
 replace hB:=hB.trans g19
 simp only [p3,p4]
 refine sv 20 (.tuple #[u19,v19,(.int .i64 0)]) ?_
 refine sv 24 u19 ?_
 refine sv 25 v19 ?_
 refine sv 26 (.int .i64 0) ?_
 refine sv 6 u19 ?_
 refine sv 7 v19 ?_
 refine sv 8 (.int .i64 0) ?_
 refine sq_nil ?_
 refine k17 _ _ ?_
 try clear k17 K17
 refine wp_seq_k (fun K20 k20=>?_)
 refine rg [0,1,2,3,4,5,6,7] ?_
 refine sv 28 u16 ?_
 refine se ?_
 replace hs16:=hs16.gr (stab_rw stab_fr 84 2) (g18.trans g19)
 refine ec 29 (l5_own (by omega) (by omega) (fun i _ k _=>(hta.z i k).mono (by omega) (by omega)) (hm.gr hB) hs16) ?_
 rintro e21 w21 ⟨⟨u21,rfl,hs21⟩,g21⟩
 refine ⟨_,rfl,?_⟩
 replace hB:=hB.trans g21
 simp only [p3,p4]
 refine se ?_
 refine ec 30 (mx_Rank (K:=4899) (R:=R) (N:=N) (m:=m) hRN (by omega) (by omega) (by omega) (by omega) hta.bd ((hs21.ratrows (by omega)))) ?_
 rintro e22 w22 ⟨rfl,g22⟩
 refine ⟨_,rfl,?_⟩
 replace hB:=hB.trans g22
 simp only [p3,p4]
 refine sv 27 (.tuple #[(.int .i64 (((pl R m N:Nat):Int))),(.int .i64 0)]) ?_
 refine sv 31 (.int .i64 (((pl R m N:Nat):Int))) ?_
 refine sv 32 (.int .i64 0) ?_
 refine sv 9 (.int .i64 (((pl R m N:Nat):Int))) ?_
 refine sv 10 (.int .i64 0) ?_
 refine sq_nil ?_
 refine k20 _ _ ?_
 try clear k20 K20
 refine wp_seq_k (fun K23 k23=>?_)
 refine rg [0,1,2,3,4,5,6] ?_
 refine sv 34 u16 ?_
 refine se ?_
 replace hs16:=hs16.gr (stab_rw stab_fr 84 2) (g21.trans g22)
 refine ec 35 (f5_reduceW (K:=4899) (R:=R) (D:=N) (m:=m) (by omega) (by omega) (by omega) hta.bf hs16) ?_
 rintro e24 w24 ⟨⟨u24,v24,rfl,hs24,hp24⟩,g24⟩
 refine ⟨_,rfl,?_⟩
 replace hB:=hB.trans g24
 simp only [p3,p4]
 refine sv 33 (.tuple #[u24,v24]) ?_
 refine sv 36 u24 ?_
 refine sv 37 v24 ?_
 refine sv 11 u24 ?_
 refine sv 12 v24 ?_
 refine sq_nil ?_
 refine k23 _ _ ?_
 try clear k23 K23
 refine wp_seq_k (fun K25 k25=>?_)
 refine wp_seq_k (fun K26 k26=>?_)
 refine rg [0,1,2,3,4,5,6,7,8,9,10,11,12,13,14,15,16,17,18,19,20,21,22,23,24] ?_
 refine sv 38 u19 ?_
 refine sv 39 u24 ?_
 refine se ?_
 replace hs19:=hs19.gr (stab_rw (stab_rat 4899) 71 4) (g21.trans (g22.trans g24))
 refine ec 40 (l5_is (L:=4899) (by omega) (by omega) (by omega) (by omega) (fun i hi k hk=>(hta.bd N (Nat.le_refl _)).1 i (by omega) k hk) (ht.gr hB) hs19 hs24) ?_
 rintro e27 w27 ⟨rfl,g27⟩
 refine ⟨_,rfl,?_⟩
 replace hB:=hB.trans g27
 simp only [p3,p4]
 refine sv 41 (.bool false) ?_
 refine sv 42 (.bool false) ?_
 refine sv 43 v19 ?_
 refine sw 44 (.int .i64 (((pl R m N:Nat):Int))) rfl (rv_lenn (e:=3) hp19 (tb_lenz rfl) _ _ rfl rfl (by kernel_rfl)) ?_
 refine sv 45 v24 ?_
 refine sw 46 (.int .i64 (((pl R m N:Nat):Int))) rfl (rv_lenn (e:=3) hp24 (tb_lenz rfl) _ _ rfl rfl (by kernel_rfl)) ?_
 have hb28:((((pl R m N:Nat):Int) !=((pl R m N:Nat):Int)))=false:=(by simp)
 refine sw 47 (.bool false) rfl (RunV.bool (x:=(((pl R m N:Nat):Int) !=((pl R m N:Nat):Int))) (rvk (by kernel_rfl)) hb28) ?_
 refine sv 48 (.bool false) ?_
 refine sv 49 (.bool false) ?_
 refine sv 50 (.int .i64 0) ?_
 refine sv 51 (.bool false) ?_
 refine sv 52 (.bool false) ?_
 refine sv 53 (.bool false) ?_
 refine sv 54 (.int .i64 (((pl R m N:Nat):Int))) ?_
 refine sv 55 u24 ?_
 refine sw 56 (.int .i64 (((pl R m N:Nat):Int))) rfl (rv_lenn (e:=51) hs24 (tb_lenz rfl) _ _ rfl rfl (by kernel_rfl)) ?_
 refine sw 57 (.bool false) rfl (RunV.bool (x:=(((pl R m N:Nat):Int) !=((pl R m N:Nat):Int))) (rvk (by kernel_rfl)) hb28) ?_
 refine sv 58 (.bool false) ?_
 refine sv 59 (.bool false) ?_
 refine sv 60 (.int .i64 0) ?_
 refine sv 61 (.bool false) ?_
 refine sv 62 (.bool false) ?_
 refine sq_nil ?_
 refine k26 _ _ ?_
 try clear k26 K26
 refine wp_cond_false rfl ?_
 refine wp_skip ?_
 refine k25 _ _ ?_
 try clear k25 K25
 refine wp_seq_k (fun K29 k29=>?_)
 refine wp_seq_k (fun K30 k30=>?_)
 have lehD:=Below.size hB
 have hD:=Gr.refl w27
 replace hs16:=hs16.gr (stab_rw stab_fr 84 2) (g24.trans g27)
 replace hs18:=hs18.gr (stab_rw (stab_rat 64) 71 4) (g19.trans (g21.trans (g22.trans (g24.trans g27))))
 replace hs19:=hs19.gr (stab_rw (stab_rat 4899) 71 4) g27
 replace hp19:=hp19.gr stab_i64 (g21.trans (g22.trans (g24.trans g27)))
 replace hs21:=hs21.gr (stab_rw (stab_rat 64) 71 4) (g22.trans (g24.trans g27))
 replace hs24:=hs24.gr (stab_rw stab_fr 84 2) g27
 replace hp24:=hp24.gr stab_i64 g27
 refine rg [0] ?_
 refine sv 13 (.int .i64 0) ?_
 refine sq_nil ?_
 refine k30 _ _ ?_
 try clear k30 K30
 refine wp_block ?_
 refine wp_loop_inv (a:=⟨List.toArray ?l31,[]⟩) (fun n a w'=>∃ (i:Nat) (u31:Nat→Value),(pl R m N) - i=n∧a=⟨[(.agg #[(.int .u8 ((ca:Int))),va]),(.int .i64 (z)),(.pointer (some ⟨b11,0,none⟩)),undef,(u31 4),u16,u19,v19,(.int .i64 0),(.int .i64 (((pl R m N:Nat):Int))),(.int .i64 0),u24,v24,(.int .i64 ((i:Int))),undef,undef,(u31 16),(.bool false),(u31 18),(u31 19),(u31 20),(u31 21),(u31 22),(u31 23),(u31 24),(u31 25),(u31 26),(u31 27),(u31 28),(u31 29),(u31 30),(u31 31),(u31 32),(u31 33),(u31 34),(u31 35),(u31 36),(u31 37),(u31 38),(u31 39),(u31 40),(u31 41),(u31 42),(u31 43),(u31 44),(u31 45),(u31 46),(u31 47),(u31 48),(u31 49),(u31 50),(u31 51),(u31 52),(u31 53),(u31 54),(u31 55),(u31 56),(u31 57),(u31 58),(u31 59),(u31 60),(u31 61),(.bool false),(u31 63),(u31 64),(u31 65),(u31 66),(u31 67),(u31 68),(u31 69),(u31 70),(u31 71),(u31 72),(u31 73),(u31 74),(u31 75),(u31 76),(u31 77),undef,undef,undef,undef,undef,undef,undef,undef,undef,undef,undef,undef,undef,undef,undef,undef,undef,undef,undef,undef,undef,undef,undef,undef,undef,undef,undef,undef,undef,undef,undef,undef,undef,undef,undef,undef,undef,undef,undef,undef,undef,undef,undef,undef,undef,undef,undef,undef,undef,undef,undef,undef,undef,undef,undef,undef,undef,undef,undef,undef,undef,undef,undef,undef,undef,undef].toArray,[]⟩∧i≤(pl R m N)∧Gr w27 w'∧Gr w w') ((pl R m N) - 0) ?_ ?_
 ·exact ⟨0,(fun i=>List.getD ?l31 i undef),rfl,rfl,(Nat.zero_le _),hD,hB⟩
 rintro n31 a31 w31 ⟨i,u31,rfl,rfl,hki,hD,hB⟩ K31 k31
 refine wp_seq_k (fun K32 k32=>?_)
 refine wp_seq_k (fun K33 k33=>?_)
 refine rg [0,1,2,3] ?_
 refine sv 63 (.int .i64 ((i:Int))) ?_
 refine sv 64 v19 ?_
 refine sw 65 (.int .i64 (((pl R m N:Nat):Int))) rfl (rv_lenn (e:=3) hp19 (tb_lenz rfl) _ _ rfl rfl (by kernel_rfl)) ?_
 refine sv 66 (.bool (decide ((i:Int)<((pl R m N:Nat):Int)))) ?_
 refine sq_nil ?_
 refine k33 _ _ ?_
 try clear k33 K33
 refine wp_cond_split (t:=decide ((i:Int)<((pl R m N:Nat):Int))) rfl (fun hb34=>?_) (fun hb34=>?_)
 ·have hli:i<(pl R m N):=by have:=of_decide_eq_true hb34;omega
  refine wp_skip ?_
  refine k32 _ _ ?_
  try clear k32 K32
  refine wp_seq_k (fun K35 k35=>?_)
  refine wp_block ?_
  refine wp_seq_k (fun K36 k36=>?_)
  obtain ⟨_,_,rfl,at39⟩:=Sl.get hp19 (by decide) (tb_get (f:=(fun z1=>((pv (rs R m N) z1:Nat):Int))) (n:=(pl R m N)) (i:=i) (by omega))
  obtain ⟨_,_,rfl,at40⟩:=Sl.get hp24 (by decide) (tb_get (f:=(fun z1=>((pv (rs R m N) z1:Nat):Int))) (n:=(pl R m N)) (i:=i) (by omega))
  have gd41:=Gr.drew w31
  replace hB:=hB.trans gd41
  replace hD:=hD.trans gd41
  refine wp_region_ord (fun w'=>AtV w' v19 (i*1) [(.int .i64 (((pv (rs R m N) i:Nat):Int)))]∧AtV w' v24 (i*1) [(.int .i64 (((pv (rs R m N) i:Nat):Int)))]) [(true,0),(true,1),(true,2),(true,3),(true,4),(true,5),(true,6),(true,7),(true,8)] (by kernel_rfl) (by kernel_rfl) (by kernel_rfl) (by decide) (fun _ _ _ _ _ h=>h) ⟨(at39.gr hD),(at40.gr hD)⟩ ?_
  refine ov 69 v19 ?_
  refine ov 70 (.int .i64 ((i:Int))) ?_
  refine ow 71 (adr v19 (i*1)) rfl (fun w' hS=>(rv_idxn (e:=3) hp19 tb_len (by decide) i (by omega) _ _ _ rfl rfl rfl (by kernel_rfl) (by kernel_rfl))) ?_
  refine ow 72 (.int .i64 (((pv (rs R m N) i:Nat):Int))) rfl (fun w' hS=>(rv_ld1 (.int .i64 (((pv (rs R m N) i:Nat):Int))) hS.1 _ _ rfl rfl (by kernel_rfl))) ?_
  refine ov 73 v24 ?_
  refine ov 74 (.int .i64 ((i:Int))) ?_
  refine ow 75 (adr v24 (i*1)) rfl (fun w' hS=>(rv_idxn (e:=3) hp24 tb_len (by decide) i (by omega) _ _ _ rfl rfl rfl (by kernel_rfl) (by kernel_rfl))) ?_
  refine ow 76 (.int .i64 (((pv (rs R m N) i:Nat):Int))) rfl (fun w' hS=>(rv_ld1 (.int .i64 (((pv (rs R m N) i:Nat):Int))) hS.2 _ _ rfl rfl (by kernel_rfl))) ?_
  have hb42:((((pv (rs R m N) i:Nat):Int) !=((pv (rs R m N) i:Nat):Int)))=false:=(by simp)
  refine ow 77 (.bool false) rfl (fun w' hS=>(RunV.bool (x:=(((pv (rs R m N) i:Nat):Int) !=((pv (rs R m N) i:Nat):Int))) (rvk (by kernel_rfl)) hb42)) ?_
  refine ord_nil ?_
  refine k36 _ _ ?_
  try clear k36 K36
  refine wp_cond_false rfl ?_
  refine wp_skip ?_
  refine k35 _ _ ?_
  try clear k35 K35
  refine rg [0,1,2] ?_
  refine sv 67 (.int .i64 ((i:Int))) ?_
  refine sw 68 (.int .i64 (((i:Int)+1))) rfl (RunV.int (x:=IntKind.i64.wrap (((i:Int)+1))) (y:=((i:Int)+1)) (rvk (by kernel_rfl)) (by first | rfl | (rw [IntKind.wrap_i64];omega))) ?_
  refine sv 13 (.int .i64 (((i:Int)+1))) ?_
  refine sq_nil ?_
  refine k31 ((pl R m N) - (i+1)) ⟨List.toArray ?l43,[]⟩ _ (by omega) ?_
  exact ⟨i+1,(fun i=>List.getD ?l43 i undef),rfl,rfl,(by omega),hD,hB⟩
 ·have hei:(pl R m N)=i:=by have:=of_decide_eq_false hb34;omega
  subst hei
  refine wp_exit ?_
  simp only [Exit.then,Exit.inBlock,↓reduceIte]
  refine k29 _ _ ?_
  try clear k29 K29
  refine wp_seq_k (fun K44 k44=>?_)
  refine rg [0,1,2,3,4,5,6,7,8,9] ?_
  refine sv 79 u16 ?_
  refine se ?_
  refine ec 80 (l5_own (by omega) (by omega) (fun i _ k _=>(hta.z i k).mono (by omega) (by omega)) (hm.gr hB) (hs16.gr (stab_rw stab_fr 84 2) hD)) ?_
  rintro e45 w45 ⟨⟨u45,rfl,hs45⟩,g45⟩
  refine ⟨_,rfl,?_⟩
  replace hB:=hB.trans g45
  replace hD:=hD.trans g45
  simp only [p3,p4]
  refine sv 81 u16 ?_
  refine se ?_
  refine ec 82 (f5_columns hRN (hs16.gr (stab_rw stab_fr 84 2) hD)) ?_
  rintro e46 w46 ⟨rfl,g46⟩
  refine ⟨_,rfl,?_⟩
  replace hB:=hB.trans g46
  replace hD:=hD.trans g46
  simp only [p3,p4]
  refine se ?_
  replace hs45:=hs45.gr (stab_rw (stab_rat 64) 71 4) g46
  refine ec 83 (mx_Kernel (K:=4899) (R:=R) (D:=N) (m:=m) (by omega) (by omega) (by omega) (by omega) hta.bd ((hs45.ratrows (by omega)))) ?_
  rintro e47 w47 ⟨⟨u47,rfl,hs47⟩,g47⟩
  refine ⟨_,rfl,?_⟩
  replace hB:=hB.trans g47
  replace hD:=hD.trans g47
  simp only [p3,p4]
  refine sv 78 (.tuple #[u47,(.int .i64 0)]) ?_
  refine sv 84 u47 ?_
  refine sv 85 (.int .i64 0) ?_
  refine sv 14 u47 ?_
  refine sv 15 (.int .i64 0) ?_
  refine sq_nil ?_
  refine k44 _ _ ?_
  try clear k44 K44
  refine wp_seq_k (fun K48 k48=>?_)
  refine wp_seq_k (fun K49 k49=>?_)
  refine rg [0,1,2,3,4,5,6,7,8,9,10] ?_
  refine sv 86 u47 ?_
  refine sv 87 u16 ?_
  refine sv 88 u16 ?_
  refine se ?_
  refine ec 89 (f5_columns hRN (hs16.gr (stab_rw stab_fr 84 2) hD)) ?_
  rintro e50 w50 ⟨rfl,g50⟩
  refine ⟨_,rfl,?_⟩
  replace hB:=hB.trans g50
  replace hD:=hD.trans g50
  simp only [p3,p4]
  refine se ?_
  refine ec 90 (f5_kernel (K:=4899) (L:=4899) (R:=R) (D:=N) (m:=m) (by omega) (by omega) (by omega) hta.bf (fun a ha b hb=>(hta.bd N (Nat.le_refl _)).1 a ha b hb) (by omega) (hs16.gr (stab_rw stab_fr 84 2) hD)) ?_
  rintro e51 w51 ⟨⟨u51,rfl,hs51⟩,g51⟩
  refine ⟨_,rfl,?_⟩
  replace hB:=hB.trans g51
  replace hD:=hD.trans g51
  simp only [p3,p4]
  refine se ?_
  replace hs47:=hs47.gr (stab_rw (stab_rat 4899) 71 4) (g50.trans g51)
  refine ec 91 (l5_is (L:=4899) (by omega) (by omega) (by omega) (by omega) (fun i hi k hk=>kv_z (by decide) (frc_in hi).1 (hta.bd N (Nat.le_refl _)).1) (ht.gr hB) hs47 hs51) ?_
  rintro e52 w52 ⟨rfl,g52⟩
  refine ⟨_,rfl,?_⟩
  replace hB:=hB.trans g52
  replace hD:=hD.trans g52
  simp only [p3,p4]
  refine sv 92 (.bool false) ?_
  refine sv 93 (.bool false) ?_
  refine sv 94 (.int .i64 0) ?_
  refine sv 95 (.bool false) ?_
  refine sv 96 (.bool false) ?_
  refine sq_nil ?_
  refine k49 _ _ ?_
  try clear k49 K49
  refine wp_cond_false rfl ?_
  refine wp_skip ?_
  refine k48 _ _ ?_
  try clear k48 K48
  refine wp_seq_k (fun K53 k53=>?_)
  refine rg [0,1,2,3,4,5,6,7,8] ?_
  refine sv 98 u16 ?_
  refine se ?_
  refine ec 99 (l5_own (by omega) (by omega) (fun i _ k _=>(hta.z i k).mono (by omega) (by omega)) (hm.gr hB) (hs16.gr (stab_rw stab_fr 84 2) hD)) ?_
  rintro e54 w54 ⟨⟨u54,rfl,hs54⟩,g54⟩
  refine ⟨_,rfl,?_⟩
  replace hB:=hB.trans g54
  replace hD:=hD.trans g54
  simp only [p3,p4]
  refine sv 100 (.int .i64 (z)) ?_
  refine se ?_
  refine ec 101 (mx_Kernel_s (z:=z) (by omega) (by omega) hR0 hne hs54) ?_
  rintro e55 w55 ⟨rfl,g55⟩
  refine ⟨_,rfl,?_⟩
  replace hB:=hB.trans g55
  replace hD:=hD.trans g55
  simp only [p3,p4]
  refine sv 97 (.tuple #[(.slice none 0 0),(.int .i64 13)]) ?_
  refine sv 102 (.slice none 0 0) ?_
  refine sv 103 (.int .i64 13) ?_
  refine sv 14 (.slice none 0 0) ?_
  refine sv 15 (.int .i64 13) ?_
  refine sq_nil ?_
  refine k53 _ _ ?_
  try clear k53 K53
  refine wp_seq_k (fun K56 k56=>?_)
  refine wp_block ?_
  refine wp_seq_k (fun K57 k57=>?_)
  refine rg [0,1,2,3,4,5,6,7,8,9] ?_
  refine sv 105 u16 ?_
  refine sw 106 (.int .i64 ((R:Int))) rfl (rv_lenn (e:=51) hs16 (tb_lenz rfl) _ _ rfl rfl (by kernel_rfl)) ?_
  have hb58:(decide ((0:Int)<(R:Int)))=true:=(by simp only [decide_eq_true_eq];omega)
  refine sw 107 (.bool true) rfl (RunV.bool (x:=decide ((0:Int)<(R:Int))) (rvk (by kernel_rfl)) hb58) ?_
  refine sv 108 (.bool true) ?_
  refine sv 109 (.int .i64 (z)) ?_
  refine sv 110 u16 ?_
  refine se ?_
  refine ec 111 (f5_columns hRN (hs16.gr (stab_rw stab_fr 84 2) hD)) ?_
  rintro e59 w59 ⟨rfl,g59⟩
  refine ⟨_,rfl,?_⟩
  replace hB:=hB.trans g59
  replace hD:=hD.trans g59
  simp only [p3,p4]
  have hb60:((z !=(N:Int)))=true:=(by simp;omega)
  refine sw 112 (.bool true) rfl (RunV.bool (x:=(z !=(N:Int))) (rvk (by kernel_rfl)) hb60) ?_
  refine sv 113 (.bool true) ?_
  refine sv 104 (.bool true) ?_
  refine sq_nil ?_
  refine k57 _ _ ?_
  try clear k57 K57
  refine wp_cond_true rfl ?_
  refine wp_seq_k (fun K61 k61=>?_)
  refine rg [0,1,2,3,4,5,6,7] ?_
  refine sv 114 (.slice none 0 0) ?_
  refine sv 115 (.int .i64 0) ?_
  refine sv 116 (.bool true) ?_
  refine sv 117 (.bool true) ?_
  refine sv 118 (.int .i64 13) ?_
  refine sv 119 (.bool true) ?_
  refine sv 120 (.bool true) ?_
  refine sv 4 (.bool true) ?_
  refine sq_nil ?_
  refine k61 _ _ ?_
  try clear k61 K61
  refine wp_ret ?_
  simp only [Exit.then,Exit.inBlock]
  refine bodyPost_ret (v:=(.bool true)) (ret_tmp rfl rfl) rfl ⟨?_,hB⟩
  exact rfl

set_option maxRecDepth 100000 in
set_option maxHeartbeats 1000000 in
theorem mr_y {R N ca:Nat} {va:Value} {m:Mx_} (_hR0:0<R) {w:World} (hm:Mx w) (ht:Tab w) (hta:TA w (.agg #[.int .u8 (ca:Int),va]) R N m):
    Calls Tryz.prog 3 #[(.agg #[(.int .u8 ((ca:Int))),va]),(.int .i64 ((N:Int)))] w fun e w'=>e=.returned (.bool true)∧Gr w w':=by
 have hR5:=hta.R5
 have hN6:=hta.N6
 have hRN:=hta.R0
 have hpl:=rs_len R m N
 have hpn:=rs_ple R m N
 have hnf:=nfr_le R m N N
 go_enter Tryz.func3,Tryz.ntmps3
 have hB:=Gr.refl w
 refine wp_seq_k (fun K10 k10=>?_)
 refine rg [0,1] ?_
 refine se ?_
 refine eb 24 #[(.int .u8 ((ca:Int))),va] 2 hB fun b11 w11 g11 L11 o11 q11 hB=>?_
 simp only [p3,p4]
 refine sv 4 (.bool false) ?_
 refine sq_nil ?_
 refine k10 _ _ ?_
 try clear k10 K10
 refine wp_seq_k (fun K12 k12=>?_)
 refine wp_seq_k (fun K13 k13=>?_)
 refine rg [0,1] ?_
 refine se ?_
 refine ec 16 (l5_known _ (hm.gr hB) (ht.gr hB)) ?_
 rintro e14 w14 ⟨rfl,g14⟩
 refine ⟨_,rfl,?_⟩
 replace hB:=hB.trans g14
 simp only [p3,p4]
 refine sv 17 (.bool false) ?_
 refine sq_nil ?_
 refine k13 _ _ ?_
 try clear k13 K13
 refine wp_cond_false rfl ?_
 refine wp_skip ?_
 refine k12 _ _ ?_
 try clear k12 K12
 refine wp_seq_k (fun K15 k15=>?_)
 refine rg [0,1,2] ?_
 replace L11:=L11.gr g14
 refine sw 18 (.agg #[(.int .u8 ((ca:Int))),va]) rfl (rl 24 0 [(.int .u8 ((ca:Int))),va] L11) ?_
 refine se ?_
 refine ec 19 (l5_rowsT (hta.gr hB)) ?_
 rintro e16 w16 ⟨⟨u16,rfl,hs16⟩,g16⟩
 refine ⟨_,rfl,?_⟩
 replace hB:=hB.trans g16
 simp only [p3,p4]
 refine sv 5 u16 ?_
 refine sq_nil ?_
 refine k15 _ _ ?_
 try clear k15 K15
 refine wp_seq_k (fun K17 k17=>?_)
 refine rg [0,1,2,3,4,5,6,7,8,9] ?_
 refine sv 21 u16 ?_
 refine se ?_
 refine ec 22 (l5_own (by omega) (by omega) (fun i _ k _=>(hta.z i k).mono (by omega) (by omega)) (hm.gr hB) hs16) ?_
 rintro e18 w18 ⟨⟨u18,rfl,hs18⟩,g18⟩
 refine ⟨_,rfl,?_⟩
 replace hB:=hB.trans g18
 simp only [p3,p4]
 refine se ?_
 refine ec 23 (mx_Reduce (K:=4899) (R:=R) (N:=N) (m:=m) hRN (by omega) (by omega) (by omega) (by omega) hta.bd (hs18.ratrows (by omega))) ?_
 rintro e19 w19 ⟨⟨u19,v19,rfl,hs19,hp19⟩,g19⟩
 refine ⟨_,rfl,?_⟩
 replace hB:=hB.trans g19
 simp only [p3,p4]
 refine sv 20 (.tuple #[u19,v19,(.int .i64 0)]) ?_
 refine sv 24 u19 ?_
 refine sv 25 v19 ?_
 refine sv 26 (.int .i64 0) ?_
 refine sv 6 u19 ?_
 refine sv 7 v19 ?_
 refine sv 8 (.int .i64 0) ?_
 refine sq_nil ?_
 refine k17 _ _ ?_
 try clear k17 K17
 refine wp_seq_k (fun K20 k20=>?_)
 refine rg [0,1,2,3,4,5,6,7] ?_
 refine sv 28 u16 ?_
 refine se ?_
 replace hs16:=hs16.gr (stab_rw stab_fr 84 2) (g18.trans g19)
 refine ec 29 (l5_own (by omega) (by omega) (fun i _ k _=>(hta.z i k).mono (by omega) (by omega)) (hm.gr hB) hs16) ?_
 rintro e21 w21 ⟨⟨u21,rfl,hs21⟩,g21⟩
 refine ⟨_,rfl,?_⟩
 replace hB:=hB.trans g21
 simp only [p3,p4]
 refine se ?_
 refine ec 30 (mx_Rank (K:=4899) (R:=R) (N:=N) (m:=m) hRN (by omega) (by omega) (by omega) (by omega) hta.bd ((hs21.ratrows (by omega)))) ?_
 rintro e22 w22 ⟨rfl,g22⟩
 refine ⟨_,rfl,?_⟩
 replace hB:=hB.trans g22
 simp only [p3,p4]
 refine sv 27 (.tuple #[(.int .i64 (((pl R m N:Nat):Int))),(.int .i64 0)]) ?_
 refine sv 31 (.int .i64 (((pl R m N:Nat):Int))) ?_
 refine sv 32 (.int .i64 0) ?_
 refine sv 9 (.int .i64 (((pl R m N:Nat):Int))) ?_
 refine sv 10 (.int .i64 0) ?_
 refine sq_nil ?_
 refine k20 _ _ ?_
 try clear k20 K20
 refine wp_seq_k (fun K23 k23=>?_)
 refine rg [0,1,2,3,4,5,6] ?_
 refine sv 34 u16 ?_
 refine se ?_
 replace hs16:=hs16.gr (stab_rw stab_fr 84 2) (g21.trans g22)
 refine ec 35 (f5_reduceW (K:=4899) (R:=R) (D:=N) (m:=m) (by omega) (by omega) (by omega) hta.bf hs16) ?_
 rintro e24 w24 ⟨⟨u24,v24,rfl,hs24,hp24⟩,g24⟩
 refine ⟨_,rfl,?_⟩
 replace hB:=hB.trans g24
 simp only [p3,p4]
 refine sv 33 (.tuple #[u24,v24]) ?_
 refine sv 36 u24 ?_
 refine sv 37 v24 ?_
 refine sv 11 u24 ?_
 refine sv 12 v24 ?_
 refine sq_nil ?_
 refine k23 _ _ ?_
 try clear k23 K23
 refine wp_seq_k (fun K25 k25=>?_)
 refine wp_seq_k (fun K26 k26=>?_)
 refine rg [0,1,2,3,4,5,6,7,8,9,10,11,12,13,14,15,16,17,18,19,20,21,22,23,24] ?_
 refine sv 38 u19 ?_
 refine sv 39 u24 ?_
 refine se ?_
 replace hs19:=hs19.gr (stab_rw (stab_rat 4899) 71 4) (g21.trans (g22.trans g24))
 refine ec 40 (l5_is (L:=4899) (by omega) (by omega) (by omega) (by omega) (fun i hi k hk=>(hta.bd N (Nat.le_refl _)).1 i (by omega) k hk) (ht.gr hB) hs19 hs24) ?_
 rintro e27 w27 ⟨rfl,g27⟩
 refine ⟨_,rfl,?_⟩
 replace hB:=hB.trans g27
 simp only [p3,p4]
 refine sv 41 (.bool false) ?_
 refine sv 42 (.bool false) ?_
 refine sv 43 v19 ?_
 refine sw 44 (.int .i64 (((pl R m N:Nat):Int))) rfl (rv_lenn (e:=3) hp19 (tb_lenz rfl) _ _ rfl rfl (by kernel_rfl)) ?_
 refine sv 45 v24 ?_
 refine sw 46 (.int .i64 (((pl R m N:Nat):Int))) rfl (rv_lenn (e:=3) hp24 (tb_lenz rfl) _ _ rfl rfl (by kernel_rfl)) ?_
 have hb28:((((pl R m N:Nat):Int) !=((pl R m N:Nat):Int)))=false:=(by simp)
 refine sw 47 (.bool false) rfl (RunV.bool (x:=(((pl R m N:Nat):Int) !=((pl R m N:Nat):Int))) (rvk (by kernel_rfl)) hb28) ?_
 refine sv 48 (.bool false) ?_
 refine sv 49 (.bool false) ?_
 refine sv 50 (.int .i64 0) ?_
 refine sv 51 (.bool false) ?_
 refine sv 52 (.bool false) ?_
 refine sv 53 (.bool false) ?_
 refine sv 54 (.int .i64 (((pl R m N:Nat):Int))) ?_
 refine sv 55 u24 ?_
 refine sw 56 (.int .i64 (((pl R m N:Nat):Int))) rfl (rv_lenn (e:=51) hs24 (tb_lenz rfl) _ _ rfl rfl (by kernel_rfl)) ?_
 refine sw 57 (.bool false) rfl (RunV.bool (x:=(((pl R m N:Nat):Int) !=((pl R m N:Nat):Int))) (rvk (by kernel_rfl)) hb28) ?_
 refine sv 58 (.bool false) ?_
 refine sv 59 (.bool false) ?_
 refine sv 60 (.int .i64 0) ?_
 refine sv 61 (.bool false) ?_
 refine sv 62 (.bool false) ?_
 refine sq_nil ?_
 refine k26 _ _ ?_
 try clear k26 K26
 refine wp_cond_false rfl ?_
 refine wp_skip ?_
 refine k25 _ _ ?_
 try clear k25 K25
 refine wp_seq_k (fun K29 k29=>?_)
 refine wp_seq_k (fun K30 k30=>?_)
 have lehD:=Below.size hB
 have hD:=Gr.refl w27
 replace hs16:=hs16.gr (stab_rw stab_fr 84 2) (g24.trans g27)
 replace hs18:=hs18.gr (stab_rw (stab_rat 64) 71 4) (g19.trans (g21.trans (g22.trans (g24.trans g27))))
 replace hs19:=hs19.gr (stab_rw (stab_rat 4899) 71 4) g27
 replace hp19:=hp19.gr stab_i64 (g21.trans (g22.trans (g24.trans g27)))
 replace hs21:=hs21.gr (stab_rw (stab_rat 64) 71 4) (g22.trans (g24.trans g27))
 replace hs24:=hs24.gr (stab_rw stab_fr 84 2) g27
 replace hp24:=hp24.gr stab_i64 g27
 refine rg [0] ?_
 refine sv 13 (.int .i64 0) ?_
 refine sq_nil ?_
 refine k30 _ _ ?_
 try clear k30 K30
 refine wp_block ?_
 refine wp_loop_inv (a:=⟨List.toArray ?l31,[]⟩) (fun n a w'=>∃ (i:Nat) (u31:Nat→Value),(pl R m N) - i=n∧a=⟨[(.agg #[(.int .u8 ((ca:Int))),va]),(.int .i64 ((N:Int))),(.pointer (some ⟨b11,0,none⟩)),undef,(u31 4),u16,u19,v19,(.int .i64 0),(.int .i64 (((pl R m N:Nat):Int))),(.int .i64 0),u24,v24,(.int .i64 ((i:Int))),undef,undef,(u31 16),(.bool false),(u31 18),(u31 19),(u31 20),(u31 21),(u31 22),(u31 23),(u31 24),(u31 25),(u31 26),(u31 27),(u31 28),(u31 29),(u31 30),(u31 31),(u31 32),(u31 33),(u31 34),(u31 35),(u31 36),(u31 37),(u31 38),(u31 39),(u31 40),(u31 41),(u31 42),(u31 43),(u31 44),(u31 45),(u31 46),(u31 47),(u31 48),(u31 49),(u31 50),(u31 51),(u31 52),(u31 53),(u31 54),(u31 55),(u31 56),(u31 57),(u31 58),(u31 59),(u31 60),(u31 61),(.bool false),(u31 63),(u31 64),(u31 65),(u31 66),(u31 67),(u31 68),(u31 69),(u31 70),(u31 71),(u31 72),(u31 73),(u31 74),(u31 75),(u31 76),(u31 77),undef,undef,undef,undef,undef,undef,undef,undef,undef,undef,undef,undef,undef,undef,undef,undef,undef,undef,undef,undef,undef,undef,undef,undef,undef,undef,undef,undef,undef,undef,undef,undef,undef,undef,undef,undef,undef,undef,undef,undef,undef,undef,undef,undef,undef,undef,undef,undef,undef,undef,undef,undef,undef,undef,undef,undef,undef,undef,undef,undef,undef,undef,undef,undef,undef,undef].toArray,[]⟩∧i≤(pl R m N)∧Gr w27 w'∧Gr w w') ((pl R m N) - 0) ?_ ?_
 ·exact ⟨0,(fun i=>List.getD ?l31 i undef),rfl,rfl,(Nat.zero_le _),hD,hB⟩
 rintro n31 a31 w31 ⟨i,u31,rfl,rfl,hki,hD,hB⟩ K31 k31
 refine wp_seq_k (fun K32 k32=>?_)
 refine wp_seq_k (fun K33 k33=>?_)
 refine rg [0,1,2,3] ?_
 refine sv 63 (.int .i64 ((i:Int))) ?_
 refine sv 64 v19 ?_
 refine sw 65 (.int .i64 (((pl R m N:Nat):Int))) rfl (rv_lenn (e:=3) hp19 (tb_lenz rfl) _ _ rfl rfl (by kernel_rfl)) ?_
 refine sv 66 (.bool (decide ((i:Int)<((pl R m N:Nat):Int)))) ?_
 refine sq_nil ?_
 refine k33 _ _ ?_
 try clear k33 K33
 refine wp_cond_split (t:=decide ((i:Int)<((pl R m N:Nat):Int))) rfl (fun hb34=>?_) (fun hb34=>?_)
 ·have hli:i<(pl R m N):=by have:=of_decide_eq_true hb34;omega
  refine wp_skip ?_
  refine k32 _ _ ?_
  try clear k32 K32
  refine wp_seq_k (fun K35 k35=>?_)
  refine wp_block ?_
  refine wp_seq_k (fun K36 k36=>?_)
  obtain ⟨_,_,rfl,at39⟩:=Sl.get hp19 (by decide) (tb_get (f:=(fun z1=>((pv (rs R m N) z1:Nat):Int))) (n:=(pl R m N)) (i:=i) (by omega))
  obtain ⟨_,_,rfl,at40⟩:=Sl.get hp24 (by decide) (tb_get (f:=(fun z1=>((pv (rs R m N) z1:Nat):Int))) (n:=(pl R m N)) (i:=i) (by omega))
  have gd41:=Gr.drew w31
  replace hB:=hB.trans gd41
  replace hD:=hD.trans gd41
  refine wp_region_ord (fun w'=>AtV w' v19 (i*1) [(.int .i64 (((pv (rs R m N) i:Nat):Int)))]∧AtV w' v24 (i*1) [(.int .i64 (((pv (rs R m N) i:Nat):Int)))]) [(true,0),(true,1),(true,2),(true,3),(true,4),(true,5),(true,6),(true,7),(true,8)] (by kernel_rfl) (by kernel_rfl) (by kernel_rfl) (by decide) (fun _ _ _ _ _ h=>h) ⟨(at39.gr hD),(at40.gr hD)⟩ ?_
  refine ov 69 v19 ?_
  refine ov 70 (.int .i64 ((i:Int))) ?_
  refine ow 71 (adr v19 (i*1)) rfl (fun w' hS=>(rv_idxn (e:=3) hp19 tb_len (by decide) i (by omega) _ _ _ rfl rfl rfl (by kernel_rfl) (by kernel_rfl))) ?_
  refine ow 72 (.int .i64 (((pv (rs R m N) i:Nat):Int))) rfl (fun w' hS=>(rv_ld1 (.int .i64 (((pv (rs R m N) i:Nat):Int))) hS.1 _ _ rfl rfl (by kernel_rfl))) ?_
  refine ov 73 v24 ?_
  refine ov 74 (.int .i64 ((i:Int))) ?_
  refine ow 75 (adr v24 (i*1)) rfl (fun w' hS=>(rv_idxn (e:=3) hp24 tb_len (by decide) i (by omega) _ _ _ rfl rfl rfl (by kernel_rfl) (by kernel_rfl))) ?_
  refine ow 76 (.int .i64 (((pv (rs R m N) i:Nat):Int))) rfl (fun w' hS=>(rv_ld1 (.int .i64 (((pv (rs R m N) i:Nat):Int))) hS.2 _ _ rfl rfl (by kernel_rfl))) ?_
  have hb42:((((pv (rs R m N) i:Nat):Int) !=((pv (rs R m N) i:Nat):Int)))=false:=(by simp)
  refine ow 77 (.bool false) rfl (fun w' hS=>(RunV.bool (x:=(((pv (rs R m N) i:Nat):Int) !=((pv (rs R m N) i:Nat):Int))) (rvk (by kernel_rfl)) hb42)) ?_
  refine ord_nil ?_
  refine k36 _ _ ?_
  try clear k36 K36
  refine wp_cond_false rfl ?_
  refine wp_skip ?_
  refine k35 _ _ ?_
  try clear k35 K35
  refine rg [0,1,2] ?_
  refine sv 67 (.int .i64 ((i:Int))) ?_
  refine sw 68 (.int .i64 (((i:Int)+1))) rfl (RunV.int (x:=IntKind.i64.wrap (((i:Int)+1))) (y:=((i:Int)+1)) (rvk (by kernel_rfl)) (by first | rfl | (rw [IntKind.wrap_i64];omega))) ?_
  refine sv 13 (.int .i64 (((i:Int)+1))) ?_
  refine sq_nil ?_
  refine k31 ((pl R m N) - (i+1)) ⟨List.toArray ?l43,[]⟩ _ (by omega) ?_
  exact ⟨i+1,(fun i=>List.getD ?l43 i undef),rfl,rfl,(by omega),hD,hB⟩
 ·have hei:(pl R m N)=i:=by have:=of_decide_eq_false hb34;omega
  subst hei
  refine wp_exit ?_
  simp only [Exit.then,Exit.inBlock,↓reduceIte]
  refine k29 _ _ ?_
  try clear k29 K29
  refine wp_seq_k (fun K44 k44=>?_)
  refine rg [0,1,2,3,4,5,6,7,8,9] ?_
  refine sv 79 u16 ?_
  refine se ?_
  refine ec 80 (l5_own (by omega) (by omega) (fun i _ k _=>(hta.z i k).mono (by omega) (by omega)) (hm.gr hB) (hs16.gr (stab_rw stab_fr 84 2) hD)) ?_
  rintro e45 w45 ⟨⟨u45,rfl,hs45⟩,g45⟩
  refine ⟨_,rfl,?_⟩
  replace hB:=hB.trans g45
  replace hD:=hD.trans g45
  simp only [p3,p4]
  refine sv 81 u16 ?_
  refine se ?_
  refine ec 82 (f5_columns hRN (hs16.gr (stab_rw stab_fr 84 2) hD)) ?_
  rintro e46 w46 ⟨rfl,g46⟩
  refine ⟨_,rfl,?_⟩
  replace hB:=hB.trans g46
  replace hD:=hD.trans g46
  simp only [p3,p4]
  refine se ?_
  replace hs45:=hs45.gr (stab_rw (stab_rat 64) 71 4) g46
  refine ec 83 (mx_Kernel (K:=4899) (R:=R) (D:=N) (m:=m) (by omega) (by omega) (by omega) (by omega) hta.bd ((hs45.ratrows (by omega)))) ?_
  rintro e47 w47 ⟨⟨u47,rfl,hs47⟩,g47⟩
  refine ⟨_,rfl,?_⟩
  replace hB:=hB.trans g47
  replace hD:=hD.trans g47
  simp only [p3,p4]
  refine sv 78 (.tuple #[u47,(.int .i64 0)]) ?_
  refine sv 84 u47 ?_
  refine sv 85 (.int .i64 0) ?_
  refine sv 14 u47 ?_
  refine sv 15 (.int .i64 0) ?_
  refine sq_nil ?_
  refine k44 _ _ ?_
  try clear k44 K44
  refine wp_seq_k (fun K48 k48=>?_)
  refine wp_seq_k (fun K49 k49=>?_)
  refine rg [0,1,2,3,4,5,6,7,8,9,10] ?_
  refine sv 86 u47 ?_
  refine sv 87 u16 ?_
  refine sv 88 u16 ?_
  refine se ?_
  refine ec 89 (f5_columns hRN (hs16.gr (stab_rw stab_fr 84 2) hD)) ?_
  rintro e50 w50 ⟨rfl,g50⟩
  refine ⟨_,rfl,?_⟩
  replace hB:=hB.trans g50
  replace hD:=hD.trans g50
  simp only [p3,p4]
  refine se ?_
  refine ec 90 (f5_kernel (K:=4899) (L:=4899) (R:=R) (D:=N) (m:=m) (by omega) (by omega) (by omega) hta.bf (fun a ha b hb=>(hta.bd N (Nat.le_refl _)).1 a ha b hb) (by omega) (hs16.gr (stab_rw stab_fr 84 2) hD)) ?_
  rintro e51 w51 ⟨⟨u51,rfl,hs51⟩,g51⟩
  refine ⟨_,rfl,?_⟩
  replace hB:=hB.trans g51
  replace hD:=hD.trans g51
  simp only [p3,p4]
  refine se ?_
  replace hs47:=hs47.gr (stab_rw (stab_rat 4899) 71 4) (g50.trans g51)
  refine ec 91 (l5_is (L:=4899) (by omega) (by omega) (by omega) (by omega) (fun i hi k hk=>kv_z (by decide) (frc_in hi).1 (hta.bd N (Nat.le_refl _)).1) (ht.gr hB) hs47 hs51) ?_
  rintro e52 w52 ⟨rfl,g52⟩
  refine ⟨_,rfl,?_⟩
  replace hB:=hB.trans g52
  replace hD:=hD.trans g52
  simp only [p3,p4]
  refine sv 92 (.bool false) ?_
  refine sv 93 (.bool false) ?_
  refine sv 94 (.int .i64 0) ?_
  refine sv 95 (.bool false) ?_
  refine sv 96 (.bool false) ?_
  refine sq_nil ?_
  refine k49 _ _ ?_
  try clear k49 K49
  refine wp_cond_false rfl ?_
  refine wp_skip ?_
  refine k48 _ _ ?_
  try clear k48 K48
  refine wp_seq_k (fun K53 k53=>?_)
  refine rg [0,1,2,3,4,5,6,7,8] ?_
  refine sv 98 u16 ?_
  refine se ?_
  refine ec 99 (l5_own (by omega) (by omega) (fun i _ k _=>(hta.z i k).mono (by omega) (by omega)) (hm.gr hB) (hs16.gr (stab_rw stab_fr 84 2) hD)) ?_
  rintro e54 w54 ⟨⟨u54,rfl,hs54⟩,g54⟩
  refine ⟨_,rfl,?_⟩
  replace hB:=hB.trans g54
  replace hD:=hD.trans g54
  simp only [p3,p4]
  refine sv 100 (.int .i64 ((N:Int))) ?_
  refine se ?_
  refine ec 101 (mx_Kernel (K:=4899) (R:=R) (D:=N) (m:=m) (by omega) (by omega) (by omega) (by omega) hta.bd ((hs54.ratrows (by omega)))) ?_
  rintro e55 w55 ⟨⟨u55,rfl,hs55⟩,g55⟩
  refine ⟨_,rfl,?_⟩
  replace hB:=hB.trans g55
  replace hD:=hD.trans g55
  simp only [p3,p4]
  refine sv 97 (.tuple #[u55,(.int .i64 0)]) ?_
  refine sv 102 u55 ?_
  refine sv 103 (.int .i64 0) ?_
  refine sv 14 u55 ?_
  refine sv 15 (.int .i64 0) ?_
  refine sq_nil ?_
  refine k53 _ _ ?_
  try clear k53 K53
  refine wp_seq_k (fun K56 k56=>?_)
  refine wp_block ?_
  refine wp_seq_k (fun K57 k57=>?_)
  refine rg [0,1,2,3,4,5,6,7,8,9] ?_
  refine sv 105 u16 ?_
  refine sw 106 (.int .i64 ((R:Int))) rfl (rv_lenn (e:=51) hs16 (tb_lenz rfl) _ _ rfl rfl (by kernel_rfl)) ?_
  have hb58:(decide ((0:Int)<(R:Int)))=true:=(by simp only [decide_eq_true_eq];omega)
  refine sw 107 (.bool true) rfl (RunV.bool (x:=decide ((0:Int)<(R:Int))) (rvk (by kernel_rfl)) hb58) ?_
  refine sv 108 (.bool true) ?_
  refine sv 109 (.int .i64 ((N:Int))) ?_
  refine sv 110 u16 ?_
  refine se ?_
  refine ec 111 (f5_columns hRN (hs16.gr (stab_rw stab_fr 84 2) hD)) ?_
  rintro e59 w59 ⟨rfl,g59⟩
  refine ⟨_,rfl,?_⟩
  replace hB:=hB.trans g59
  replace hD:=hD.trans g59
  simp only [p3,p4]
  have hb60:(((N:Int) !=(N:Int)))=false:=(by simp)
  refine sw 112 (.bool false) rfl (RunV.bool (x:=((N:Int) !=(N:Int))) (rvk (by kernel_rfl)) hb60) ?_
  refine sv 113 (.bool false) ?_
  refine sv 104 (.bool false) ?_
  refine sq_nil ?_
  refine k57 _ _ ?_
  try clear k57 K57
  refine wp_cond_false rfl ?_
  refine wp_seq_k (fun K61 k61=>?_)
  refine rg [0,1,2,3,4,5,6] ?_
  refine sv 122 (.int .i64 ((N:Int))) ?_
  have hb62:(decide ((N:Int)<(0:Int)))=false:=(by simp only [decide_eq_false_iff_not];omega)
  refine sw 123 (.bool false) rfl (RunV.bool (x:=decide ((N:Int)<(0:Int))) (rvk (by kernel_rfl)) hb62) ?_
  refine sv 124 (.bool false) ?_
  refine sv 125 (.int .i64 ((N:Int))) ?_
  have hb63:(decide ((96:Int)<(N:Int)))=false:=(by simp only [decide_eq_false_iff_not];omega)
  refine sw 126 (.bool false) rfl (RunV.bool (x:=decide ((96:Int)<(N:Int))) (rvk (by kernel_rfl)) hb63) ?_
  refine sv 127 (.bool false) ?_
  refine sv 121 (.bool false) ?_
  refine sq_nil ?_
  refine k61 _ _ ?_
  try clear k61 K61
  refine wp_cond_false rfl ?_
  refine wp_skip ?_
  refine k56 _ _ ?_
  try clear k56 K56
  refine wp_seq_k (fun K64 k64=>?_)
  refine rg [0,1,2,3,4,5,6,7,8,9] ?_
  refine sv 135 u55 ?_
  refine sv 136 u16 ?_
  refine sv 137 (.int .i64 ((N:Int))) ?_
  refine se ?_
  refine ec 138 (f5_kernel (K:=4899) (L:=4899) (R:=R) (D:=N) (m:=m) (by omega) (by omega) (by omega) hta.bf (fun a ha b hb=>(hta.bd N (Nat.le_refl _)).1 a ha b hb) (by omega) (hs16.gr (stab_rw stab_fr 84 2) hD)) ?_
  rintro e65 w65 ⟨⟨u65,rfl,hs65⟩,g65⟩
  refine ⟨_,rfl,?_⟩
  replace hB:=hB.trans g65
  replace hD:=hD.trans g65
  simp only [p3,p4]
  refine se ?_
  replace hs55:=hs55.gr (stab_rw (stab_rat 4899) 71 4) (g59.trans g65)
  refine ec 139 (l5_is (L:=4899) (by omega) (by omega) (by omega) (by omega) (fun i hi k hk=>kv_z (by decide) (frc_in hi).1 (hta.bd N (Nat.le_refl _)).1) (ht.gr hB) hs55 hs65) ?_
  rintro e66 w66 ⟨rfl,g66⟩
  refine ⟨_,rfl,?_⟩
  replace hB:=hB.trans g66
  replace hD:=hD.trans g66
  simp only [p3,p4]
  refine sv 140 (.bool true) ?_
  refine sv 141 (.int .i64 0) ?_
  refine sv 142 (.bool true) ?_
  refine sv 143 (.bool true) ?_
  refine sv 4 (.bool true) ?_
  refine sq_nil ?_
  refine k64 _ _ ?_
  try clear k64 K64
  refine wp_ret ?_
  refine bodyPost_ret (v:=(.bool true)) (ret_tmp rfl rfl) rfl ⟨?_,hB⟩
  exact rfl

set_option maxRecDepth 100000 in
set_option maxHeartbeats 1000000 in
theorem mr_l {z:Int} {ca:Nat} {va:Value} {m:Mx_} (_hz:z<0) {w:World} (hm:Mx w) (ht:Tab w) (hta:TA w (.agg #[.int .u8 (ca:Int),va]) 0 0 m):
    Calls Tryz.prog 3 #[(.agg #[(.int .u8 ((ca:Int))),va]),(.int .i64 (z))] w fun e w'=>e=.returned (.bool true)∧Gr w w':=by
 have hR5:=hta.R5
 have hN6:=hta.N6
 have hRN:=hta.R0
 have hpl:=rs_len 0 m 0
 have hpn:=rs_ple 0 m 0
 have hnf:=nfr_le 0 m 0 0
 go_enter Tryz.func3,Tryz.ntmps3
 have hB:=Gr.refl w
 refine wp_seq_k (fun K10 k10=>?_)
 refine rg [0,1] ?_
 refine se ?_
 refine eb 24 #[(.int .u8 ((ca:Int))),va] 2 hB fun b11 w11 g11 L11 o11 q11 hB=>?_
 simp only [p3,p4]
 refine sv 4 (.bool false) ?_
 refine sq_nil ?_
 refine k10 _ _ ?_
 try clear k10 K10
 refine wp_seq_k (fun K12 k12=>?_)
 refine wp_seq_k (fun K13 k13=>?_)
 refine rg [0,1] ?_
 refine se ?_
 refine ec 16 (l5_known _ (hm.gr hB) (ht.gr hB)) ?_
 rintro e14 w14 ⟨rfl,g14⟩
 refine ⟨_,rfl,?_⟩
 replace hB:=hB.trans g14
 simp only [p3,p4]
 refine sv 17 (.bool false) ?_
 refine sq_nil ?_
 refine k13 _ _ ?_
 try clear k13 K13
 refine wp_cond_false rfl ?_
 refine wp_skip ?_
 refine k12 _ _ ?_
 try clear k12 K12
 refine wp_seq_k (fun K15 k15=>?_)
 refine rg [0,1,2] ?_
 replace L11:=L11.gr g14
 refine sw 18 (.agg #[(.int .u8 ((ca:Int))),va]) rfl (rl 24 0 [(.int .u8 ((ca:Int))),va] L11) ?_
 refine se ?_
 refine ec 19 (l5_rowsT (hta.gr hB)) ?_
 rintro e16 w16 ⟨⟨u16,rfl,hs16⟩,g16⟩
 refine ⟨_,rfl,?_⟩
 replace hB:=hB.trans g16
 simp only [p3,p4]
 refine sv 5 u16 ?_
 refine sq_nil ?_
 refine k15 _ _ ?_
 try clear k15 K15
 refine wp_seq_k (fun K17 k17=>?_)
 refine rg [0,1,2,3,4,5,6,7,8,9] ?_
 refine sv 21 u16 ?_
 refine se ?_
 refine ec 22 (l5_own (by omega) (by omega) (fun i _ k _=>(hta.z i k).mono (by omega) (by omega)) (hm.gr hB) hs16) ?_
 rintro e18 w18 ⟨⟨u18,rfl,hs18⟩,g18⟩
 refine ⟨_,rfl,?_⟩
 replace hB:=hB.trans g18
 simp only [p3,p4]
 refine se ?_
 refine ec 23 (mx_Reduce (K:=4899) (R:=0) (N:=0) (m:=m) hRN (by omega) (by omega) (by omega) (by omega) hta.bd (hs18.ratrows (by omega))) ?_
 rintro e19 w19 ⟨⟨u19,v19,rfl,hs19,hp19⟩,g19⟩
 refine ⟨_,rfl,?_⟩
 replace hB:=hB.trans g19
 simp only [p3,p4]
 refine sv 20 (.tuple #[u19,v19,(.int .i64 0)]) ?_
 refine sv 24 u19 ?_
 refine sv 25 v19 ?_
 refine sv 26 (.int .i64 0) ?_
 refine sv 6 u19 ?_
 refine sv 7 v19 ?_
 refine sv 8 (.int .i64 0) ?_
 refine sq_nil ?_
 refine k17 _ _ ?_
 try clear k17 K17
 refine wp_seq_k (fun K20 k20=>?_)
 refine rg [0,1,2,3,4,5,6,7] ?_
 refine sv 28 u16 ?_
 refine se ?_
 replace hs16:=hs16.gr (stab_rw stab_fr 84 2) (g18.trans g19)
 refine ec 29 (l5_own (by omega) (by omega) (fun i _ k _=>(hta.z i k).mono (by omega) (by omega)) (hm.gr hB) hs16) ?_
 rintro e21 w21 ⟨⟨u21,rfl,hs21⟩,g21⟩
 refine ⟨_,rfl,?_⟩
 replace hB:=hB.trans g21
 simp only [p3,p4]
 refine se ?_
 refine ec 30 (mx_Rank (K:=4899) (R:=0) (N:=0) (m:=m) hRN (by omega) (by omega) (by omega) (by omega) hta.bd ((hs21.ratrows (by omega)))) ?_
 rintro e22 w22 ⟨rfl,g22⟩
 refine ⟨_,rfl,?_⟩
 replace hB:=hB.trans g22
 simp only [p3,p4]
 refine sv 27 (.tuple #[(.int .i64 (((pl 0 m 0:Nat):Int))),(.int .i64 0)]) ?_
 refine sv 31 (.int .i64 (((pl 0 m 0:Nat):Int))) ?_
 refine sv 32 (.int .i64 0) ?_
 refine sv 9 (.int .i64 (((pl 0 m 0:Nat):Int))) ?_
 refine sv 10 (.int .i64 0) ?_
 refine sq_nil ?_
 refine k20 _ _ ?_
 try clear k20 K20
 refine wp_seq_k (fun K23 k23=>?_)
 refine rg [0,1,2,3,4,5,6] ?_
 refine sv 34 u16 ?_
 refine se ?_
 replace hs16:=hs16.gr (stab_rw stab_fr 84 2) (g21.trans g22)
 refine ec 35 (f5_reduceW (K:=4899) (R:=0) (D:=0) (m:=m) (by omega) (by omega) (by omega) hta.bf hs16) ?_
 rintro e24 w24 ⟨⟨u24,v24,rfl,hs24,hp24⟩,g24⟩
 refine ⟨_,rfl,?_⟩
 replace hB:=hB.trans g24
 simp only [p3,p4]
 refine sv 33 (.tuple #[u24,v24]) ?_
 refine sv 36 u24 ?_
 refine sv 37 v24 ?_
 refine sv 11 u24 ?_
 refine sv 12 v24 ?_
 refine sq_nil ?_
 refine k23 _ _ ?_
 try clear k23 K23
 refine wp_seq_k (fun K25 k25=>?_)
 refine wp_seq_k (fun K26 k26=>?_)
 refine rg [0,1,2,3,4,5,6,7,8,9,10,11,12,13,14,15,16,17,18,19,20,21,22,23,24] ?_
 refine sv 38 u19 ?_
 refine sv 39 u24 ?_
 refine se ?_
 replace hs19:=hs19.gr (stab_rw (stab_rat 4899) 71 4) (g21.trans (g22.trans g24))
 refine ec 40 (l5_is (L:=4899) (by omega) (by omega) (by omega) (by omega) (fun i hi k hk=>(hta.bd 0 (Nat.le_refl _)).1 i (by omega) k hk) (ht.gr hB) hs19 hs24) ?_
 rintro e27 w27 ⟨rfl,g27⟩
 refine ⟨_,rfl,?_⟩
 replace hB:=hB.trans g27
 simp only [p3,p4]
 refine sv 41 (.bool false) ?_
 refine sv 42 (.bool false) ?_
 refine sv 43 v19 ?_
 refine sw 44 (.int .i64 (((pl 0 m 0:Nat):Int))) rfl (rv_lenn (e:=3) hp19 (tb_lenz rfl) _ _ rfl rfl (by kernel_rfl)) ?_
 refine sv 45 v24 ?_
 refine sw 46 (.int .i64 (((pl 0 m 0:Nat):Int))) rfl (rv_lenn (e:=3) hp24 (tb_lenz rfl) _ _ rfl rfl (by kernel_rfl)) ?_
 have hb28:((((pl 0 m 0:Nat):Int) !=((pl 0 m 0:Nat):Int)))=false:=(by simp)
 refine sw 47 (.bool false) rfl (RunV.bool (x:=(((pl 0 m 0:Nat):Int) !=((pl 0 m 0:Nat):Int))) (rvk (by kernel_rfl)) hb28) ?_
 refine sv 48 (.bool false) ?_
 refine sv 49 (.bool false) ?_
 refine sv 50 (.int .i64 0) ?_
 refine sv 51 (.bool false) ?_
 refine sv 52 (.bool false) ?_
 refine sv 53 (.bool false) ?_
 refine sv 54 (.int .i64 (((pl 0 m 0:Nat):Int))) ?_
 refine sv 55 u24 ?_
 refine sw 56 (.int .i64 (((pl 0 m 0:Nat):Int))) rfl (rv_lenn (e:=51) hs24 (tb_lenz rfl) _ _ rfl rfl (by kernel_rfl)) ?_
 refine sw 57 (.bool false) rfl (RunV.bool (x:=(((pl 0 m 0:Nat):Int) !=((pl 0 m 0:Nat):Int))) (rvk (by kernel_rfl)) hb28) ?_
 refine sv 58 (.bool false) ?_
 refine sv 59 (.bool false) ?_
 refine sv 60 (.int .i64 0) ?_
 refine sv 61 (.bool false) ?_
 refine sv 62 (.bool false) ?_
 refine sq_nil ?_
 refine k26 _ _ ?_
 try clear k26 K26
 refine wp_cond_false rfl ?_
 refine wp_skip ?_
 refine k25 _ _ ?_
 try clear k25 K25
 refine wp_seq_k (fun K29 k29=>?_)
 refine wp_seq_k (fun K30 k30=>?_)
 have lehD:=Below.size hB
 have hD:=Gr.refl w27
 replace hs16:=hs16.gr (stab_rw stab_fr 84 2) (g24.trans g27)
 replace hs18:=hs18.gr (stab_rw (stab_rat 64) 71 4) (g19.trans (g21.trans (g22.trans (g24.trans g27))))
 replace hs19:=hs19.gr (stab_rw (stab_rat 4899) 71 4) g27
 replace hp19:=hp19.gr stab_i64 (g21.trans (g22.trans (g24.trans g27)))
 replace hs21:=hs21.gr (stab_rw (stab_rat 64) 71 4) (g22.trans (g24.trans g27))
 replace hs24:=hs24.gr (stab_rw stab_fr 84 2) g27
 replace hp24:=hp24.gr stab_i64 g27
 refine rg [0] ?_
 refine sv 13 (.int .i64 0) ?_
 refine sq_nil ?_
 refine k30 _ _ ?_
 try clear k30 K30
 refine wp_block ?_
 refine wp_loop_inv (a:=⟨List.toArray ?l31,[]⟩) (fun n a w'=>∃ (i:Nat) (u31:Nat→Value),(pl 0 m 0) - i=n∧a=⟨[(.agg #[(.int .u8 ((ca:Int))),va]),(.int .i64 (z)),(.pointer (some ⟨b11,0,none⟩)),undef,(u31 4),u16,u19,v19,(.int .i64 0),(.int .i64 (((pl 0 m 0:Nat):Int))),(.int .i64 0),u24,v24,(.int .i64 ((i:Int))),undef,undef,(u31 16),(.bool false),(u31 18),(u31 19),(u31 20),(u31 21),(u31 22),(u31 23),(u31 24),(u31 25),(u31 26),(u31 27),(u31 28),(u31 29),(u31 30),(u31 31),(u31 32),(u31 33),(u31 34),(u31 35),(u31 36),(u31 37),(u31 38),(u31 39),(u31 40),(u31 41),(u31 42),(u31 43),(u31 44),(u31 45),(u31 46),(u31 47),(u31 48),(u31 49),(u31 50),(u31 51),(u31 52),(u31 53),(u31 54),(u31 55),(u31 56),(u31 57),(u31 58),(u31 59),(u31 60),(u31 61),(.bool false),(u31 63),(u31 64),(u31 65),(u31 66),(u31 67),(u31 68),(u31 69),(u31 70),(u31 71),(u31 72),(u31 73),(u31 74),(u31 75),(u31 76),(u31 77),undef,undef,undef,undef,undef,undef,undef,undef,undef,undef,undef,undef,undef,undef,undef,undef,undef,undef,undef,undef,undef,undef,undef,undef,undef,undef,undef,undef,undef,undef,undef,undef,undef,undef,undef,undef,undef,undef,undef,undef,undef,undef,undef,undef,undef,undef,undef,undef,undef,undef,undef,undef,undef,undef,undef,undef,undef,undef,undef,undef,undef,undef,undef,undef,undef,undef].toArray,[]⟩∧i≤(pl 0 m 0)∧Gr w27 w'∧Gr w w') ((pl 0 m 0) - 0) ?_ ?_
 ·exact ⟨0,(fun i=>List.getD ?l31 i undef),rfl,rfl,(Nat.zero_le _),hD,hB⟩
 rintro n31 a31 w31 ⟨i,u31,rfl,rfl,hki,hD,hB⟩ K31 k31
 refine wp_seq_k (fun K32 k32=>?_)
 refine wp_seq_k (fun K33 k33=>?_)
 refine rg [0,1,2,3] ?_
 refine sv 63 (.int .i64 ((i:Int))) ?_
 refine sv 64 v19 ?_
 refine sw 65 (.int .i64 (((pl 0 m 0:Nat):Int))) rfl (rv_lenn (e:=3) hp19 (tb_lenz rfl) _ _ rfl rfl (by kernel_rfl)) ?_
 refine sv 66 (.bool (decide ((i:Int)<((pl 0 m 0:Nat):Int)))) ?_
 refine sq_nil ?_
 refine k33 _ _ ?_
 try clear k33 K33
 refine wp_cond_split (t:=decide ((i:Int)<((pl 0 m 0:Nat):Int))) rfl (fun hb34=>?_) (fun hb34=>?_)
 ·have hli:i<(pl 0 m 0):=by have:=of_decide_eq_true hb34;omega
  refine wp_skip ?_
  refine k32 _ _ ?_
  try clear k32 K32
  refine wp_seq_k (fun K35 k35=>?_)
  refine wp_block ?_
  refine wp_seq_k (fun K36 k36=>?_)
  obtain ⟨_,_,rfl,at39⟩:=Sl.get hp19 (by decide) (tb_get (f:=(fun z1=>((pv (rs 0 m 0) z1:Nat):Int))) (n:=(pl 0 m 0)) (i:=i) (by omega))
  obtain ⟨_,_,rfl,at40⟩:=Sl.get hp24 (by decide) (tb_get (f:=(fun z1=>((pv (rs 0 m 0) z1:Nat):Int))) (n:=(pl 0 m 0)) (i:=i) (by omega))
  have gd41:=Gr.drew w31
  replace hB:=hB.trans gd41
  replace hD:=hD.trans gd41
  refine wp_region_ord (fun w'=>AtV w' v19 (i*1) [(.int .i64 (((pv (rs 0 m 0) i:Nat):Int)))]∧AtV w' v24 (i*1) [(.int .i64 (((pv (rs 0 m 0) i:Nat):Int)))]) [(true,0),(true,1),(true,2),(true,3),(true,4),(true,5),(true,6),(true,7),(true,8)] (by kernel_rfl) (by kernel_rfl) (by kernel_rfl) (by decide) (fun _ _ _ _ _ h=>h) ⟨(at39.gr hD),(at40.gr hD)⟩ ?_
  refine ov 69 v19 ?_
  refine ov 70 (.int .i64 ((i:Int))) ?_
  refine ow 71 (adr v19 (i*1)) rfl (fun w' hS=>(rv_idxn (e:=3) hp19 tb_len (by decide) i (by omega) _ _ _ rfl rfl rfl (by kernel_rfl) (by kernel_rfl))) ?_
  refine ow 72 (.int .i64 (((pv (rs 0 m 0) i:Nat):Int))) rfl (fun w' hS=>(rv_ld1 (.int .i64 (((pv (rs 0 m 0) i:Nat):Int))) hS.1 _ _ rfl rfl (by kernel_rfl))) ?_
  refine ov 73 v24 ?_
  refine ov 74 (.int .i64 ((i:Int))) ?_
  refine ow 75 (adr v24 (i*1)) rfl (fun w' hS=>(rv_idxn (e:=3) hp24 tb_len (by decide) i (by omega) _ _ _ rfl rfl rfl (by kernel_rfl) (by kernel_rfl))) ?_
  refine ow 76 (.int .i64 (((pv (rs 0 m 0) i:Nat):Int))) rfl (fun w' hS=>(rv_ld1 (.int .i64 (((pv (rs 0 m 0) i:Nat):Int))) hS.2 _ _ rfl rfl (by kernel_rfl))) ?_
  have hb42:((((pv (rs 0 m 0) i:Nat):Int) !=((pv (rs 0 m 0) i:Nat):Int)))=false:=(by simp)
  refine ow 77 (.bool false) rfl (fun w' hS=>(RunV.bool (x:=(((pv (rs 0 m 0) i:Nat):Int) !=((pv (rs 0 m 0) i:Nat):Int))) (rvk (by kernel_rfl)) hb42)) ?_
  refine ord_nil ?_
  refine k36 _ _ ?_
  try clear k36 K36
  refine wp_cond_false rfl ?_
  refine wp_skip ?_
  refine k35 _ _ ?_
  try clear k35 K35
  refine rg [0,1,2] ?_
  refine sv 67 (.int .i64 ((i:Int))) ?_
  refine sw 68 (.int .i64 (((i:Int)+1))) rfl (RunV.int (x:=IntKind.i64.wrap (((i:Int)+1))) (y:=((i:Int)+1)) (rvk (by kernel_rfl)) (by first | rfl | (rw [IntKind.wrap_i64];omega))) ?_
  refine sv 13 (.int .i64 (((i:Int)+1))) ?_
  refine sq_nil ?_
  refine k31 ((pl 0 m 0) - (i+1)) ⟨List.toArray ?l43,[]⟩ _ (by omega) ?_
  exact ⟨i+1,(fun i=>List.getD ?l43 i undef),rfl,rfl,(by omega),hD,hB⟩
 ·have hei:(pl 0 m 0)=i:=by have:=of_decide_eq_false hb34;omega
  subst hei
  refine wp_exit ?_
  simp only [Exit.then,Exit.inBlock,↓reduceIte]
  refine k29 _ _ ?_
  try clear k29 K29
  refine wp_seq_k (fun K44 k44=>?_)
  refine rg [0,1,2,3,4,5,6,7,8,9] ?_
  refine sv 79 u16 ?_
  refine se ?_
  refine ec 80 (l5_own (by omega) (by omega) (fun i _ k _=>(hta.z i k).mono (by omega) (by omega)) (hm.gr hB) (hs16.gr (stab_rw stab_fr 84 2) hD)) ?_
  rintro e45 w45 ⟨⟨u45,rfl,hs45⟩,g45⟩
  refine ⟨_,rfl,?_⟩
  replace hB:=hB.trans g45
  replace hD:=hD.trans g45
  simp only [p3,p4]
  refine sv 81 u16 ?_
  refine se ?_
  refine ec 82 (f5_columns hRN (hs16.gr (stab_rw stab_fr 84 2) hD)) ?_
  rintro e46 w46 ⟨rfl,g46⟩
  refine ⟨_,rfl,?_⟩
  replace hB:=hB.trans g46
  replace hD:=hD.trans g46
  simp only [p3,p4]
  refine se ?_
  replace hs45:=hs45.gr (stab_rw (stab_rat 64) 71 4) g46
  refine ec 83 (mx_Kernel (K:=4899) (R:=0) (D:=0) (m:=m) (by omega) (by omega) (by omega) (by omega) hta.bd ((hs45.ratrows (by omega)))) ?_
  rintro e47 w47 ⟨⟨u47,rfl,hs47⟩,g47⟩
  refine ⟨_,rfl,?_⟩
  replace hB:=hB.trans g47
  replace hD:=hD.trans g47
  simp only [p3,p4]
  refine sv 78 (.tuple #[u47,(.int .i64 0)]) ?_
  refine sv 84 u47 ?_
  refine sv 85 (.int .i64 0) ?_
  refine sv 14 u47 ?_
  refine sv 15 (.int .i64 0) ?_
  refine sq_nil ?_
  refine k44 _ _ ?_
  try clear k44 K44
  refine wp_seq_k (fun K48 k48=>?_)
  refine wp_seq_k (fun K49 k49=>?_)
  refine rg [0,1,2,3,4,5,6,7,8,9,10] ?_
  refine sv 86 u47 ?_
  refine sv 87 u16 ?_
  refine sv 88 u16 ?_
  refine se ?_
  refine ec 89 (f5_columns hRN (hs16.gr (stab_rw stab_fr 84 2) hD)) ?_
  rintro e50 w50 ⟨rfl,g50⟩
  refine ⟨_,rfl,?_⟩
  replace hB:=hB.trans g50
  replace hD:=hD.trans g50
  simp only [p3,p4]
  refine se ?_
  refine ec 90 (f5_kernel (K:=4899) (L:=4899) (R:=0) (D:=0) (m:=m) (by omega) (by omega) (by omega) hta.bf (fun a ha b hb=>(hta.bd 0 (Nat.le_refl _)).1 a ha b hb) (by omega) (hs16.gr (stab_rw stab_fr 84 2) hD)) ?_
  rintro e51 w51 ⟨⟨u51,rfl,hs51⟩,g51⟩
  refine ⟨_,rfl,?_⟩
  replace hB:=hB.trans g51
  replace hD:=hD.trans g51
  simp only [p3,p4]
  refine se ?_
  replace hs47:=hs47.gr (stab_rw (stab_rat 4899) 71 4) (g50.trans g51)
  refine ec 91 (l5_is (L:=4899) (by omega) (by omega) (by omega) (by omega) (fun i hi k hk=>kv_z (by decide) (frc_in hi).1 (hta.bd 0 (Nat.le_refl _)).1) (ht.gr hB) hs47 hs51) ?_
  rintro e52 w52 ⟨rfl,g52⟩
  refine ⟨_,rfl,?_⟩
  replace hB:=hB.trans g52
  replace hD:=hD.trans g52
  simp only [p3,p4]
  refine sv 92 (.bool false) ?_
  refine sv 93 (.bool false) ?_
  refine sv 94 (.int .i64 0) ?_
  refine sv 95 (.bool false) ?_
  refine sv 96 (.bool false) ?_
  refine sq_nil ?_
  refine k49 _ _ ?_
  try clear k49 K49
  refine wp_cond_false rfl ?_
  refine wp_skip ?_
  refine k48 _ _ ?_
  try clear k48 K48
  refine wp_seq_k (fun K53 k53=>?_)
  refine rg [0,1,2,3,4,5,6,7,8] ?_
  refine sv 98 u16 ?_
  refine se ?_
  refine ec 99 (l5_own (by omega) (by omega) (fun i _ k _=>(hta.z i k).mono (by omega) (by omega)) (hm.gr hB) (hs16.gr (stab_rw stab_fr 84 2) hD)) ?_
  rintro e54 w54 ⟨⟨u54,rfl,hs54⟩,g54⟩
  refine ⟨_,rfl,?_⟩
  replace hB:=hB.trans g54
  replace hD:=hD.trans g54
  simp only [p3,p4]
  refine sv 100 (.int .i64 (z)) ?_
  refine se ?_
  refine ec 101 (mx_Kernel_r z (by omega) hs54) ?_
  rintro e55 w55 ⟨rfl,g55⟩
  refine ⟨_,rfl,?_⟩
  replace hB:=hB.trans g55
  replace hD:=hD.trans g55
  simp only [p3,p4]
  refine sv 97 (.tuple #[(.slice none 0 0),(.int .i64 2)]) ?_
  refine sv 102 (.slice none 0 0) ?_
  refine sv 103 (.int .i64 2) ?_
  refine sv 14 (.slice none 0 0) ?_
  refine sv 15 (.int .i64 2) ?_
  refine sq_nil ?_
  refine k53 _ _ ?_
  try clear k53 K53
  refine wp_seq_k (fun K56 k56=>?_)
  refine wp_block ?_
  refine wp_seq_k (fun K57 k57=>?_)
  refine rg [0,1,2,3,4,5,6,7,8,9] ?_
  refine sv 105 u16 ?_
  refine sw 106 (.int .i64 0) rfl (rv_lenn (e:=51) hs16 (tb_lenz rfl) _ _ rfl rfl (by kernel_rfl)) ?_
  refine sv 107 (.bool false) ?_
  refine swk 108 (.bool false) [(4,109),(5,110),(6,111),(7,112)] rfl (rvk (by kernel_rfl)) ?_
  refine sv 113 (.bool false) ?_
  refine sv 104 (.bool false) ?_
  refine sq_nil ?_
  refine k57 _ _ ?_
  try clear k57 K57
  refine wp_cond_false rfl ?_
  refine wp_seq_k (fun K58 k58=>?_)
  refine rg [0,1,2,3,4,5,6] ?_
  refine sv 122 (.int .i64 (z)) ?_
  have hb59:(decide (z<(0:Int)))=true:=(by simp only [decide_eq_true_eq];omega)
  refine sw 123 (.bool true) rfl (RunV.bool (x:=decide (z<(0:Int))) (rvk (by kernel_rfl)) hb59) ?_
  refine swk 124 (.bool true) [(3,125),(4,126)] rfl (rvk (by kernel_rfl)) ?_
  refine sv 127 (.bool true) ?_
  refine sv 121 (.bool true) ?_
  refine sq_nil ?_
  refine k58 _ _ ?_
  try clear k58 K58
  refine wp_cond_true rfl ?_
  refine wp_seq_k (fun K60 k60=>?_)
  refine rg [0,1,2,3,4,5,6,7] ?_
  refine sv 128 (.slice none 0 0) ?_
  refine sv 129 (.int .i64 0) ?_
  refine sv 130 (.bool true) ?_
  refine sv 131 (.bool true) ?_
  refine sv 132 (.int .i64 2) ?_
  refine sv 133 (.bool true) ?_
  refine sv 134 (.bool true) ?_
  refine sv 4 (.bool true) ?_
  refine sq_nil ?_
  refine k60 _ _ ?_
  try clear k60 K60
  refine wp_ret ?_
  simp only [Exit.then,Exit.inBlock]
  refine bodyPost_ret (v:=(.bool true)) (ret_tmp rfl rfl) rfl ⟨?_,hB⟩
  exact rfl

set_option maxRecDepth 100000 in
set_option maxHeartbeats 1000000 in
theorem mr_g {z:Int} {ca:Nat} {va:Value} {m:Mx_} (_hz:96<z) {w:World} (hm:Mx w) (ht:Tab w) (hta:TA w (.agg #[.int .u8 (ca:Int),va]) 0 0 m):
    Calls Tryz.prog 3 #[(.agg #[(.int .u8 ((ca:Int))),va]),(.int .i64 (z))] w fun e w'=>e=.returned (.bool true)∧Gr w w':=by
 have hR5:=hta.R5
 have hN6:=hta.N6
 have hRN:=hta.R0
 have hpl:=rs_len 0 m 0
 have hpn:=rs_ple 0 m 0
 have hnf:=nfr_le 0 m 0 0
 go_enter Tryz.func3,Tryz.ntmps3
 have hB:=Gr.refl w
 refine wp_seq_k (fun K10 k10=>?_)
 refine rg [0,1] ?_
 refine se ?_
 refine eb 24 #[(.int .u8 ((ca:Int))),va] 2 hB fun b11 w11 g11 L11 o11 q11 hB=>?_
 simp only [p3,p4]
 refine sv 4 (.bool false) ?_
 refine sq_nil ?_
 refine k10 _ _ ?_
 try clear k10 K10
 refine wp_seq_k (fun K12 k12=>?_)
 refine wp_seq_k (fun K13 k13=>?_)
 refine rg [0,1] ?_
 refine se ?_
 refine ec 16 (l5_known _ (hm.gr hB) (ht.gr hB)) ?_
 rintro e14 w14 ⟨rfl,g14⟩
 refine ⟨_,rfl,?_⟩
 replace hB:=hB.trans g14
 simp only [p3,p4]
 refine sv 17 (.bool false) ?_
 refine sq_nil ?_
 refine k13 _ _ ?_
 try clear k13 K13
 refine wp_cond_false rfl ?_
 refine wp_skip ?_
 refine k12 _ _ ?_
 try clear k12 K12
 refine wp_seq_k (fun K15 k15=>?_)
 refine rg [0,1,2] ?_
 replace L11:=L11.gr g14
 refine sw 18 (.agg #[(.int .u8 ((ca:Int))),va]) rfl (rl 24 0 [(.int .u8 ((ca:Int))),va] L11) ?_
 refine se ?_
 refine ec 19 (l5_rowsT (hta.gr hB)) ?_
 rintro e16 w16 ⟨⟨u16,rfl,hs16⟩,g16⟩
 refine ⟨_,rfl,?_⟩
 replace hB:=hB.trans g16
 simp only [p3,p4]
 refine sv 5 u16 ?_
 refine sq_nil ?_
 refine k15 _ _ ?_
 try clear k15 K15
 refine wp_seq_k (fun K17 k17=>?_)
 refine rg [0,1,2,3,4,5,6,7,8,9] ?_
 refine sv 21 u16 ?_
 refine se ?_
 refine ec 22 (l5_own (by omega) (by omega) (fun i _ k _=>(hta.z i k).mono (by omega) (by omega)) (hm.gr hB) hs16) ?_
 rintro e18 w18 ⟨⟨u18,rfl,hs18⟩,g18⟩
 refine ⟨_,rfl,?_⟩
 replace hB:=hB.trans g18
 simp only [p3,p4]
 refine se ?_
 refine ec 23 (mx_Reduce (K:=4899) (R:=0) (N:=0) (m:=m) hRN (by omega) (by omega) (by omega) (by omega) hta.bd (hs18.ratrows (by omega))) ?_
 rintro e19 w19 ⟨⟨u19,v19,rfl,hs19,hp19⟩,g19⟩
 refine ⟨_,rfl,?_⟩
 replace hB:=hB.trans g19
 simp only [p3,p4]
 refine sv 20 (.tuple #[u19,v19,(.int .i64 0)]) ?_
 refine sv 24 u19 ?_
 refine sv 25 v19 ?_
 refine sv 26 (.int .i64 0) ?_
 refine sv 6 u19 ?_
 refine sv 7 v19 ?_
 refine sv 8 (.int .i64 0) ?_
 refine sq_nil ?_
 refine k17 _ _ ?_
 try clear k17 K17
 refine wp_seq_k (fun K20 k20=>?_)
 refine rg [0,1,2,3,4,5,6,7] ?_
 refine sv 28 u16 ?_
 refine se ?_
 replace hs16:=hs16.gr (stab_rw stab_fr 84 2) (g18.trans g19)
 refine ec 29 (l5_own (by omega) (by omega) (fun i _ k _=>(hta.z i k).mono (by omega) (by omega)) (hm.gr hB) hs16) ?_
 rintro e21 w21 ⟨⟨u21,rfl,hs21⟩,g21⟩
 refine ⟨_,rfl,?_⟩
 replace hB:=hB.trans g21
 simp only [p3,p4]
 refine se ?_
 refine ec 30 (mx_Rank (K:=4899) (R:=0) (N:=0) (m:=m) hRN (by omega) (by omega) (by omega) (by omega) hta.bd ((hs21.ratrows (by omega)))) ?_
 rintro e22 w22 ⟨rfl,g22⟩
 refine ⟨_,rfl,?_⟩
 replace hB:=hB.trans g22
 simp only [p3,p4]
 refine sv 27 (.tuple #[(.int .i64 (((pl 0 m 0:Nat):Int))),(.int .i64 0)]) ?_
 refine sv 31 (.int .i64 (((pl 0 m 0:Nat):Int))) ?_
 refine sv 32 (.int .i64 0) ?_
 refine sv 9 (.int .i64 (((pl 0 m 0:Nat):Int))) ?_
 refine sv 10 (.int .i64 0) ?_
 refine sq_nil ?_
 refine k20 _ _ ?_
 try clear k20 K20
 refine wp_seq_k (fun K23 k23=>?_)
 refine rg [0,1,2,3,4,5,6] ?_
 refine sv 34 u16 ?_
 refine se ?_
 replace hs16:=hs16.gr (stab_rw stab_fr 84 2) (g21.trans g22)
 refine ec 35 (f5_reduceW (K:=4899) (R:=0) (D:=0) (m:=m) (by omega) (by omega) (by omega) hta.bf hs16) ?_
 rintro e24 w24 ⟨⟨u24,v24,rfl,hs24,hp24⟩,g24⟩
 refine ⟨_,rfl,?_⟩
 replace hB:=hB.trans g24
 simp only [p3,p4]
 refine sv 33 (.tuple #[u24,v24]) ?_
 refine sv 36 u24 ?_
 refine sv 37 v24 ?_
 refine sv 11 u24 ?_
 refine sv 12 v24 ?_
 refine sq_nil ?_
 refine k23 _ _ ?_
 try clear k23 K23
 refine wp_seq_k (fun K25 k25=>?_)
 refine wp_seq_k (fun K26 k26=>?_)
 refine rg [0,1,2,3,4,5,6,7,8,9,10,11,12,13,14,15,16,17,18,19,20,21,22,23,24] ?_
 refine sv 38 u19 ?_
 refine sv 39 u24 ?_
 refine se ?_
 replace hs19:=hs19.gr (stab_rw (stab_rat 4899) 71 4) (g21.trans (g22.trans g24))
 refine ec 40 (l5_is (L:=4899) (by omega) (by omega) (by omega) (by omega) (fun i hi k hk=>(hta.bd 0 (Nat.le_refl _)).1 i (by omega) k hk) (ht.gr hB) hs19 hs24) ?_
 rintro e27 w27 ⟨rfl,g27⟩
 refine ⟨_,rfl,?_⟩
 replace hB:=hB.trans g27
 simp only [p3,p4]
 refine sv 41 (.bool false) ?_
 refine sv 42 (.bool false) ?_
 refine sv 43 v19 ?_
 refine sw 44 (.int .i64 (((pl 0 m 0:Nat):Int))) rfl (rv_lenn (e:=3) hp19 (tb_lenz rfl) _ _ rfl rfl (by kernel_rfl)) ?_
 refine sv 45 v24 ?_
 refine sw 46 (.int .i64 (((pl 0 m 0:Nat):Int))) rfl (rv_lenn (e:=3) hp24 (tb_lenz rfl) _ _ rfl rfl (by kernel_rfl)) ?_
 have hb28:((((pl 0 m 0:Nat):Int) !=((pl 0 m 0:Nat):Int)))=false:=(by simp)
 refine sw 47 (.bool false) rfl (RunV.bool (x:=(((pl 0 m 0:Nat):Int) !=((pl 0 m 0:Nat):Int))) (rvk (by kernel_rfl)) hb28) ?_
 refine sv 48 (.bool false) ?_
 refine sv 49 (.bool false) ?_
 refine sv 50 (.int .i64 0) ?_
 refine sv 51 (.bool false) ?_
 refine sv 52 (.bool false) ?_
 refine sv 53 (.bool false) ?_
 refine sv 54 (.int .i64 (((pl 0 m 0:Nat):Int))) ?_
 refine sv 55 u24 ?_
 refine sw 56 (.int .i64 (((pl 0 m 0:Nat):Int))) rfl (rv_lenn (e:=51) hs24 (tb_lenz rfl) _ _ rfl rfl (by kernel_rfl)) ?_
 refine sw 57 (.bool false) rfl (RunV.bool (x:=(((pl 0 m 0:Nat):Int) !=((pl 0 m 0:Nat):Int))) (rvk (by kernel_rfl)) hb28) ?_
 refine sv 58 (.bool false) ?_
 refine sv 59 (.bool false) ?_
 refine sv 60 (.int .i64 0) ?_
 refine sv 61 (.bool false) ?_
 refine sv 62 (.bool false) ?_
 refine sq_nil ?_
 refine k26 _ _ ?_
 try clear k26 K26
 refine wp_cond_false rfl ?_
 refine wp_skip ?_
 refine k25 _ _ ?_
 try clear k25 K25
 refine wp_seq_k (fun K29 k29=>?_)
 refine wp_seq_k (fun K30 k30=>?_)
 have lehD:=Below.size hB
 have hD:=Gr.refl w27
 replace hs16:=hs16.gr (stab_rw stab_fr 84 2) (g24.trans g27)
 replace hs18:=hs18.gr (stab_rw (stab_rat 64) 71 4) (g19.trans (g21.trans (g22.trans (g24.trans g27))))
 replace hs19:=hs19.gr (stab_rw (stab_rat 4899) 71 4) g27
 replace hp19:=hp19.gr stab_i64 (g21.trans (g22.trans (g24.trans g27)))
 replace hs21:=hs21.gr (stab_rw (stab_rat 64) 71 4) (g22.trans (g24.trans g27))
 replace hs24:=hs24.gr (stab_rw stab_fr 84 2) g27
 replace hp24:=hp24.gr stab_i64 g27
 refine rg [0] ?_
 refine sv 13 (.int .i64 0) ?_
 refine sq_nil ?_
 refine k30 _ _ ?_
 try clear k30 K30
 refine wp_block ?_
 refine wp_loop_inv (a:=⟨List.toArray ?l31,[]⟩) (fun n a w'=>∃ (i:Nat) (u31:Nat→Value),(pl 0 m 0) - i=n∧a=⟨[(.agg #[(.int .u8 ((ca:Int))),va]),(.int .i64 (z)),(.pointer (some ⟨b11,0,none⟩)),undef,(u31 4),u16,u19,v19,(.int .i64 0),(.int .i64 (((pl 0 m 0:Nat):Int))),(.int .i64 0),u24,v24,(.int .i64 ((i:Int))),undef,undef,(u31 16),(.bool false),(u31 18),(u31 19),(u31 20),(u31 21),(u31 22),(u31 23),(u31 24),(u31 25),(u31 26),(u31 27),(u31 28),(u31 29),(u31 30),(u31 31),(u31 32),(u31 33),(u31 34),(u31 35),(u31 36),(u31 37),(u31 38),(u31 39),(u31 40),(u31 41),(u31 42),(u31 43),(u31 44),(u31 45),(u31 46),(u31 47),(u31 48),(u31 49),(u31 50),(u31 51),(u31 52),(u31 53),(u31 54),(u31 55),(u31 56),(u31 57),(u31 58),(u31 59),(u31 60),(u31 61),(.bool false),(u31 63),(u31 64),(u31 65),(u31 66),(u31 67),(u31 68),(u31 69),(u31 70),(u31 71),(u31 72),(u31 73),(u31 74),(u31 75),(u31 76),(u31 77),undef,undef,undef,undef,undef,undef,undef,undef,undef,undef,undef,undef,undef,undef,undef,undef,undef,undef,undef,undef,undef,undef,undef,undef,undef,undef,undef,undef,undef,undef,undef,undef,undef,undef,undef,undef,undef,undef,undef,undef,undef,undef,undef,undef,undef,undef,undef,undef,undef,undef,undef,undef,undef,undef,undef,undef,undef,undef,undef,undef,undef,undef,undef,undef,undef,undef].toArray,[]⟩∧i≤(pl 0 m 0)∧Gr w27 w'∧Gr w w') ((pl 0 m 0) - 0) ?_ ?_
 ·exact ⟨0,(fun i=>List.getD ?l31 i undef),rfl,rfl,(Nat.zero_le _),hD,hB⟩
 rintro n31 a31 w31 ⟨i,u31,rfl,rfl,hki,hD,hB⟩ K31 k31
 refine wp_seq_k (fun K32 k32=>?_)
 refine wp_seq_k (fun K33 k33=>?_)
 refine rg [0,1,2,3] ?_
 refine sv 63 (.int .i64 ((i:Int))) ?_
 refine sv 64 v19 ?_
 refine sw 65 (.int .i64 (((pl 0 m 0:Nat):Int))) rfl (rv_lenn (e:=3) hp19 (tb_lenz rfl) _ _ rfl rfl (by kernel_rfl)) ?_
 refine sv 66 (.bool (decide ((i:Int)<((pl 0 m 0:Nat):Int)))) ?_
 refine sq_nil ?_
 refine k33 _ _ ?_
 try clear k33 K33
 refine wp_cond_split (t:=decide ((i:Int)<((pl 0 m 0:Nat):Int))) rfl (fun hb34=>?_) (fun hb34=>?_)
 ·have hli:i<(pl 0 m 0):=by have:=of_decide_eq_true hb34;omega
  refine wp_skip ?_
  refine k32 _ _ ?_
  try clear k32 K32
  refine wp_seq_k (fun K35 k35=>?_)
  refine wp_block ?_
  refine wp_seq_k (fun K36 k36=>?_)
  obtain ⟨_,_,rfl,at39⟩:=Sl.get hp19 (by decide) (tb_get (f:=(fun z1=>((pv (rs 0 m 0) z1:Nat):Int))) (n:=(pl 0 m 0)) (i:=i) (by omega))
  obtain ⟨_,_,rfl,at40⟩:=Sl.get hp24 (by decide) (tb_get (f:=(fun z1=>((pv (rs 0 m 0) z1:Nat):Int))) (n:=(pl 0 m 0)) (i:=i) (by omega))
  have gd41:=Gr.drew w31
  replace hB:=hB.trans gd41
  replace hD:=hD.trans gd41
  refine wp_region_ord (fun w'=>AtV w' v19 (i*1) [(.int .i64 (((pv (rs 0 m 0) i:Nat):Int)))]∧AtV w' v24 (i*1) [(.int .i64 (((pv (rs 0 m 0) i:Nat):Int)))]) [(true,0),(true,1),(true,2),(true,3),(true,4),(true,5),(true,6),(true,7),(true,8)] (by kernel_rfl) (by kernel_rfl) (by kernel_rfl) (by decide) (fun _ _ _ _ _ h=>h) ⟨(at39.gr hD),(at40.gr hD)⟩ ?_
  refine ov 69 v19 ?_
  refine ov 70 (.int .i64 ((i:Int))) ?_
  refine ow 71 (adr v19 (i*1)) rfl (fun w' hS=>(rv_idxn (e:=3) hp19 tb_len (by decide) i (by omega) _ _ _ rfl rfl rfl (by kernel_rfl) (by kernel_rfl))) ?_
  refine ow 72 (.int .i64 (((pv (rs 0 m 0) i:Nat):Int))) rfl (fun w' hS=>(rv_ld1 (.int .i64 (((pv (rs 0 m 0) i:Nat):Int))) hS.1 _ _ rfl rfl (by kernel_rfl))) ?_
  refine ov 73 v24 ?_
  refine ov 74 (.int .i64 ((i:Int))) ?_
  refine ow 75 (adr v24 (i*1)) rfl (fun w' hS=>(rv_idxn (e:=3) hp24 tb_len (by decide) i (by omega) _ _ _ rfl rfl rfl (by kernel_rfl) (by kernel_rfl))) ?_
  refine ow 76 (.int .i64 (((pv (rs 0 m 0) i:Nat):Int))) rfl (fun w' hS=>(rv_ld1 (.int .i64 (((pv (rs 0 m 0) i:Nat):Int))) hS.2 _ _ rfl rfl (by kernel_rfl))) ?_
  have hb42:((((pv (rs 0 m 0) i:Nat):Int) !=((pv (rs 0 m 0) i:Nat):Int)))=false:=(by simp)
  refine ow 77 (.bool false) rfl (fun w' hS=>(RunV.bool (x:=(((pv (rs 0 m 0) i:Nat):Int) !=((pv (rs 0 m 0) i:Nat):Int))) (rvk (by kernel_rfl)) hb42)) ?_
  refine ord_nil ?_
  refine k36 _ _ ?_
  try clear k36 K36
  refine wp_cond_false rfl ?_
  refine wp_skip ?_
  refine k35 _ _ ?_
  try clear k35 K35
  refine rg [0,1,2] ?_
  refine sv 67 (.int .i64 ((i:Int))) ?_
  refine sw 68 (.int .i64 (((i:Int)+1))) rfl (RunV.int (x:=IntKind.i64.wrap (((i:Int)+1))) (y:=((i:Int)+1)) (rvk (by kernel_rfl)) (by first | rfl | (rw [IntKind.wrap_i64];omega))) ?_
  refine sv 13 (.int .i64 (((i:Int)+1))) ?_
  refine sq_nil ?_
  refine k31 ((pl 0 m 0) - (i+1)) ⟨List.toArray ?l43,[]⟩ _ (by omega) ?_
  exact ⟨i+1,(fun i=>List.getD ?l43 i undef),rfl,rfl,(by omega),hD,hB⟩
 ·have hei:(pl 0 m 0)=i:=by have:=of_decide_eq_false hb34;omega
  subst hei
  refine wp_exit ?_
  simp only [Exit.then,Exit.inBlock,↓reduceIte]
  refine k29 _ _ ?_
  try clear k29 K29
  refine wp_seq_k (fun K44 k44=>?_)
  refine rg [0,1,2,3,4,5,6,7,8,9] ?_
  refine sv 79 u16 ?_
  refine se ?_
  refine ec 80 (l5_own (by omega) (by omega) (fun i _ k _=>(hta.z i k).mono (by omega) (by omega)) (hm.gr hB) (hs16.gr (stab_rw stab_fr 84 2) hD)) ?_
  rintro e45 w45 ⟨⟨u45,rfl,hs45⟩,g45⟩
  refine ⟨_,rfl,?_⟩
  replace hB:=hB.trans g45
  replace hD:=hD.trans g45
  simp only [p3,p4]
  refine sv 81 u16 ?_
  refine se ?_
  refine ec 82 (f5_columns hRN (hs16.gr (stab_rw stab_fr 84 2) hD)) ?_
  rintro e46 w46 ⟨rfl,g46⟩
  refine ⟨_,rfl,?_⟩
  replace hB:=hB.trans g46
  replace hD:=hD.trans g46
  simp only [p3,p4]
  refine se ?_
  replace hs45:=hs45.gr (stab_rw (stab_rat 64) 71 4) g46
  refine ec 83 (mx_Kernel (K:=4899) (R:=0) (D:=0) (m:=m) (by omega) (by omega) (by omega) (by omega) hta.bd ((hs45.ratrows (by omega)))) ?_
  rintro e47 w47 ⟨⟨u47,rfl,hs47⟩,g47⟩
  refine ⟨_,rfl,?_⟩
  replace hB:=hB.trans g47
  replace hD:=hD.trans g47
  simp only [p3,p4]
  refine sv 78 (.tuple #[u47,(.int .i64 0)]) ?_
  refine sv 84 u47 ?_
  refine sv 85 (.int .i64 0) ?_
  refine sv 14 u47 ?_
  refine sv 15 (.int .i64 0) ?_
  refine sq_nil ?_
  refine k44 _ _ ?_
  try clear k44 K44
  refine wp_seq_k (fun K48 k48=>?_)
  refine wp_seq_k (fun K49 k49=>?_)
  refine rg [0,1,2,3,4,5,6,7,8,9,10] ?_
  refine sv 86 u47 ?_
  refine sv 87 u16 ?_
  refine sv 88 u16 ?_
  refine se ?_
  refine ec 89 (f5_columns hRN (hs16.gr (stab_rw stab_fr 84 2) hD)) ?_
  rintro e50 w50 ⟨rfl,g50⟩
  refine ⟨_,rfl,?_⟩
  replace hB:=hB.trans g50
  replace hD:=hD.trans g50
  simp only [p3,p4]
  refine se ?_
  refine ec 90 (f5_kernel (K:=4899) (L:=4899) (R:=0) (D:=0) (m:=m) (by omega) (by omega) (by omega) hta.bf (fun a ha b hb=>(hta.bd 0 (Nat.le_refl _)).1 a ha b hb) (by omega) (hs16.gr (stab_rw stab_fr 84 2) hD)) ?_
  rintro e51 w51 ⟨⟨u51,rfl,hs51⟩,g51⟩
  refine ⟨_,rfl,?_⟩
  replace hB:=hB.trans g51
  replace hD:=hD.trans g51
  simp only [p3,p4]
  refine se ?_
  replace hs47:=hs47.gr (stab_rw (stab_rat 4899) 71 4) (g50.trans g51)
  refine ec 91 (l5_is (L:=4899) (by omega) (by omega) (by omega) (by omega) (fun i hi k hk=>kv_z (by decide) (frc_in hi).1 (hta.bd 0 (Nat.le_refl _)).1) (ht.gr hB) hs47 hs51) ?_
  rintro e52 w52 ⟨rfl,g52⟩
  refine ⟨_,rfl,?_⟩
  replace hB:=hB.trans g52
  replace hD:=hD.trans g52
  simp only [p3,p4]
  refine sv 92 (.bool false) ?_
  refine sv 93 (.bool false) ?_
  refine sv 94 (.int .i64 0) ?_
  refine sv 95 (.bool false) ?_
  refine sv 96 (.bool false) ?_
  refine sq_nil ?_
  refine k49 _ _ ?_
  try clear k49 K49
  refine wp_cond_false rfl ?_
  refine wp_skip ?_
  refine k48 _ _ ?_
  try clear k48 K48
  refine wp_seq_k (fun K53 k53=>?_)
  refine rg [0,1,2,3,4,5,6,7,8] ?_
  refine sv 98 u16 ?_
  refine se ?_
  refine ec 99 (l5_own (by omega) (by omega) (fun i _ k _=>(hta.z i k).mono (by omega) (by omega)) (hm.gr hB) (hs16.gr (stab_rw stab_fr 84 2) hD)) ?_
  rintro e54 w54 ⟨⟨u54,rfl,hs54⟩,g54⟩
  refine ⟨_,rfl,?_⟩
  replace hB:=hB.trans g54
  replace hD:=hD.trans g54
  simp only [p3,p4]
  refine sv 100 (.int .i64 (z)) ?_
  refine se ?_
  refine ec 101 (mx_Kernel_r z (by omega) hs54) ?_
  rintro e55 w55 ⟨rfl,g55⟩
  refine ⟨_,rfl,?_⟩
  replace hB:=hB.trans g55
  replace hD:=hD.trans g55
  simp only [p3,p4]
  refine sv 97 (.tuple #[(.slice none 0 0),(.int .i64 2)]) ?_
  refine sv 102 (.slice none 0 0) ?_
  refine sv 103 (.int .i64 2) ?_
  refine sv 14 (.slice none 0 0) ?_
  refine sv 15 (.int .i64 2) ?_
  refine sq_nil ?_
  refine k53 _ _ ?_
  try clear k53 K53
  refine wp_seq_k (fun K56 k56=>?_)
  refine wp_block ?_
  refine wp_seq_k (fun K57 k57=>?_)
  refine rg [0,1,2,3,4,5,6,7,8,9] ?_
  refine sv 105 u16 ?_
  refine sw 106 (.int .i64 0) rfl (rv_lenn (e:=51) hs16 (tb_lenz rfl) _ _ rfl rfl (by kernel_rfl)) ?_
  refine sv 107 (.bool false) ?_
  refine swk 108 (.bool false) [(4,109),(5,110),(6,111),(7,112)] rfl (rvk (by kernel_rfl)) ?_
  refine sv 113 (.bool false) ?_
  refine sv 104 (.bool false) ?_
  refine sq_nil ?_
  refine k57 _ _ ?_
  try clear k57 K57
  refine wp_cond_false rfl ?_
  refine wp_seq_k (fun K58 k58=>?_)
  refine rg [0,1,2,3,4,5,6] ?_
  refine sv 122 (.int .i64 (z)) ?_
  have hb59:(decide (z<(0:Int)))=false:=(by simp only [decide_eq_false_iff_not];omega)
  refine sw 123 (.bool false) rfl (RunV.bool (x:=decide (z<(0:Int))) (rvk (by kernel_rfl)) hb59) ?_
  refine sv 124 (.bool false) ?_
  refine sv 125 (.int .i64 (z)) ?_
  have hb60:(decide ((96:Int)<z))=true:=(by simp only [decide_eq_true_eq];omega)
  refine sw 126 (.bool true) rfl (RunV.bool (x:=decide ((96:Int)<z)) (rvk (by kernel_rfl)) hb60) ?_
  refine sv 127 (.bool true) ?_
  refine sv 121 (.bool true) ?_
  refine sq_nil ?_
  refine k58 _ _ ?_
  try clear k58 K58
  refine wp_cond_true rfl ?_
  refine wp_seq_k (fun K61 k61=>?_)
  refine rg [0,1,2,3,4,5,6,7] ?_
  refine sv 128 (.slice none 0 0) ?_
  refine sv 129 (.int .i64 0) ?_
  refine sv 130 (.bool true) ?_
  refine sv 131 (.bool true) ?_
  refine sv 132 (.int .i64 2) ?_
  refine sv 133 (.bool true) ?_
  refine sv 134 (.bool true) ?_
  refine sv 4 (.bool true) ?_
  refine sq_nil ?_
  refine k61 _ _ ?_
  try clear k61 K61
  refine wp_ret ?_
  simp only [Exit.then,Exit.inBlock]
  refine bodyPost_ret (v:=(.bool true)) (ret_tmp rfl rfl) rfl ⟨?_,hB⟩
  exact rfl

set_option maxRecDepth 100000 in
set_option maxHeartbeats 1000000 in
theorem mr_0 {D ca:Nat} {va:Value} {m:Mx_} (hD:D≤96) {w:World} (hm:Mx w) (ht:Tab w) (hta:TA w (.agg #[.int .u8 (ca:Int),va]) 0 0 m):
    Calls Tryz.prog 3 #[(.agg #[(.int .u8 ((ca:Int))),va]),(.int .i64 ((D:Int)))] w fun e w'=>e=.returned (.bool true)∧Gr w w':=by
 have hR5:=hta.R5
 have hN6:=hta.N6
 have hRN:=hta.R0
 have hpl:=rs_len 0 m 0
 have hpn:=rs_ple 0 m 0
 have hnf:=nfr_le 0 m 0 0
 have hz0:∀ k,k≤D→RdZ 0 D 4899 (rs 0 m k):=fun k _=>⟨fun i hi=>absurd hi (Nat.not_lt_zero i),(rs_all (R:=0) (n:=k) (N:=k) (m:=m) (P:=5) ⟨8,3,8,3,1⟩ (fun i hi=>absurd hi (Nat.not_lt_zero i)) (fun i hi=>absurd hi (Nat.not_lt_zero i)) (Nat.le_refl _) (.inr (by omega)) (by decide) k (Nat.le_refl _)).2⟩
 have hnd:=nfr_le 0 m D D
 go_enter Tryz.func3,Tryz.ntmps3
 have hB:=Gr.refl w
 refine wp_seq_k (fun K10 k10=>?_)
 refine rg [0,1] ?_
 refine se ?_
 refine eb 24 #[(.int .u8 ((ca:Int))),va] 2 hB fun b11 w11 g11 L11 o11 q11 hB=>?_
 simp only [p3,p4]
 refine sv 4 (.bool false) ?_
 refine sq_nil ?_
 refine k10 _ _ ?_
 try clear k10 K10
 refine wp_seq_k (fun K12 k12=>?_)
 refine wp_seq_k (fun K13 k13=>?_)
 refine rg [0,1] ?_
 refine se ?_
 refine ec 16 (l5_known _ (hm.gr hB) (ht.gr hB)) ?_
 rintro e14 w14 ⟨rfl,g14⟩
 refine ⟨_,rfl,?_⟩
 replace hB:=hB.trans g14
 simp only [p3,p4]
 refine sv 17 (.bool false) ?_
 refine sq_nil ?_
 refine k13 _ _ ?_
 try clear k13 K13
 refine wp_cond_false rfl ?_
 refine wp_skip ?_
 refine k12 _ _ ?_
 try clear k12 K12
 refine wp_seq_k (fun K15 k15=>?_)
 refine rg [0,1,2] ?_
 replace L11:=L11.gr g14
 refine sw 18 (.agg #[(.int .u8 ((ca:Int))),va]) rfl (rl 24 0 [(.int .u8 ((ca:Int))),va] L11) ?_
 refine se ?_
 refine ec 19 (l5_rowsT (hta.gr hB)) ?_
 rintro e16 w16 ⟨⟨u16,rfl,hs16⟩,g16⟩
 refine ⟨_,rfl,?_⟩
 replace hB:=hB.trans g16
 simp only [p3,p4]
 refine sv 5 u16 ?_
 refine sq_nil ?_
 refine k15 _ _ ?_
 try clear k15 K15
 refine wp_seq_k (fun K17 k17=>?_)
 refine rg [0,1,2,3,4,5,6,7,8,9] ?_
 refine sv 21 u16 ?_
 refine se ?_
 refine ec 22 (l5_own (by omega) (by omega) (fun i _ k _=>(hta.z i k).mono (by omega) (by omega)) (hm.gr hB) hs16) ?_
 rintro e18 w18 ⟨⟨u18,rfl,hs18⟩,g18⟩
 refine ⟨_,rfl,?_⟩
 replace hB:=hB.trans g18
 simp only [p3,p4]
 refine se ?_
 refine ec 23 (mx_Reduce (K:=4899) (R:=0) (N:=0) (m:=m) hRN (by omega) (by omega) (by omega) (by omega) hta.bd (hs18.ratrows (by omega))) ?_
 rintro e19 w19 ⟨⟨u19,v19,rfl,hs19,hp19⟩,g19⟩
 refine ⟨_,rfl,?_⟩
 replace hB:=hB.trans g19
 simp only [p3,p4]
 refine sv 20 (.tuple #[u19,v19,(.int .i64 0)]) ?_
 refine sv 24 u19 ?_
 refine sv 25 v19 ?_
 refine sv 26 (.int .i64 0) ?_
 refine sv 6 u19 ?_
 refine sv 7 v19 ?_
 refine sv 8 (.int .i64 0) ?_
 refine sq_nil ?_
 refine k17 _ _ ?_
 try clear k17 K17
 refine wp_seq_k (fun K20 k20=>?_)
 refine rg [0,1,2,3,4,5,6,7] ?_
 refine sv 28 u16 ?_
 refine se ?_
 replace hs16:=hs16.gr (stab_rw stab_fr 84 2) (g18.trans g19)
 refine ec 29 (l5_own (by omega) (by omega) (fun i _ k _=>(hta.z i k).mono (by omega) (by omega)) (hm.gr hB) hs16) ?_
 rintro e21 w21 ⟨⟨u21,rfl,hs21⟩,g21⟩
 refine ⟨_,rfl,?_⟩
 replace hB:=hB.trans g21
 simp only [p3,p4]
 refine se ?_
 refine ec 30 (mx_Rank (K:=4899) (R:=0) (N:=0) (m:=m) hRN (by omega) (by omega) (by omega) (by omega) hta.bd ((hs21.ratrows (by omega)))) ?_
 rintro e22 w22 ⟨rfl,g22⟩
 refine ⟨_,rfl,?_⟩
 replace hB:=hB.trans g22
 simp only [p3,p4]
 refine sv 27 (.tuple #[(.int .i64 (((pl 0 m 0:Nat):Int))),(.int .i64 0)]) ?_
 refine sv 31 (.int .i64 (((pl 0 m 0:Nat):Int))) ?_
 refine sv 32 (.int .i64 0) ?_
 refine sv 9 (.int .i64 (((pl 0 m 0:Nat):Int))) ?_
 refine sv 10 (.int .i64 0) ?_
 refine sq_nil ?_
 refine k20 _ _ ?_
 try clear k20 K20
 refine wp_seq_k (fun K23 k23=>?_)
 refine rg [0,1,2,3,4,5,6] ?_
 refine sv 34 u16 ?_
 refine se ?_
 replace hs16:=hs16.gr (stab_rw stab_fr 84 2) (g21.trans g22)
 refine ec 35 (f5_reduceW (K:=4899) (R:=0) (D:=0) (m:=m) (by omega) (by omega) (by omega) hta.bf hs16) ?_
 rintro e24 w24 ⟨⟨u24,v24,rfl,hs24,hp24⟩,g24⟩
 refine ⟨_,rfl,?_⟩
 replace hB:=hB.trans g24
 simp only [p3,p4]
 refine sv 33 (.tuple #[u24,v24]) ?_
 refine sv 36 u24 ?_
 refine sv 37 v24 ?_
 refine sv 11 u24 ?_
 refine sv 12 v24 ?_
 refine sq_nil ?_
 refine k23 _ _ ?_
 try clear k23 K23
 refine wp_seq_k (fun K25 k25=>?_)
 refine wp_seq_k (fun K26 k26=>?_)
 refine rg [0,1,2,3,4,5,6,7,8,9,10,11,12,13,14,15,16,17,18,19,20,21,22,23,24] ?_
 refine sv 38 u19 ?_
 refine sv 39 u24 ?_
 refine se ?_
 replace hs19:=hs19.gr (stab_rw (stab_rat 4899) 71 4) (g21.trans (g22.trans g24))
 refine ec 40 (l5_is (L:=4899) (by omega) (by omega) (by omega) (by omega) (fun i hi k hk=>(hta.bd 0 (Nat.le_refl _)).1 i (by omega) k hk) (ht.gr hB) hs19 hs24) ?_
 rintro e27 w27 ⟨rfl,g27⟩
 refine ⟨_,rfl,?_⟩
 replace hB:=hB.trans g27
 simp only [p3,p4]
 refine sv 41 (.bool false) ?_
 refine sv 42 (.bool false) ?_
 refine sv 43 v19 ?_
 refine sw 44 (.int .i64 (((pl 0 m 0:Nat):Int))) rfl (rv_lenn (e:=3) hp19 (tb_lenz rfl) _ _ rfl rfl (by kernel_rfl)) ?_
 refine sv 45 v24 ?_
 refine sw 46 (.int .i64 (((pl 0 m 0:Nat):Int))) rfl (rv_lenn (e:=3) hp24 (tb_lenz rfl) _ _ rfl rfl (by kernel_rfl)) ?_
 have hb28:((((pl 0 m 0:Nat):Int) !=((pl 0 m 0:Nat):Int)))=false:=(by simp)
 refine sw 47 (.bool false) rfl (RunV.bool (x:=(((pl 0 m 0:Nat):Int) !=((pl 0 m 0:Nat):Int))) (rvk (by kernel_rfl)) hb28) ?_
 refine sv 48 (.bool false) ?_
 refine sv 49 (.bool false) ?_
 refine sv 50 (.int .i64 0) ?_
 refine sv 51 (.bool false) ?_
 refine sv 52 (.bool false) ?_
 refine sv 53 (.bool false) ?_
 refine sv 54 (.int .i64 (((pl 0 m 0:Nat):Int))) ?_
 refine sv 55 u24 ?_
 refine sw 56 (.int .i64 (((pl 0 m 0:Nat):Int))) rfl (rv_lenn (e:=51) hs24 (tb_lenz rfl) _ _ rfl rfl (by kernel_rfl)) ?_
 refine sw 57 (.bool false) rfl (RunV.bool (x:=(((pl 0 m 0:Nat):Int) !=((pl 0 m 0:Nat):Int))) (rvk (by kernel_rfl)) hb28) ?_
 refine sv 58 (.bool false) ?_
 refine sv 59 (.bool false) ?_
 refine sv 60 (.int .i64 0) ?_
 refine sv 61 (.bool false) ?_
 refine sv 62 (.bool false) ?_
 refine sq_nil ?_
 refine k26 _ _ ?_
 try clear k26 K26
 refine wp_cond_false rfl ?_
 refine wp_skip ?_
 refine k25 _ _ ?_
 try clear k25 K25
 refine wp_seq_k (fun K29 k29=>?_)
 refine wp_seq_k (fun K30 k30=>?_)
 have lehD:=Below.size hB
 have hD:=Gr.refl w27
 replace hs16:=hs16.gr (stab_rw stab_fr 84 2) (g24.trans g27)
 replace hs18:=hs18.gr (stab_rw (stab_rat 64) 71 4) (g19.trans (g21.trans (g22.trans (g24.trans g27))))
 replace hs19:=hs19.gr (stab_rw (stab_rat 4899) 71 4) g27
 replace hp19:=hp19.gr stab_i64 (g21.trans (g22.trans (g24.trans g27)))
 replace hs21:=hs21.gr (stab_rw (stab_rat 64) 71 4) (g22.trans (g24.trans g27))
 replace hs24:=hs24.gr (stab_rw stab_fr 84 2) g27
 replace hp24:=hp24.gr stab_i64 g27
 refine rg [0] ?_
 refine sv 13 (.int .i64 0) ?_
 refine sq_nil ?_
 refine k30 _ _ ?_
 try clear k30 K30
 refine wp_block ?_
 refine wp_loop_inv (a:=⟨List.toArray ?l31,[]⟩) (fun n a w'=>∃ (i:Nat) (u31:Nat→Value),(pl 0 m 0) - i=n∧a=⟨[(.agg #[(.int .u8 ((ca:Int))),va]),(.int .i64 ((D:Int))),(.pointer (some ⟨b11,0,none⟩)),undef,(u31 4),u16,u19,v19,(.int .i64 0),(.int .i64 (((pl 0 m 0:Nat):Int))),(.int .i64 0),u24,v24,(.int .i64 ((i:Int))),undef,undef,(u31 16),(.bool false),(u31 18),(u31 19),(u31 20),(u31 21),(u31 22),(u31 23),(u31 24),(u31 25),(u31 26),(u31 27),(u31 28),(u31 29),(u31 30),(u31 31),(u31 32),(u31 33),(u31 34),(u31 35),(u31 36),(u31 37),(u31 38),(u31 39),(u31 40),(u31 41),(u31 42),(u31 43),(u31 44),(u31 45),(u31 46),(u31 47),(u31 48),(u31 49),(u31 50),(u31 51),(u31 52),(u31 53),(u31 54),(u31 55),(u31 56),(u31 57),(u31 58),(u31 59),(u31 60),(u31 61),(.bool false),(u31 63),(u31 64),(u31 65),(u31 66),(u31 67),(u31 68),(u31 69),(u31 70),(u31 71),(u31 72),(u31 73),(u31 74),(u31 75),(u31 76),(u31 77),undef,undef,undef,undef,undef,undef,undef,undef,undef,undef,undef,undef,undef,undef,undef,undef,undef,undef,undef,undef,undef,undef,undef,undef,undef,undef,undef,undef,undef,undef,undef,undef,undef,undef,undef,undef,undef,undef,undef,undef,undef,undef,undef,undef,undef,undef,undef,undef,undef,undef,undef,undef,undef,undef,undef,undef,undef,undef,undef,undef,undef,undef,undef,undef,undef,undef].toArray,[]⟩∧i≤(pl 0 m 0)∧Gr w27 w'∧Gr w w') ((pl 0 m 0) - 0) ?_ ?_
 ·exact ⟨0,(fun i=>List.getD ?l31 i undef),rfl,rfl,(Nat.zero_le _),hD,hB⟩
 rintro n31 a31 w31 ⟨i,u31,rfl,rfl,hki,hD,hB⟩ K31 k31
 refine wp_seq_k (fun K32 k32=>?_)
 refine wp_seq_k (fun K33 k33=>?_)
 refine rg [0,1,2,3] ?_
 refine sv 63 (.int .i64 ((i:Int))) ?_
 refine sv 64 v19 ?_
 refine sw 65 (.int .i64 (((pl 0 m 0:Nat):Int))) rfl (rv_lenn (e:=3) hp19 (tb_lenz rfl) _ _ rfl rfl (by kernel_rfl)) ?_
 refine sv 66 (.bool (decide ((i:Int)<((pl 0 m 0:Nat):Int)))) ?_
 refine sq_nil ?_
 refine k33 _ _ ?_
 try clear k33 K33
 refine wp_cond_split (t:=decide ((i:Int)<((pl 0 m 0:Nat):Int))) rfl (fun hb34=>?_) (fun hb34=>?_)
 ·have hli:i<(pl 0 m 0):=by have:=of_decide_eq_true hb34;omega
  refine wp_skip ?_
  refine k32 _ _ ?_
  try clear k32 K32
  refine wp_seq_k (fun K35 k35=>?_)
  refine wp_block ?_
  refine wp_seq_k (fun K36 k36=>?_)
  obtain ⟨_,_,rfl,at39⟩:=Sl.get hp19 (by decide) (tb_get (f:=(fun z1=>((pv (rs 0 m 0) z1:Nat):Int))) (n:=(pl 0 m 0)) (i:=i) (by omega))
  obtain ⟨_,_,rfl,at40⟩:=Sl.get hp24 (by decide) (tb_get (f:=(fun z1=>((pv (rs 0 m 0) z1:Nat):Int))) (n:=(pl 0 m 0)) (i:=i) (by omega))
  have gd41:=Gr.drew w31
  replace hB:=hB.trans gd41
  replace hD:=hD.trans gd41
  refine wp_region_ord (fun w'=>AtV w' v19 (i*1) [(.int .i64 (((pv (rs 0 m 0) i:Nat):Int)))]∧AtV w' v24 (i*1) [(.int .i64 (((pv (rs 0 m 0) i:Nat):Int)))]) [(true,0),(true,1),(true,2),(true,3),(true,4),(true,5),(true,6),(true,7),(true,8)] (by kernel_rfl) (by kernel_rfl) (by kernel_rfl) (by decide) (fun _ _ _ _ _ h=>h) ⟨(at39.gr hD),(at40.gr hD)⟩ ?_
  refine ov 69 v19 ?_
  refine ov 70 (.int .i64 ((i:Int))) ?_
  refine ow 71 (adr v19 (i*1)) rfl (fun w' hS=>(rv_idxn (e:=3) hp19 tb_len (by decide) i (by omega) _ _ _ rfl rfl rfl (by kernel_rfl) (by kernel_rfl))) ?_
  refine ow 72 (.int .i64 (((pv (rs 0 m 0) i:Nat):Int))) rfl (fun w' hS=>(rv_ld1 (.int .i64 (((pv (rs 0 m 0) i:Nat):Int))) hS.1 _ _ rfl rfl (by kernel_rfl))) ?_
  refine ov 73 v24 ?_
  refine ov 74 (.int .i64 ((i:Int))) ?_
  refine ow 75 (adr v24 (i*1)) rfl (fun w' hS=>(rv_idxn (e:=3) hp24 tb_len (by decide) i (by omega) _ _ _ rfl rfl rfl (by kernel_rfl) (by kernel_rfl))) ?_
  refine ow 76 (.int .i64 (((pv (rs 0 m 0) i:Nat):Int))) rfl (fun w' hS=>(rv_ld1 (.int .i64 (((pv (rs 0 m 0) i:Nat):Int))) hS.2 _ _ rfl rfl (by kernel_rfl))) ?_
  have hb42:((((pv (rs 0 m 0) i:Nat):Int) !=((pv (rs 0 m 0) i:Nat):Int)))=false:=(by simp)
  refine ow 77 (.bool false) rfl (fun w' hS=>(RunV.bool (x:=(((pv (rs 0 m 0) i:Nat):Int) !=((pv (rs 0 m 0) i:Nat):Int))) (rvk (by kernel_rfl)) hb42)) ?_
  refine ord_nil ?_
  refine k36 _ _ ?_
  try clear k36 K36
  refine wp_cond_false rfl ?_
  refine wp_skip ?_
  refine k35 _ _ ?_
  try clear k35 K35
  refine rg [0,1,2] ?_
  refine sv 67 (.int .i64 ((i:Int))) ?_
  refine sw 68 (.int .i64 (((i:Int)+1))) rfl (RunV.int (x:=IntKind.i64.wrap (((i:Int)+1))) (y:=((i:Int)+1)) (rvk (by kernel_rfl)) (by first | rfl | (rw [IntKind.wrap_i64];omega))) ?_
  refine sv 13 (.int .i64 (((i:Int)+1))) ?_
  refine sq_nil ?_
  refine k31 ((pl 0 m 0) - (i+1)) ⟨List.toArray ?l43,[]⟩ _ (by omega) ?_
  exact ⟨i+1,(fun i=>List.getD ?l43 i undef),rfl,rfl,(by omega),hD,hB⟩
 ·have hei:(pl 0 m 0)=i:=by have:=of_decide_eq_false hb34;omega
  subst hei
  refine wp_exit ?_
  simp only [Exit.then,Exit.inBlock,↓reduceIte]
  refine k29 _ _ ?_
  try clear k29 K29
  refine wp_seq_k (fun K44 k44=>?_)
  refine rg [0,1,2,3,4,5,6,7,8,9] ?_
  refine sv 79 u16 ?_
  refine se ?_
  refine ec 80 (l5_own (by omega) (by omega) (fun i _ k _=>(hta.z i k).mono (by omega) (by omega)) (hm.gr hB) (hs16.gr (stab_rw stab_fr 84 2) hD)) ?_
  rintro e45 w45 ⟨⟨u45,rfl,hs45⟩,g45⟩
  refine ⟨_,rfl,?_⟩
  replace hB:=hB.trans g45
  replace hD:=hD.trans g45
  simp only [p3,p4]
  refine sv 81 u16 ?_
  refine se ?_
  refine ec 82 (f5_columns hRN (hs16.gr (stab_rw stab_fr 84 2) hD)) ?_
  rintro e46 w46 ⟨rfl,g46⟩
  refine ⟨_,rfl,?_⟩
  replace hB:=hB.trans g46
  replace hD:=hD.trans g46
  simp only [p3,p4]
  refine se ?_
  replace hs45:=hs45.gr (stab_rw (stab_rat 64) 71 4) g46
  refine ec 83 (mx_Kernel (K:=4899) (R:=0) (D:=0) (m:=m) (by omega) (by omega) (by omega) (by omega) hta.bd ((hs45.ratrows (by omega)))) ?_
  rintro e47 w47 ⟨⟨u47,rfl,hs47⟩,g47⟩
  refine ⟨_,rfl,?_⟩
  replace hB:=hB.trans g47
  replace hD:=hD.trans g47
  simp only [p3,p4]
  refine sv 78 (.tuple #[u47,(.int .i64 0)]) ?_
  refine sv 84 u47 ?_
  refine sv 85 (.int .i64 0) ?_
  refine sv 14 u47 ?_
  refine sv 15 (.int .i64 0) ?_
  refine sq_nil ?_
  refine k44 _ _ ?_
  try clear k44 K44
  refine wp_seq_k (fun K48 k48=>?_)
  refine wp_seq_k (fun K49 k49=>?_)
  refine rg [0,1,2,3,4,5,6,7,8,9,10] ?_
  refine sv 86 u47 ?_
  refine sv 87 u16 ?_
  refine sv 88 u16 ?_
  refine se ?_
  refine ec 89 (f5_columns hRN (hs16.gr (stab_rw stab_fr 84 2) hD)) ?_
  rintro e50 w50 ⟨rfl,g50⟩
  refine ⟨_,rfl,?_⟩
  replace hB:=hB.trans g50
  replace hD:=hD.trans g50
  simp only [p3,p4]
  refine se ?_
  refine ec 90 (f5_kernel (K:=4899) (L:=4899) (R:=0) (D:=0) (m:=m) (by omega) (by omega) (by omega) hta.bf (fun a ha b hb=>(hta.bd 0 (Nat.le_refl _)).1 a ha b hb) (by omega) (hs16.gr (stab_rw stab_fr 84 2) hD)) ?_
  rintro e51 w51 ⟨⟨u51,rfl,hs51⟩,g51⟩
  refine ⟨_,rfl,?_⟩
  replace hB:=hB.trans g51
  replace hD:=hD.trans g51
  simp only [p3,p4]
  refine se ?_
  replace hs47:=hs47.gr (stab_rw (stab_rat 4899) 71 4) (g50.trans g51)
  refine ec 91 (l5_is (L:=4899) (by omega) (by omega) (by omega) (by omega) (fun i hi k hk=>kv_z (by decide) (frc_in hi).1 (hta.bd 0 (Nat.le_refl _)).1) (ht.gr hB) hs47 hs51) ?_
  rintro e52 w52 ⟨rfl,g52⟩
  refine ⟨_,rfl,?_⟩
  replace hB:=hB.trans g52
  replace hD:=hD.trans g52
  simp only [p3,p4]
  refine sv 92 (.bool false) ?_
  refine sv 93 (.bool false) ?_
  refine sv 94 (.int .i64 0) ?_
  refine sv 95 (.bool false) ?_
  refine sv 96 (.bool false) ?_
  refine sq_nil ?_
  refine k49 _ _ ?_
  try clear k49 K49
  refine wp_cond_false rfl ?_
  refine wp_skip ?_
  refine k48 _ _ ?_
  try clear k48 K48
  refine wp_seq_k (fun K53 k53=>?_)
  refine rg [0,1,2,3,4,5,6,7,8] ?_
  refine sv 98 u16 ?_
  refine se ?_
  refine ec 99 (l5_own (by omega) (by omega) (fun i _ k _=>(hta.z i k).mono (by omega) (by omega)) (hm.gr hB) (hs16.gr (stab_rw stab_fr 84 2) hD)) ?_
  rintro e54 w54 ⟨⟨u54,rfl,hs54⟩,g54⟩
  refine ⟨_,rfl,?_⟩
  replace hB:=hB.trans g54
  replace hD:=hD.trans g54
  simp only [p3,p4]
  refine sv 100 (.int .i64 ((D:Int))) ?_
  refine se ?_
  refine ec 101 (mx_Kernel (K:=4899) (R:=0) (D:=D) (m:=m) (by omega) (by omega) (by omega) (by omega) hz0 ((hs54.ratrows (by omega)).cast (show _=tb (fun z0=>tb (fun z1=>m z0 z1) D) 0 from rfl))) ?_
  rintro e55 w55 ⟨⟨u55,rfl,hs55⟩,g55⟩
  refine ⟨_,rfl,?_⟩
  replace hB:=hB.trans g55
  replace hD:=hD.trans g55
  simp only [p3,p4]
  refine sv 97 (.tuple #[u55,(.int .i64 0)]) ?_
  refine sv 102 u55 ?_
  refine sv 103 (.int .i64 0) ?_
  refine sv 14 u55 ?_
  refine sv 15 (.int .i64 0) ?_
  refine sq_nil ?_
  refine k53 _ _ ?_
  try clear k53 K53
  refine wp_seq_k (fun K56 k56=>?_)
  refine wp_block ?_
  refine wp_seq_k (fun K57 k57=>?_)
  refine rg [0,1,2,3,4,5,6,7,8,9] ?_
  refine sv 105 u16 ?_
  refine sw 106 (.int .i64 0) rfl (rv_lenn (e:=51) hs16 (tb_lenz rfl) _ _ rfl rfl (by kernel_rfl)) ?_
  refine sv 107 (.bool false) ?_
  refine swk 108 (.bool false) [(4,109),(5,110),(6,111),(7,112)] rfl (rvk (by kernel_rfl)) ?_
  refine sv 113 (.bool false) ?_
  refine sv 104 (.bool false) ?_
  refine sq_nil ?_
  refine k57 _ _ ?_
  try clear k57 K57
  refine wp_cond_false rfl ?_
  refine wp_seq_k (fun K58 k58=>?_)
  refine rg [0,1,2,3,4,5,6] ?_
  refine sv 122 (.int .i64 ((D:Int))) ?_
  have hb59:(decide ((D:Int)<(0:Int)))=false:=(by simp only [decide_eq_false_iff_not];omega)
  refine sw 123 (.bool false) rfl (RunV.bool (x:=decide ((D:Int)<(0:Int))) (rvk (by kernel_rfl)) hb59) ?_
  refine sv 124 (.bool false) ?_
  refine sv 125 (.int .i64 ((D:Int))) ?_
  have hb60:(decide ((96:Int)<(D:Int)))=false:=(by simp only [decide_eq_false_iff_not];omega)
  refine sw 126 (.bool false) rfl (RunV.bool (x:=decide ((96:Int)<(D:Int))) (rvk (by kernel_rfl)) hb60) ?_
  refine sv 127 (.bool false) ?_
  refine sv 121 (.bool false) ?_
  refine sq_nil ?_
  refine k58 _ _ ?_
  try clear k58 K58
  refine wp_cond_false rfl ?_
  refine wp_skip ?_
  refine k56 _ _ ?_
  try clear k56 K56
  refine wp_seq_k (fun K61 k61=>?_)
  refine rg [0,1,2,3,4,5,6,7,8,9] ?_
  refine sv 135 u55 ?_
  refine sv 136 u16 ?_
  refine sv 137 (.int .i64 ((D:Int))) ?_
  refine se ?_
  refine ec 138 (f5_kernel (K:=4899) (L:=4899) (R:=0) (D:=D) (m:=m) (by omega) (by omega) (by omega) (fun k i _ h=>absurd h.lt.2 (Nat.not_lt_zero i)) (fun a ha=>absurd ha (Nat.not_lt_zero a)) (by omega) ((hs16.gr (stab_rw stab_fr 84 2) hD).cast (show _=tb (fun z0=>tb (fun z1=>m z0 z1) D) 0 from rfl))) ?_
  rintro e62 w62 ⟨⟨u62,rfl,hs62⟩,g62⟩
  refine ⟨_,rfl,?_⟩
  replace hB:=hB.trans g62
  replace hD:=hD.trans g62
  simp only [p3,p4]
  refine se ?_
  replace hs55:=hs55.gr (stab_rw (stab_rat 4899) 71 4) g62
  refine ec 139 (l5_is (L:=4899) (by omega) (by omega) (by omega) (by omega) (fun i hi k hk=>kv_z (by decide) (frc_in hi).1 (hz0 D (Nat.le_refl _)).1) (ht.gr hB) hs55 hs62) ?_
  rintro e63 w63 ⟨rfl,g63⟩
  refine ⟨_,rfl,?_⟩
  replace hB:=hB.trans g63
  replace hD:=hD.trans g63
  simp only [p3,p4]
  refine sv 140 (.bool true) ?_
  refine sv 141 (.int .i64 0) ?_
  refine sv 142 (.bool true) ?_
  refine sv 143 (.bool true) ?_
  refine sv 4 (.bool true) ?_
  refine sq_nil ?_
  refine k61 _ _ ?_
  try clear k61 K61
  refine wp_ret ?_
  refine bodyPost_ret (v:=(.bool true)) (ret_tmp rfl rfl) rfl ⟨?_,hB⟩
  exact rfl

theorem matrix_reduces {R N:Nat} {xa:Value} {m:Mx_} {w:World} (hta:TA w xa R N m) (z:Int) (W:World) (hW:W=w) (ht:Tab W) (hm:Mx W):Calls Tryz.prog 3 #[xa,.int .i64 z] W fun e w'=>e=.returned (.bool true)∧Gr W w':=by
  subst hW
  obtain ⟨_,_,ca,va,_,_,rfl,_⟩:=id hta
  rcases Nat.eq_zero_or_pos R with rfl | hR0
  · obtain rfl:=hta.R0 rfl
    by_cases h1:z<0
    · exact mr_l h1 hm ht hta
    · by_cases h2:96<z
      · exact mr_g h2 hm ht hta
      · obtain ⟨D,rfl⟩:∃ D:Nat,z=(D:Int):=⟨z.toNat,by omega⟩
        exact mr_0 (by omega) hm ht hta
  · by_cases hz:(N:Int)=z
    · subst hz;exact mr_y hR0 hm ht hta
    · exact mr_s hR0 hz hm ht hta
end Go.Proofs.YtepgkcimmdmgcaaGreatDoor
namespace Go.Proofs.YtepgkcimmdmgcaaGreatDoor
open Go.ChangeShapes Go.WideShapes Go.ChangeAt Go.RowKit

theorem matrixReduces_table {W : World} (h : laidMetH Tryz.prog Rows.matrixReducesRow.laid W) : Tab W :=
  Lib.tabIs_of_head (rest := _) (g := 1) (t := 236) (e := 152) (n := 20) (by kernel_rfl) (by kernel_rfl) (by kernel_rfl) (by kernel_rfl) (by kernel_rfl) (by kernel_rfl) ((show laidMet Tryz.prog Rows.matrixReducesRow.laid W from (MakeChecks.laidMetH_plain _ _ _ (by kernel_rfl)) ▸ h).tail.tail)
theorem matrixReduces_maxlen {W : World} (h : W.ShapedOpen Tryz.prog) : Mx W :=
  Go.Proofs.cell_of_shapedOpen_int (zero := #[.int .i64 0]) (g := 0) (t := 3) h (of_decide_eq_true (by kernel_rfl)) (by kernel_rfl) rfl (by kernel_rfl) (by kernel_rfl) Tryz.underlying3
set_option maxRecDepth 100000 in
theorem matrixReduces_contract (H : Type) (enc : TypeId × Value → H) (W : World) (base : Nat) (args : Array Value) (ds gs : List (DataW H)) (before : List MemPlace)
    (hval : ∀ (j : Nat) t v, Tryz.f3.params[j]? = some t → args[j]? = some v → Value.okWide Tryz.prog W .any base t v)
    (hW : DataW.Whole enc Tryz.prog Tryz.f3.params.toList Rows.matrixReducesSpec.vars false W args.toList ds gs before) (hL : laidMetH Tryz.prog Rows.matrixReducesRow.laid W) (hsh : W.ShapedOpen Tryz.prog) :
    Calls Tryz.prog 3 args W fun e W' => ∃ v, e = .returned v ∧ Rows.matrixReducesSpec.post enc Tryz.prog Tryz.f3 false true false false W args v W' := by
  have hW' := hW
  obtain ⟨p, q, hA0, hV, rfl, hfz, hnd⟩ := hW
  have hA : DataW.TrodAll enc Tryz.prog W 0 (fun _ => true) true Tryz.f3.params.toList args.toList ds p := hA0
  rw [Tryz.params3] at hA hval
  obtain ⟨v0, vs0, d0, ds0, p0, q0, hargs, rfl, rfl, h0, r0⟩ := trodAll_cons hA
  obtain ⟨v1, vs1, d1, ds1, p1, q1, rfl, rfl, rfl, h1, r1⟩ := trodAll_cons r0
  obtain ⟨rfl, rfl, rfl⟩ := trodAll_nil r1
  obtain rfl : args = #[v0, v1] := by cases args; simp_all
  obtain ⟨rfl, rfl⟩ := trodVars_none hV
  obtain ⟨z0, u0, T0, Xs0, rfl, bz0, sl0⟩ := open_tabk (E := ESl (EK [.i8, .u8]) 2) (k := .u8) (e := 45) (c := 1) (by kernel_rfl) (by kernel_rfl) (by decide) (fun _ _ _ _ hx => trod_esl (e := 114) (by kernel_rfl) (by kernel_rfl) (by decide) (trod_ek 5 (ks := [.i8, .u8]) (by kernel_rfl)) hx) (hval 0 24 v0 rfl rfl) h0
  obtain ⟨R0, N0, m0, ta0⟩ := ta_of sl0 (has_u8 bz0)
  obtain ⟨n1_0, rfl, b1_0⟩ := open_cell (k := .i64) (by kernel_rfl) (hval 1 3 v1 rfl rfl)
  refine ((fun _ => matrix_reduces ta0 n1_0 _ rfl)  W (matrixReduces_table hL) (matrixReduces_maxlen hsh)).mono fun e W' ⟨he, hg⟩ => ?_
  subst he
  exact ⟨_, rfl, law_post (tb := 4) laidOut (by kernel_rfl) (by kernel_rfl) (by kernel_rfl) rfl hW' rfl hg⟩
noncomputable def matrixReduces_world (os : Os) : World := World.laidAll Tryz.prog os Rows.matrixReducesRow.laid
theorem matrixReduces_met (os : Os) : laidMet Tryz.prog Rows.matrixReducesRow.laid ((matrixReduces_world os).forCall (fun _ _ => 0) ⟨#[], #[.agg #[.int .u8 0, .slice none 0 0], .int .i64 0], []⟩).memory :=
  laidMet_laidAll _ (by kernel_rfl) (by kernel_rfl)
theorem matrixReduces_reads (os : Os) {H : Type} (enc : TypeId × Value → H) : ∃ places, DataW.whole enc Tryz.prog ((matrixReduces_world os).forCall (fun _ _ => 0) ⟨#[], #[.agg #[.int .u8 0, .slice none 0 0], .int .i64 0], []⟩).memory Tryz.f3.params.toList Rows.matrixReducesSpec.vars false (#[.agg #[.int .u8 0, .slice none 0 0], .int .i64 0] : Array Value).toList 8 = some ([.agg [.lit (.int .u8 0), .nil], .lit (.int .i64 0)], [], places) :=
  ⟨[], by kernel_rfl⟩
set_option maxRecDepth 100000 in
theorem matrixReduces_lifted (os : Os) (started : os.Started) (H : Type) (enc : TypeId × Value → H) (F : Stop.Interp) :
    ReturnsInHanded {} Tryz.checked os 3 .any ((OpenSpec.ofChange Rows.matrixReducesSpec).preRow enc Tryz.prog Tryz.f3 Rows.matrixReducesRow.domain false Rows.matrixReducesRow.laid) (((OpenSpec.ofChange Rows.matrixReducesSpec).at F).post enc Tryz.prog Tryz.f3 false true false false) := by
  obtain ⟨places, hx⟩ := matrixReduces_reads os enc
  refine returnsInHanded_of_row (C := Tryz.checked) (s := OpenSpec.ofChange Rows.matrixReducesSpec) own started (by kernel_rfl) Tryz.func3
    (witness_row_sh (enc := enc) (C := Tryz.checked) false (matrixReduces_world os) #[.agg #[.int .u8 0, .slice none 0 0], .int .i64 0] (World.laidAll_os _ _ _) (World.shaped_of_ZipB (by kernel_rfl) (by kernel_rfl)) (by kernel_rfl)
      (OpenSpec.preRow_of_cond 8 hx (by kernel_rfl) (fun k hk => by cases hk) (by kernel_rfl) (by rw [MakeChecks.laidMetH_plain _ _ _ (by kernel_rfl)]; exact matrixReduces_met os))) ?_
  intro W base args ds gs before hval hW _ _ _ hL hsh _
  exact matrixReduces_contract H enc W base args ds gs before hval hW hL hsh
theorem matrixReduces_said : Rows.MatrixReducesSaid :=
  OpenClaim.holds_of_cond 3 Tryz.f3 rfl rfl rfl rfl rfl rfl rfl ⟨rfl, rfl, rfl, rfl, rfl⟩ rfl rfl rfl rfl rfl (by kernel_rfl) Tryz.func3 (by kernel_rfl)
    (of_decide_eq_true (by kernel_rfl)) (by unfold Func.isWrapper; first | (rw [if_pos (by decide +kernel)]; kernel_rfl) | (rw [if_neg (by decide +kernel)]; exact ⟨rfl, rfl⟩))
    (fun os started H enc _ F => by rw [OpenClaim.pre_eq_preRow]; exact matrixReduces_lifted os started H enc F)
theorem matrixReduces_plain (f : FuncId) (fn : Func) (hf : Tryz.pinned.checked.prog.funcNamed "dowel/dowellaw05.MatrixReduces" = some f) (hfn : Tryz.pinned.checked.prog.funcs[f]? = some fn) :
    true = Tryz.pinned.checked.prog.looks [] ∧ ∀ (j : Nat) t, fn.params[j]? = some t → Tryz.pinned.checked.prog.wantsStandIn t = false := by
  obtain rfl : f = 3 := Option.some.inj ((show Tryz.prog.funcNamed "dowel/dowellaw05.MatrixReduces" = some 3 by kernel_rfl).symm.trans hf) |>.symm
  obtain rfl : fn = Tryz.f3 := (Option.some.inj (Tryz.func3.symm.trans hfn)).symm
  refine ⟨by kernel_rfl, fun j t ht => ?_⟩
  rw [Tryz.params3] at ht
  have hm := Array.mem_of_getElem? ht
  have hall : (#[24, 3] : Array TypeId).toList.all (fun t => !Tryz.prog.wantsStandIn t) = true := by kernel_rfl
  have := List.all_eq_true.1 hall t (Array.mem_toList_iff.2 hm)
  have h3 : Tryz.prog.wantsStandIn t = false := by simpa using this
  exact h3
/-- the card -/
theorem matrixReduces_card : Rows.MatrixReducesCardSaid :=
  Claim7.holds_tied_plain_at .later [] _ _ _ _ matrixReduces_said (fun _ h => by cases h) (by kernel_rfl) (fun _ h => by cases h) matrixReduces_row_tie rfl ⟨rfl, rfl⟩ (by kernel_rfl) rfl matrixReduces_plain (by kernel_rfl)
end Go.Proofs.YtepgkcimmdmgcaaGreatDoor
