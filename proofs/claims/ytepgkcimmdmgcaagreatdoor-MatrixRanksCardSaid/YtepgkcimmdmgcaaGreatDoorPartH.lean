/- Joined of: Gen188, RowMatrixRanks. -/
import Derived.Test.YtepgkcimmdmgcaaGreatDoorPartG
import Derived.Test.YtepgkcimmdmgcaaGreatDoorCards
import Derived.Test.YtepgkcimmdmgcaaGreatDoorTie
import Derived.Test.YtepgkcimmdmgcaaGreatDoorPartA
import Derived.Test.YtepgkcimmdmgcaaGreatDoorPartB
namespace Go.Proofs.YtepgkcimmdmgcaaGreatDoor
open Go.RowKit

set_option maxRecDepth 100000 in
set_option maxHeartbeats 1000000 in
theorem mk_0 {R ca:Nat} {va:Value} {m:Mx_} (hp0:pl R m 0=0) {w:World} (hm:Mx w) (ht:Tab w) (hta:TA w (.agg #[.int .u8 (ca:Int),va]) R 0 m):
    Calls Tryz.prog 6 #[(.agg #[(.int .u8 ((ca:Int))),va])] w fun e w'=>e=.returned (.bool true)∧Gr w w':=by
 have hR5:=hta.R5
 have hN6:=hta.N6
 have hRN:=hta.R0
 have hpl:=rs_len R m 0
 have hpn:=rs_ple R m 0
 have hnl:nfr R m 0 0+pl R m 0=0:=nfr_len R 0 m
 have hp1:=rs_ple 0 (fun i k=>m k i) 0
 have hzt:∀ k,k≤0→RdZ 0 0 4899 (rs 0 (fun i k=>m k i) k):=rs_sm (fun i hi=>absurd hi (Nat.not_lt_zero i)) (.inr (by omega)) (Nat.le_refl _)
 have hzr:∀ k,k≤0→RdZ 0 0 4899 (rs 0 (fun i k=>(rs R m 0).m i k) k):=rs_sm (fun i hi=>absurd hi (Nat.not_lt_zero i)) (.inr (by omega)) (Nat.le_refl _)
 go_enter Tryz.func6,Tryz.ntmps6
 have hB:=Gr.refl w
 refine wp_seq_k (fun K10 k10=>?_)
 refine rg [0,1] ?_
 refine se ?_
 refine eb 24 #[(.int .u8 ((ca:Int))),va] 1 hB fun b11 w11 g11 L11 o11 q11 hB=>?_
 simp only [p3,p4]
 refine sv 2 (.bool false) ?_
 refine sq_nil ?_
 refine k10 _ _ ?_
 try clear k10 K10
 refine wp_seq_k (fun K12 k12=>?_)
 refine wp_seq_k (fun K13 k13=>?_)
 refine rg [0,1] ?_
 refine se ?_
 refine ec 23 (l5_known _ (hm.gr hB) (ht.gr hB)) ?_
 rintro e14 w14 ⟨rfl,g14⟩
 refine ⟨_,rfl,?_⟩
 replace hB:=hB.trans g14
 simp only [p3,p4]
 refine sv 24 (.bool false) ?_
 refine sq_nil ?_
 refine k13 _ _ ?_
 try clear k13 K13
 refine wp_cond_false rfl ?_
 refine wp_skip ?_
 refine k12 _ _ ?_
 try clear k12 K12
 refine wp_seq_k (fun K15 k15=>?_)
 refine rg [0,1,2,3] ?_
 replace L11:=L11.gr g14
 refine sw 25 (.agg #[(.int .u8 ((ca:Int))),va]) rfl (rl 24 0 [(.int .u8 ((ca:Int))),va] L11) ?_
 refine se ?_
 refine ec 26 (l5_rowsT (hta.gr hB)) ?_
 rintro e16 w16 ⟨⟨u16,rfl,hs16⟩,g16⟩
 refine ⟨_,rfl,?_⟩
 replace hB:=hB.trans g16
 simp only [p3,p4]
 refine se ?_
 refine ec 27 (l5_own (by omega) (by omega) (fun i _ k _=>(hta.z i k).mono (by omega) (by omega)) (hm.gr hB) hs16) ?_
 rintro e17 w17 ⟨⟨u17,rfl,hs17⟩,g17⟩
 refine ⟨_,rfl,?_⟩
 replace hB:=hB.trans g17
 simp only [p3,p4]
 refine sv 3 u17 ?_
 refine sq_nil ?_
 refine k15 _ _ ?_
 try clear k15 K15
 refine wp_seq_k (fun K18 k18=>?_)
 refine rg [0,1,2,3,4,5,6] ?_
 refine sv 29 u17 ?_
 refine se ?_
 refine ec 30 (mx_Transpose (K:=64) (m:=m) hRN (by omega) (by omega) (by omega) hs17) ?_
 rintro e19 w19 ⟨⟨u19,rfl,hs19⟩,g19⟩
 refine ⟨_,rfl,?_⟩
 replace hB:=hB.trans g19
 simp only [p3,p4]
 refine sv 28 (.tuple #[u19,(.int .i64 0)]) ?_
 refine sv 31 u19 ?_
 refine sv 32 (.int .i64 0) ?_
 refine sv 4 u19 ?_
 refine sv 5 (.int .i64 0) ?_
 refine sq_nil ?_
 refine k18 _ _ ?_
 try clear k18 K18
 refine wp_seq_k (fun K20 k20=>?_)
 refine rg [0,1,2,3,4,5,6] ?_
 refine sv 34 u17 ?_
 refine se ?_
 replace hs17:=hs17.gr (stab_rw (stab_rat 64) 71 4) g19
 refine ec 35 (mx_Rank (K:=4899) (R:=R) (N:=0) (m:=m) hRN (by omega) (by omega) (by omega) (by omega) hta.bd ((hs17.ratrows (by omega)))) ?_
 rintro e21 w21 ⟨rfl,g21⟩
 refine ⟨_,rfl,?_⟩
 replace hB:=hB.trans g21
 simp only [p3,p4]
 refine sv 33 (.tuple #[(.int .i64 (((pl R m 0:Nat):Int))),(.int .i64 0)]) ?_
 refine sv 36 (.int .i64 (((pl R m 0:Nat):Int))) ?_
 refine sv 37 (.int .i64 0) ?_
 refine sv 6 (.int .i64 (((pl R m 0:Nat):Int))) ?_
 refine sv 7 (.int .i64 0) ?_
 refine sq_nil ?_
 refine k20 _ _ ?_
 try clear k20 K20
 refine wp_seq_k (fun K22 k22=>?_)
 refine rg [0,1,2,3,4,5,6] ?_
 refine sv 39 u19 ?_
 refine se ?_
 replace hs19:=hs19.gr (stab_rw (stab_rat 64) 71 4) g21
 refine ec 40 (mx_Rank (K:=4899) (R:=0) (N:=0) (m:=(fun i k=>m k i)) (fun h=>h) (by omega) (by omega) (by omega) (by omega) hzt ((hs19.ratrows (by omega)).cast (show _=tb (fun z0=>tb (fun z1=>m z1 z0) 0) 0 from rfl))) ?_
 rintro e23 w23 ⟨rfl,g23⟩
 refine ⟨_,rfl,?_⟩
 replace hB:=hB.trans g23
 simp only [p3,p4]
 refine sv 38 (.tuple #[(.int .i64 (((pl 0 (fun i k=>m k i) 0:Nat):Int))),(.int .i64 0)]) ?_
 refine sv 41 (.int .i64 (((pl 0 (fun i k=>m k i) 0:Nat):Int))) ?_
 refine sv 42 (.int .i64 0) ?_
 refine sv 8 (.int .i64 (((pl 0 (fun i k=>m k i) 0:Nat):Int))) ?_
 refine sv 9 (.int .i64 0) ?_
 refine sq_nil ?_
 refine k22 _ _ ?_
 try clear k22 K22
 refine wp_seq_k (fun K24 k24=>?_)
 refine wp_seq_k (fun K25 k25=>?_)
 refine rg [0,1,2,3,4,5,6,7,8,9,10,11,12,13,14] ?_
 refine sv 43 (.int .i64 0) ?_
 refine sv 44 (.bool false) ?_
 refine sv 45 (.bool false) ?_
 refine sv 46 (.int .i64 0) ?_
 refine sv 47 (.bool false) ?_
 refine sv 48 (.bool false) ?_
 refine sv 49 (.bool false) ?_
 refine sv 50 (.int .i64 0) ?_
 refine sv 51 (.bool false) ?_
 refine sv 52 (.bool false) ?_
 refine sv 53 (.bool false) ?_
 refine sv 54 (.int .i64 (((pl R m 0:Nat):Int))) ?_
 refine sv 55 (.int .i64 (((pl 0 (fun i k=>m k i) 0:Nat):Int))) ?_
 have hb26:((((pl R m 0:Nat):Int) !=((pl 0 (fun i k=>m k i) 0:Nat):Int)))=false:=(by simp;omega)
 refine sw 56 (.bool false) rfl (RunV.bool (x:=(((pl R m 0:Nat):Int) !=((pl 0 (fun i k=>m k i) 0:Nat):Int))) (rvk (by kernel_rfl)) hb26) ?_
 refine sv 57 (.bool false) ?_
 refine sq_nil ?_
 refine k25 _ _ ?_
 try clear k25 K25
 refine wp_cond_false rfl ?_
 refine wp_skip ?_
 refine k24 _ _ ?_
 try clear k24 K24
 refine wp_seq_k (fun K27 k27=>?_)
 refine rg [0,1,2,3] ?_
 replace L11:=L11.gr (g16.trans (g17.trans (g19.trans (g21.trans g23))))
 refine sw 58 (.agg #[(.int .u8 ((ca:Int))),va]) rfl (rl 24 0 [(.int .u8 ((ca:Int))),va] L11) ?_
 refine se ?_
 refine ec 59 (l5_rowsT (hta.gr hB)) ?_
 rintro e28 w28 ⟨⟨u28,rfl,hs28⟩,g28⟩
 refine ⟨_,rfl,?_⟩
 replace hB:=hB.trans g28
 simp only [p3,p4]
 refine se ?_
 refine ec 60 (f5_columns hRN hs28) ?_
 rintro e29 w29 ⟨rfl,g29⟩
 refine ⟨_,rfl,?_⟩
 replace hB:=hB.trans g29
 simp only [p3,p4]
 refine sv 10 (.int .i64 0) ?_
 refine sq_nil ?_
 refine k27 _ _ ?_
 try clear k27 K27
 refine wp_seq_k (fun K30 k30=>?_)
 refine rg [0,1,2,3,4,5,6,7] ?_
 refine sv 62 u17 ?_
 refine sv 63 (.int .i64 0) ?_
 refine se ?_
 replace hs17:=hs17.gr (stab_rw (stab_rat 64) 71 4) (g21.trans (g23.trans (g28.trans g29)))
 refine ec 64 (mx_Kernel (K:=4899) (R:=R) (D:=0) (m:=m) (by omega) (by omega) (by omega) (by omega) hta.bd ((hs17.ratrows (by omega)))) ?_
 rintro e31 w31 ⟨⟨u31,rfl,hs31⟩,g31⟩
 refine ⟨_,rfl,?_⟩
 replace hB:=hB.trans g31
 simp only [p3,p4]
 refine sv 61 (.tuple #[u31,(.int .i64 0)]) ?_
 refine sv 65 u31 ?_
 refine sv 66 (.int .i64 0) ?_
 refine sv 11 u31 ?_
 refine sv 12 (.int .i64 0) ?_
 refine sq_nil ?_
 refine k30 _ _ ?_
 try clear k30 K30
 refine wp_seq_k (fun K32 k32=>?_)
 refine wp_seq_k (fun K33 k33=>?_)
 refine rg [0,1,2,3,4,5,6,7,8,9] ?_
 refine sv 67 (.int .i64 0) ?_
 refine sv 68 (.bool false) ?_
 refine sv 69 (.bool false) ?_
 refine sv 70 u31 ?_
 refine sw 71 (.int .i64 (((nfr R m 0 0:Nat):Int))) rfl (rv_lenn (e:=49) hs31 (tb_lenz rfl) _ _ rfl rfl (by kernel_rfl)) ?_
 refine sv 72 (.int .i64 (((pl R m 0:Nat):Int))) ?_
 refine sw 73 (.int .i64 (((((nfr R m 0 0:Nat):Int))+(((pl R m 0:Nat):Int))))) rfl (RunV.int (x:=IntKind.i64.wrap (((((nfr R m 0 0:Nat):Int))+(((pl R m 0:Nat):Int))))) (y:=((((nfr R m 0 0:Nat):Int))+(((pl R m 0:Nat):Int)))) (rvk (by kernel_rfl)) (by first | rfl | (rw [IntKind.wrap_i64];omega))) ?_
 refine sv 74 (.int .i64 0) ?_
 have hb34:((((((nfr R m 0 0:Nat):Int))+(((pl R m 0:Nat):Int))) !=(0:Int)))=false:=(by simp;omega)
 refine sw 75 (.bool false) rfl (RunV.bool (x:=(((((nfr R m 0 0:Nat):Int))+(((pl R m 0:Nat):Int))) !=(0:Int))) (rvk (by kernel_rfl)) hb34) ?_
 refine sv 76 (.bool false) ?_
 refine sq_nil ?_
 refine k33 _ _ ?_
 try clear k33 K33
 refine wp_cond_false rfl ?_
 refine wp_skip ?_
 refine k32 _ _ ?_
 try clear k32 K32
 refine wp_seq_k (fun K35 k35=>?_)
 refine wp_seq_k (fun K36 k36=>?_)
 have lehD:=Below.size hB
 have hD:=Gr.refl w31
 replace hs16:=hs16.gr (stab_rw stab_fr 84 2) (g17.trans (g19.trans (g21.trans (g23.trans (g28.trans (g29.trans g31))))))
 replace hs17:=hs17.gr (stab_rw (stab_rat 64) 71 4) g31
 replace hs19:=hs19.gr (stab_rw (stab_rat 64) 71 4) (g23.trans (g28.trans (g29.trans g31)))
 replace hs28:=hs28.gr (stab_rw stab_fr 84 2) (g29.trans g31)
 refine rg [0] ?_
 refine sv 13 (.int .i64 0) ?_
 refine sq_nil ?_
 refine k36 _ _ ?_
 try clear k36 K36
 refine wp_block ?_
 refine wp_loop_inv (a:=⟨List.toArray ?l37,[]⟩) (fun n a w'=>∃ (i:Nat) (u37:Nat→Value),(nfr R m 0 0) - i=n∧a=⟨[(.agg #[(.int .u8 ((ca:Int))),va]),(.pointer (some ⟨b11,0,none⟩)),(u37 2),u17,u19,(.int .i64 0),(.int .i64 (((pl R m 0:Nat):Int))),(.int .i64 0),(.int .i64 (((pl 0 (fun i k=>m k i) 0:Nat):Int))),(.int .i64 0),(.int .i64 0),u31,(.int .i64 0),(.int .i64 ((i:Int))),(u37 14),(u37 15),(u37 16),undef,undef,undef,undef,undef,undef,(u37 23),(.bool false),(u37 25),(u37 26),(u37 27),(u37 28),(u37 29),(u37 30),(u37 31),(u37 32),(u37 33),(u37 34),(u37 35),(u37 36),(u37 37),(u37 38),(u37 39),(u37 40),(u37 41),(u37 42),(u37 43),(u37 44),(u37 45),(u37 46),(u37 47),(u37 48),(u37 49),(u37 50),(u37 51),(u37 52),(u37 53),(u37 54),(u37 55),(u37 56),(.bool false),(u37 58),(u37 59),(u37 60),(u37 61),(u37 62),(u37 63),(u37 64),(u37 65),(u37 66),(u37 67),(u37 68),(u37 69),(u37 70),(u37 71),(u37 72),(u37 73),(u37 74),(u37 75),(.bool false),(u37 77),(u37 78),(u37 79),(u37 80),(u37 81),(u37 82),(u37 83),(u37 84),(u37 85),(u37 86),(u37 87),(u37 88),(u37 89),(u37 90),(u37 91),(u37 92),(u37 93),(u37 94),(u37 95),(u37 96),(u37 97),(u37 98),(u37 99),(u37 100),(u37 101),(u37 102),(u37 103),(u37 104),(u37 105),(u37 106),(u37 107),(u37 108),(u37 109),(u37 110),(u37 111),(u37 112),undef,undef,undef,undef,undef,undef,undef,undef,undef,undef,undef,undef,undef,undef,undef,undef,undef,undef,undef,undef,undef,undef,undef,undef,undef,undef,undef,undef,undef].toArray,[]⟩∧i≤(nfr R m 0 0)∧Gr w31 w'∧Gr w w') ((nfr R m 0 0) - 0) ?_ ?_
 ·exact ⟨0,(fun i=>List.getD ?l37 i undef),rfl,rfl,(Nat.zero_le _),hD,hB⟩
 rintro n37 a37 w37 ⟨i,u37,rfl,rfl,hki,hD,hB⟩ K37 k37
 refine wp_seq_k (fun K38 k38=>?_)
 refine wp_seq_k (fun K39 k39=>?_)
 refine rg [0,1,2,3] ?_
 refine sv 77 (.int .i64 ((i:Int))) ?_
 refine sv 78 u31 ?_
 refine sw 79 (.int .i64 (((nfr R m 0 0:Nat):Int))) rfl (rv_lenn (e:=49) hs31 (tb_lenz rfl) _ _ rfl rfl (by kernel_rfl)) ?_
 refine sv 80 (.bool (decide ((i:Int)<((nfr R m 0 0:Nat):Int)))) ?_
 refine sq_nil ?_
 refine k39 _ _ ?_
 try clear k39 K39
 refine wp_cond_split (t:=decide ((i:Int)<((nfr R m 0 0:Nat):Int))) rfl (fun hb40=>?_) (fun hb40=>?_)
 ·have hli:i<(nfr R m 0 0):=by have:=of_decide_eq_true hb40;omega
  refine wp_skip ?_
  refine k38 _ _ ?_
  try clear k38 K38
  refine wp_seq_k (fun K41 k41=>?_)
  refine wp_block ?_
  refine wp_seq_k (fun K42 k42=>?_)
  refine rg [0,1,2,3,4,5,6,7,8,9,10] ?_
  refine sv 84 u17 ?_
  refine sv 85 u31 ?_
  refine sv 86 (.int .i64 ((i:Int))) ?_
  refine sw 87 (adr u31 (i*1)) rfl (rv_idxn (e:=49) hs31 tb_len (by decide) i (by omega) _ _ _ rfl rfl rfl (by kernel_rfl) (by kernel_rfl)) ?_
  obtain ⟨_,_,⟨u43,rfl,hr43⟩,at43⟩:=Sl.get hs31 (by decide) (tb_get (f:=(fun z0=>tb (fun z1=>kv (rs R m 0) (frc R m 0 0 z0) z1) 0)) (n:=(nfr R m 0 0)) (i:=i) (by omega))
  refine sw 88 u43 rfl (rv_ld1 u43 (at43.gr hD) _ _ rfl rfl (by kernel_rfl)) ?_
  refine se ?_
  refine ec 89 (mx_Apply (K:=64) (L:=4899) (R:=R) (N:=0) (m:=m) (x:=kv (rs R m 0) (frc R m 0 0 i)) (by omega) (by omega) (by omega) (hs17.gr (stab_rw (stab_rat 64) 71 4) hD) (hr43.gr (stab_rat 4899) hD)) ?_
  rintro e44 w44 ⟨⟨u44,rfl,hs44⟩,g44⟩
  refine ⟨_,rfl,?_⟩
  replace hB:=hB.trans g44
  replace hD:=hD.trans g44
  replace hs44:=hs44.cast (show _=tb (fun _=>(0:Rat)) R from tb_congr fun i hi=>kv_zero hta.zb hli hi)
  simp only [p3,p4]
  refine sv 83 (.tuple #[u44,(.int .i64 0)]) ?_
  refine sv 90 u44 ?_
  refine sv 91 (.int .i64 0) ?_
  refine sv 14 u44 ?_
  refine sv 15 (.int .i64 0) ?_
  refine sq_nil ?_
  refine k42 _ _ ?_
  try clear k42 K42
  refine wp_seq_k (fun K45 k45=>?_)
  refine wp_seq_k (fun K46 k46=>?_)
  refine rg [0,1,2,3,4,5,6,7,8] ?_
  refine sv 92 (.int .i64 0) ?_
  refine sv 93 (.bool false) ?_
  refine sv 94 (.bool false) ?_
  refine sv 95 u44 ?_
  refine sw 96 (.int .i64 ((R:Int))) rfl (rv_lenn (e:=71) hs44 (tb_lenz rfl) _ _ rfl rfl (by kernel_rfl)) ?_
  refine sv 97 u17 ?_
  refine sw 98 (.int .i64 ((R:Int))) rfl (rv_lenn (e:=49) hs17 (tb_lenz rfl) _ _ rfl rfl (by kernel_rfl)) ?_
  have hb47:(((R:Int) !=(R:Int)))=false:=(by simp)
  refine sw 99 (.bool false) rfl (RunV.bool (x:=((R:Int) !=(R:Int))) (rvk (by kernel_rfl)) hb47) ?_
  refine sv 100 (.bool false) ?_
  refine sq_nil ?_
  refine k46 _ _ ?_
  try clear k46 K46
  refine wp_cond_false rfl ?_
  refine wp_skip ?_
  refine k45 _ _ ?_
  try clear k45 K45
  refine wp_seq_k (fun K48 k48=>?_)
  have lehE:=Below.size hB
  have lehE_hD:=Below.size hD
  have hE:=Gr.refl w44
  refine rg [0] ?_
  refine sv 16 (.int .i64 0) ?_
  refine sq_nil ?_
  refine k48 _ _ ?_
  try clear k48 K48
  refine wp_block ?_
  refine wp_loop_inv (a:=⟨List.toArray ?l49,[]⟩) (fun n a w'=>∃ (k:Nat) (u49:Nat→Value),R - k=n∧a=⟨[(.agg #[(.int .u8 ((ca:Int))),va]),(.pointer (some ⟨b11,0,none⟩)),(u49 2),u17,u19,(.int .i64 0),(.int .i64 (((pl R m 0:Nat):Int))),(.int .i64 0),(.int .i64 (((pl 0 (fun i k=>m k i) 0:Nat):Int))),(.int .i64 0),(.int .i64 0),u31,(.int .i64 0),(.int .i64 ((i:Int))),u44,(.int .i64 0),(.int .i64 ((k:Int))),undef,undef,undef,undef,undef,undef,(u49 23),(.bool false),(u49 25),(u49 26),(u49 27),(u49 28),(u49 29),(u49 30),(u49 31),(u49 32),(u49 33),(u49 34),(u49 35),(u49 36),(u49 37),(u49 38),(u49 39),(u49 40),(u49 41),(u49 42),(u49 43),(u49 44),(u49 45),(u49 46),(u49 47),(u49 48),(u49 49),(u49 50),(u49 51),(u49 52),(u49 53),(u49 54),(u49 55),(u49 56),(.bool false),(u49 58),(u49 59),(u49 60),(u49 61),(u49 62),(u49 63),(u49 64),(u49 65),(u49 66),(u49 67),(u49 68),(u49 69),(u49 70),(u49 71),(u49 72),(u49 73),(u49 74),(u49 75),(.bool false),(u49 77),(u49 78),(u49 79),(.bool (decide ((i:Int)<((nfr R m 0 0:Nat):Int)))),(u49 81),(u49 82),(u49 83),(u49 84),(u49 85),(u49 86),(u49 87),(u49 88),(u49 89),(u49 90),(u49 91),(u49 92),(u49 93),(u49 94),(u49 95),(u49 96),(u49 97),(u49 98),(u49 99),(.bool false),(u49 101),(u49 102),(u49 103),(u49 104),(u49 105),(u49 106),(u49 107),(u49 108),(u49 109),(u49 110),(u49 111),(u49 112),undef,undef,undef,undef,undef,undef,undef,undef,undef,undef,undef,undef,undef,undef,undef,undef,undef,undef,undef,undef,undef,undef,undef,undef,undef,undef,undef,undef,undef].toArray,[]⟩∧k≤R∧Gr w31 w'∧Gr w44 w'∧Gr w w') (R - 0) ?_ ?_
  ·exact ⟨0,(fun i=>List.getD ?l49 i undef),rfl,rfl,(Nat.zero_le _),hD,hE,hB⟩
  rintro n49 a49 w49 ⟨k,u49,rfl,rfl,hkk,hD,hE,hB⟩ K49 k49
  refine wp_seq_k (fun K50 k50=>?_)
  refine wp_seq_k (fun K51 k51=>?_)
  refine rg [0,1,2,3] ?_
  refine sv 101 (.int .i64 ((k:Int))) ?_
  refine sv 102 u44 ?_
  refine sw 103 (.int .i64 ((R:Int))) rfl (rv_lenn (e:=71) hs44 (tb_lenz rfl) _ _ rfl rfl (by kernel_rfl)) ?_
  refine sv 104 (.bool (decide ((k:Int)<(R:Int)))) ?_
  refine sq_nil ?_
  refine k51 _ _ ?_
  try clear k51 K51
  refine wp_cond_split (t:=decide ((k:Int)<(R:Int))) rfl (fun hb52=>?_) (fun hb52=>?_)
  ·have hlk:k<R:=by have:=of_decide_eq_true hb52;omega
   refine wp_skip ?_
   refine k50 _ _ ?_
   try clear k50 K50
   refine wp_seq_k (fun K53 k53=>?_)
   refine wp_block ?_
   refine wp_seq_k (fun K54 k54=>?_)
   refine rg [0,1,2,3,4,5] ?_
   refine sv 107 u44 ?_
   refine sv 108 (.int .i64 ((k:Int))) ?_
   refine sw 109 (adr u44 (k*4)) rfl (rv_idxn (e:=71) hs44 tb_len (by decide) k (by omega) _ _ _ rfl rfl rfl (by kernel_rfl) (by kernel_rfl)) ?_
   obtain ⟨_,_,⟨cA55,cB55,cC55,cD55,rfl,h55⟩,at55⟩:=Sl.get hs44 (by decide) (tb_get (f:=(fun z1=>(0:Rat))) (n:=R) (i:=k) (by omega))
   refine sw 110 (.agg #[cA55,cB55,cC55,cD55]) rfl (rv_ldn [cA55,cB55,cC55,cD55] (at55.gr hE) _ _ rfl rfl (by kernel_rfl)) ?_
   refine se ?_
   refine ec 111 (sign_r (h55.kp hE.kp)) ?_
   rintro e56 w56 ⟨rfl,g56⟩
   refine ⟨_,rfl,?_⟩
   replace hB:=hB.trans g56
   replace hD:=hD.trans g56
   replace hE:=hE.trans g56
   simp only [p3,p4]
   have hb57:((sgn ((0:Rat)).num !=(0:Int)))=false:=(by decide)
   refine sw 112 (.bool false) rfl (RunV.bool (x:=(sgn ((0:Rat)).num !=(0:Int))) (rvk (by kernel_rfl)) hb57) ?_
   refine sq_nil ?_
   refine k54 _ _ ?_
   try clear k54 K54
   refine wp_cond_false rfl ?_
   refine wp_skip ?_
   refine k53 _ _ ?_
   try clear k53 K53
   refine rg [0,1,2] ?_
   refine sv 105 (.int .i64 ((k:Int))) ?_
   refine sw 106 (.int .i64 (((k:Int)+1))) rfl (RunV.int (x:=IntKind.i64.wrap (((k:Int)+1))) (y:=((k:Int)+1)) (rvk (by kernel_rfl)) (by first | rfl | (rw [IntKind.wrap_i64];omega))) ?_
   refine sv 16 (.int .i64 (((k:Int)+1))) ?_
   refine sq_nil ?_
   refine k49 (R - (k+1)) ⟨List.toArray ?l58,[]⟩ _ (by omega) ?_
   exact ⟨k+1,(fun i=>List.getD ?l58 i undef),rfl,rfl,(by omega),hD,hE,hB⟩
  ·have hek:R=k:=by have:=of_decide_eq_false hb52;omega
   subst hek
   refine wp_exit ?_
   simp only [Exit.then,Exit.inBlock,↓reduceIte]
   refine k41 _ _ ?_
   try clear k41 K41
   refine rg [0,1,2] ?_
   refine sv 81 (.int .i64 ((i:Int))) ?_
   refine sw 82 (.int .i64 (((i:Int)+1))) rfl (RunV.int (x:=IntKind.i64.wrap (((i:Int)+1))) (y:=((i:Int)+1)) (rvk (by kernel_rfl)) (by first | rfl | (rw [IntKind.wrap_i64];omega))) ?_
   refine sv 13 (.int .i64 (((i:Int)+1))) ?_
   refine sq_nil ?_
   refine k37 ((nfr R m 0 0) - (i+1)) ⟨List.toArray ?l59,[]⟩ _ (by omega) ?_
   exact ⟨i+1,(fun i=>List.getD ?l59 i undef),rfl,rfl,(by omega),hD,hB⟩
 ·have hei:(nfr R m 0 0)=i:=by have:=of_decide_eq_false hb40;omega
  subst hei
  refine wp_exit ?_
  simp only [Exit.then,Exit.inBlock,↓reduceIte]
  refine k35 _ _ ?_
  try clear k35 K35
  refine wp_seq_k (fun K60 k60=>?_)
  refine rg [0,1,2,3,4,5,6,7,8] ?_
  refine sv 114 u17 ?_
  refine se ?_
  refine ec 115 (mx_Reduce (K:=4899) (R:=R) (N:=0) (m:=m) hRN (by omega) (by omega) (by omega) (by omega) hta.bd ((hs17.gr (stab_rw (stab_rat 64) 71 4) hD).ratrows (by omega))) ?_
  rintro e61 w61 ⟨⟨u61,v61,rfl,hs61,hp61⟩,g61⟩
  refine ⟨_,rfl,?_⟩
  replace hB:=hB.trans g61
  replace hD:=hD.trans g61
  replace hs61:=hs61.cast (show _=tb (fun z0=>tb (fun z1=>(rs R m 0).m z0 z1) 0) 0 from by rw [hp0])
  simp only [p3,p4]
  refine sv 113 (.tuple #[u61,v61,(.int .i64 0)]) ?_
  refine sv 116 u61 ?_
  refine sv 117 v61 ?_
  refine sv 118 (.int .i64 0) ?_
  refine sv 17 u61 ?_
  refine sv 18 v61 ?_
  refine sv 19 (.int .i64 0) ?_
  refine sq_nil ?_
  refine k60 _ _ ?_
  try clear k60 K60
  refine wp_seq_k (fun K62 k62=>?_)
  refine rg [0,1,2,3,4,5,6,7,8] ?_
  refine sv 120 u61 ?_
  refine se ?_
  refine ec 121 (mx_Reduce (K:=4899) (R:=0) (N:=0) (m:=(fun i k=>(rs R m 0).m i k)) (fun h=>h) (by omega) (by omega) (by omega) (by omega) hzr ((hs61.ratrows (by omega)).cast (show _=tb (fun z0=>tb (fun z1=>(rs R m 0).m z0 z1) 0) 0 from rfl))) ?_
  rintro e63 w63 ⟨⟨u63,v63,rfl,hs63,hp63⟩,g63⟩
  refine ⟨_,rfl,?_⟩
  replace hB:=hB.trans g63
  replace hD:=hD.trans g63
  replace hs63:=hs63.cast (show _=tb (fun z0=>tb (fun z1=>(rs R m 0).m z0 z1) 0) 0 from by rw [rs_zero rfl];rfl)
  simp only [p3,p4]
  refine sv 119 (.tuple #[u63,v63,(.int .i64 0)]) ?_
  refine sv 122 u63 ?_
  refine sv 123 v63 ?_
  refine sv 124 (.int .i64 0) ?_
  refine sv 20 u63 ?_
  refine sv 21 v63 ?_
  refine sv 22 (.int .i64 0) ?_
  refine sq_nil ?_
  refine k62 _ _ ?_
  try clear k62 K62
  refine wp_seq_k (fun K64 k64=>?_)
  refine rg [0,1,2,3,4,5,6,7,8,9,10,11,12,13,14,15,16,17] ?_
  refine sv 125 (.int .i64 0) ?_
  refine sv 126 (.bool true) ?_
  refine sv 127 (.bool true) ?_
  refine sv 128 (.int .i64 0) ?_
  refine sv 129 (.bool true) ?_
  refine sv 130 (.bool true) ?_
  refine sv 131 (.bool true) ?_
  refine sv 132 u61 ?_
  refine sv 133 u63 ?_
  refine se ?_
  replace hs61:=hs61.gr (stab_rw (stab_rat 4899) 71 4) g63
  refine ec 134 (mx_Equal (by omega) (by omega) (by omega) hs61 hs63) ?_
  rintro e65 w65 ⟨rfl,g65⟩
  refine ⟨_,rfl,?_⟩
  replace hB:=hB.trans g65
  replace hD:=hD.trans g65
  simp only [p3,p4]
  refine sv 135 (.bool true) ?_
  refine sv 136 (.bool true) ?_
  refine sv 137 u61 ?_
  refine sw 138 (.int .i64 0) rfl (rv_lenn (e:=49) hs61 (tb_lenz rfl) _ _ rfl rfl (by kernel_rfl)) ?_
  refine sv 139 (.int .i64 (((pl R m 0:Nat):Int))) ?_
  have hb66:(((0:Int)==((pl R m 0:Nat):Int)))=true:=(by simp;omega)
  refine sw 140 (.bool true) rfl (RunV.bool (x:=((0:Int)==((pl R m 0:Nat):Int))) (rvk (by kernel_rfl)) hb66) ?_
  refine sv 141 (.bool true) ?_
  refine sv 2 (.bool true) ?_
  refine sq_nil ?_
  refine k64 _ _ ?_
  try clear k64 K64
  refine wp_ret ?_
  refine bodyPost_ret (v:=(.bool true)) (ret_tmp rfl rfl) rfl ⟨?_,hB⟩
  exact rfl

set_option maxRecDepth 100000 in
set_option maxHeartbeats 1000000 in
theorem mk_z {R N ca:Nat} {va:Value} {m:Mx_} (_hN0:0<N) (hp0:pl R m N=0) {w:World} (hm:Mx w) (ht:Tab w) (hta:TA w (.agg #[.int .u8 (ca:Int),va]) R N m):
    Calls Tryz.prog 6 #[(.agg #[(.int .u8 ((ca:Int))),va])] w fun e w'=>e=.returned (.bool true)∧Gr w w':=by
 have hR5:=hta.R5
 have hN6:=hta.N6
 have hRN:=hta.R0
 have hpl:=rs_len R m N
 have hpn:=rs_ple R m N
 have hnl:nfr R m N N+pl R m N=N:=nfr_len R N m
 have hrk:=hta.rank
 have hzt:∀ k,k≤R→RdZ N R 4899 (rs N (fun i k=>m k i) k):=rs_sm (fun i _ k _=>hta.z k i) (.inl hR5) (Nat.le_refl _)
 have hzr:∀ k,k≤0→RdZ 0 0 4899 (rs 0 (fun i k=>(rs R m N).m i k) k):=rs_sm (fun i hi=>absurd hi (Nat.not_lt_zero i)) (.inr (by omega)) (Nat.le_refl _)
 go_enter Tryz.func6,Tryz.ntmps6
 have hB:=Gr.refl w
 refine wp_seq_k (fun K10 k10=>?_)
 refine rg [0,1] ?_
 refine se ?_
 refine eb 24 #[(.int .u8 ((ca:Int))),va] 1 hB fun b11 w11 g11 L11 o11 q11 hB=>?_
 simp only [p3,p4]
 refine sv 2 (.bool false) ?_
 refine sq_nil ?_
 refine k10 _ _ ?_
 try clear k10 K10
 refine wp_seq_k (fun K12 k12=>?_)
 refine wp_seq_k (fun K13 k13=>?_)
 refine rg [0,1] ?_
 refine se ?_
 refine ec 23 (l5_known _ (hm.gr hB) (ht.gr hB)) ?_
 rintro e14 w14 ⟨rfl,g14⟩
 refine ⟨_,rfl,?_⟩
 replace hB:=hB.trans g14
 simp only [p3,p4]
 refine sv 24 (.bool false) ?_
 refine sq_nil ?_
 refine k13 _ _ ?_
 try clear k13 K13
 refine wp_cond_false rfl ?_
 refine wp_skip ?_
 refine k12 _ _ ?_
 try clear k12 K12
 refine wp_seq_k (fun K15 k15=>?_)
 refine rg [0,1,2,3] ?_
 replace L11:=L11.gr g14
 refine sw 25 (.agg #[(.int .u8 ((ca:Int))),va]) rfl (rl 24 0 [(.int .u8 ((ca:Int))),va] L11) ?_
 refine se ?_
 refine ec 26 (l5_rowsT (hta.gr hB)) ?_
 rintro e16 w16 ⟨⟨u16,rfl,hs16⟩,g16⟩
 refine ⟨_,rfl,?_⟩
 replace hB:=hB.trans g16
 simp only [p3,p4]
 refine se ?_
 refine ec 27 (l5_own (by omega) (by omega) (fun i _ k _=>(hta.z i k).mono (by omega) (by omega)) (hm.gr hB) hs16) ?_
 rintro e17 w17 ⟨⟨u17,rfl,hs17⟩,g17⟩
 refine ⟨_,rfl,?_⟩
 replace hB:=hB.trans g17
 simp only [p3,p4]
 refine sv 3 u17 ?_
 refine sq_nil ?_
 refine k15 _ _ ?_
 try clear k15 K15
 refine wp_seq_k (fun K18 k18=>?_)
 refine rg [0,1,2,3,4,5,6] ?_
 refine sv 29 u17 ?_
 refine se ?_
 refine ec 30 (mx_Transpose (K:=64) (m:=m) hRN (by omega) (by omega) (by omega) hs17) ?_
 rintro e19 w19 ⟨⟨u19,rfl,hs19⟩,g19⟩
 refine ⟨_,rfl,?_⟩
 replace hB:=hB.trans g19
 simp only [p3,p4]
 refine sv 28 (.tuple #[u19,(.int .i64 0)]) ?_
 refine sv 31 u19 ?_
 refine sv 32 (.int .i64 0) ?_
 refine sv 4 u19 ?_
 refine sv 5 (.int .i64 0) ?_
 refine sq_nil ?_
 refine k18 _ _ ?_
 try clear k18 K18
 refine wp_seq_k (fun K20 k20=>?_)
 refine rg [0,1,2,3,4,5,6] ?_
 refine sv 34 u17 ?_
 refine se ?_
 replace hs17:=hs17.gr (stab_rw (stab_rat 64) 71 4) g19
 refine ec 35 (mx_Rank (K:=4899) (R:=R) (N:=N) (m:=m) hRN (by omega) (by omega) (by omega) (by omega) hta.bd ((hs17.ratrows (by omega)))) ?_
 rintro e21 w21 ⟨rfl,g21⟩
 refine ⟨_,rfl,?_⟩
 replace hB:=hB.trans g21
 simp only [p3,p4]
 refine sv 33 (.tuple #[(.int .i64 (((pl R m N:Nat):Int))),(.int .i64 0)]) ?_
 refine sv 36 (.int .i64 (((pl R m N:Nat):Int))) ?_
 refine sv 37 (.int .i64 0) ?_
 refine sv 6 (.int .i64 (((pl R m N:Nat):Int))) ?_
 refine sv 7 (.int .i64 0) ?_
 refine sq_nil ?_
 refine k20 _ _ ?_
 try clear k20 K20
 refine wp_seq_k (fun K22 k22=>?_)
 refine rg [0,1,2,3,4,5,6] ?_
 refine sv 39 u19 ?_
 refine se ?_
 replace hs19:=hs19.gr (stab_rw (stab_rat 64) 71 4) g21
 refine ec 40 (mx_Rank (K:=4899) (R:=N) (N:=R) (m:=(fun i k=>m k i)) (fun h=>absurd h (by omega)) (by omega) (by omega) (by omega) (by omega) hzt ((hs19.ratrows (by omega)))) ?_
 rintro e23 w23 ⟨rfl,g23⟩
 refine ⟨_,rfl,?_⟩
 replace hB:=hB.trans g23
 simp only [p3,p4]
 refine sv 38 (.tuple #[(.int .i64 (((pl N (fun i k=>m k i) R:Nat):Int))),(.int .i64 0)]) ?_
 refine sv 41 (.int .i64 (((pl N (fun i k=>m k i) R:Nat):Int))) ?_
 refine sv 42 (.int .i64 0) ?_
 refine sv 8 (.int .i64 (((pl N (fun i k=>m k i) R:Nat):Int))) ?_
 refine sv 9 (.int .i64 0) ?_
 refine sq_nil ?_
 refine k22 _ _ ?_
 try clear k22 K22
 refine wp_seq_k (fun K24 k24=>?_)
 refine wp_seq_k (fun K25 k25=>?_)
 refine rg [0,1,2,3,4,5,6,7,8,9,10,11,12,13,14] ?_
 refine sv 43 (.int .i64 0) ?_
 refine sv 44 (.bool false) ?_
 refine sv 45 (.bool false) ?_
 refine sv 46 (.int .i64 0) ?_
 refine sv 47 (.bool false) ?_
 refine sv 48 (.bool false) ?_
 refine sv 49 (.bool false) ?_
 refine sv 50 (.int .i64 0) ?_
 refine sv 51 (.bool false) ?_
 refine sv 52 (.bool false) ?_
 refine sv 53 (.bool false) ?_
 refine sv 54 (.int .i64 (((pl R m N:Nat):Int))) ?_
 refine sv 55 (.int .i64 (((pl N (fun i k=>m k i) R:Nat):Int))) ?_
 have hb26:((((pl R m N:Nat):Int) !=((pl N (fun i k=>m k i) R:Nat):Int)))=false:=(by simp;omega)
 refine sw 56 (.bool false) rfl (RunV.bool (x:=(((pl R m N:Nat):Int) !=((pl N (fun i k=>m k i) R:Nat):Int))) (rvk (by kernel_rfl)) hb26) ?_
 refine sv 57 (.bool false) ?_
 refine sq_nil ?_
 refine k25 _ _ ?_
 try clear k25 K25
 refine wp_cond_false rfl ?_
 refine wp_skip ?_
 refine k24 _ _ ?_
 try clear k24 K24
 refine wp_seq_k (fun K27 k27=>?_)
 refine rg [0,1,2,3] ?_
 replace L11:=L11.gr (g16.trans (g17.trans (g19.trans (g21.trans g23))))
 refine sw 58 (.agg #[(.int .u8 ((ca:Int))),va]) rfl (rl 24 0 [(.int .u8 ((ca:Int))),va] L11) ?_
 refine se ?_
 refine ec 59 (l5_rowsT (hta.gr hB)) ?_
 rintro e28 w28 ⟨⟨u28,rfl,hs28⟩,g28⟩
 refine ⟨_,rfl,?_⟩
 replace hB:=hB.trans g28
 simp only [p3,p4]
 refine se ?_
 refine ec 60 (f5_columns hRN hs28) ?_
 rintro e29 w29 ⟨rfl,g29⟩
 refine ⟨_,rfl,?_⟩
 replace hB:=hB.trans g29
 simp only [p3,p4]
 refine sv 10 (.int .i64 ((N:Int))) ?_
 refine sq_nil ?_
 refine k27 _ _ ?_
 try clear k27 K27
 refine wp_seq_k (fun K30 k30=>?_)
 refine rg [0,1,2,3,4,5,6,7] ?_
 refine sv 62 u17 ?_
 refine sv 63 (.int .i64 ((N:Int))) ?_
 refine se ?_
 replace hs17:=hs17.gr (stab_rw (stab_rat 64) 71 4) (g21.trans (g23.trans (g28.trans g29)))
 refine ec 64 (mx_Kernel (K:=4899) (R:=R) (D:=N) (m:=m) (by omega) (by omega) (by omega) (by omega) hta.bd ((hs17.ratrows (by omega)))) ?_
 rintro e31 w31 ⟨⟨u31,rfl,hs31⟩,g31⟩
 refine ⟨_,rfl,?_⟩
 replace hB:=hB.trans g31
 simp only [p3,p4]
 refine sv 61 (.tuple #[u31,(.int .i64 0)]) ?_
 refine sv 65 u31 ?_
 refine sv 66 (.int .i64 0) ?_
 refine sv 11 u31 ?_
 refine sv 12 (.int .i64 0) ?_
 refine sq_nil ?_
 refine k30 _ _ ?_
 try clear k30 K30
 refine wp_seq_k (fun K32 k32=>?_)
 refine wp_seq_k (fun K33 k33=>?_)
 refine rg [0,1,2,3,4,5,6,7,8,9] ?_
 refine sv 67 (.int .i64 0) ?_
 refine sv 68 (.bool false) ?_
 refine sv 69 (.bool false) ?_
 refine sv 70 u31 ?_
 refine sw 71 (.int .i64 (((nfr R m N N:Nat):Int))) rfl (rv_lenn (e:=49) hs31 (tb_lenz rfl) _ _ rfl rfl (by kernel_rfl)) ?_
 refine sv 72 (.int .i64 (((pl R m N:Nat):Int))) ?_
 refine sw 73 (.int .i64 (((((nfr R m N N:Nat):Int))+(((pl R m N:Nat):Int))))) rfl (RunV.int (x:=IntKind.i64.wrap (((((nfr R m N N:Nat):Int))+(((pl R m N:Nat):Int))))) (y:=((((nfr R m N N:Nat):Int))+(((pl R m N:Nat):Int)))) (rvk (by kernel_rfl)) (by first | rfl | (rw [IntKind.wrap_i64];omega))) ?_
 refine sv 74 (.int .i64 ((N:Int))) ?_
 have hb34:((((((nfr R m N N:Nat):Int))+(((pl R m N:Nat):Int))) !=(N:Int)))=false:=(by simp;omega)
 refine sw 75 (.bool false) rfl (RunV.bool (x:=(((((nfr R m N N:Nat):Int))+(((pl R m N:Nat):Int))) !=(N:Int))) (rvk (by kernel_rfl)) hb34) ?_
 refine sv 76 (.bool false) ?_
 refine sq_nil ?_
 refine k33 _ _ ?_
 try clear k33 K33
 refine wp_cond_false rfl ?_
 refine wp_skip ?_
 refine k32 _ _ ?_
 try clear k32 K32
 refine wp_seq_k (fun K35 k35=>?_)
 refine wp_seq_k (fun K36 k36=>?_)
 have lehD:=Below.size hB
 have hD:=Gr.refl w31
 replace hs16:=hs16.gr (stab_rw stab_fr 84 2) (g17.trans (g19.trans (g21.trans (g23.trans (g28.trans (g29.trans g31))))))
 replace hs17:=hs17.gr (stab_rw (stab_rat 64) 71 4) g31
 replace hs19:=hs19.gr (stab_rw (stab_rat 64) 71 4) (g23.trans (g28.trans (g29.trans g31)))
 replace hs28:=hs28.gr (stab_rw stab_fr 84 2) (g29.trans g31)
 refine rg [0] ?_
 refine sv 13 (.int .i64 0) ?_
 refine sq_nil ?_
 refine k36 _ _ ?_
 try clear k36 K36
 refine wp_block ?_
 refine wp_loop_inv (a:=⟨List.toArray ?l37,[]⟩) (fun n a w'=>∃ (i:Nat) (u37:Nat→Value),(nfr R m N N) - i=n∧a=⟨[(.agg #[(.int .u8 ((ca:Int))),va]),(.pointer (some ⟨b11,0,none⟩)),(u37 2),u17,u19,(.int .i64 0),(.int .i64 (((pl R m N:Nat):Int))),(.int .i64 0),(.int .i64 (((pl N (fun i k=>m k i) R:Nat):Int))),(.int .i64 0),(.int .i64 ((N:Int))),u31,(.int .i64 0),(.int .i64 ((i:Int))),(u37 14),(u37 15),(u37 16),undef,undef,undef,undef,undef,undef,(u37 23),(.bool false),(u37 25),(u37 26),(u37 27),(u37 28),(u37 29),(u37 30),(u37 31),(u37 32),(u37 33),(u37 34),(u37 35),(u37 36),(u37 37),(u37 38),(u37 39),(u37 40),(u37 41),(u37 42),(u37 43),(u37 44),(u37 45),(u37 46),(u37 47),(u37 48),(u37 49),(u37 50),(u37 51),(u37 52),(u37 53),(u37 54),(u37 55),(u37 56),(.bool false),(u37 58),(u37 59),(u37 60),(u37 61),(u37 62),(u37 63),(u37 64),(u37 65),(u37 66),(u37 67),(u37 68),(u37 69),(u37 70),(u37 71),(u37 72),(u37 73),(u37 74),(u37 75),(.bool false),(u37 77),(u37 78),(u37 79),(u37 80),(u37 81),(u37 82),(u37 83),(u37 84),(u37 85),(u37 86),(u37 87),(u37 88),(u37 89),(u37 90),(u37 91),(u37 92),(u37 93),(u37 94),(u37 95),(u37 96),(u37 97),(u37 98),(u37 99),(u37 100),(u37 101),(u37 102),(u37 103),(u37 104),(u37 105),(u37 106),(u37 107),(u37 108),(u37 109),(u37 110),(u37 111),(u37 112),undef,undef,undef,undef,undef,undef,undef,undef,undef,undef,undef,undef,undef,undef,undef,undef,undef,undef,undef,undef,undef,undef,undef,undef,undef,undef,undef,undef,undef].toArray,[]⟩∧i≤(nfr R m N N)∧Gr w31 w'∧Gr w w') ((nfr R m N N) - 0) ?_ ?_
 ·exact ⟨0,(fun i=>List.getD ?l37 i undef),rfl,rfl,(Nat.zero_le _),hD,hB⟩
 rintro n37 a37 w37 ⟨i,u37,rfl,rfl,hki,hD,hB⟩ K37 k37
 refine wp_seq_k (fun K38 k38=>?_)
 refine wp_seq_k (fun K39 k39=>?_)
 refine rg [0,1,2,3] ?_
 refine sv 77 (.int .i64 ((i:Int))) ?_
 refine sv 78 u31 ?_
 refine sw 79 (.int .i64 (((nfr R m N N:Nat):Int))) rfl (rv_lenn (e:=49) hs31 (tb_lenz rfl) _ _ rfl rfl (by kernel_rfl)) ?_
 refine sv 80 (.bool (decide ((i:Int)<((nfr R m N N:Nat):Int)))) ?_
 refine sq_nil ?_
 refine k39 _ _ ?_
 try clear k39 K39
 refine wp_cond_split (t:=decide ((i:Int)<((nfr R m N N:Nat):Int))) rfl (fun hb40=>?_) (fun hb40=>?_)
 ·have hli:i<(nfr R m N N):=by have:=of_decide_eq_true hb40;omega
  refine wp_skip ?_
  refine k38 _ _ ?_
  try clear k38 K38
  refine wp_seq_k (fun K41 k41=>?_)
  refine wp_block ?_
  refine wp_seq_k (fun K42 k42=>?_)
  refine rg [0,1,2,3,4,5,6,7,8,9,10] ?_
  refine sv 84 u17 ?_
  refine sv 85 u31 ?_
  refine sv 86 (.int .i64 ((i:Int))) ?_
  refine sw 87 (adr u31 (i*1)) rfl (rv_idxn (e:=49) hs31 tb_len (by decide) i (by omega) _ _ _ rfl rfl rfl (by kernel_rfl) (by kernel_rfl)) ?_
  obtain ⟨_,_,⟨u43,rfl,hr43⟩,at43⟩:=Sl.get hs31 (by decide) (tb_get (f:=(fun z0=>tb (fun z1=>kv (rs R m N) (frc R m N N z0) z1) N)) (n:=(nfr R m N N)) (i:=i) (by omega))
  refine sw 88 u43 rfl (rv_ld1 u43 (at43.gr hD) _ _ rfl rfl (by kernel_rfl)) ?_
  refine se ?_
  refine ec 89 (mx_Apply (K:=64) (L:=4899) (R:=R) (N:=N) (m:=m) (x:=kv (rs R m N) (frc R m N N i)) (by omega) (by omega) (by omega) (hs17.gr (stab_rw (stab_rat 64) 71 4) hD) (hr43.gr (stab_rat 4899) hD)) ?_
  rintro e44 w44 ⟨⟨u44,rfl,hs44⟩,g44⟩
  refine ⟨_,rfl,?_⟩
  replace hB:=hB.trans g44
  replace hD:=hD.trans g44
  replace hs44:=hs44.cast (show _=tb (fun _=>(0:Rat)) R from tb_congr fun i hi=>kv_zero hta.zb hli hi)
  simp only [p3,p4]
  refine sv 83 (.tuple #[u44,(.int .i64 0)]) ?_
  refine sv 90 u44 ?_
  refine sv 91 (.int .i64 0) ?_
  refine sv 14 u44 ?_
  refine sv 15 (.int .i64 0) ?_
  refine sq_nil ?_
  refine k42 _ _ ?_
  try clear k42 K42
  refine wp_seq_k (fun K45 k45=>?_)
  refine wp_seq_k (fun K46 k46=>?_)
  refine rg [0,1,2,3,4,5,6,7,8] ?_
  refine sv 92 (.int .i64 0) ?_
  refine sv 93 (.bool false) ?_
  refine sv 94 (.bool false) ?_
  refine sv 95 u44 ?_
  refine sw 96 (.int .i64 ((R:Int))) rfl (rv_lenn (e:=71) hs44 (tb_lenz rfl) _ _ rfl rfl (by kernel_rfl)) ?_
  refine sv 97 u17 ?_
  refine sw 98 (.int .i64 ((R:Int))) rfl (rv_lenn (e:=49) hs17 (tb_lenz rfl) _ _ rfl rfl (by kernel_rfl)) ?_
  have hb47:(((R:Int) !=(R:Int)))=false:=(by simp)
  refine sw 99 (.bool false) rfl (RunV.bool (x:=((R:Int) !=(R:Int))) (rvk (by kernel_rfl)) hb47) ?_
  refine sv 100 (.bool false) ?_
  refine sq_nil ?_
  refine k46 _ _ ?_
  try clear k46 K46
  refine wp_cond_false rfl ?_
  refine wp_skip ?_
  refine k45 _ _ ?_
  try clear k45 K45
  refine wp_seq_k (fun K48 k48=>?_)
  have lehE:=Below.size hB
  have lehE_hD:=Below.size hD
  have hE:=Gr.refl w44
  refine rg [0] ?_
  refine sv 16 (.int .i64 0) ?_
  refine sq_nil ?_
  refine k48 _ _ ?_
  try clear k48 K48
  refine wp_block ?_
  refine wp_loop_inv (a:=⟨List.toArray ?l49,[]⟩) (fun n a w'=>∃ (k:Nat) (u49:Nat→Value),R - k=n∧a=⟨[(.agg #[(.int .u8 ((ca:Int))),va]),(.pointer (some ⟨b11,0,none⟩)),(u49 2),u17,u19,(.int .i64 0),(.int .i64 (((pl R m N:Nat):Int))),(.int .i64 0),(.int .i64 (((pl N (fun i k=>m k i) R:Nat):Int))),(.int .i64 0),(.int .i64 ((N:Int))),u31,(.int .i64 0),(.int .i64 ((i:Int))),u44,(.int .i64 0),(.int .i64 ((k:Int))),undef,undef,undef,undef,undef,undef,(u49 23),(.bool false),(u49 25),(u49 26),(u49 27),(u49 28),(u49 29),(u49 30),(u49 31),(u49 32),(u49 33),(u49 34),(u49 35),(u49 36),(u49 37),(u49 38),(u49 39),(u49 40),(u49 41),(u49 42),(u49 43),(u49 44),(u49 45),(u49 46),(u49 47),(u49 48),(u49 49),(u49 50),(u49 51),(u49 52),(u49 53),(u49 54),(u49 55),(u49 56),(.bool false),(u49 58),(u49 59),(u49 60),(u49 61),(u49 62),(u49 63),(u49 64),(u49 65),(u49 66),(u49 67),(u49 68),(u49 69),(u49 70),(u49 71),(u49 72),(u49 73),(u49 74),(u49 75),(.bool false),(u49 77),(u49 78),(u49 79),(.bool (decide ((i:Int)<((nfr R m N N:Nat):Int)))),(u49 81),(u49 82),(u49 83),(u49 84),(u49 85),(u49 86),(u49 87),(u49 88),(u49 89),(u49 90),(u49 91),(u49 92),(u49 93),(u49 94),(u49 95),(u49 96),(u49 97),(u49 98),(u49 99),(.bool false),(u49 101),(u49 102),(u49 103),(u49 104),(u49 105),(u49 106),(u49 107),(u49 108),(u49 109),(u49 110),(u49 111),(u49 112),undef,undef,undef,undef,undef,undef,undef,undef,undef,undef,undef,undef,undef,undef,undef,undef,undef,undef,undef,undef,undef,undef,undef,undef,undef,undef,undef,undef,undef].toArray,[]⟩∧k≤R∧Gr w31 w'∧Gr w44 w'∧Gr w w') (R - 0) ?_ ?_
  ·exact ⟨0,(fun i=>List.getD ?l49 i undef),rfl,rfl,(Nat.zero_le _),hD,hE,hB⟩
  rintro n49 a49 w49 ⟨k,u49,rfl,rfl,hkk,hD,hE,hB⟩ K49 k49
  refine wp_seq_k (fun K50 k50=>?_)
  refine wp_seq_k (fun K51 k51=>?_)
  refine rg [0,1,2,3] ?_
  refine sv 101 (.int .i64 ((k:Int))) ?_
  refine sv 102 u44 ?_
  refine sw 103 (.int .i64 ((R:Int))) rfl (rv_lenn (e:=71) hs44 (tb_lenz rfl) _ _ rfl rfl (by kernel_rfl)) ?_
  refine sv 104 (.bool (decide ((k:Int)<(R:Int)))) ?_
  refine sq_nil ?_
  refine k51 _ _ ?_
  try clear k51 K51
  refine wp_cond_split (t:=decide ((k:Int)<(R:Int))) rfl (fun hb52=>?_) (fun hb52=>?_)
  ·have hlk:k<R:=by have:=of_decide_eq_true hb52;omega
   refine wp_skip ?_
   refine k50 _ _ ?_
   try clear k50 K50
   refine wp_seq_k (fun K53 k53=>?_)
   refine wp_block ?_
   refine wp_seq_k (fun K54 k54=>?_)
   refine rg [0,1,2,3,4,5] ?_
   refine sv 107 u44 ?_
   refine sv 108 (.int .i64 ((k:Int))) ?_
   refine sw 109 (adr u44 (k*4)) rfl (rv_idxn (e:=71) hs44 tb_len (by decide) k (by omega) _ _ _ rfl rfl rfl (by kernel_rfl) (by kernel_rfl)) ?_
   obtain ⟨_,_,⟨cA55,cB55,cC55,cD55,rfl,h55⟩,at55⟩:=Sl.get hs44 (by decide) (tb_get (f:=(fun z1=>(0:Rat))) (n:=R) (i:=k) (by omega))
   refine sw 110 (.agg #[cA55,cB55,cC55,cD55]) rfl (rv_ldn [cA55,cB55,cC55,cD55] (at55.gr hE) _ _ rfl rfl (by kernel_rfl)) ?_
   refine se ?_
   refine ec 111 (sign_r (h55.kp hE.kp)) ?_
   rintro e56 w56 ⟨rfl,g56⟩
   refine ⟨_,rfl,?_⟩
   replace hB:=hB.trans g56
   replace hD:=hD.trans g56
   replace hE:=hE.trans g56
   simp only [p3,p4]
   have hb57:((sgn ((0:Rat)).num !=(0:Int)))=false:=(by decide)
   refine sw 112 (.bool false) rfl (RunV.bool (x:=(sgn ((0:Rat)).num !=(0:Int))) (rvk (by kernel_rfl)) hb57) ?_
   refine sq_nil ?_
   refine k54 _ _ ?_
   try clear k54 K54
   refine wp_cond_false rfl ?_
   refine wp_skip ?_
   refine k53 _ _ ?_
   try clear k53 K53
   refine rg [0,1,2] ?_
   refine sv 105 (.int .i64 ((k:Int))) ?_
   refine sw 106 (.int .i64 (((k:Int)+1))) rfl (RunV.int (x:=IntKind.i64.wrap (((k:Int)+1))) (y:=((k:Int)+1)) (rvk (by kernel_rfl)) (by first | rfl | (rw [IntKind.wrap_i64];omega))) ?_
   refine sv 16 (.int .i64 (((k:Int)+1))) ?_
   refine sq_nil ?_
   refine k49 (R - (k+1)) ⟨List.toArray ?l58,[]⟩ _ (by omega) ?_
   exact ⟨k+1,(fun i=>List.getD ?l58 i undef),rfl,rfl,(by omega),hD,hE,hB⟩
  ·have hek:R=k:=by have:=of_decide_eq_false hb52;omega
   subst hek
   refine wp_exit ?_
   simp only [Exit.then,Exit.inBlock,↓reduceIte]
   refine k41 _ _ ?_
   try clear k41 K41
   refine rg [0,1,2] ?_
   refine sv 81 (.int .i64 ((i:Int))) ?_
   refine sw 82 (.int .i64 (((i:Int)+1))) rfl (RunV.int (x:=IntKind.i64.wrap (((i:Int)+1))) (y:=((i:Int)+1)) (rvk (by kernel_rfl)) (by first | rfl | (rw [IntKind.wrap_i64];omega))) ?_
   refine sv 13 (.int .i64 (((i:Int)+1))) ?_
   refine sq_nil ?_
   refine k37 ((nfr R m N N) - (i+1)) ⟨List.toArray ?l59,[]⟩ _ (by omega) ?_
   exact ⟨i+1,(fun i=>List.getD ?l59 i undef),rfl,rfl,(by omega),hD,hB⟩
 ·have hei:(nfr R m N N)=i:=by have:=of_decide_eq_false hb40;omega
  subst hei
  refine wp_exit ?_
  simp only [Exit.then,Exit.inBlock,↓reduceIte]
  refine k35 _ _ ?_
  try clear k35 K35
  refine wp_seq_k (fun K60 k60=>?_)
  refine rg [0,1,2,3,4,5,6,7,8] ?_
  refine sv 114 u17 ?_
  refine se ?_
  refine ec 115 (mx_Reduce (K:=4899) (R:=R) (N:=N) (m:=m) hRN (by omega) (by omega) (by omega) (by omega) hta.bd ((hs17.gr (stab_rw (stab_rat 64) 71 4) hD).ratrows (by omega))) ?_
  rintro e61 w61 ⟨⟨u61,v61,rfl,hs61,hp61⟩,g61⟩
  refine ⟨_,rfl,?_⟩
  replace hB:=hB.trans g61
  replace hD:=hD.trans g61
  replace hs61:=hs61.cast (show _=tb (fun z0=>tb (fun z1=>(rs R m N).m z0 z1) N) 0 from by rw [hp0])
  simp only [p3,p4]
  refine sv 113 (.tuple #[u61,v61,(.int .i64 0)]) ?_
  refine sv 116 u61 ?_
  refine sv 117 v61 ?_
  refine sv 118 (.int .i64 0) ?_
  refine sv 17 u61 ?_
  refine sv 18 v61 ?_
  refine sv 19 (.int .i64 0) ?_
  refine sq_nil ?_
  refine k60 _ _ ?_
  try clear k60 K60
  refine wp_seq_k (fun K62 k62=>?_)
  refine rg [0,1,2,3,4,5,6,7,8] ?_
  refine sv 120 u61 ?_
  refine se ?_
  refine ec 121 (mx_Reduce (K:=4899) (R:=0) (N:=0) (m:=(fun i k=>(rs R m N).m i k)) (fun h=>h) (by omega) (by omega) (by omega) (by omega) hzr ((hs61.ratrows (by omega)).cast (show _=tb (fun z0=>tb (fun z1=>(rs R m N).m z0 z1) 0) 0 from rfl))) ?_
  rintro e63 w63 ⟨⟨u63,v63,rfl,hs63,hp63⟩,g63⟩
  refine ⟨_,rfl,?_⟩
  replace hB:=hB.trans g63
  replace hD:=hD.trans g63
  replace hs63:=hs63.cast (show _=tb (fun z0=>tb (fun z1=>(rs R m N).m z0 z1) N) 0 from by rw [rs_zero rfl];rfl)
  simp only [p3,p4]
  refine sv 119 (.tuple #[u63,v63,(.int .i64 0)]) ?_
  refine sv 122 u63 ?_
  refine sv 123 v63 ?_
  refine sv 124 (.int .i64 0) ?_
  refine sv 20 u63 ?_
  refine sv 21 v63 ?_
  refine sv 22 (.int .i64 0) ?_
  refine sq_nil ?_
  refine k62 _ _ ?_
  try clear k62 K62
  refine wp_seq_k (fun K64 k64=>?_)
  refine rg [0,1,2,3,4,5,6,7,8,9,10,11,12,13,14,15,16,17] ?_
  refine sv 125 (.int .i64 0) ?_
  refine sv 126 (.bool true) ?_
  refine sv 127 (.bool true) ?_
  refine sv 128 (.int .i64 0) ?_
  refine sv 129 (.bool true) ?_
  refine sv 130 (.bool true) ?_
  refine sv 131 (.bool true) ?_
  refine sv 132 u61 ?_
  refine sv 133 u63 ?_
  refine se ?_
  replace hs61:=hs61.gr (stab_rw (stab_rat 4899) 71 4) g63
  refine ec 134 (mx_Equal (by omega) (by omega) (by omega) hs61 hs63) ?_
  rintro e65 w65 ⟨rfl,g65⟩
  refine ⟨_,rfl,?_⟩
  replace hB:=hB.trans g65
  replace hD:=hD.trans g65
  simp only [p3,p4]
  refine sv 135 (.bool true) ?_
  refine sv 136 (.bool true) ?_
  refine sv 137 u61 ?_
  refine sw 138 (.int .i64 0) rfl (rv_lenn (e:=49) hs61 (tb_lenz rfl) _ _ rfl rfl (by kernel_rfl)) ?_
  refine sv 139 (.int .i64 (((pl R m N:Nat):Int))) ?_
  have hb66:(((0:Int)==((pl R m N:Nat):Int)))=true:=(by simp;omega)
  refine sw 140 (.bool true) rfl (RunV.bool (x:=((0:Int)==((pl R m N:Nat):Int))) (rvk (by kernel_rfl)) hb66) ?_
  refine sv 141 (.bool true) ?_
  refine sv 2 (.bool true) ?_
  refine sq_nil ?_
  refine k64 _ _ ?_
  try clear k64 K64
  refine wp_ret ?_
  refine bodyPost_ret (v:=(.bool true)) (ret_tmp rfl rfl) rfl ⟨?_,hB⟩
  exact rfl

set_option maxRecDepth 100000 in
set_option maxHeartbeats 1000000 in
theorem mk_p {R N ca:Nat} {va:Value} {m:Mx_} (_hN0:0<N) (hp0:¬ pl R m N=0) {w:World} (hm:Mx w) (ht:Tab w) (hta:TA w (.agg #[.int .u8 (ca:Int),va]) R N m):
    Calls Tryz.prog 6 #[(.agg #[(.int .u8 ((ca:Int))),va])] w fun e w'=>e=.returned (.bool true)∧Gr w w':=by
 have hR5:=hta.R5
 have hN6:=hta.N6
 have hRN:=hta.R0
 have hpl:=rs_len R m N
 have hpn:=rs_ple R m N
 have hnl:nfr R m N N+pl R m N=N:=nfr_len R N m
 have hrk:=hta.rank
 have hzt:∀ k,k≤R→RdZ N R 4899 (rs N (fun i k=>m k i) k):=rs_sm (fun i _ k _=>hta.z k i) (.inl hR5) (Nat.le_refl _)
 go_enter Tryz.func6,Tryz.ntmps6
 have hB:=Gr.refl w
 refine wp_seq_k (fun K10 k10=>?_)
 refine rg [0,1] ?_
 refine se ?_
 refine eb 24 #[(.int .u8 ((ca:Int))),va] 1 hB fun b11 w11 g11 L11 o11 q11 hB=>?_
 simp only [p3,p4]
 refine sv 2 (.bool false) ?_
 refine sq_nil ?_
 refine k10 _ _ ?_
 try clear k10 K10
 refine wp_seq_k (fun K12 k12=>?_)
 refine wp_seq_k (fun K13 k13=>?_)
 refine rg [0,1] ?_
 refine se ?_
 refine ec 23 (l5_known _ (hm.gr hB) (ht.gr hB)) ?_
 rintro e14 w14 ⟨rfl,g14⟩
 refine ⟨_,rfl,?_⟩
 replace hB:=hB.trans g14
 simp only [p3,p4]
 refine sv 24 (.bool false) ?_
 refine sq_nil ?_
 refine k13 _ _ ?_
 try clear k13 K13
 refine wp_cond_false rfl ?_
 refine wp_skip ?_
 refine k12 _ _ ?_
 try clear k12 K12
 refine wp_seq_k (fun K15 k15=>?_)
 refine rg [0,1,2,3] ?_
 replace L11:=L11.gr g14
 refine sw 25 (.agg #[(.int .u8 ((ca:Int))),va]) rfl (rl 24 0 [(.int .u8 ((ca:Int))),va] L11) ?_
 refine se ?_
 refine ec 26 (l5_rowsT (hta.gr hB)) ?_
 rintro e16 w16 ⟨⟨u16,rfl,hs16⟩,g16⟩
 refine ⟨_,rfl,?_⟩
 replace hB:=hB.trans g16
 simp only [p3,p4]
 refine se ?_
 refine ec 27 (l5_own (by omega) (by omega) (fun i _ k _=>(hta.z i k).mono (by omega) (by omega)) (hm.gr hB) hs16) ?_
 rintro e17 w17 ⟨⟨u17,rfl,hs17⟩,g17⟩
 refine ⟨_,rfl,?_⟩
 replace hB:=hB.trans g17
 simp only [p3,p4]
 refine sv 3 u17 ?_
 refine sq_nil ?_
 refine k15 _ _ ?_
 try clear k15 K15
 refine wp_seq_k (fun K18 k18=>?_)
 refine rg [0,1,2,3,4,5,6] ?_
 refine sv 29 u17 ?_
 refine se ?_
 refine ec 30 (mx_Transpose (K:=64) (m:=m) hRN (by omega) (by omega) (by omega) hs17) ?_
 rintro e19 w19 ⟨⟨u19,rfl,hs19⟩,g19⟩
 refine ⟨_,rfl,?_⟩
 replace hB:=hB.trans g19
 simp only [p3,p4]
 refine sv 28 (.tuple #[u19,(.int .i64 0)]) ?_
 refine sv 31 u19 ?_
 refine sv 32 (.int .i64 0) ?_
 refine sv 4 u19 ?_
 refine sv 5 (.int .i64 0) ?_
 refine sq_nil ?_
 refine k18 _ _ ?_
 try clear k18 K18
 refine wp_seq_k (fun K20 k20=>?_)
 refine rg [0,1,2,3,4,5,6] ?_
 refine sv 34 u17 ?_
 refine se ?_
 replace hs17:=hs17.gr (stab_rw (stab_rat 64) 71 4) g19
 refine ec 35 (mx_Rank (K:=4899) (R:=R) (N:=N) (m:=m) hRN (by omega) (by omega) (by omega) (by omega) hta.bd ((hs17.ratrows (by omega)))) ?_
 rintro e21 w21 ⟨rfl,g21⟩
 refine ⟨_,rfl,?_⟩
 replace hB:=hB.trans g21
 simp only [p3,p4]
 refine sv 33 (.tuple #[(.int .i64 (((pl R m N:Nat):Int))),(.int .i64 0)]) ?_
 refine sv 36 (.int .i64 (((pl R m N:Nat):Int))) ?_
 refine sv 37 (.int .i64 0) ?_
 refine sv 6 (.int .i64 (((pl R m N:Nat):Int))) ?_
 refine sv 7 (.int .i64 0) ?_
 refine sq_nil ?_
 refine k20 _ _ ?_
 try clear k20 K20
 refine wp_seq_k (fun K22 k22=>?_)
 refine rg [0,1,2,3,4,5,6] ?_
 refine sv 39 u19 ?_
 refine se ?_
 replace hs19:=hs19.gr (stab_rw (stab_rat 64) 71 4) g21
 refine ec 40 (mx_Rank (K:=4899) (R:=N) (N:=R) (m:=(fun i k=>m k i)) (fun h=>absurd h (by omega)) (by omega) (by omega) (by omega) (by omega) hzt ((hs19.ratrows (by omega)))) ?_
 rintro e23 w23 ⟨rfl,g23⟩
 refine ⟨_,rfl,?_⟩
 replace hB:=hB.trans g23
 simp only [p3,p4]
 refine sv 38 (.tuple #[(.int .i64 (((pl N (fun i k=>m k i) R:Nat):Int))),(.int .i64 0)]) ?_
 refine sv 41 (.int .i64 (((pl N (fun i k=>m k i) R:Nat):Int))) ?_
 refine sv 42 (.int .i64 0) ?_
 refine sv 8 (.int .i64 (((pl N (fun i k=>m k i) R:Nat):Int))) ?_
 refine sv 9 (.int .i64 0) ?_
 refine sq_nil ?_
 refine k22 _ _ ?_
 try clear k22 K22
 refine wp_seq_k (fun K24 k24=>?_)
 refine wp_seq_k (fun K25 k25=>?_)
 refine rg [0,1,2,3,4,5,6,7,8,9,10,11,12,13,14] ?_
 refine sv 43 (.int .i64 0) ?_
 refine sv 44 (.bool false) ?_
 refine sv 45 (.bool false) ?_
 refine sv 46 (.int .i64 0) ?_
 refine sv 47 (.bool false) ?_
 refine sv 48 (.bool false) ?_
 refine sv 49 (.bool false) ?_
 refine sv 50 (.int .i64 0) ?_
 refine sv 51 (.bool false) ?_
 refine sv 52 (.bool false) ?_
 refine sv 53 (.bool false) ?_
 refine sv 54 (.int .i64 (((pl R m N:Nat):Int))) ?_
 refine sv 55 (.int .i64 (((pl N (fun i k=>m k i) R:Nat):Int))) ?_
 have hb26:((((pl R m N:Nat):Int) !=((pl N (fun i k=>m k i) R:Nat):Int)))=false:=(by simp;omega)
 refine sw 56 (.bool false) rfl (RunV.bool (x:=(((pl R m N:Nat):Int) !=((pl N (fun i k=>m k i) R:Nat):Int))) (rvk (by kernel_rfl)) hb26) ?_
 refine sv 57 (.bool false) ?_
 refine sq_nil ?_
 refine k25 _ _ ?_
 try clear k25 K25
 refine wp_cond_false rfl ?_
 refine wp_skip ?_
 refine k24 _ _ ?_
 try clear k24 K24
 refine wp_seq_k (fun K27 k27=>?_)
 refine rg [0,1,2,3] ?_
 replace L11:=L11.gr (g16.trans (g17.trans (g19.trans (g21.trans g23))))
 refine sw 58 (.agg #[(.int .u8 ((ca:Int))),va]) rfl (rl 24 0 [(.int .u8 ((ca:Int))),va] L11) ?_
 refine se ?_
 refine ec 59 (l5_rowsT (hta.gr hB)) ?_
 rintro e28 w28 ⟨⟨u28,rfl,hs28⟩,g28⟩
 refine ⟨_,rfl,?_⟩
 replace hB:=hB.trans g28
 simp only [p3,p4]
 refine se ?_
 refine ec 60 (f5_columns hRN hs28) ?_
 rintro e29 w29 ⟨rfl,g29⟩
 refine ⟨_,rfl,?_⟩
 replace hB:=hB.trans g29
 simp only [p3,p4]
 refine sv 10 (.int .i64 ((N:Int))) ?_
 refine sq_nil ?_
 refine k27 _ _ ?_
 try clear k27 K27
 refine wp_seq_k (fun K30 k30=>?_)
 refine rg [0,1,2,3,4,5,6,7] ?_
 refine sv 62 u17 ?_
 refine sv 63 (.int .i64 ((N:Int))) ?_
 refine se ?_
 replace hs17:=hs17.gr (stab_rw (stab_rat 64) 71 4) (g21.trans (g23.trans (g28.trans g29)))
 refine ec 64 (mx_Kernel (K:=4899) (R:=R) (D:=N) (m:=m) (by omega) (by omega) (by omega) (by omega) hta.bd ((hs17.ratrows (by omega)))) ?_
 rintro e31 w31 ⟨⟨u31,rfl,hs31⟩,g31⟩
 refine ⟨_,rfl,?_⟩
 replace hB:=hB.trans g31
 simp only [p3,p4]
 refine sv 61 (.tuple #[u31,(.int .i64 0)]) ?_
 refine sv 65 u31 ?_
 refine sv 66 (.int .i64 0) ?_
 refine sv 11 u31 ?_
 refine sv 12 (.int .i64 0) ?_
 refine sq_nil ?_
 refine k30 _ _ ?_
 try clear k30 K30
 refine wp_seq_k (fun K32 k32=>?_)
 refine wp_seq_k (fun K33 k33=>?_)
 refine rg [0,1,2,3,4,5,6,7,8,9] ?_
 refine sv 67 (.int .i64 0) ?_
 refine sv 68 (.bool false) ?_
 refine sv 69 (.bool false) ?_
 refine sv 70 u31 ?_
 refine sw 71 (.int .i64 (((nfr R m N N:Nat):Int))) rfl (rv_lenn (e:=49) hs31 (tb_lenz rfl) _ _ rfl rfl (by kernel_rfl)) ?_
 refine sv 72 (.int .i64 (((pl R m N:Nat):Int))) ?_
 refine sw 73 (.int .i64 (((((nfr R m N N:Nat):Int))+(((pl R m N:Nat):Int))))) rfl (RunV.int (x:=IntKind.i64.wrap (((((nfr R m N N:Nat):Int))+(((pl R m N:Nat):Int))))) (y:=((((nfr R m N N:Nat):Int))+(((pl R m N:Nat):Int)))) (rvk (by kernel_rfl)) (by first | rfl | (rw [IntKind.wrap_i64];omega))) ?_
 refine sv 74 (.int .i64 ((N:Int))) ?_
 have hb34:((((((nfr R m N N:Nat):Int))+(((pl R m N:Nat):Int))) !=(N:Int)))=false:=(by simp;omega)
 refine sw 75 (.bool false) rfl (RunV.bool (x:=(((((nfr R m N N:Nat):Int))+(((pl R m N:Nat):Int))) !=(N:Int))) (rvk (by kernel_rfl)) hb34) ?_
 refine sv 76 (.bool false) ?_
 refine sq_nil ?_
 refine k33 _ _ ?_
 try clear k33 K33
 refine wp_cond_false rfl ?_
 refine wp_skip ?_
 refine k32 _ _ ?_
 try clear k32 K32
 refine wp_seq_k (fun K35 k35=>?_)
 refine wp_seq_k (fun K36 k36=>?_)
 have lehD:=Below.size hB
 have hD:=Gr.refl w31
 replace hs16:=hs16.gr (stab_rw stab_fr 84 2) (g17.trans (g19.trans (g21.trans (g23.trans (g28.trans (g29.trans g31))))))
 replace hs17:=hs17.gr (stab_rw (stab_rat 64) 71 4) g31
 replace hs19:=hs19.gr (stab_rw (stab_rat 64) 71 4) (g23.trans (g28.trans (g29.trans g31)))
 replace hs28:=hs28.gr (stab_rw stab_fr 84 2) (g29.trans g31)
 refine rg [0] ?_
 refine sv 13 (.int .i64 0) ?_
 refine sq_nil ?_
 refine k36 _ _ ?_
 try clear k36 K36
 refine wp_block ?_
 refine wp_loop_inv (a:=⟨List.toArray ?l37,[]⟩) (fun n a w'=>∃ (i:Nat) (u37:Nat→Value),(nfr R m N N) - i=n∧a=⟨[(.agg #[(.int .u8 ((ca:Int))),va]),(.pointer (some ⟨b11,0,none⟩)),(u37 2),u17,u19,(.int .i64 0),(.int .i64 (((pl R m N:Nat):Int))),(.int .i64 0),(.int .i64 (((pl N (fun i k=>m k i) R:Nat):Int))),(.int .i64 0),(.int .i64 ((N:Int))),u31,(.int .i64 0),(.int .i64 ((i:Int))),(u37 14),(u37 15),(u37 16),undef,undef,undef,undef,undef,undef,(u37 23),(.bool false),(u37 25),(u37 26),(u37 27),(u37 28),(u37 29),(u37 30),(u37 31),(u37 32),(u37 33),(u37 34),(u37 35),(u37 36),(u37 37),(u37 38),(u37 39),(u37 40),(u37 41),(u37 42),(u37 43),(u37 44),(u37 45),(u37 46),(u37 47),(u37 48),(u37 49),(u37 50),(u37 51),(u37 52),(u37 53),(u37 54),(u37 55),(u37 56),(.bool false),(u37 58),(u37 59),(u37 60),(u37 61),(u37 62),(u37 63),(u37 64),(u37 65),(u37 66),(u37 67),(u37 68),(u37 69),(u37 70),(u37 71),(u37 72),(u37 73),(u37 74),(u37 75),(.bool false),(u37 77),(u37 78),(u37 79),(u37 80),(u37 81),(u37 82),(u37 83),(u37 84),(u37 85),(u37 86),(u37 87),(u37 88),(u37 89),(u37 90),(u37 91),(u37 92),(u37 93),(u37 94),(u37 95),(u37 96),(u37 97),(u37 98),(u37 99),(u37 100),(u37 101),(u37 102),(u37 103),(u37 104),(u37 105),(u37 106),(u37 107),(u37 108),(u37 109),(u37 110),(u37 111),(u37 112),undef,undef,undef,undef,undef,undef,undef,undef,undef,undef,undef,undef,undef,undef,undef,undef,undef,undef,undef,undef,undef,undef,undef,undef,undef,undef,undef,undef,undef].toArray,[]⟩∧i≤(nfr R m N N)∧Gr w31 w'∧Gr w w') ((nfr R m N N) - 0) ?_ ?_
 ·exact ⟨0,(fun i=>List.getD ?l37 i undef),rfl,rfl,(Nat.zero_le _),hD,hB⟩
 rintro n37 a37 w37 ⟨i,u37,rfl,rfl,hki,hD,hB⟩ K37 k37
 refine wp_seq_k (fun K38 k38=>?_)
 refine wp_seq_k (fun K39 k39=>?_)
 refine rg [0,1,2,3] ?_
 refine sv 77 (.int .i64 ((i:Int))) ?_
 refine sv 78 u31 ?_
 refine sw 79 (.int .i64 (((nfr R m N N:Nat):Int))) rfl (rv_lenn (e:=49) hs31 (tb_lenz rfl) _ _ rfl rfl (by kernel_rfl)) ?_
 refine sv 80 (.bool (decide ((i:Int)<((nfr R m N N:Nat):Int)))) ?_
 refine sq_nil ?_
 refine k39 _ _ ?_
 try clear k39 K39
 refine wp_cond_split (t:=decide ((i:Int)<((nfr R m N N:Nat):Int))) rfl (fun hb40=>?_) (fun hb40=>?_)
 ·have hli:i<(nfr R m N N):=by have:=of_decide_eq_true hb40;omega
  refine wp_skip ?_
  refine k38 _ _ ?_
  try clear k38 K38
  refine wp_seq_k (fun K41 k41=>?_)
  refine wp_block ?_
  refine wp_seq_k (fun K42 k42=>?_)
  refine rg [0,1,2,3,4,5,6,7,8,9,10] ?_
  refine sv 84 u17 ?_
  refine sv 85 u31 ?_
  refine sv 86 (.int .i64 ((i:Int))) ?_
  refine sw 87 (adr u31 (i*1)) rfl (rv_idxn (e:=49) hs31 tb_len (by decide) i (by omega) _ _ _ rfl rfl rfl (by kernel_rfl) (by kernel_rfl)) ?_
  obtain ⟨_,_,⟨u43,rfl,hr43⟩,at43⟩:=Sl.get hs31 (by decide) (tb_get (f:=(fun z0=>tb (fun z1=>kv (rs R m N) (frc R m N N z0) z1) N)) (n:=(nfr R m N N)) (i:=i) (by omega))
  refine sw 88 u43 rfl (rv_ld1 u43 (at43.gr hD) _ _ rfl rfl (by kernel_rfl)) ?_
  refine se ?_
  refine ec 89 (mx_Apply (K:=64) (L:=4899) (R:=R) (N:=N) (m:=m) (x:=kv (rs R m N) (frc R m N N i)) (by omega) (by omega) (by omega) (hs17.gr (stab_rw (stab_rat 64) 71 4) hD) (hr43.gr (stab_rat 4899) hD)) ?_
  rintro e44 w44 ⟨⟨u44,rfl,hs44⟩,g44⟩
  refine ⟨_,rfl,?_⟩
  replace hB:=hB.trans g44
  replace hD:=hD.trans g44
  replace hs44:=hs44.cast (show _=tb (fun _=>(0:Rat)) R from tb_congr fun i hi=>kv_zero hta.zb hli hi)
  simp only [p3,p4]
  refine sv 83 (.tuple #[u44,(.int .i64 0)]) ?_
  refine sv 90 u44 ?_
  refine sv 91 (.int .i64 0) ?_
  refine sv 14 u44 ?_
  refine sv 15 (.int .i64 0) ?_
  refine sq_nil ?_
  refine k42 _ _ ?_
  try clear k42 K42
  refine wp_seq_k (fun K45 k45=>?_)
  refine wp_seq_k (fun K46 k46=>?_)
  refine rg [0,1,2,3,4,5,6,7,8] ?_
  refine sv 92 (.int .i64 0) ?_
  refine sv 93 (.bool false) ?_
  refine sv 94 (.bool false) ?_
  refine sv 95 u44 ?_
  refine sw 96 (.int .i64 ((R:Int))) rfl (rv_lenn (e:=71) hs44 (tb_lenz rfl) _ _ rfl rfl (by kernel_rfl)) ?_
  refine sv 97 u17 ?_
  refine sw 98 (.int .i64 ((R:Int))) rfl (rv_lenn (e:=49) hs17 (tb_lenz rfl) _ _ rfl rfl (by kernel_rfl)) ?_
  have hb47:(((R:Int) !=(R:Int)))=false:=(by simp)
  refine sw 99 (.bool false) rfl (RunV.bool (x:=((R:Int) !=(R:Int))) (rvk (by kernel_rfl)) hb47) ?_
  refine sv 100 (.bool false) ?_
  refine sq_nil ?_
  refine k46 _ _ ?_
  try clear k46 K46
  refine wp_cond_false rfl ?_
  refine wp_skip ?_
  refine k45 _ _ ?_
  try clear k45 K45
  refine wp_seq_k (fun K48 k48=>?_)
  have lehE:=Below.size hB
  have lehE_hD:=Below.size hD
  have hE:=Gr.refl w44
  refine rg [0] ?_
  refine sv 16 (.int .i64 0) ?_
  refine sq_nil ?_
  refine k48 _ _ ?_
  try clear k48 K48
  refine wp_block ?_
  refine wp_loop_inv (a:=⟨List.toArray ?l49,[]⟩) (fun n a w'=>∃ (k:Nat) (u49:Nat→Value),R - k=n∧a=⟨[(.agg #[(.int .u8 ((ca:Int))),va]),(.pointer (some ⟨b11,0,none⟩)),(u49 2),u17,u19,(.int .i64 0),(.int .i64 (((pl R m N:Nat):Int))),(.int .i64 0),(.int .i64 (((pl N (fun i k=>m k i) R:Nat):Int))),(.int .i64 0),(.int .i64 ((N:Int))),u31,(.int .i64 0),(.int .i64 ((i:Int))),u44,(.int .i64 0),(.int .i64 ((k:Int))),undef,undef,undef,undef,undef,undef,(u49 23),(.bool false),(u49 25),(u49 26),(u49 27),(u49 28),(u49 29),(u49 30),(u49 31),(u49 32),(u49 33),(u49 34),(u49 35),(u49 36),(u49 37),(u49 38),(u49 39),(u49 40),(u49 41),(u49 42),(u49 43),(u49 44),(u49 45),(u49 46),(u49 47),(u49 48),(u49 49),(u49 50),(u49 51),(u49 52),(u49 53),(u49 54),(u49 55),(u49 56),(.bool false),(u49 58),(u49 59),(u49 60),(u49 61),(u49 62),(u49 63),(u49 64),(u49 65),(u49 66),(u49 67),(u49 68),(u49 69),(u49 70),(u49 71),(u49 72),(u49 73),(u49 74),(u49 75),(.bool false),(u49 77),(u49 78),(u49 79),(.bool (decide ((i:Int)<((nfr R m N N:Nat):Int)))),(u49 81),(u49 82),(u49 83),(u49 84),(u49 85),(u49 86),(u49 87),(u49 88),(u49 89),(u49 90),(u49 91),(u49 92),(u49 93),(u49 94),(u49 95),(u49 96),(u49 97),(u49 98),(u49 99),(.bool false),(u49 101),(u49 102),(u49 103),(u49 104),(u49 105),(u49 106),(u49 107),(u49 108),(u49 109),(u49 110),(u49 111),(u49 112),undef,undef,undef,undef,undef,undef,undef,undef,undef,undef,undef,undef,undef,undef,undef,undef,undef,undef,undef,undef,undef,undef,undef,undef,undef,undef,undef,undef,undef].toArray,[]⟩∧k≤R∧Gr w31 w'∧Gr w44 w'∧Gr w w') (R - 0) ?_ ?_
  ·exact ⟨0,(fun i=>List.getD ?l49 i undef),rfl,rfl,(Nat.zero_le _),hD,hE,hB⟩
  rintro n49 a49 w49 ⟨k,u49,rfl,rfl,hkk,hD,hE,hB⟩ K49 k49
  refine wp_seq_k (fun K50 k50=>?_)
  refine wp_seq_k (fun K51 k51=>?_)
  refine rg [0,1,2,3] ?_
  refine sv 101 (.int .i64 ((k:Int))) ?_
  refine sv 102 u44 ?_
  refine sw 103 (.int .i64 ((R:Int))) rfl (rv_lenn (e:=71) hs44 (tb_lenz rfl) _ _ rfl rfl (by kernel_rfl)) ?_
  refine sv 104 (.bool (decide ((k:Int)<(R:Int)))) ?_
  refine sq_nil ?_
  refine k51 _ _ ?_
  try clear k51 K51
  refine wp_cond_split (t:=decide ((k:Int)<(R:Int))) rfl (fun hb52=>?_) (fun hb52=>?_)
  ·have hlk:k<R:=by have:=of_decide_eq_true hb52;omega
   refine wp_skip ?_
   refine k50 _ _ ?_
   try clear k50 K50
   refine wp_seq_k (fun K53 k53=>?_)
   refine wp_block ?_
   refine wp_seq_k (fun K54 k54=>?_)
   refine rg [0,1,2,3,4,5] ?_
   refine sv 107 u44 ?_
   refine sv 108 (.int .i64 ((k:Int))) ?_
   refine sw 109 (adr u44 (k*4)) rfl (rv_idxn (e:=71) hs44 tb_len (by decide) k (by omega) _ _ _ rfl rfl rfl (by kernel_rfl) (by kernel_rfl)) ?_
   obtain ⟨_,_,⟨cA55,cB55,cC55,cD55,rfl,h55⟩,at55⟩:=Sl.get hs44 (by decide) (tb_get (f:=(fun z1=>(0:Rat))) (n:=R) (i:=k) (by omega))
   refine sw 110 (.agg #[cA55,cB55,cC55,cD55]) rfl (rv_ldn [cA55,cB55,cC55,cD55] (at55.gr hE) _ _ rfl rfl (by kernel_rfl)) ?_
   refine se ?_
   refine ec 111 (sign_r (h55.kp hE.kp)) ?_
   rintro e56 w56 ⟨rfl,g56⟩
   refine ⟨_,rfl,?_⟩
   replace hB:=hB.trans g56
   replace hD:=hD.trans g56
   replace hE:=hE.trans g56
   simp only [p3,p4]
   have hb57:((sgn ((0:Rat)).num !=(0:Int)))=false:=(by decide)
   refine sw 112 (.bool false) rfl (RunV.bool (x:=(sgn ((0:Rat)).num !=(0:Int))) (rvk (by kernel_rfl)) hb57) ?_
   refine sq_nil ?_
   refine k54 _ _ ?_
   try clear k54 K54
   refine wp_cond_false rfl ?_
   refine wp_skip ?_
   refine k53 _ _ ?_
   try clear k53 K53
   refine rg [0,1,2] ?_
   refine sv 105 (.int .i64 ((k:Int))) ?_
   refine sw 106 (.int .i64 (((k:Int)+1))) rfl (RunV.int (x:=IntKind.i64.wrap (((k:Int)+1))) (y:=((k:Int)+1)) (rvk (by kernel_rfl)) (by first | rfl | (rw [IntKind.wrap_i64];omega))) ?_
   refine sv 16 (.int .i64 (((k:Int)+1))) ?_
   refine sq_nil ?_
   refine k49 (R - (k+1)) ⟨List.toArray ?l58,[]⟩ _ (by omega) ?_
   exact ⟨k+1,(fun i=>List.getD ?l58 i undef),rfl,rfl,(by omega),hD,hE,hB⟩
  ·have hek:R=k:=by have:=of_decide_eq_false hb52;omega
   subst hek
   refine wp_exit ?_
   simp only [Exit.then,Exit.inBlock,↓reduceIte]
   refine k41 _ _ ?_
   try clear k41 K41
   refine rg [0,1,2] ?_
   refine sv 81 (.int .i64 ((i:Int))) ?_
   refine sw 82 (.int .i64 (((i:Int)+1))) rfl (RunV.int (x:=IntKind.i64.wrap (((i:Int)+1))) (y:=((i:Int)+1)) (rvk (by kernel_rfl)) (by first | rfl | (rw [IntKind.wrap_i64];omega))) ?_
   refine sv 13 (.int .i64 (((i:Int)+1))) ?_
   refine sq_nil ?_
   refine k37 ((nfr R m N N) - (i+1)) ⟨List.toArray ?l59,[]⟩ _ (by omega) ?_
   exact ⟨i+1,(fun i=>List.getD ?l59 i undef),rfl,rfl,(by omega),hD,hB⟩
 ·have hei:(nfr R m N N)=i:=by have:=of_decide_eq_false hb40;omega
  subst hei
  refine wp_exit ?_
  simp only [Exit.then,Exit.inBlock,↓reduceIte]
  refine k35 _ _ ?_
  try clear k35 K35
  refine wp_seq_k (fun K60 k60=>?_)
  refine rg [0,1,2,3,4,5,6,7,8] ?_
  refine sv 114 u17 ?_
  refine se ?_
  refine ec 115 (mx_Reduce (K:=4899) (R:=R) (N:=N) (m:=m) hRN (by omega) (by omega) (by omega) (by omega) hta.bd ((hs17.gr (stab_rw (stab_rat 64) 71 4) hD).ratrows (by omega))) ?_
  rintro e61 w61 ⟨⟨u61,v61,rfl,hs61,hp61⟩,g61⟩
  refine ⟨_,rfl,?_⟩
  replace hB:=hB.trans g61
  replace hD:=hD.trans g61
  simp only [p3,p4]
  refine sv 113 (.tuple #[u61,v61,(.int .i64 0)]) ?_
  refine sv 116 u61 ?_
  refine sv 117 v61 ?_
  refine sv 118 (.int .i64 0) ?_
  refine sv 17 u61 ?_
  refine sv 18 v61 ?_
  refine sv 19 (.int .i64 0) ?_
  refine sq_nil ?_
  refine k60 _ _ ?_
  try clear k60 K60
  refine wp_seq_k (fun K62 k62=>?_)
  refine rg [0,1,2,3,4,5,6,7,8] ?_
  refine sv 120 u61 ?_
  refine se ?_
  refine ec 121 (mx_Reduce (K:=4899) (R:=(pl R m N)) (N:=N) (m:=(rs R m N).m) (fun h=>absurd h hp0) (by omega) (by omega) (by omega) (by omega) (twice_z (hta.bd N (Nat.le_refl _)) (by decide)) (hs61.ratrows (by omega))) ?_
  rintro e63 w63 ⟨⟨u63,v63,rfl,hs63,hp63⟩,g63⟩
  refine ⟨_,rfl,?_⟩
  replace hB:=hB.trans g63
  replace hD:=hD.trans g63
  replace hs63:=hs63.cast twice_tb
  simp only [p3,p4]
  refine sv 119 (.tuple #[u63,v63,(.int .i64 0)]) ?_
  refine sv 122 u63 ?_
  refine sv 123 v63 ?_
  refine sv 124 (.int .i64 0) ?_
  refine sv 20 u63 ?_
  refine sv 21 v63 ?_
  refine sv 22 (.int .i64 0) ?_
  refine sq_nil ?_
  refine k62 _ _ ?_
  try clear k62 K62
  refine wp_seq_k (fun K64 k64=>?_)
  refine rg [0,1,2,3,4,5,6,7,8,9,10,11,12,13,14,15,16,17] ?_
  refine sv 125 (.int .i64 0) ?_
  refine sv 126 (.bool true) ?_
  refine sv 127 (.bool true) ?_
  refine sv 128 (.int .i64 0) ?_
  refine sv 129 (.bool true) ?_
  refine sv 130 (.bool true) ?_
  refine sv 131 (.bool true) ?_
  refine sv 132 u61 ?_
  refine sv 133 u63 ?_
  refine se ?_
  replace hs61:=hs61.gr (stab_rw (stab_rat 4899) 71 4) g63
  refine ec 134 (mx_Equal (by omega) (by omega) (by omega) hs61 hs63) ?_
  rintro e65 w65 ⟨rfl,g65⟩
  refine ⟨_,rfl,?_⟩
  replace hB:=hB.trans g65
  replace hD:=hD.trans g65
  simp only [p3,p4]
  refine sv 135 (.bool true) ?_
  refine sv 136 (.bool true) ?_
  refine sv 137 u61 ?_
  refine sw 138 (.int .i64 (((pl R m N:Nat):Int))) rfl (rv_lenn (e:=49) hs61 (tb_lenz rfl) _ _ rfl rfl (by kernel_rfl)) ?_
  refine sv 139 (.int .i64 (((pl R m N:Nat):Int))) ?_
  have hb66:((((pl R m N:Nat):Int)==((pl R m N:Nat):Int)))=true:=(by simp)
  refine sw 140 (.bool true) rfl (RunV.bool (x:=(((pl R m N:Nat):Int)==((pl R m N:Nat):Int))) (rvk (by kernel_rfl)) hb66) ?_
  refine sv 141 (.bool true) ?_
  refine sv 2 (.bool true) ?_
  refine sq_nil ?_
  refine k64 _ _ ?_
  try clear k64 K64
  refine wp_ret ?_
  refine bodyPost_ret (v:=(.bool true)) (ret_tmp rfl rfl) rfl ⟨?_,hB⟩
  exact rfl

theorem matrix_ranks {R N:Nat} {xa:Value} {m:Mx_} {w:World} (hta:TA w xa R N m) (W:World) (hW:W=w) (ht:Tab W) (hm:Mx W):Calls Tryz.prog 6 #[xa] W fun e w'=>e=.returned (.bool true)∧Gr W w':=by
  subst hW
  obtain ⟨_,_,ca,va,_,_,rfl,_⟩:=id hta
  rcases Nat.eq_zero_or_pos N with rfl | hN0
  · exact mk_0 (by have:=rs_ple R m 0;omega) hm ht hta
  · by_cases hp0:pl R m N=0
    · exact mk_z hN0 hp0 hm ht hta
    · exact mk_p hN0 hp0 hm ht hta
end Go.Proofs.YtepgkcimmdmgcaaGreatDoor
namespace Go.Proofs.YtepgkcimmdmgcaaGreatDoor
open Go.ChangeShapes Go.WideShapes Go.ChangeAt Go.RowKit

theorem matrixRanks_table {W : World} (h : laidMetH Tryz.prog Rows.matrixRanksRow.laid W) : Tab W :=
  Lib.tabIs_of_head (rest := _) (g := 1) (t := 236) (e := 152) (n := 20) (by kernel_rfl) (by kernel_rfl) (by kernel_rfl) (by kernel_rfl) (by kernel_rfl) (by kernel_rfl) ((show laidMet Tryz.prog Rows.matrixRanksRow.laid W from (MakeChecks.laidMetH_plain _ _ _ (by kernel_rfl)) ▸ h).tail.tail)
theorem matrixRanks_maxlen {W : World} (h : W.ShapedOpen Tryz.prog) : Mx W :=
  Go.Proofs.cell_of_shapedOpen_int (zero := #[.int .i64 0]) (g := 0) (t := 3) h (of_decide_eq_true (by kernel_rfl)) (by kernel_rfl) rfl (by kernel_rfl) (by kernel_rfl) Tryz.underlying3
set_option maxRecDepth 100000 in
theorem matrixRanks_contract (H : Type) (enc : TypeId × Value → H) (W : World) (base : Nat) (args : Array Value) (ds gs : List (DataW H)) (before : List MemPlace)
    (hval : ∀ (j : Nat) t v, Tryz.f6.params[j]? = some t → args[j]? = some v → Value.okWide Tryz.prog W .any base t v)
    (hW : DataW.Whole enc Tryz.prog Tryz.f6.params.toList Rows.matrixRanksSpec.vars false W args.toList ds gs before) (hL : laidMetH Tryz.prog Rows.matrixRanksRow.laid W) (hsh : W.ShapedOpen Tryz.prog) :
    Calls Tryz.prog 6 args W fun e W' => ∃ v, e = .returned v ∧ Rows.matrixRanksSpec.post enc Tryz.prog Tryz.f6 false true false false W args v W' := by
  have hW' := hW
  obtain ⟨p, q, hA0, hV, rfl, hfz, hnd⟩ := hW
  have hA : DataW.TrodAll enc Tryz.prog W 0 (fun _ => true) true Tryz.f6.params.toList args.toList ds p := hA0
  rw [Tryz.params6] at hA hval
  obtain ⟨v0, vs0, d0, ds0, p0, q0, hargs, rfl, rfl, h0, r0⟩ := trodAll_cons hA
  obtain ⟨rfl, rfl, rfl⟩ := trodAll_nil r0
  obtain rfl : args = #[v0] := by cases args; simp_all
  obtain ⟨rfl, rfl⟩ := trodVars_none hV
  obtain ⟨z0, u0, T0, Xs0, rfl, bz0, sl0⟩ := open_tabk (E := ESl (EK [.i8, .u8]) 2) (k := .u8) (e := 45) (c := 1) (by kernel_rfl) (by kernel_rfl) (by decide) (fun _ _ _ _ hx => trod_esl (e := 114) (by kernel_rfl) (by kernel_rfl) (by decide) (trod_ek 5 (ks := [.i8, .u8]) (by kernel_rfl)) hx) (hval 0 24 v0 rfl rfl) h0
  obtain ⟨R0, N0, m0, ta0⟩ := ta_of sl0 (has_u8 bz0)
  refine ((fun _ => matrix_ranks ta0 _ rfl)  W (matrixRanks_table hL) (matrixRanks_maxlen hsh)).mono fun e W' ⟨he, hg⟩ => ?_
  subst he
  exact ⟨_, rfl, law_post (tb := 4) laidOut (by kernel_rfl) (by kernel_rfl) (by kernel_rfl) rfl hW' rfl hg⟩
noncomputable def matrixRanks_world (os : Os) : World := World.laidAll Tryz.prog os Rows.matrixRanksRow.laid
theorem matrixRanks_met (os : Os) : laidMet Tryz.prog Rows.matrixRanksRow.laid ((matrixRanks_world os).forCall (fun _ _ => 0) ⟨#[], #[.agg #[.int .u8 0, .slice none 0 0]], []⟩).memory :=
  laidMet_laidAll _ (by kernel_rfl) (by kernel_rfl)
theorem matrixRanks_reads (os : Os) {H : Type} (enc : TypeId × Value → H) : ∃ places, DataW.whole enc Tryz.prog ((matrixRanks_world os).forCall (fun _ _ => 0) ⟨#[], #[.agg #[.int .u8 0, .slice none 0 0]], []⟩).memory Tryz.f6.params.toList Rows.matrixRanksSpec.vars false (#[.agg #[.int .u8 0, .slice none 0 0]] : Array Value).toList 8 = some ([.agg [.lit (.int .u8 0), .nil]], [], places) :=
  ⟨[], by kernel_rfl⟩
set_option maxRecDepth 100000 in
theorem matrixRanks_lifted (os : Os) (started : os.Started) (H : Type) (enc : TypeId × Value → H) (F : Stop.Interp) :
    ReturnsInHanded {} Tryz.checked os 6 .any ((OpenSpec.ofChange Rows.matrixRanksSpec).preRow enc Tryz.prog Tryz.f6 Rows.matrixRanksRow.domain false Rows.matrixRanksRow.laid) (((OpenSpec.ofChange Rows.matrixRanksSpec).at F).post enc Tryz.prog Tryz.f6 false true false false) := by
  obtain ⟨places, hx⟩ := matrixRanks_reads os enc
  refine returnsInHanded_of_row (C := Tryz.checked) (s := OpenSpec.ofChange Rows.matrixRanksSpec) own started (by kernel_rfl) Tryz.func6
    (witness_row_sh (enc := enc) (C := Tryz.checked) false (matrixRanks_world os) #[.agg #[.int .u8 0, .slice none 0 0]] (World.laidAll_os _ _ _) (World.shaped_of_ZipB (by kernel_rfl) (by kernel_rfl)) (by kernel_rfl)
      (OpenSpec.preRow_of_cond 8 hx (by kernel_rfl) (fun k hk => by cases hk) (by kernel_rfl) (by rw [MakeChecks.laidMetH_plain _ _ _ (by kernel_rfl)]; exact matrixRanks_met os))) ?_
  intro W base args ds gs before hval hW _ _ _ hL hsh _
  exact matrixRanks_contract H enc W base args ds gs before hval hW hL hsh
theorem matrixRanks_said : Rows.MatrixRanksSaid :=
  OpenClaim.holds_of_cond 6 Tryz.f6 rfl rfl rfl rfl rfl rfl rfl ⟨rfl, rfl, rfl, rfl, rfl⟩ rfl rfl rfl rfl rfl (by kernel_rfl) Tryz.func6 (by kernel_rfl)
    (of_decide_eq_true (by kernel_rfl)) (by unfold Func.isWrapper; first | (rw [if_pos (by decide +kernel)]; kernel_rfl) | (rw [if_neg (by decide +kernel)]; exact ⟨rfl, rfl⟩))
    (fun os started H enc _ F => by rw [OpenClaim.pre_eq_preRow]; exact matrixRanks_lifted os started H enc F)
theorem matrixRanks_plain (f : FuncId) (fn : Func) (hf : Tryz.pinned.checked.prog.funcNamed "dowel/dowellaw05.MatrixRanks" = some f) (hfn : Tryz.pinned.checked.prog.funcs[f]? = some fn) :
    true = Tryz.pinned.checked.prog.looks [] ∧ ∀ (j : Nat) t, fn.params[j]? = some t → Tryz.pinned.checked.prog.wantsStandIn t = false := by
  obtain rfl : f = 6 := Option.some.inj ((show Tryz.prog.funcNamed "dowel/dowellaw05.MatrixRanks" = some 6 by kernel_rfl).symm.trans hf) |>.symm
  obtain rfl : fn = Tryz.f6 := (Option.some.inj (Tryz.func6.symm.trans hfn)).symm
  refine ⟨by kernel_rfl, fun j t ht => ?_⟩
  rw [Tryz.params6] at ht
  have hm := Array.mem_of_getElem? ht
  have hall : (#[24] : Array TypeId).toList.all (fun t => !Tryz.prog.wantsStandIn t) = true := by kernel_rfl
  have := List.all_eq_true.1 hall t (Array.mem_toList_iff.2 hm)
  have h3 : Tryz.prog.wantsStandIn t = false := by simpa using this
  exact h3
/-- the card -/
theorem matrixRanks_card : Rows.MatrixRanksCardSaid :=
  Claim7.holds_tied_plain_at .later [] _ _ _ _ matrixRanks_said (fun _ h => by cases h) (by kernel_rfl) (fun _ h => by cases h) matrixRanks_row_tie rfl ⟨rfl, rfl⟩ (by kernel_rfl) rfl matrixRanks_plain (by kernel_rfl)
end Go.Proofs.YtepgkcimmdmgcaaGreatDoor
