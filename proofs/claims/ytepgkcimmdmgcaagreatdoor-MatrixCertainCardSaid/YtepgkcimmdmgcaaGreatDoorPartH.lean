/- Joined of: Gen189, RowMatrixCertain. -/
import Derived.Test.YtepgkcimmdmgcaaGreatDoorPartG
import Derived.Test.YtepgkcimmdmgcaaGreatDoorCards
import Derived.Test.YtepgkcimmdmgcaaGreatDoorTie
import Derived.Test.YtepgkcimmdmgcaaGreatDoorPartA
import Derived.Test.YtepgkcimmdmgcaaGreatDoorPartB
namespace Go.Proofs.YtepgkcimmdmgcaaGreatDoor
open Go.RowKit

set_option maxRecDepth 100000 in
set_option maxHeartbeats 1000000 in
theorem mc_all {R N TT Z ca:Nat} {va ve:Value} {ee:Nat→Int × Int} {m:Mx_} {w:World} (hm:Mx w) (ht:Tab w) (hse:Sl EEn TT 2 w ve (tb (fun z1=>(ee z1)) Z)) (hta:TA w (.agg #[.int .u8 (ca:Int),va]) R N m):
    Calls Tryz.prog 10 #[(.agg #[(.int .u8 ((ca:Int))),va]),ve] w fun e w'=>e=.returned (.bool true)∧Gr w w':=by
 have hR5:=hta.R5
 have hN6:=hta.N6
 have hRN:=hta.R0
 have hfb:∀ t,pl R (wth N m (fun i=>sm N fun k=>m i k*en ee Z k)) N≤t→t<R→(rs R (wth N m (fun i=>sm N fun k=>m i k*en ee Z k)) N).m t N=0:=fit_wth (x:=en ee Z) fun i _=>rfl
 have hfr:∀ t,pl N (wth R (fun z7 z8=>m z8 z7) (fun k=>sm R fun j=>m j k*en ee Z j)) R≤t→t<N→(rs N (wth R (fun z7 z8=>m z8 z7) (fun k=>sm R fun j=>m j k*en ee Z j)) R).m t R=0:=fit_wth (x:=en ee Z) fun i _=>rfl
 have hbz:∀ i,RZ 139 37 ((fun i=>sm N fun k=>m i k*en ee Z k) i):=fun i=>(rz_sm (n:=N) (fun k _=>hta.z i k) (fun k _=>en_zs hse k)).mono (by omega) (by omega)
 have hrz:∀ i,RZ 139 37 ((fun k=>sm R fun j=>m j k*en ee Z j) i):=fun i=>(rz_sm (n:=R) (fun k _=>hta.z k i) (fun k _=>en_zs hse k)).mono (by omega) (by omega)
 have hzb:∀ k,k≤N→RdZ R (N+1) 6100 (rs R (wth N m (fun i=>sm N fun k=>m i k*en ee Z k)) k):=rs_all (P:=5) ⟨8,3,139,37,1⟩ (fun i _ k hk=>by rw [wth_in hk];exact hta.z i k) (fun i _ k h1 h2=>by rw [show k=N by omega,wth_at];exact hbz i) (Nat.le_refl _) (.inr hR5) (by decide)
 have hzr:∀ k,k≤R→RdZ N (R+1) 6100 (rs N (wth R (fun z7 z8=>m z8 z7) (fun k=>sm R fun j=>m j k*en ee Z j)) k):=rs_all (P:=5) ⟨8,3,139,37,1⟩ (fun i _ k hk=>by rw [wth_in hk];exact hta.z k i) (fun i _ k h1 h2=>by rw [show k=R by omega,wth_at];exact hrz i) (Nat.le_refl _) (.inl hR5) (by decide)
 go_enter Tryz.func10,Tryz.ntmps10
 have hB:=Gr.refl w
 refine wp_seq_k (fun K10 k10=>?_)
 refine rg [0,1] ?_
 refine se ?_
 refine eb 24 #[(.int .u8 ((ca:Int))),va] 2 hB fun b11 w11 g11 L11 o11 q11 hB=>?_
 simp only [p3,p4]
 refine sv 4 (.bool false) ?_
 refine sq_nil ?_
 refine k10 _ _ ?_
 try clear k10 K10
 refine wp_seq_k (fun K12 k12=>?_)
 refine wp_seq_k (fun K13 k13=>?_)
 refine rg [0,1,2,3,4,5,6] ?_
 refine se ?_
 refine ec 23 (l5_known _ (hm.gr hB) (ht.gr hB)) ?_
 rintro e14 w14 ⟨rfl,g14⟩
 refine ⟨_,rfl,?_⟩
 replace hB:=hB.trans g14
 simp only [p3,p4]
 refine sv 24 (.bool false) ?_
 refine sv 25 (.bool false) ?_
 refine sv 26 ve ?_
 refine sw 27 (.int .i64 ((Z:Int))) rfl (rv_lenn (e:=114) hse (tb_lenz rfl) _ _ rfl rfl (by kernel_rfl)) ?_
 refine sv 28 (.bool (decide ((10:Int)<(Z:Int)))) ?_
 refine sv 29 (.bool (decide ((10:Int)<(Z:Int)))) ?_
 refine sq_nil ?_
 refine k13 _ _ ?_
 try clear k13 K13
 refine wp_cond_split (t:=decide ((10:Int)<(Z:Int))) rfl (fun hb15=>?_) (fun hb15=>?_)
 ·have hq16:((10:Int)<(Z:Int)):=of_decide_eq_true hb15
  refine wp_seq_k (fun K17 k17=>?_)
  refine rg [0,1] ?_
  refine se ?_
  refine ec 30 (l5_known _ (hm.gr hB) (ht.gr hB)) ?_
  rintro e18 w18 ⟨rfl,g18⟩
  refine ⟨_,rfl,?_⟩
  replace hB:=hB.trans g18
  simp only [p3,p4]
  refine sv 4 (.bool true) ?_
  refine sq_nil ?_
  refine k17 _ _ ?_
  try clear k17 K17
  refine wp_ret ?_
  simp only [Exit.then]
  refine bodyPost_ret (v:=(.bool true)) (ret_tmp rfl rfl) rfl ⟨?_,hB⟩
  exact rfl
 ·have hq19:¬ ((10:Int)<(Z:Int)):=of_decide_eq_false hb15
  refine wp_skip ?_
  refine k12 _ _ ?_
  try clear k12 K12
  refine wp_seq_k (fun K20 k20=>?_)
  refine rg [0,1,2,3] ?_
  replace L11:=L11.gr g14
  refine sw 31 (.agg #[(.int .u8 ((ca:Int))),va]) rfl (rl 24 0 [(.int .u8 ((ca:Int))),va] L11) ?_
  refine se ?_
  refine ec 32 (l5_rowsT (hta.gr hB)) ?_
  rintro e21 w21 ⟨⟨u21,rfl,hs21⟩,g21⟩
  refine ⟨_,rfl,?_⟩
  replace hB:=hB.trans g21
  simp only [p3,p4]
  refine se ?_
  refine ec 33 (l5_own (by omega) (by omega) (fun i _ k _=>(hta.z i k).mono (by omega) (by omega)) (hm.gr hB) hs21) ?_
  rintro e22 w22 ⟨⟨u22,rfl,hs22⟩,g22⟩
  refine ⟨_,rfl,?_⟩
  replace hB:=hB.trans g22
  simp only [p3,p4]
  refine sv 5 u22 ?_
  refine sq_nil ?_
  refine k20 _ _ ?_
  try clear k20 K20
  refine wp_seq_k (fun K23 k23=>?_)
  refine rg [0,1,2,3] ?_
  replace L11:=L11.gr (g21.trans g22)
  refine sw 34 (.agg #[(.int .u8 ((ca:Int))),va]) rfl (rl 24 0 [(.int .u8 ((ca:Int))),va] L11) ?_
  refine se ?_
  refine ec 35 (l5_rowsT (hta.gr hB)) ?_
  rintro e24 w24 ⟨⟨u24,rfl,hs24⟩,g24⟩
  refine ⟨_,rfl,?_⟩
  replace hB:=hB.trans g24
  simp only [p3,p4]
  refine se ?_
  refine ec 36 (f5_columns hRN hs24) ?_
  rintro e25 w25 ⟨rfl,g25⟩
  refine ⟨_,rfl,?_⟩
  replace hB:=hB.trans g25
  simp only [p3,p4]
  refine sv 6 (.int .i64 ((N:Int))) ?_
  refine sq_nil ?_
  refine k23 _ _ ?_
  try clear k23 K23
  refine wp_seq_k (fun K26 k26=>?_)
  refine rg [0,1,2,3,4] ?_
  refine sv 37 ve ?_
  refine sv 38 (.int .i64 ((N:Int))) ?_
  refine se ?_
  refine ec 39 (l5_line N (by omega) (hse.gr stab_en hB)) ?_
  rintro e27 w27 ⟨⟨u27,rfl,hs27⟩,g27⟩
  refine ⟨_,rfl,?_⟩
  replace hB:=hB.trans g27
  simp only [p3,p4]
  refine se ?_
  refine ec 40 (l5_list (by omega) (fun j _=>(en_zs hse j).mono (by omega) (by omega)) (hm.gr hB) hs27) ?_
  rintro e28 w28 ⟨⟨u28,rfl,hs28⟩,g28⟩
  refine ⟨_,rfl,?_⟩
  replace hB:=hB.trans g28
  simp only [p3,p4]
  refine sv 7 u28 ?_
  refine sq_nil ?_
  refine k26 _ _ ?_
  try clear k26 K26
  refine wp_seq_k (fun K29 k29=>?_)
  refine rg [0,1,2,3,4,5,6,7] ?_
  refine sv 42 u22 ?_
  refine sv 43 u28 ?_
  refine se ?_
  replace hs22:=hs22.gr (stab_rw (stab_rat 64) 71 4) (g24.trans (g25.trans (g27.trans g28)))
  refine ec 44 (mx_Apply (K:=64) (L:=64) (R:=R) (N:=N) (m:=m) (x:=en ee Z) (by omega) (by omega) (by omega) hs22 hs28) ?_
  rintro e30 w30 ⟨⟨u30,rfl,hs30⟩,g30⟩
  refine ⟨_,rfl,?_⟩
  replace hB:=hB.trans g30
  simp only [p3,p4]
  refine sv 41 (.tuple #[u30,(.int .i64 0)]) ?_
  refine sv 45 u30 ?_
  refine sv 46 (.int .i64 0) ?_
  refine sv 8 u30 ?_
  refine sv 9 (.int .i64 0) ?_
  refine sq_nil ?_
  refine k29 _ _ ?_
  try clear k29 K29
  refine wp_seq_k (fun K31 k31=>?_)
  refine rg [0,1,2,3,4,5,6,7] ?_
  refine sv 48 u22 ?_
  refine sv 49 u30 ?_
  refine se ?_
  replace hs22:=hs22.gr (stab_rw (stab_rat 64) 71 4) g30
  refine ec 50 (mx_Solve_y (K:=6100) (R:=R) (N:=N) (m:=m) (b:=(fun i=>sm N fun k=>m i k*en ee Z k)) hRN (by omega) (by omega) (by omega) (by omega) hzb hfb (hs22.ratrows (by omega)) (hs30.rats (by omega))) ?_
  rintro e32 w32 ⟨⟨u32,rfl,hs32⟩,g32⟩
  refine ⟨_,rfl,?_⟩
  replace hB:=hB.trans g32
  simp only [p3,p4]
  refine sv 47 (.tuple #[u32,(.int .i64 0)]) ?_
  refine sv 51 u32 ?_
  refine sv 52 (.int .i64 0) ?_
  refine sv 10 u32 ?_
  refine sv 11 (.int .i64 0) ?_
  refine sq_nil ?_
  refine k31 _ _ ?_
  try clear k31 K31
  refine wp_seq_k (fun K33 k33=>?_)
  refine wp_seq_k (fun K34 k34=>?_)
  refine rg [0,1,2,3,4,5,6,7,8,9,10,11] ?_
  refine sv 53 (.int .i64 0) ?_
  refine sv 54 (.bool false) ?_
  refine sv 55 (.bool false) ?_
  refine sv 56 (.int .i64 0) ?_
  refine sv 57 (.bool false) ?_
  refine sv 58 (.bool false) ?_
  refine sv 59 (.bool false) ?_
  refine sv 60 u32 ?_
  refine sw 61 (.int .i64 ((N:Int))) rfl (rv_lenn (e:=71) hs32 (tb_lenz rfl) _ _ rfl rfl (by kernel_rfl)) ?_
  refine sv 62 (.int .i64 ((N:Int))) ?_
  have hb35:(((N:Int) !=(N:Int)))=false:=(by simp)
  refine sw 63 (.bool false) rfl (RunV.bool (x:=((N:Int) !=(N:Int))) (rvk (by kernel_rfl)) hb35) ?_
  refine sv 64 (.bool false) ?_
  refine sq_nil ?_
  refine k34 _ _ ?_
  try clear k34 K34
  refine wp_cond_false rfl ?_
  refine wp_skip ?_
  refine k33 _ _ ?_
  try clear k33 K33
  refine wp_seq_k (fun K36 k36=>?_)
  refine rg [0,1,2,3,4,5,6,7] ?_
  refine sv 66 u22 ?_
  refine sv 67 u32 ?_
  refine se ?_
  replace hs22:=hs22.gr (stab_rw (stab_rat 64) 71 4) g32
  refine ec 68 (mx_Apply (K:=64) (L:=6100) (R:=R) (N:=N) (m:=m) (x:=fun k=>(sol (rs R (wth N m (fun i=>sm N fun k=>m i k*en ee Z k)) N) N k)) (by omega) (by omega) (by omega) hs22 hs32) ?_
  rintro e37 w37 ⟨⟨u37,rfl,hs37⟩,g37⟩
  refine ⟨_,rfl,?_⟩
  replace hB:=hB.trans g37
  replace hs37:=hs37.cast (show _=tb (fun z1=>sm N fun k=>m z1 k*en ee Z k) R from tb_congr fun i hi=>sol_wth hfb i hi)
  simp only [p3,p4]
  refine sv 65 (.tuple #[u37,(.int .i64 0)]) ?_
  refine sv 69 u37 ?_
  refine sv 70 (.int .i64 0) ?_
  refine sv 12 u37 ?_
  refine sv 13 (.int .i64 0) ?_
  refine sq_nil ?_
  refine k36 _ _ ?_
  try clear k36 K36
  refine wp_seq_k (fun K38 k38=>?_)
  refine wp_seq_k (fun K39 k39=>?_)
  refine rg [0,1,2,3,4,5,6,7,8,9] ?_
  refine sv 71 (.int .i64 0) ?_
  refine sv 72 (.bool false) ?_
  refine sv 73 (.bool false) ?_
  refine sv 74 u30 ?_
  refine se ?_
  replace hs30:=hs30.gr (stab_rat (64+N*(64+64+1))) (g32.trans g37)
  refine eff_bs1 29 49 u30 (some 75) rfl rfl rfl hs30.forms (fun _ _ _ _=>by kernel_rfl) (fun b40 w40 g40 L40 q40=>?_)
  replace hB:=hB.trans g40
  simp only [putl,p3,p4]
  refine sv 76 u37 ?_
  refine se ?_
  replace hs37:=hs37.gr (stab_rat (64+N*(64+6100+1))) g40
  refine eff_bs1 29 49 u37 (some 77) rfl rfl rfl hs37.forms (fun _ _ _ _=>by kernel_rfl) (fun b41 w41 g41 L41 q41=>?_)
  replace hB:=hB.trans g41
  simp only [putl,p3,p4]
  refine se ?_
  replace hs30:=hs30.gr (stab_rat (64+N*(64+64+1))) (g40.trans g41)
  replace L40:=L40.gr g41
  replace hs37:=hs37.gr (stab_rat (64+N*(64+6100+1))) g41
  refine ec 78 (mx_Equal (m:=fun _ k=>sm N fun k2=>m k k2*en ee Z k2) (by omega) (by omega) (by omega) ((sl_row1 L40 hs30).cast (show _=tb (fun z0=>tb (fun z1=>sm N fun k=>m z1 k*en ee Z k) R) 1 from rfl)) ((sl_row1 L41 hs37).cast (show _=tb (fun z0=>tb (fun z1=>sm N fun k=>m z1 k*en ee Z k) R) 1 from rfl))) ?_
  rintro e42 w42 ⟨rfl,g42⟩
  refine ⟨_,rfl,?_⟩
  replace hB:=hB.trans g42
  simp only [p3,p4]
  refine sv 79 (.bool false) ?_
  refine sv 80 (.bool false) ?_
  refine sq_nil ?_
  refine k39 _ _ ?_
  try clear k39 K39
  refine wp_cond_false rfl ?_
  refine wp_skip ?_
  refine k38 _ _ ?_
  try clear k38 K38
  refine wp_seq_k (fun K43 k43=>?_)
  refine rg [0,1,2,3,4,5,6] ?_
  refine sv 82 u22 ?_
  refine se ?_
  replace hs22:=hs22.gr (stab_rw (stab_rat 64) 71 4) (g37.trans (g40.trans (g41.trans g42)))
  refine ec 83 (mx_Transpose (K:=64) (m:=m) hRN (by omega) (by omega) (by omega) hs22) ?_
  rintro e44 w44 ⟨⟨u44,rfl,hs44⟩,g44⟩
  refine ⟨_,rfl,?_⟩
  replace hB:=hB.trans g44
  simp only [p3,p4]
  refine sv 81 (.tuple #[u44,(.int .i64 0)]) ?_
  refine sv 84 u44 ?_
  refine sv 85 (.int .i64 0) ?_
  refine sv 14 u44 ?_
  refine sv 15 (.int .i64 0) ?_
  refine sq_nil ?_
  refine k43 _ _ ?_
  try clear k43 K43
  refine wp_seq_k (fun K45 k45=>?_)
  refine rg [0,1,2,3,4,5] ?_
  refine sv 86 ve ?_
  refine sv 87 u22 ?_
  refine sw 88 (.int .i64 ((R:Int))) rfl (rv_lenn (e:=49) hs22 (tb_lenz rfl) _ _ rfl rfl (by kernel_rfl)) ?_
  refine se ?_
  refine ec 89 (l5_line R (by omega) (hse.gr stab_en hB)) ?_
  rintro e46 w46 ⟨⟨u46,rfl,hs46⟩,g46⟩
  refine ⟨_,rfl,?_⟩
  replace hB:=hB.trans g46
  simp only [p3,p4]
  refine se ?_
  refine ec 90 (l5_list (by omega) (fun j _=>(en_zs hse j).mono (by omega) (by omega)) (hm.gr hB) hs46) ?_
  rintro e47 w47 ⟨⟨u47,rfl,hs47⟩,g47⟩
  refine ⟨_,rfl,?_⟩
  replace hB:=hB.trans g47
  simp only [p3,p4]
  refine sv 16 u47 ?_
  refine sq_nil ?_
  refine k45 _ _ ?_
  try clear k45 K45
  refine wp_seq_k (fun K48 k48=>?_)
  refine rg [0,1,2,3,4,5,6,7] ?_
  refine sv 92 u44 ?_
  refine sv 93 u47 ?_
  refine se ?_
  replace hs44:=hs44.gr (stab_rw (stab_rat 64) 71 4) (g46.trans g47)
  refine ec 94 (mx_Apply (K:=64) (L:=64) (R:=N) (N:=R) (m:=(fun z7 z8=>m z8 z7)) (x:=en ee Z) (by omega) (by omega) (by omega) hs44 hs47) ?_
  rintro e49 w49 ⟨⟨u49,rfl,hs49⟩,g49⟩
  refine ⟨_,rfl,?_⟩
  replace hB:=hB.trans g49
  simp only [p3,p4]
  refine sv 91 (.tuple #[u49,(.int .i64 0)]) ?_
  refine sv 95 u49 ?_
  refine sv 96 (.int .i64 0) ?_
  refine sv 17 u49 ?_
  refine sv 18 (.int .i64 0) ?_
  refine sq_nil ?_
  refine k48 _ _ ?_
  try clear k48 K48
  refine wp_seq_k (fun K50 k50=>?_)
  refine wp_seq_k (fun K51 k51=>?_)
  refine rg [0,1,2,3,4,5,6,7,8,9,10,11] ?_
  refine sv 97 (.int .i64 0) ?_
  refine sv 98 (.bool false) ?_
  refine sv 99 (.bool false) ?_
  refine sv 100 (.int .i64 0) ?_
  refine sv 101 (.bool false) ?_
  refine sv 102 (.bool false) ?_
  refine sv 103 (.bool false) ?_
  refine sv 104 u49 ?_
  refine sw 105 (.int .i64 ((N:Int))) rfl (rv_lenn (e:=71) hs49 (tb_lenz rfl) _ _ rfl rfl (by kernel_rfl)) ?_
  refine sv 106 (.int .i64 ((N:Int))) ?_
  refine sw 107 (.bool false) rfl (RunV.bool (x:=((N:Int) !=(N:Int))) (rvk (by kernel_rfl)) hb35) ?_
  refine sv 108 (.bool false) ?_
  refine sq_nil ?_
  refine k51 _ _ ?_
  try clear k51 K51
  refine wp_cond_false rfl ?_
  refine wp_skip ?_
  refine k50 _ _ ?_
  try clear k50 K50
  refine wp_seq_k (fun K52 k52=>?_)
  refine rg [0,1,2,3,4,5,6,7] ?_
  refine sv 110 u22 ?_
  refine sv 111 u49 ?_
  refine se ?_
  replace hs22:=hs22.gr (stab_rw (stab_rat 64) 71 4) (g44.trans (g46.trans (g47.trans g49)))
  refine ec 112 (mx_Combine_y (K:=6100) (R:=R) (N:=N) (m:=m) (b:=(fun k=>sm R fun j=>m j k*en ee Z j)) hRN (by omega) (by omega) (by omega) (by omega) hzr hfr (hs22.ratrows (by omega)) (hs49.rats (by omega))) ?_
  rintro e53 w53 ⟨⟨u53,rfl,hs53⟩,g53⟩
  refine ⟨_,rfl,?_⟩
  replace hB:=hB.trans g53
  simp only [p3,p4]
  refine sv 109 (.tuple #[u53,(.int .i64 0)]) ?_
  refine sv 113 u53 ?_
  refine sv 114 (.int .i64 0) ?_
  refine sv 19 u53 ?_
  refine sv 20 (.int .i64 0) ?_
  refine sq_nil ?_
  refine k52 _ _ ?_
  try clear k52 K52
  refine wp_seq_k (fun K54 k54=>?_)
  refine wp_seq_k (fun K55 k55=>?_)
  refine rg [0,1,2,3,4,5,6,7,8] ?_
  refine sv 115 (.int .i64 0) ?_
  refine sv 116 (.bool false) ?_
  refine sv 117 (.bool false) ?_
  refine sv 118 u53 ?_
  refine sw 119 (.int .i64 ((R:Int))) rfl (rv_lenn (e:=71) hs53 (tb_lenz rfl) _ _ rfl rfl (by kernel_rfl)) ?_
  refine sv 120 u22 ?_
  refine sw 121 (.int .i64 ((R:Int))) rfl (rv_lenn (e:=49) hs22 (tb_lenz rfl) _ _ rfl rfl (by kernel_rfl)) ?_
  have hb56:(((R:Int) !=(R:Int)))=false:=(by simp)
  refine sw 122 (.bool false) rfl (RunV.bool (x:=((R:Int) !=(R:Int))) (rvk (by kernel_rfl)) hb56) ?_
  refine sv 123 (.bool false) ?_
  refine sq_nil ?_
  refine k55 _ _ ?_
  try clear k55 K55
  refine wp_cond_false rfl ?_
  refine wp_skip ?_
  refine k54 _ _ ?_
  try clear k54 K54
  refine wp_seq_k (fun K57 k57=>?_)
  refine rg [0,1,2,3,4,5,6,7] ?_
  refine sv 125 u44 ?_
  refine sv 126 u53 ?_
  refine se ?_
  replace hs44:=hs44.gr (stab_rw (stab_rat 64) 71 4) (g49.trans g53)
  refine ec 127 (mx_Apply (K:=64) (L:=6100) (R:=N) (N:=R) (m:=(fun z7 z8=>m z8 z7)) (x:=fun k=>(sol (rs N (wth R (fun z7 z8=>m z8 z7) (fun k=>sm R fun j=>m j k*en ee Z j)) R) R k)) (by omega) (by omega) (by omega) hs44 hs53) ?_
  rintro e58 w58 ⟨⟨u58,rfl,hs58⟩,g58⟩
  refine ⟨_,rfl,?_⟩
  replace hB:=hB.trans g58
  replace hs58:=hs58.cast (show _=tb (fun z1=>sm R fun j=>m j z1*en ee Z j) N from tb_congr fun i hi=>sol_wth (m:=(fun z7 z8=>m z8 z7)) hfr i hi)
  simp only [p3,p4]
  refine sv 124 (.tuple #[u58,(.int .i64 0)]) ?_
  refine sv 128 u58 ?_
  refine sv 129 (.int .i64 0) ?_
  refine sv 21 u58 ?_
  refine sv 22 (.int .i64 0) ?_
  refine sq_nil ?_
  refine k57 _ _ ?_
  try clear k57 K57
  refine wp_seq_k (fun K59 k59=>?_)
  refine rg [0,1,2,3,4,5,6,7,8,9] ?_
  refine sv 130 (.int .i64 0) ?_
  refine sv 131 (.bool true) ?_
  refine sv 132 (.bool true) ?_
  refine sv 133 u58 ?_
  refine se ?_
  refine eff_bs1 29 49 u58 (some 134) rfl rfl rfl hs58.forms (fun _ _ _ _=>by kernel_rfl) (fun b60 w60 g60 L60 q60=>?_)
  replace hB:=hB.trans g60
  simp only [putl,p3,p4]
  refine sv 135 u49 ?_
  refine se ?_
  replace hs49:=hs49.gr (stab_rat (64+R*(64+64+1))) (g53.trans (g58.trans g60))
  refine eff_bs1 29 49 u49 (some 136) rfl rfl rfl hs49.forms (fun _ _ _ _=>by kernel_rfl) (fun b61 w61 g61 L61 q61=>?_)
  replace hB:=hB.trans g61
  simp only [putl,p3,p4]
  refine se ?_
  replace hs58:=hs58.gr (stab_rat (64+R*(64+6100+1))) (g60.trans g61)
  replace L60:=L60.gr g61
  replace hs49:=hs49.gr (stab_rat (64+R*(64+64+1))) g61
  refine ec 137 (mx_Equal (m:=fun _ k=>sm R fun j=>m j k*en ee Z j) (by omega) (by omega) (by omega) ((sl_row1 L60 hs58).cast (show _=tb (fun z0=>tb (fun z1=>sm R fun j=>m j z1*en ee Z j) N) 1 from rfl)) ((sl_row1 L61 hs49).cast (show _=tb (fun z0=>tb (fun z1=>sm R fun j=>m j z1*en ee Z j) N) 1 from rfl))) ?_
  rintro e62 w62 ⟨rfl,g62⟩
  refine ⟨_,rfl,?_⟩
  replace hB:=hB.trans g62
  simp only [p3,p4]
  refine sv 138 (.bool true) ?_
  refine sv 4 (.bool true) ?_
  refine sq_nil ?_
  refine k59 _ _ ?_
  try clear k59 K59
  refine wp_ret ?_
  refine bodyPost_ret (v:=(.bool true)) (ret_tmp rfl rfl) rfl ⟨?_,hB⟩
  exact rfl

theorem matrix_certain {R N:Nat} {xa:Value} {m:Mx_} {w:World} (hta:TA w xa R N m) {TT Z:Nat} {ve:Value} {ee:Nat→Int × Int} (hse:Sl EEn TT 2 w ve (tb (fun z1=>(ee z1)) Z)) (W:World) (hW:W=w) (ht:Tab W) (hm:Mx W):Calls Tryz.prog 10 #[xa,ve] W fun e w'=>e=.returned (.bool true)∧Gr W w':=by
  subst hW
  obtain ⟨_,_,ca,va,_,_,rfl,_⟩:=id hta
  exact mc_all hm ht hse hta
end Go.Proofs.YtepgkcimmdmgcaaGreatDoor
namespace Go.Proofs.YtepgkcimmdmgcaaGreatDoor
open Go.ChangeShapes Go.WideShapes Go.ChangeAt Go.RowKit

theorem matrixCertain_table {W : World} (h : laidMetH Tryz.prog Rows.matrixCertainRow.laid W) : Tab W :=
  Lib.tabIs_of_head (rest := _) (g := 1) (t := 236) (e := 152) (n := 20) (by kernel_rfl) (by kernel_rfl) (by kernel_rfl) (by kernel_rfl) (by kernel_rfl) (by kernel_rfl) ((show laidMet Tryz.prog Rows.matrixCertainRow.laid W from (MakeChecks.laidMetH_plain _ _ _ (by kernel_rfl)) ▸ h).tail.tail)
theorem matrixCertain_maxlen {W : World} (h : W.ShapedOpen Tryz.prog) : Mx W :=
  Go.Proofs.cell_of_shapedOpen_int (zero := #[.int .i64 0]) (g := 0) (t := 3) h (of_decide_eq_true (by kernel_rfl)) (by kernel_rfl) rfl (by kernel_rfl) (by kernel_rfl) Tryz.underlying3
set_option maxRecDepth 100000 in
theorem matrixCertain_contract (H : Type) (enc : TypeId × Value → H) (W : World) (base : Nat) (args : Array Value) (ds gs : List (DataW H)) (before : List MemPlace)
    (hval : ∀ (j : Nat) t v, Tryz.f10.params[j]? = some t → args[j]? = some v → Value.okWide Tryz.prog W .any base t v)
    (hW : DataW.Whole enc Tryz.prog Tryz.f10.params.toList Rows.matrixCertainSpec.vars false W args.toList ds gs before) (hL : laidMetH Tryz.prog Rows.matrixCertainRow.laid W) (hsh : W.ShapedOpen Tryz.prog) :
    Calls Tryz.prog 10 args W fun e W' => ∃ v, e = .returned v ∧ Rows.matrixCertainSpec.post enc Tryz.prog Tryz.f10 false true false false W args v W' := by
  have hW' := hW
  obtain ⟨p, q, hA0, hV, rfl, hfz, hnd⟩ := hW
  have hA : DataW.TrodAll enc Tryz.prog W 0 (fun _ => true) true Tryz.f10.params.toList args.toList ds p := hA0
  rw [Tryz.params10] at hA hval
  obtain ⟨v0, vs0, d0, ds0, p0, q0, hargs, rfl, rfl, h0, r0⟩ := trodAll_cons hA
  obtain ⟨v1, vs1, d1, ds1, p1, q1, rfl, rfl, rfl, h1, r1⟩ := trodAll_cons r0
  obtain ⟨rfl, rfl, rfl⟩ := trodAll_nil r1
  obtain rfl : args = #[v0, v1] := by cases args; simp_all
  obtain ⟨rfl, rfl⟩ := trodVars_none hV
  obtain ⟨z0, u0, T0, Xs0, rfl, bz0, sl0⟩ := open_tabk (E := ESl (EK [.i8, .u8]) 2) (k := .u8) (e := 45) (c := 1) (by kernel_rfl) (by kernel_rfl) (by decide) (fun _ _ _ _ hx => trod_esl (e := 114) (by kernel_rfl) (by kernel_rfl) (by decide) (trod_ek 5 (ks := [.i8, .u8]) (by kernel_rfl)) hx) (hval 0 24 v0 rfl rfl) h0
  obtain ⟨R0, N0, m0, ta0⟩ := ta_of sl0 (has_u8 bz0)
  obtain ⟨T1, Xs1, o1⟩ := open_ints 5 (ks := [.i8, .u8]) (e := 114) (by kernel_rfl) (by kernel_rfl) (by kernel_rfl) (by decide) (hval 1 45 v1 rfl rfl) h1
  obtain ⟨ee1, Z1, se1⟩ := ent_of o1
  refine ((fun _ => matrix_certain ta0 se1 _ rfl)  W (matrixCertain_table hL) (matrixCertain_maxlen hsh)).mono fun e W' ⟨he, hg⟩ => ?_
  subst he
  exact ⟨_, rfl, law_post (tb := 4) laidOut (by kernel_rfl) (by kernel_rfl) (by kernel_rfl) rfl hW' rfl hg⟩
noncomputable def matrixCertain_world (os : Os) : World := World.laidAll Tryz.prog os Rows.matrixCertainRow.laid
theorem matrixCertain_met (os : Os) : laidMet Tryz.prog Rows.matrixCertainRow.laid ((matrixCertain_world os).forCall (fun _ _ => 0) ⟨#[], #[.agg #[.int .u8 0, .slice none 0 0], .slice none 0 0], []⟩).memory :=
  laidMet_laidAll _ (by kernel_rfl) (by kernel_rfl)
theorem matrixCertain_reads (os : Os) {H : Type} (enc : TypeId × Value → H) : ∃ places, DataW.whole enc Tryz.prog ((matrixCertain_world os).forCall (fun _ _ => 0) ⟨#[], #[.agg #[.int .u8 0, .slice none 0 0], .slice none 0 0], []⟩).memory Tryz.f10.params.toList Rows.matrixCertainSpec.vars false (#[.agg #[.int .u8 0, .slice none 0 0], .slice none 0 0] : Array Value).toList 8 = some ([.agg [.lit (.int .u8 0), .nil], .nil], [], places) :=
  ⟨[], by kernel_rfl⟩
set_option maxRecDepth 100000 in
theorem matrixCertain_lifted (os : Os) (started : os.Started) (H : Type) (enc : TypeId × Value → H) (F : Stop.Interp) :
    ReturnsInHanded {} Tryz.checked os 10 .any ((OpenSpec.ofChange Rows.matrixCertainSpec).preRow enc Tryz.prog Tryz.f10 Rows.matrixCertainRow.domain false Rows.matrixCertainRow.laid) (((OpenSpec.ofChange Rows.matrixCertainSpec).at F).post enc Tryz.prog Tryz.f10 false true false false) := by
  obtain ⟨places, hx⟩ := matrixCertain_reads os enc
  refine returnsInHanded_of_row (C := Tryz.checked) (s := OpenSpec.ofChange Rows.matrixCertainSpec) own started (by kernel_rfl) Tryz.func10
    (witness_row_sh (enc := enc) (C := Tryz.checked) false (matrixCertain_world os) #[.agg #[.int .u8 0, .slice none 0 0], .slice none 0 0] (World.laidAll_os _ _ _) (World.shaped_of_ZipB (by kernel_rfl) (by kernel_rfl)) (by kernel_rfl)
      (OpenSpec.preRow_of_cond 8 hx (by kernel_rfl) (fun k hk => by cases hk) (by kernel_rfl) (by rw [MakeChecks.laidMetH_plain _ _ _ (by kernel_rfl)]; exact matrixCertain_met os))) ?_
  intro W base args ds gs before hval hW _ _ _ hL hsh _
  exact matrixCertain_contract H enc W base args ds gs before hval hW hL hsh
theorem matrixCertain_said : Rows.MatrixCertainSaid :=
  OpenClaim.holds_of_cond 10 Tryz.f10 rfl rfl rfl rfl rfl rfl rfl ⟨rfl, rfl, rfl, rfl, rfl⟩ rfl rfl rfl rfl rfl (by kernel_rfl) Tryz.func10 (by kernel_rfl)
    (of_decide_eq_true (by kernel_rfl)) (by unfold Func.isWrapper; first | (rw [if_pos (by decide +kernel)]; kernel_rfl) | (rw [if_neg (by decide +kernel)]; exact ⟨rfl, rfl⟩))
    (fun os started H enc _ F => by rw [OpenClaim.pre_eq_preRow]; exact matrixCertain_lifted os started H enc F)
theorem matrixCertain_plain (f : FuncId) (fn : Func) (hf : Tryz.pinned.checked.prog.funcNamed "dowel/dowellaw05.MatrixCertain" = some f) (hfn : Tryz.pinned.checked.prog.funcs[f]? = some fn) :
    true = Tryz.pinned.checked.prog.looks [] ∧ ∀ (j : Nat) t, fn.params[j]? = some t → Tryz.pinned.checked.prog.wantsStandIn t = false := by
  obtain rfl : f = 10 := Option.some.inj ((show Tryz.prog.funcNamed "dowel/dowellaw05.MatrixCertain" = some 10 by kernel_rfl).symm.trans hf) |>.symm
  obtain rfl : fn = Tryz.f10 := (Option.some.inj (Tryz.func10.symm.trans hfn)).symm
  refine ⟨by kernel_rfl, fun j t ht => ?_⟩
  rw [Tryz.params10] at ht
  have hm := Array.mem_of_getElem? ht
  have hall : (#[24, 45] : Array TypeId).toList.all (fun t => !Tryz.prog.wantsStandIn t) = true := by kernel_rfl
  have := List.all_eq_true.1 hall t (Array.mem_toList_iff.2 hm)
  have h3 : Tryz.prog.wantsStandIn t = false := by simpa using this
  exact h3
/-- the card -/
theorem matrixCertain_card : Rows.MatrixCertainCardSaid :=
  Claim7.holds_tied_plain_at .later [] _ _ _ _ matrixCertain_said (fun _ h => by cases h) (by kernel_rfl) (fun _ h => by cases h) matrixCertain_row_tie rfl ⟨rfl, rfl⟩ (by kernel_rfl) rfl matrixCertain_plain (by kernel_rfl)
end Go.Proofs.YtepgkcimmdmgcaaGreatDoor
