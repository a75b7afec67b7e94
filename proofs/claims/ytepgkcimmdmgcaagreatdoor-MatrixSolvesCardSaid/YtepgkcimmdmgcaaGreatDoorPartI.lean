/- Joined of: Gen187, RowMatrixSolves. -/
import Derived.Test.YtepgkcimmdmgcaaGreatDoorPartH
import Derived.Test.YtepgkcimmdmgcaaGreatDoorCards
import Derived.Test.YtepgkcimmdmgcaaGreatDoorTie
import Derived.Test.YtepgkcimmdmgcaaGreatDoorPartA
import Derived.Test.YtepgkcimmdmgcaaGreatDoorPartB
namespace Go.Proofs.YtepgkcimmdmgcaaGreatDoor
open Go.RowKit

set_option maxRecDepth 100000 in
set_option maxHeartbeats 1000000 in
theorem ms_y0 {R TT Z ca:Nat} (ee0:Nat→Int × Int) {va:Value} {m:Mx_} {ve:Value} {ee:Nat→Int × Int} (hfs:(∀ t,pl R (wth 0 m (en ee Z)) 0≤t→t<R→(rs R (wth 0 m (en ee Z)) 0).m t 0=0)) {w:World} (hm:Mx w) (ht:Tab w) (hse:Sl EEn TT 2 w ve (tb (fun z1=>(ee z1)) Z)) (hta:TA w (.agg #[.int .u8 (ca:Int),va]) R 0 m):
    Calls Tryz.prog 7 #[(.agg #[(.int .u8 ((ca:Int))),va]),ve,(.bool false)] w fun e w'=>e=.returned (.bool true)∧Gr w w':=by
 have hR5:=hta.R5
 have hN6:=hta.N6
 have hRN:=hta.R0
 have hps:=(fit_P (wth 0 m (en ee Z))).2 hfs
 have hfc:(∀ t,pl 0 (wth R (fun z7 z8=>m z8 z7) (en ee Z)) R≤t→t<0→(rs 0 (wth R (fun z7 z8=>m z8 z7) (en ee Z)) R).m t R=0):=fun t _ h=>absurd h (Nat.not_lt_zero t)
 go_enter Tryz.func7,Tryz.ntmps7
 have hB:=Gr.refl w
 refine wp_seq_k (fun K10 k10=>?_)
 refine rg [0,1] ?_
 refine se ?_
 refine eb 24 #[(.int .u8 ((ca:Int))),va] 3 hB fun b11 w11 g11 L11 o11 q11 hB=>?_
 simp only [p3,p4]
 refine sv 6 (.bool false) ?_
 refine sq_nil ?_
 refine k10 _ _ ?_
 try clear k10 K10
 refine wp_seq_k (fun K12 k12=>?_)
 refine wp_seq_k (fun K13 k13=>?_)
 refine rg [0,1,2,3,4,5,6] ?_
 refine se ?_
 refine ec 18 (l5_known _ (hm.gr hB) (ht.gr hB)) ?_
 rintro e14 w14 ⟨rfl,g14⟩
 refine ⟨_,rfl,?_⟩
 replace hB:=hB.trans g14
 simp only [p3,p4]
 refine sv 19 (.bool false) ?_
 refine sv 20 (.bool false) ?_
 refine sv 21 ve ?_
 refine sw 22 (.int .i64 ((Z:Int))) rfl (rv_lenn (e:=114) hse (tb_lenz rfl) _ _ rfl rfl (by kernel_rfl)) ?_
 refine sv 23 (.bool (decide ((10:Int)<(Z:Int)))) ?_
 refine sv 24 (.bool (decide ((10:Int)<(Z:Int)))) ?_
 refine sq_nil ?_
 refine k13 _ _ ?_
 try clear k13 K13
 refine wp_cond_split (t:=decide ((10:Int)<(Z:Int))) rfl (fun hb15=>?_) (fun hb15=>?_)
 ·have hq16:((10:Int)<(Z:Int)):=of_decide_eq_true hb15
  refine wp_seq_k (fun K17 k17=>?_)
  refine rg [0,1] ?_
  refine se ?_
  refine ec 25 (l5_known _ (hm.gr hB) (ht.gr hB)) ?_
  rintro e18 w18 ⟨rfl,g18⟩
  refine ⟨_,rfl,?_⟩
  replace hB:=hB.trans g18
  simp only [p3,p4]
  refine sv 6 (.bool true) ?_
  refine sq_nil ?_
  refine k17 _ _ ?_
  try clear k17 K17
  refine wp_ret ?_
  simp only [Exit.then]
  refine bodyPost_ret (v:=(.bool true)) (ret_tmp rfl rfl) rfl ⟨?_,hB⟩
  exact rfl
 ·have hq19:¬ ((10:Int)<(Z:Int)):=of_decide_eq_false hb15
  refine wp_skip ?_
  refine k12 _ _ ?_
  try clear k12 K12
  refine wp_seq_k (fun K20 k20=>?_)
  refine rg [0,1,2] ?_
  replace L11:=L11.gr g14
  refine sw 26 (.agg #[(.int .u8 ((ca:Int))),va]) rfl (rl 24 0 [(.int .u8 ((ca:Int))),va] L11) ?_
  refine se ?_
  refine ec 27 (l5_rowsT (hta.gr hB)) ?_
  rintro e21 w21 ⟨⟨u21,rfl,hs21⟩,g21⟩
  refine ⟨_,rfl,?_⟩
  replace hB:=hB.trans g21
  simp only [p3,p4]
  refine sv 7 u21 ?_
  refine sq_nil ?_
  refine k20 _ _ ?_
  try clear k20 K20
  refine wp_seq_k (fun K22 k22=>?_)
  refine rg [0,1,2] ?_
  refine sv 28 u21 ?_
  refine sw 29 (.int .i64 ((R:Int))) rfl (rv_lenn (e:=51) hs21 (tb_lenz rfl) _ _ rfl rfl (by kernel_rfl)) ?_
  refine sv 8 (.int .i64 ((R:Int))) ?_
  refine sq_nil ?_
  refine k22 _ _ ?_
  try clear k22 K22
  refine wp_seq_k (fun K23 k23=>?_)
  refine wp_seq_k (fun K24 k24=>?_)
  refine rg [0] ?_
  refine sv 30 (.bool false) ?_
  refine sq_nil ?_
  refine k24 _ _ ?_
  try clear k24 K24
  refine wp_cond_false rfl ?_
  refine wp_skip ?_
  refine k23 _ _ ?_
  try clear k23 K23
  refine wp_seq_k (fun K25 k25=>?_)
  refine rg [0,1,2,3] ?_
  refine sv 33 ve ?_
  refine sv 34 (.int .i64 ((R:Int))) ?_
  refine se ?_
  refine ec 35 (l5_line R (by omega) (hse.gr stab_en hB)) ?_
  rintro e26 w26 ⟨⟨u26,rfl,hs26⟩,g26⟩
  refine ⟨_,rfl,?_⟩
  replace hB:=hB.trans g26
  simp only [p3,p4]
  refine sv 9 u26 ?_
  refine sq_nil ?_
  refine k25 _ _ ?_
  try clear k25 K25
  refine wp_seq_k (fun K27 k27=>?_)
  refine rg [0,1,2,3,4,5,6,7,8,9] ?_
  refine sv 37 u21 ?_
  refine se ?_
  replace hs21:=hs21.gr (stab_rw stab_fr 84 2) g26
  refine ec 38 (l5_own (by omega) (by omega) (fun i _ k _=>(hta.z i k).mono (by omega) (by omega)) (hm.gr hB) hs21) ?_
  rintro e28 w28 ⟨⟨u28,rfl,hs28⟩,g28⟩
  refine ⟨_,rfl,?_⟩
  replace hB:=hB.trans g28
  simp only [p3,p4]
  refine sv 39 u26 ?_
  refine se ?_
  replace hs26:=hs26.gr stab_fr g28
  refine ec 40 (l5_list (by omega) (fun j _=>(en_zs hse j).mono (by omega) (by omega)) (hm.gr hB) hs26) ?_
  rintro e29 w29 ⟨⟨u29,rfl,hs29⟩,g29⟩
  refine ⟨_,rfl,?_⟩
  replace hB:=hB.trans g29
  simp only [p3,p4]
  refine se ?_
  replace hs28:=hs28.gr (stab_rw (stab_rat 64) 71 4) g29
  refine ec 41 (mx_Solve_y (K:=4899) (R:=R) (N:=0) (m:=m) (b:=(en ee Z)) hRN (by omega) (by omega) (by omega) (by omega) (rs_sm (wth_z (fun i _ k _=>hta.z i k) (fun i _=>en_zs hse i)) (by omega) (Nat.le_succ 0)) hfs (hs28.ratrows (by omega)) (hs29.rats (by omega))) ?_
  rintro e30 w30 ⟨⟨u30,rfl,hs30⟩,g30⟩
  refine ⟨_,rfl,?_⟩
  replace hB:=hB.trans g30
  replace hs30:=hs30.cast (show _=tb (fun z1=>sol (rs R (wth 0 m (en ee Z)) (0+1)) 0 z1) 0 from by rw [fit_S _ hps])
  simp only [p3,p4]
  refine sv 36 (.tuple #[u30,(.int .i64 0)]) ?_
  refine sv 42 u30 ?_
  refine sv 43 (.int .i64 0) ?_
  refine sv 10 u30 ?_
  refine sv 11 (.int .i64 0) ?_
  refine sq_nil ?_
  refine k27 _ _ ?_
  try clear k27 K27
  refine wp_seq_k (fun K31 k31=>?_)
  refine wp_seq_k (fun K32 k32=>?_)
  refine rg [0] ?_
  refine sv 44 (.bool false) ?_
  refine sq_nil ?_
  refine k32 _ _ ?_
  try clear k32 K32
  refine wp_cond_false rfl ?_
  refine wp_seq_k (fun K33 k33=>?_)
  refine rg [0,1,2,3,4,5,6,7] ?_
  refine sv 53 u21 ?_
  refine sv 54 u26 ?_
  refine se ?_
  replace hs21:=hs21.gr (stab_rw stab_fr 84 2) (g28.trans (g29.trans g30))
  replace hs26:=hs26.gr stab_fr (g29.trans g30)
  refine ec 55 (f5_solve_y (K:=4899) (R:=R) (N:=0) (m:=m) (b:=(en ee Z)) hRN (by omega) (by omega) (by omega) (rs_sf (wth_z (fun i _ k _=>hta.z i k) (fun i _=>en_zs hse i)) (by omega)) hps hs21 hs26) ?_
  rintro e34 w34 ⟨⟨u34,rfl,hs34⟩,g34⟩
  refine ⟨_,rfl,?_⟩
  replace hB:=hB.trans g34
  simp only [p3,p4]
  refine sv 52 (.tuple #[u34,(.bool true)]) ?_
  refine sv 56 u34 ?_
  refine sv 57 (.bool true) ?_
  refine sv 12 u34 ?_
  refine sv 13 (.bool true) ?_
  refine sq_nil ?_
  refine k33 _ _ ?_
  try clear k33 K33
  refine wp_seq_k (fun K35 k35=>?_)
  refine rg [0,1] ?_
  refine sv 58 (.bool true) ?_
  refine sv 59 (.bool false) ?_
  refine sq_nil ?_
  refine k35 _ _ ?_
  try clear k35 K35
  refine wp_cond_false rfl ?_
  refine wp_seq_k (fun K36 k36=>?_)
  refine rg [0,1,2,3,4,5,6,7] ?_
  refine sv 67 u30 ?_
  refine sv 68 u34 ?_
  refine se ?_
  replace hs30:=hs30.gr (stab_rat 4899) g34
  refine ec 69 (l5_equal (L:=4899) (by omega) (by omega) (by omega) (fun j hj=>by rw [fit_S _ hps];exact sol_z (by decide) (Nat.lt_succ_self 0) ((rs_sm (wth_z (fun i _ k _=>hta.z i k) (fun i _=>en_zs hse i)) (.inr hR5) (Nat.le_succ 0)) 0 (Nat.le_refl _)).1) (ht.gr hB) hs30 hs34) ?_
  rintro e37 w37 ⟨rfl,g37⟩
  refine ⟨_,rfl,?_⟩
  replace hB:=hB.trans g37
  simp only [p3,p4]
  refine sv 70 (.bool false) ?_
  refine sv 71 (.bool false) ?_
  refine sv 72 (.int .i64 0) ?_
  refine sv 73 (.bool false) ?_
  refine sv 74 (.bool false) ?_
  refine sq_nil ?_
  refine k36 _ _ ?_
  try clear k36 K36
  refine wp_cond_false rfl ?_
  refine wp_skip ?_
  refine k31 _ _ ?_
  try clear k31 K31
  refine wp_seq_k (fun K38 k38=>?_)
  refine rg [0,1,2] ?_
  refine sv 75 u21 ?_
  refine se ?_
  replace hs21:=hs21.gr (stab_rw stab_fr 84 2) (g34.trans g37)
  refine ec 76 (f5_columns hRN hs21) ?_
  rintro e39 w39 ⟨rfl,g39⟩
  refine ⟨_,rfl,?_⟩
  replace hB:=hB.trans g39
  simp only [p3,p4]
  refine sv 8 (.int .i64 0) ?_
  refine sq_nil ?_
  refine k38 _ _ ?_
  try clear k38 K38
  refine wp_seq_k (fun K40 k40=>?_)
  refine wp_seq_k (fun K41 k41=>?_)
  refine rg [0] ?_
  refine sv 77 (.bool false) ?_
  refine sq_nil ?_
  refine k41 _ _ ?_
  try clear k41 K41
  refine wp_cond_false rfl ?_
  refine wp_skip ?_
  refine k40 _ _ ?_
  try clear k40 K40
  refine wp_seq_k (fun K42 k42=>?_)
  refine rg [0,1,2,3] ?_
  refine sv 80 ve ?_
  refine sv 81 (.int .i64 0) ?_
  refine se ?_
  refine ec 82 (l5_line 0 (by omega) (hse.gr stab_en hB)) ?_
  rintro e43 w43 ⟨⟨u43,rfl,hs43⟩,g43⟩
  refine ⟨_,rfl,?_⟩
  replace hB:=hB.trans g43
  simp only [p3,p4]
  refine sv 9 u43 ?_
  refine sq_nil ?_
  refine k42 _ _ ?_
  try clear k42 K42
  refine wp_seq_k (fun K44 k44=>?_)
  refine rg [0,1,2,3,4,5,6,7,8,9] ?_
  refine sv 84 u21 ?_
  refine se ?_
  replace hs21:=hs21.gr (stab_rw stab_fr 84 2) (g39.trans g43)
  refine ec 85 (l5_own (by omega) (by omega) (fun i _ k _=>(hta.z i k).mono (by omega) (by omega)) (hm.gr hB) hs21) ?_
  rintro e45 w45 ⟨⟨u45,rfl,hs45⟩,g45⟩
  refine ⟨_,rfl,?_⟩
  replace hB:=hB.trans g45
  simp only [p3,p4]
  refine sv 86 u43 ?_
  refine se ?_
  replace hs43:=hs43.gr stab_fr g45
  refine ec 87 (l5_list (by omega) (fun j _=>(en_zs hse j).mono (by omega) (by omega)) (hm.gr hB) hs43) ?_
  rintro e46 w46 ⟨⟨u46,rfl,hs46⟩,g46⟩
  refine ⟨_,rfl,?_⟩
  replace hB:=hB.trans g46
  simp only [p3,p4]
  refine se ?_
  replace hs45:=hs45.gr (stab_rw (stab_rat 64) 71 4) g46
  refine ec 88 (mx_Combine_y (K:=4899) (R:=R) (N:=0) (m:=m) (b:=(en ee Z)) hRN (by omega) (by omega) (by omega) (by omega) (rs_sm (wth_z (fun i _ k _=>hta.z k i) (fun i _=>en_zs hse i)) (by omega) (Nat.le_succ R)) hfc (hs45.ratrows (by omega)) (hs46.rats (by omega))) ?_
  rintro e47 w47 ⟨⟨u47,rfl,hs47⟩,g47⟩
  refine ⟨_,rfl,?_⟩
  replace hB:=hB.trans g47
  replace hs47:=hs47.cast (show _=tb (fun z1=>en ee0 0 z1) R from tb_congr fun k _=>by rw [en_none,← sol_pik,rs_zero rfl];rfl)
  simp only [p3,p4]
  refine sv 83 (.tuple #[u47,(.int .i64 0)]) ?_
  refine sv 89 u47 ?_
  refine sv 90 (.int .i64 0) ?_
  refine sv 14 u47 ?_
  refine sv 15 (.int .i64 0) ?_
  refine sq_nil ?_
  refine k44 _ _ ?_
  try clear k44 K44
  refine wp_seq_k (fun K48 k48=>?_)
  refine wp_seq_k (fun K49 k49=>?_)
  refine rg [0] ?_
  refine sv 91 (.bool false) ?_
  refine sq_nil ?_
  refine k49 _ _ ?_
  try clear k49 K49
  refine wp_cond_false rfl ?_
  refine wp_skip ?_
  refine k48 _ _ ?_
  try clear k48 K48
  refine wp_seq_k (fun K50 k50=>?_)
  refine rg [0,1,2,3,4,5,6,7,8] ?_
  refine sv 100 u21 ?_
  refine se ?_
  replace hs21:=hs21.gr (stab_rw stab_fr 84 2) (g45.trans (g46.trans g47))
  refine ec 101 (f5_transpose (m:=m) hRN (by omega) (by omega) hs21) ?_
  rintro e51 w51 ⟨⟨u51,rfl,hs51⟩,g51⟩
  refine ⟨_,rfl,?_⟩
  replace hB:=hB.trans g51
  simp only [p3,p4]
  refine sv 102 u43 ?_
  refine se ?_
  replace hs43:=hs43.gr stab_fr (g46.trans (g47.trans g51))
  refine ec 103 (f5_solve_y (K:=4899) (R:=0) (N:=0) (m:=fun _ _=>0) (b:=en ee Z) (fun h=>h) (by omega) (by omega) (by omega) (fun k i _ h=>absurd h.lt.2 (Nat.not_lt_zero i)) ((fit_P _).2 fun t _ h=>absurd h (Nat.not_lt_zero t)) (hs51.cast (show _=tb (fun z0=>tb (fun z1=>(0:Rat)) 0) 0 from rfl)) hs43) ?_
  rintro e52 w52 ⟨⟨u52,rfl,hs52⟩,g52⟩
  refine ⟨_,rfl,?_⟩
  replace hB:=hB.trans g52
  simp only [p3,p4]
  refine sv 99 (.tuple #[u52,(.bool true)]) ?_
  refine sv 104 u52 ?_
  refine sv 105 (.bool true) ?_
  refine sv 16 u52 ?_
  refine sv 17 (.bool true) ?_
  refine sq_nil ?_
  refine k50 _ _ ?_
  try clear k50 K50
  refine wp_seq_k (fun K53 k53=>?_)
  refine wp_seq_k (fun K54 k54=>?_)
  refine rg [0,1,2] ?_
  refine sv 106 u21 ?_
  refine se ?_
  replace hs21:=hs21.gr (stab_rw stab_fr 84 2) (g51.trans g52)
  refine ec 107 (f5_columns hRN hs21) ?_
  rintro e55 w55 ⟨rfl,g55⟩
  refine ⟨_,rfl,?_⟩
  replace hB:=hB.trans g55
  simp only [p3,p4]
  refine sv 108 (.bool true) ?_
  refine sq_nil ?_
  refine k54 _ _ ?_
  try clear k54 K54
  refine wp_cond_true rfl ?_
  refine rg [0,1,2,3,4] ?_
  refine sv 109 u21 ?_
  refine sw 110 (.int .i64 ((R:Int))) rfl (rv_lenn (e:=51) hs21 (tb_lenz rfl) _ _ rfl rfl (by kernel_rfl)) ?_
  refine se ?_
  refine ec 111 (l5_line (TT:=0) (ee:=ee0) (Z:=0) R (by omega) (Sl.nil _ _ _ _ none 0)) ?_
  rintro e56 w56 ⟨⟨u56,rfl,hs56⟩,g56⟩
  refine ⟨_,rfl,?_⟩
  replace hB:=hB.trans g56
  simp only [p3,p4]
  refine sv 16 u56 ?_
  refine sv 17 (.bool true) ?_
  refine sq_nil ?_
  refine k53 _ _ ?_
  try clear k53 K53
  refine wp_seq_k (fun K57 k57=>?_)
  refine wp_seq_k (fun K58 k58=>?_)
  refine rg [0,1] ?_
  refine sv 112 (.bool true) ?_
  refine sv 113 (.bool false) ?_
  refine sq_nil ?_
  refine k58 _ _ ?_
  try clear k58 K58
  refine wp_cond_false rfl ?_
  refine wp_skip ?_
  refine k57 _ _ ?_
  try clear k57 K57
  refine wp_seq_k (fun K59 k59=>?_)
  refine rg [0,1,2,3,4,5,6,7] ?_
  refine sv 121 u47 ?_
  refine sv 122 u56 ?_
  refine se ?_
  replace hs47:=hs47.gr (stab_rat 4899) (g51.trans (g52.trans (g55.trans g56)))
  refine ec 123 (l5_equal (L:=8) (by omega) (by omega) (by omega) (fun j _=>by rw [en_none];exact RZ.zero _ _ (by decide)) (ht.gr hB) hs47 hs56) ?_
  rintro e60 w60 ⟨rfl,g60⟩
  refine ⟨_,rfl,?_⟩
  replace hB:=hB.trans g60
  simp only [p3,p4]
  refine sv 124 (.bool true) ?_
  refine sv 125 (.int .i64 0) ?_
  refine sv 126 (.bool true) ?_
  refine sv 127 (.bool true) ?_
  refine sv 6 (.bool true) ?_
  refine sq_nil ?_
  refine k59 _ _ ?_
  try clear k59 K59
  refine wp_ret ?_
  refine bodyPost_ret (v:=(.bool true)) (ret_tmp rfl rfl) rfl ⟨?_,hB⟩
  exact rfl

set_option maxRecDepth 100000 in
set_option maxHeartbeats 1000000 in
theorem ms_yy {R N TT Z ca:Nat} {va:Value} {m:Mx_} {ve:Value} {ee:Nat→Int × Int} (_hN0:0<N) (hfs:(∀ t,pl R (wth N m (en ee Z)) N≤t→t<R→(rs R (wth N m (en ee Z)) N).m t N=0)) (hfc:(∀ t,pl N (wth R (fun z7 z8=>m z8 z7) (en ee Z)) R≤t→t<N→(rs N (wth R (fun z7 z8=>m z8 z7) (en ee Z)) R).m t R=0)) {w:World} (hm:Mx w) (ht:Tab w) (hse:Sl EEn TT 2 w ve (tb (fun z1=>(ee z1)) Z)) (hta:TA w (.agg #[.int .u8 (ca:Int),va]) R N m):
    Calls Tryz.prog 7 #[(.agg #[(.int .u8 ((ca:Int))),va]),ve,(.bool false)] w fun e w'=>e=.returned (.bool true)∧Gr w w':=by
 have hR5:=hta.R5
 have hN6:=hta.N6
 have hRN:=hta.R0
 have hps:=(fit_P (wth N m (en ee Z))).2 hfs
 have hpc:=(fit_P (wth R (fun z7 z8=>m z8 z7) (en ee Z))).2 hfc
 go_enter Tryz.func7,Tryz.ntmps7
 have hB:=Gr.refl w
 refine wp_seq_k (fun K10 k10=>?_)
 refine rg [0,1] ?_
 refine se ?_
 refine eb 24 #[(.int .u8 ((ca:Int))),va] 3 hB fun b11 w11 g11 L11 o11 q11 hB=>?_
 simp only [p3,p4]
 refine sv 6 (.bool false) ?_
 refine sq_nil ?_
 refine k10 _ _ ?_
 try clear k10 K10
 refine wp_seq_k (fun K12 k12=>?_)
 refine wp_seq_k (fun K13 k13=>?_)
 refine rg [0,1,2,3,4,5,6] ?_
 refine se ?_
 refine ec 18 (l5_known _ (hm.gr hB) (ht.gr hB)) ?_
 rintro e14 w14 ⟨rfl,g14⟩
 refine ⟨_,rfl,?_⟩
 replace hB:=hB.trans g14
 simp only [p3,p4]
 refine sv 19 (.bool false) ?_
 refine sv 20 (.bool false) ?_
 refine sv 21 ve ?_
 refine sw 22 (.int .i64 ((Z:Int))) rfl (rv_lenn (e:=114) hse (tb_lenz rfl) _ _ rfl rfl (by kernel_rfl)) ?_
 refine sv 23 (.bool (decide ((10:Int)<(Z:Int)))) ?_
 refine sv 24 (.bool (decide ((10:Int)<(Z:Int)))) ?_
 refine sq_nil ?_
 refine k13 _ _ ?_
 try clear k13 K13
 refine wp_cond_split (t:=decide ((10:Int)<(Z:Int))) rfl (fun hb15=>?_) (fun hb15=>?_)
 ·have hq16:((10:Int)<(Z:Int)):=of_decide_eq_true hb15
  refine wp_seq_k (fun K17 k17=>?_)
  refine rg [0,1] ?_
  refine se ?_
  refine ec 25 (l5_known _ (hm.gr hB) (ht.gr hB)) ?_
  rintro e18 w18 ⟨rfl,g18⟩
  refine ⟨_,rfl,?_⟩
  replace hB:=hB.trans g18
  simp only [p3,p4]
  refine sv 6 (.bool true) ?_
  refine sq_nil ?_
  refine k17 _ _ ?_
  try clear k17 K17
  refine wp_ret ?_
  simp only [Exit.then]
  refine bodyPost_ret (v:=(.bool true)) (ret_tmp rfl rfl) rfl ⟨?_,hB⟩
  exact rfl
 ·have hq19:¬ ((10:Int)<(Z:Int)):=of_decide_eq_false hb15
  refine wp_skip ?_
  refine k12 _ _ ?_
  try clear k12 K12
  refine wp_seq_k (fun K20 k20=>?_)
  refine rg [0,1,2] ?_
  replace L11:=L11.gr g14
  refine sw 26 (.agg #[(.int .u8 ((ca:Int))),va]) rfl (rl 24 0 [(.int .u8 ((ca:Int))),va] L11) ?_
  refine se ?_
  refine ec 27 (l5_rowsT (hta.gr hB)) ?_
  rintro e21 w21 ⟨⟨u21,rfl,hs21⟩,g21⟩
  refine ⟨_,rfl,?_⟩
  replace hB:=hB.trans g21
  simp only [p3,p4]
  refine sv 7 u21 ?_
  refine sq_nil ?_
  refine k20 _ _ ?_
  try clear k20 K20
  refine wp_seq_k (fun K22 k22=>?_)
  refine rg [0,1,2] ?_
  refine sv 28 u21 ?_
  refine sw 29 (.int .i64 ((R:Int))) rfl (rv_lenn (e:=51) hs21 (tb_lenz rfl) _ _ rfl rfl (by kernel_rfl)) ?_
  refine sv 8 (.int .i64 ((R:Int))) ?_
  refine sq_nil ?_
  refine k22 _ _ ?_
  try clear k22 K22
  refine wp_seq_k (fun K23 k23=>?_)
  refine wp_seq_k (fun K24 k24=>?_)
  refine rg [0] ?_
  refine sv 30 (.bool false) ?_
  refine sq_nil ?_
  refine k24 _ _ ?_
  try clear k24 K24
  refine wp_cond_false rfl ?_
  refine wp_skip ?_
  refine k23 _ _ ?_
  try clear k23 K23
  refine wp_seq_k (fun K25 k25=>?_)
  refine rg [0,1,2,3] ?_
  refine sv 33 ve ?_
  refine sv 34 (.int .i64 ((R:Int))) ?_
  refine se ?_
  refine ec 35 (l5_line R (by omega) (hse.gr stab_en hB)) ?_
  rintro e26 w26 ⟨⟨u26,rfl,hs26⟩,g26⟩
  refine ⟨_,rfl,?_⟩
  replace hB:=hB.trans g26
  simp only [p3,p4]
  refine sv 9 u26 ?_
  refine sq_nil ?_
  refine k25 _ _ ?_
  try clear k25 K25
  refine wp_seq_k (fun K27 k27=>?_)
  refine rg [0,1,2,3,4,5,6,7,8,9] ?_
  refine sv 37 u21 ?_
  refine se ?_
  replace hs21:=hs21.gr (stab_rw stab_fr 84 2) g26
  refine ec 38 (l5_own (by omega) (by omega) (fun i _ k _=>(hta.z i k).mono (by omega) (by omega)) (hm.gr hB) hs21) ?_
  rintro e28 w28 ⟨⟨u28,rfl,hs28⟩,g28⟩
  refine ⟨_,rfl,?_⟩
  replace hB:=hB.trans g28
  simp only [p3,p4]
  refine sv 39 u26 ?_
  refine se ?_
  replace hs26:=hs26.gr stab_fr g28
  refine ec 40 (l5_list (by omega) (fun j _=>(en_zs hse j).mono (by omega) (by omega)) (hm.gr hB) hs26) ?_
  rintro e29 w29 ⟨⟨u29,rfl,hs29⟩,g29⟩
  refine ⟨_,rfl,?_⟩
  replace hB:=hB.trans g29
  simp only [p3,p4]
  refine se ?_
  replace hs28:=hs28.gr (stab_rw (stab_rat 64) 71 4) g29
  refine ec 41 (mx_Solve_y (K:=4899) (R:=R) (N:=N) (m:=m) (b:=(en ee Z)) hRN (by omega) (by omega) (by omega) (by omega) (rs_sm (wth_z (fun i _ k _=>hta.z i k) (fun i _=>en_zs hse i)) (by omega) (Nat.le_succ N)) hfs (hs28.ratrows (by omega)) (hs29.rats (by omega))) ?_
  rintro e30 w30 ⟨⟨u30,rfl,hs30⟩,g30⟩
  refine ⟨_,rfl,?_⟩
  replace hB:=hB.trans g30
  replace hs30:=hs30.cast (show _=tb (fun z1=>sol (rs R (wth N m (en ee Z)) (N+1)) N z1) N from by rw [fit_S _ hps])
  simp only [p3,p4]
  refine sv 36 (.tuple #[u30,(.int .i64 0)]) ?_
  refine sv 42 u30 ?_
  refine sv 43 (.int .i64 0) ?_
  refine sv 10 u30 ?_
  refine sv 11 (.int .i64 0) ?_
  refine sq_nil ?_
  refine k27 _ _ ?_
  try clear k27 K27
  refine wp_seq_k (fun K31 k31=>?_)
  refine wp_seq_k (fun K32 k32=>?_)
  refine rg [0] ?_
  refine sv 44 (.bool false) ?_
  refine sq_nil ?_
  refine k32 _ _ ?_
  try clear k32 K32
  refine wp_cond_false rfl ?_
  refine wp_seq_k (fun K33 k33=>?_)
  refine rg [0,1,2,3,4,5,6,7] ?_
  refine sv 53 u21 ?_
  refine sv 54 u26 ?_
  refine se ?_
  replace hs21:=hs21.gr (stab_rw stab_fr 84 2) (g28.trans (g29.trans g30))
  replace hs26:=hs26.gr stab_fr (g29.trans g30)
  refine ec 55 (f5_solve_y (K:=4899) (R:=R) (N:=N) (m:=m) (b:=(en ee Z)) hRN (by omega) (by omega) (by omega) (rs_sf (wth_z (fun i _ k _=>hta.z i k) (fun i _=>en_zs hse i)) (by omega)) hps hs21 hs26) ?_
  rintro e34 w34 ⟨⟨u34,rfl,hs34⟩,g34⟩
  refine ⟨_,rfl,?_⟩
  replace hB:=hB.trans g34
  simp only [p3,p4]
  refine sv 52 (.tuple #[u34,(.bool true)]) ?_
  refine sv 56 u34 ?_
  refine sv 57 (.bool true) ?_
  refine sv 12 u34 ?_
  refine sv 13 (.bool true) ?_
  refine sq_nil ?_
  refine k33 _ _ ?_
  try clear k33 K33
  refine wp_seq_k (fun K35 k35=>?_)
  refine rg [0,1] ?_
  refine sv 58 (.bool true) ?_
  refine sv 59 (.bool false) ?_
  refine sq_nil ?_
  refine k35 _ _ ?_
  try clear k35 K35
  refine wp_cond_false rfl ?_
  refine wp_seq_k (fun K36 k36=>?_)
  refine rg [0,1,2,3,4,5,6,7] ?_
  refine sv 67 u30 ?_
  refine sv 68 u34 ?_
  refine se ?_
  replace hs30:=hs30.gr (stab_rat 4899) g34
  refine ec 69 (l5_equal (L:=4899) (by omega) (by omega) (by omega) (fun j hj=>by rw [fit_S _ hps];exact sol_z (by decide) (Nat.lt_succ_self N) ((rs_sm (wth_z (fun i _ k _=>hta.z i k) (fun i _=>en_zs hse i)) (.inr hR5) (Nat.le_succ N)) N (Nat.le_refl _)).1) (ht.gr hB) hs30 hs34) ?_
  rintro e37 w37 ⟨rfl,g37⟩
  refine ⟨_,rfl,?_⟩
  replace hB:=hB.trans g37
  simp only [p3,p4]
  refine sv 70 (.bool false) ?_
  refine sv 71 (.bool false) ?_
  refine sv 72 (.int .i64 0) ?_
  refine sv 73 (.bool false) ?_
  refine sv 74 (.bool false) ?_
  refine sq_nil ?_
  refine k36 _ _ ?_
  try clear k36 K36
  refine wp_cond_false rfl ?_
  refine wp_skip ?_
  refine k31 _ _ ?_
  try clear k31 K31
  refine wp_seq_k (fun K38 k38=>?_)
  refine rg [0,1,2] ?_
  refine sv 75 u21 ?_
  refine se ?_
  replace hs21:=hs21.gr (stab_rw stab_fr 84 2) (g34.trans g37)
  refine ec 76 (f5_columns hRN hs21) ?_
  rintro e39 w39 ⟨rfl,g39⟩
  refine ⟨_,rfl,?_⟩
  replace hB:=hB.trans g39
  simp only [p3,p4]
  refine sv 8 (.int .i64 ((N:Int))) ?_
  refine sq_nil ?_
  refine k38 _ _ ?_
  try clear k38 K38
  refine wp_seq_k (fun K40 k40=>?_)
  refine wp_seq_k (fun K41 k41=>?_)
  refine rg [0] ?_
  refine sv 77 (.bool false) ?_
  refine sq_nil ?_
  refine k41 _ _ ?_
  try clear k41 K41
  refine wp_cond_false rfl ?_
  refine wp_skip ?_
  refine k40 _ _ ?_
  try clear k40 K40
  refine wp_seq_k (fun K42 k42=>?_)
  refine rg [0,1,2,3] ?_
  refine sv 80 ve ?_
  refine sv 81 (.int .i64 ((N:Int))) ?_
  refine se ?_
  refine ec 82 (l5_line N (by omega) (hse.gr stab_en hB)) ?_
  rintro e43 w43 ⟨⟨u43,rfl,hs43⟩,g43⟩
  refine ⟨_,rfl,?_⟩
  replace hB:=hB.trans g43
  simp only [p3,p4]
  refine sv 9 u43 ?_
  refine sq_nil ?_
  refine k42 _ _ ?_
  try clear k42 K42
  refine wp_seq_k (fun K44 k44=>?_)
  refine rg [0,1,2,3,4,5,6,7,8,9] ?_
  refine sv 84 u21 ?_
  refine se ?_
  replace hs21:=hs21.gr (stab_rw stab_fr 84 2) (g39.trans g43)
  refine ec 85 (l5_own (by omega) (by omega) (fun i _ k _=>(hta.z i k).mono (by omega) (by omega)) (hm.gr hB) hs21) ?_
  rintro e45 w45 ⟨⟨u45,rfl,hs45⟩,g45⟩
  refine ⟨_,rfl,?_⟩
  replace hB:=hB.trans g45
  simp only [p3,p4]
  refine sv 86 u43 ?_
  refine se ?_
  replace hs43:=hs43.gr stab_fr g45
  refine ec 87 (l5_list (by omega) (fun j _=>(en_zs hse j).mono (by omega) (by omega)) (hm.gr hB) hs43) ?_
  rintro e46 w46 ⟨⟨u46,rfl,hs46⟩,g46⟩
  refine ⟨_,rfl,?_⟩
  replace hB:=hB.trans g46
  simp only [p3,p4]
  refine se ?_
  replace hs45:=hs45.gr (stab_rw (stab_rat 64) 71 4) g46
  refine ec 88 (mx_Combine_y (K:=4899) (R:=R) (N:=N) (m:=m) (b:=(en ee Z)) hRN (by omega) (by omega) (by omega) (by omega) (rs_sm (wth_z (fun i _ k _=>hta.z k i) (fun i _=>en_zs hse i)) (by omega) (Nat.le_succ R)) hfc (hs45.ratrows (by omega)) (hs46.rats (by omega))) ?_
  rintro e47 w47 ⟨⟨u47,rfl,hs47⟩,g47⟩
  refine ⟨_,rfl,?_⟩
  replace hB:=hB.trans g47
  replace hs47:=hs47.cast (show _=tb (fun z1=>sol (rs N (wth R (fun z7 z8=>m z8 z7) (en ee Z)) (R+1)) R z1) R from by rw [fit_S _ hpc])
  simp only [p3,p4]
  refine sv 83 (.tuple #[u47,(.int .i64 0)]) ?_
  refine sv 89 u47 ?_
  refine sv 90 (.int .i64 0) ?_
  refine sv 14 u47 ?_
  refine sv 15 (.int .i64 0) ?_
  refine sq_nil ?_
  refine k44 _ _ ?_
  try clear k44 K44
  refine wp_seq_k (fun K48 k48=>?_)
  refine wp_seq_k (fun K49 k49=>?_)
  refine rg [0] ?_
  refine sv 91 (.bool false) ?_
  refine sq_nil ?_
  refine k49 _ _ ?_
  try clear k49 K49
  refine wp_cond_false rfl ?_
  refine wp_skip ?_
  refine k48 _ _ ?_
  try clear k48 K48
  refine wp_seq_k (fun K50 k50=>?_)
  refine rg [0,1,2,3,4,5,6,7,8] ?_
  refine sv 100 u21 ?_
  refine se ?_
  replace hs21:=hs21.gr (stab_rw stab_fr 84 2) (g45.trans (g46.trans g47))
  refine ec 101 (f5_transpose (m:=m) hRN (by omega) (by omega) hs21) ?_
  rintro e51 w51 ⟨⟨u51,rfl,hs51⟩,g51⟩
  refine ⟨_,rfl,?_⟩
  replace hB:=hB.trans g51
  simp only [p3,p4]
  refine sv 102 u43 ?_
  refine se ?_
  replace hs43:=hs43.gr stab_fr (g46.trans (g47.trans g51))
  refine ec 103 (f5_solve_y (K:=4899) (R:=N) (N:=R) (m:=(fun z7 z8=>m z8 z7)) (b:=(en ee Z)) (fun h=>absurd h (by omega)) (by omega) (by omega) (by omega) (rs_sf (wth_z (fun i _ k _=>hta.z k i) (fun i _=>en_zs hse i)) (by omega)) hpc hs51 hs43) ?_
  rintro e52 w52 ⟨⟨u52,rfl,hs52⟩,g52⟩
  refine ⟨_,rfl,?_⟩
  replace hB:=hB.trans g52
  simp only [p3,p4]
  refine sv 99 (.tuple #[u52,(.bool true)]) ?_
  refine sv 104 u52 ?_
  refine sv 105 (.bool true) ?_
  refine sv 16 u52 ?_
  refine sv 17 (.bool true) ?_
  refine sq_nil ?_
  refine k50 _ _ ?_
  try clear k50 K50
  refine wp_seq_k (fun K53 k53=>?_)
  refine wp_seq_k (fun K54 k54=>?_)
  refine rg [0,1,2] ?_
  refine sv 106 u21 ?_
  refine se ?_
  replace hs21:=hs21.gr (stab_rw stab_fr 84 2) (g51.trans g52)
  refine ec 107 (f5_columns hRN hs21) ?_
  rintro e55 w55 ⟨rfl,g55⟩
  refine ⟨_,rfl,?_⟩
  replace hB:=hB.trans g55
  simp only [p3,p4]
  have hb56:(((N:Int)==(0:Int)))=false:=(by simp;omega)
  refine sw 108 (.bool false) rfl (RunV.bool (x:=((N:Int)==(0:Int))) (rvk (by kernel_rfl)) hb56) ?_
  refine sq_nil ?_
  refine k54 _ _ ?_
  try clear k54 K54
  refine wp_cond_false rfl ?_
  refine wp_skip ?_
  refine k53 _ _ ?_
  try clear k53 K53
  refine wp_seq_k (fun K57 k57=>?_)
  refine wp_seq_k (fun K58 k58=>?_)
  refine rg [0,1] ?_
  refine sv 112 (.bool true) ?_
  refine sv 113 (.bool false) ?_
  refine sq_nil ?_
  refine k58 _ _ ?_
  try clear k58 K58
  refine wp_cond_false rfl ?_
  refine wp_skip ?_
  refine k57 _ _ ?_
  try clear k57 K57
  refine wp_seq_k (fun K59 k59=>?_)
  refine rg [0,1,2,3,4,5,6,7] ?_
  refine sv 121 u47 ?_
  refine sv 122 u52 ?_
  refine se ?_
  replace hs47:=hs47.gr (stab_rat 4899) (g51.trans (g52.trans g55))
  replace hs52:=hs52.gr stab_fr g55
  refine ec 123 (l5_equal (L:=4899) (by omega) (by omega) (by omega) (fun j hj=>by rw [fit_S _ hpc];exact sol_z (by decide) (Nat.lt_succ_self R) ((rs_sm (wth_z (fun i _ k _=>hta.z k i) (fun i _=>en_zs hse i)) (.inl hR5) (Nat.le_succ R)) R (Nat.le_refl _)).1) (ht.gr hB) hs47 hs52) ?_
  rintro e60 w60 ⟨rfl,g60⟩
  refine ⟨_,rfl,?_⟩
  replace hB:=hB.trans g60
  simp only [p3,p4]
  refine sv 124 (.bool true) ?_
  refine sv 125 (.int .i64 0) ?_
  refine sv 126 (.bool true) ?_
  refine sv 127 (.bool true) ?_
  refine sv 6 (.bool true) ?_
  refine sq_nil ?_
  refine k59 _ _ ?_
  try clear k59 K59
  refine wp_ret ?_
  refine bodyPost_ret (v:=(.bool true)) (ret_tmp rfl rfl) rfl ⟨?_,hB⟩
  exact rfl

set_option maxRecDepth 100000 in
set_option maxHeartbeats 1000000 in
theorem ms_yn {R N TT Z ca:Nat} {va:Value} {m:Mx_} {ve:Value} {ee:Nat→Int × Int} (_hN0:0<N) (hfs:(∀ t,pl R (wth N m (en ee Z)) N≤t→t<R→(rs R (wth N m (en ee Z)) N).m t N=0)) (hfc:¬ (∀ t,pl N (wth R (fun z7 z8=>m z8 z7) (en ee Z)) R≤t→t<N→(rs N (wth R (fun z7 z8=>m z8 z7) (en ee Z)) R).m t R=0)) {w:World} (hm:Mx w) (ht:Tab w) (hse:Sl EEn TT 2 w ve (tb (fun z1=>(ee z1)) Z)) (hta:TA w (.agg #[.int .u8 (ca:Int),va]) R N m):
    Calls Tryz.prog 7 #[(.agg #[(.int .u8 ((ca:Int))),va]),ve,(.bool false)] w fun e w'=>e=.returned (.bool true)∧Gr w w':=by
 have hR5:=hta.R5
 have hN6:=hta.N6
 have hRN:=hta.R0
 have hps:=(fit_P (wth N m (en ee Z))).2 hfs
 have hpc:isP N (wth R (fun z7 z8=>m z8 z7) (en ee Z)) (R+1) R=true:=by cases h:isP N (wth R (fun z7 z8=>m z8 z7) (en ee Z)) (R+1) R with | true=>rfl | false=>exact absurd ((fit_P _).1 h) hfc
 go_enter Tryz.func7,Tryz.ntmps7
 have hB:=Gr.refl w
 refine wp_seq_k (fun K10 k10=>?_)
 refine rg [0,1] ?_
 refine se ?_
 refine eb 24 #[(.int .u8 ((ca:Int))),va] 3 hB fun b11 w11 g11 L11 o11 q11 hB=>?_
 simp only [p3,p4]
 refine sv 6 (.bool false) ?_
 refine sq_nil ?_
 refine k10 _ _ ?_
 try clear k10 K10
 refine wp_seq_k (fun K12 k12=>?_)
 refine wp_seq_k (fun K13 k13=>?_)
 refine rg [0,1,2,3,4,5,6] ?_
 refine se ?_
 refine ec 18 (l5_known _ (hm.gr hB) (ht.gr hB)) ?_
 rintro e14 w14 ⟨rfl,g14⟩
 refine ⟨_,rfl,?_⟩
 replace hB:=hB.trans g14
 simp only [p3,p4]
 refine sv 19 (.bool false) ?_
 refine sv 20 (.bool false) ?_
 refine sv 21 ve ?_
 refine sw 22 (.int .i64 ((Z:Int))) rfl (rv_lenn (e:=114) hse (tb_lenz rfl) _ _ rfl rfl (by kernel_rfl)) ?_
 refine sv 23 (.bool (decide ((10:Int)<(Z:Int)))) ?_
 refine sv 24 (.bool (decide ((10:Int)<(Z:Int)))) ?_
 refine sq_nil ?_
 refine k13 _ _ ?_
 try clear k13 K13
 refine wp_cond_split (t:=decide ((10:Int)<(Z:Int))) rfl (fun hb15=>?_) (fun hb15=>?_)
 ·have hq16:((10:Int)<(Z:Int)):=of_decide_eq_true hb15
  refine wp_seq_k (fun K17 k17=>?_)
  refine rg [0,1] ?_
  refine se ?_
  refine ec 25 (l5_known _ (hm.gr hB) (ht.gr hB)) ?_
  rintro e18 w18 ⟨rfl,g18⟩
  refine ⟨_,rfl,?_⟩
  replace hB:=hB.trans g18
  simp only [p3,p4]
  refine sv 6 (.bool true) ?_
  refine sq_nil ?_
  refine k17 _ _ ?_
  try clear k17 K17
  refine wp_ret ?_
  simp only [Exit.then]
  refine bodyPost_ret (v:=(.bool true)) (ret_tmp rfl rfl) rfl ⟨?_,hB⟩
  exact rfl
 ·have hq19:¬ ((10:Int)<(Z:Int)):=of_decide_eq_false hb15
  refine wp_skip ?_
  refine k12 _ _ ?_
  try clear k12 K12
  refine wp_seq_k (fun K20 k20=>?_)
  refine rg [0,1,2] ?_
  replace L11:=L11.gr g14
  refine sw 26 (.agg #[(.int .u8 ((ca:Int))),va]) rfl (rl 24 0 [(.int .u8 ((ca:Int))),va] L11) ?_
  refine se ?_
  refine ec 27 (l5_rowsT (hta.gr hB)) ?_
  rintro e21 w21 ⟨⟨u21,rfl,hs21⟩,g21⟩
  refine ⟨_,rfl,?_⟩
  replace hB:=hB.trans g21
  simp only [p3,p4]
  refine sv 7 u21 ?_
  refine sq_nil ?_
  refine k20 _ _ ?_
  try clear k20 K20
  refine wp_seq_k (fun K22 k22=>?_)
  refine rg [0,1,2] ?_
  refine sv 28 u21 ?_
  refine sw 29 (.int .i64 ((R:Int))) rfl (rv_lenn (e:=51) hs21 (tb_lenz rfl) _ _ rfl rfl (by kernel_rfl)) ?_
  refine sv 8 (.int .i64 ((R:Int))) ?_
  refine sq_nil ?_
  refine k22 _ _ ?_
  try clear k22 K22
  refine wp_seq_k (fun K23 k23=>?_)
  refine wp_seq_k (fun K24 k24=>?_)
  refine rg [0] ?_
  refine sv 30 (.bool false) ?_
  refine sq_nil ?_
  refine k24 _ _ ?_
  try clear k24 K24
  refine wp_cond_false rfl ?_
  refine wp_skip ?_
  refine k23 _ _ ?_
  try clear k23 K23
  refine wp_seq_k (fun K25 k25=>?_)
  refine rg [0,1,2,3] ?_
  refine sv 33 ve ?_
  refine sv 34 (.int .i64 ((R:Int))) ?_
  refine se ?_
  refine ec 35 (l5_line R (by omega) (hse.gr stab_en hB)) ?_
  rintro e26 w26 ⟨⟨u26,rfl,hs26⟩,g26⟩
  refine ⟨_,rfl,?_⟩
  replace hB:=hB.trans g26
  simp only [p3,p4]
  refine sv 9 u26 ?_
  refine sq_nil ?_
  refine k25 _ _ ?_
  try clear k25 K25
  refine wp_seq_k (fun K27 k27=>?_)
  refine rg [0,1,2,3,4,5,6,7,8,9] ?_
  refine sv 37 u21 ?_
  refine se ?_
  replace hs21:=hs21.gr (stab_rw stab_fr 84 2) g26
  refine ec 38 (l5_own (by omega) (by omega) (fun i _ k _=>(hta.z i k).mono (by omega) (by omega)) (hm.gr hB) hs21) ?_
  rintro e28 w28 ⟨⟨u28,rfl,hs28⟩,g28⟩
  refine ⟨_,rfl,?_⟩
  replace hB:=hB.trans g28
  simp only [p3,p4]
  refine sv 39 u26 ?_
  refine se ?_
  replace hs26:=hs26.gr stab_fr g28
  refine ec 40 (l5_list (by omega) (fun j _=>(en_zs hse j).mono (by omega) (by omega)) (hm.gr hB) hs26) ?_
  rintro e29 w29 ⟨⟨u29,rfl,hs29⟩,g29⟩
  refine ⟨_,rfl,?_⟩
  replace hB:=hB.trans g29
  simp only [p3,p4]
  refine se ?_
  replace hs28:=hs28.gr (stab_rw (stab_rat 64) 71 4) g29
  refine ec 41 (mx_Solve_y (K:=4899) (R:=R) (N:=N) (m:=m) (b:=(en ee Z)) hRN (by omega) (by omega) (by omega) (by omega) (rs_sm (wth_z (fun i _ k _=>hta.z i k) (fun i _=>en_zs hse i)) (by omega) (Nat.le_succ N)) hfs (hs28.ratrows (by omega)) (hs29.rats (by omega))) ?_
  rintro e30 w30 ⟨⟨u30,rfl,hs30⟩,g30⟩
  refine ⟨_,rfl,?_⟩
  replace hB:=hB.trans g30
  replace hs30:=hs30.cast (show _=tb (fun z1=>sol (rs R (wth N m (en ee Z)) (N+1)) N z1) N from by rw [fit_S _ hps])
  simp only [p3,p4]
  refine sv 36 (.tuple #[u30,(.int .i64 0)]) ?_
  refine sv 42 u30 ?_
  refine sv 43 (.int .i64 0) ?_
  refine sv 10 u30 ?_
  refine sv 11 (.int .i64 0) ?_
  refine sq_nil ?_
  refine k27 _ _ ?_
  try clear k27 K27
  refine wp_seq_k (fun K31 k31=>?_)
  refine wp_seq_k (fun K32 k32=>?_)
  refine rg [0] ?_
  refine sv 44 (.bool false) ?_
  refine sq_nil ?_
  refine k32 _ _ ?_
  try clear k32 K32
  refine wp_cond_false rfl ?_
  refine wp_seq_k (fun K33 k33=>?_)
  refine rg [0,1,2,3,4,5,6,7] ?_
  refine sv 53 u21 ?_
  refine sv 54 u26 ?_
  refine se ?_
  replace hs21:=hs21.gr (stab_rw stab_fr 84 2) (g28.trans (g29.trans g30))
  replace hs26:=hs26.gr stab_fr (g29.trans g30)
  refine ec 55 (f5_solve_y (K:=4899) (R:=R) (N:=N) (m:=m) (b:=(en ee Z)) hRN (by omega) (by omega) (by omega) (rs_sf (wth_z (fun i _ k _=>hta.z i k) (fun i _=>en_zs hse i)) (by omega)) hps hs21 hs26) ?_
  rintro e34 w34 ⟨⟨u34,rfl,hs34⟩,g34⟩
  refine ⟨_,rfl,?_⟩
  replace hB:=hB.trans g34
  simp only [p3,p4]
  refine sv 52 (.tuple #[u34,(.bool true)]) ?_
  refine sv 56 u34 ?_
  refine sv 57 (.bool true) ?_
  refine sv 12 u34 ?_
  refine sv 13 (.bool true) ?_
  refine sq_nil ?_
  refine k33 _ _ ?_
  try clear k33 K33
  refine wp_seq_k (fun K35 k35=>?_)
  refine rg [0,1] ?_
  refine sv 58 (.bool true) ?_
  refine sv 59 (.bool false) ?_
  refine sq_nil ?_
  refine k35 _ _ ?_
  try clear k35 K35
  refine wp_cond_false rfl ?_
  refine wp_seq_k (fun K36 k36=>?_)
  refine rg [0,1,2,3,4,5,6,7] ?_
  refine sv 67 u30 ?_
  refine sv 68 u34 ?_
  refine se ?_
  replace hs30:=hs30.gr (stab_rat 4899) g34
  refine ec 69 (l5_equal (L:=4899) (by omega) (by omega) (by omega) (fun j hj=>by rw [fit_S _ hps];exact sol_z (by decide) (Nat.lt_succ_self N) ((rs_sm (wth_z (fun i _ k _=>hta.z i k) (fun i _=>en_zs hse i)) (.inr hR5) (Nat.le_succ N)) N (Nat.le_refl _)).1) (ht.gr hB) hs30 hs34) ?_
  rintro e37 w37 ⟨rfl,g37⟩
  refine ⟨_,rfl,?_⟩
  replace hB:=hB.trans g37
  simp only [p3,p4]
  refine sv 70 (.bool false) ?_
  refine sv 71 (.bool false) ?_
  refine sv 72 (.int .i64 0) ?_
  refine sv 73 (.bool false) ?_
  refine sv 74 (.bool false) ?_
  refine sq_nil ?_
  refine k36 _ _ ?_
  try clear k36 K36
  refine wp_cond_false rfl ?_
  refine wp_skip ?_
  refine k31 _ _ ?_
  try clear k31 K31
  refine wp_seq_k (fun K38 k38=>?_)
  refine rg [0,1,2] ?_
  refine sv 75 u21 ?_
  refine se ?_
  replace hs21:=hs21.gr (stab_rw stab_fr 84 2) (g34.trans g37)
  refine ec 76 (f5_columns hRN hs21) ?_
  rintro e39 w39 ⟨rfl,g39⟩
  refine ⟨_,rfl,?_⟩
  replace hB:=hB.trans g39
  simp only [p3,p4]
  refine sv 8 (.int .i64 ((N:Int))) ?_
  refine sq_nil ?_
  refine k38 _ _ ?_
  try clear k38 K38
  refine wp_seq_k (fun K40 k40=>?_)
  refine wp_seq_k (fun K41 k41=>?_)
  refine rg [0] ?_
  refine sv 77 (.bool false) ?_
  refine sq_nil ?_
  refine k41 _ _ ?_
  try clear k41 K41
  refine wp_cond_false rfl ?_
  refine wp_skip ?_
  refine k40 _ _ ?_
  try clear k40 K40
  refine wp_seq_k (fun K42 k42=>?_)
  refine rg [0,1,2,3] ?_
  refine sv 80 ve ?_
  refine sv 81 (.int .i64 ((N:Int))) ?_
  refine se ?_
  refine ec 82 (l5_line N (by omega) (hse.gr stab_en hB)) ?_
  rintro e43 w43 ⟨⟨u43,rfl,hs43⟩,g43⟩
  refine ⟨_,rfl,?_⟩
  replace hB:=hB.trans g43
  simp only [p3,p4]
  refine sv 9 u43 ?_
  refine sq_nil ?_
  refine k42 _ _ ?_
  try clear k42 K42
  refine wp_seq_k (fun K44 k44=>?_)
  refine rg [0,1,2,3,4,5,6,7,8,9] ?_
  refine sv 84 u21 ?_
  refine se ?_
  replace hs21:=hs21.gr (stab_rw stab_fr 84 2) (g39.trans g43)
  refine ec 85 (l5_own (by omega) (by omega) (fun i _ k _=>(hta.z i k).mono (by omega) (by omega)) (hm.gr hB) hs21) ?_
  rintro e45 w45 ⟨⟨u45,rfl,hs45⟩,g45⟩
  refine ⟨_,rfl,?_⟩
  replace hB:=hB.trans g45
  simp only [p3,p4]
  refine sv 86 u43 ?_
  refine se ?_
  replace hs43:=hs43.gr stab_fr g45
  refine ec 87 (l5_list (by omega) (fun j _=>(en_zs hse j).mono (by omega) (by omega)) (hm.gr hB) hs43) ?_
  rintro e46 w46 ⟨⟨u46,rfl,hs46⟩,g46⟩
  refine ⟨_,rfl,?_⟩
  replace hB:=hB.trans g46
  simp only [p3,p4]
  refine se ?_
  replace hs45:=hs45.gr (stab_rw (stab_rat 64) 71 4) g46
  refine ec 88 (mx_Combine_n (K:=4899) (R:=R) (N:=N) (m:=m) (b:=(en ee Z)) hRN (by omega) (by omega) (by omega) (by omega) (rs_sm (wth_z (fun i _ k _=>hta.z k i) (fun i _=>en_zs hse i)) (by omega) (Nat.le_succ R)) hfc (hs45.ratrows (by omega)) (hs46.rats (by omega))) ?_
  rintro e47 w47 ⟨rfl,g47⟩
  refine ⟨_,rfl,?_⟩
  replace hB:=hB.trans g47
  simp only [p3,p4]
  refine sv 83 (.tuple #[(.slice none 0 0),(.int .i64 21)]) ?_
  refine sv 89 (.slice none 0 0) ?_
  refine sv 90 (.int .i64 21) ?_
  refine sv 14 (.slice none 0 0) ?_
  refine sv 15 (.int .i64 21) ?_
  refine sq_nil ?_
  refine k44 _ _ ?_
  try clear k44 K44
  refine wp_seq_k (fun K48 k48=>?_)
  refine wp_seq_k (fun K49 k49=>?_)
  refine rg [0] ?_
  refine sv 91 (.bool false) ?_
  refine sq_nil ?_
  refine k49 _ _ ?_
  try clear k49 K49
  refine wp_cond_false rfl ?_
  refine wp_skip ?_
  refine k48 _ _ ?_
  try clear k48 K48
  refine wp_seq_k (fun K50 k50=>?_)
  refine rg [0,1,2,3,4,5,6,7,8] ?_
  refine sv 100 u21 ?_
  refine se ?_
  replace hs21:=hs21.gr (stab_rw stab_fr 84 2) (g45.trans (g46.trans g47))
  refine ec 101 (f5_transpose (m:=m) hRN (by omega) (by omega) hs21) ?_
  rintro e51 w51 ⟨⟨u51,rfl,hs51⟩,g51⟩
  refine ⟨_,rfl,?_⟩
  replace hB:=hB.trans g51
  simp only [p3,p4]
  refine sv 102 u43 ?_
  refine se ?_
  replace hs43:=hs43.gr stab_fr (g46.trans (g47.trans g51))
  refine ec 103 (f5_solve_n (K:=4899) (R:=N) (N:=R) (m:=(fun z7 z8=>m z8 z7)) (b:=(en ee Z)) (fun h=>absurd h (by omega)) (by omega) (by omega) (by omega) (rs_sf (wth_z (fun i _ k _=>hta.z k i) (fun i _=>en_zs hse i)) (by omega)) hpc hs51 hs43) ?_
  rintro e52 w52 ⟨rfl,g52⟩
  refine ⟨_,rfl,?_⟩
  replace hB:=hB.trans g52
  simp only [p3,p4]
  refine sv 99 (.tuple #[(.slice none 0 0),(.bool false)]) ?_
  refine sv 104 (.slice none 0 0) ?_
  refine sv 105 (.bool false) ?_
  refine sv 16 (.slice none 0 0) ?_
  refine sv 17 (.bool false) ?_
  refine sq_nil ?_
  refine k50 _ _ ?_
  try clear k50 K50
  refine wp_seq_k (fun K53 k53=>?_)
  refine wp_seq_k (fun K54 k54=>?_)
  refine rg [0,1,2] ?_
  refine sv 106 u21 ?_
  refine se ?_
  replace hs21:=hs21.gr (stab_rw stab_fr 84 2) (g51.trans g52)
  refine ec 107 (f5_columns hRN hs21) ?_
  rintro e55 w55 ⟨rfl,g55⟩
  refine ⟨_,rfl,?_⟩
  replace hB:=hB.trans g55
  simp only [p3,p4]
  have hb56:(((N:Int)==(0:Int)))=false:=(by simp;omega)
  refine sw 108 (.bool false) rfl (RunV.bool (x:=((N:Int)==(0:Int))) (rvk (by kernel_rfl)) hb56) ?_
  refine sq_nil ?_
  refine k54 _ _ ?_
  try clear k54 K54
  refine wp_cond_false rfl ?_
  refine wp_skip ?_
  refine k53 _ _ ?_
  try clear k53 K53
  refine wp_seq_k (fun K57 k57=>?_)
  refine wp_seq_k (fun K58 k58=>?_)
  refine rg [0,1] ?_
  refine sv 112 (.bool false) ?_
  refine sv 113 (.bool true) ?_
  refine sq_nil ?_
  refine k58 _ _ ?_
  try clear k58 K58
  refine wp_cond_true rfl ?_
  refine wp_seq_k (fun K59 k59=>?_)
  refine rg [0,1,2,3,4,5,6,7] ?_
  refine sv 114 (.slice none 0 0) ?_
  refine sv 115 (.int .i64 0) ?_
  refine sv 116 (.bool true) ?_
  refine sv 117 (.bool true) ?_
  refine sv 118 (.int .i64 21) ?_
  refine sv 119 (.bool true) ?_
  refine sv 120 (.bool true) ?_
  refine sv 6 (.bool true) ?_
  refine sq_nil ?_
  refine k59 _ _ ?_
  try clear k59 K59
  refine wp_ret ?_
  simp only [Exit.then]
  refine bodyPost_ret (v:=(.bool true)) (ret_tmp rfl rfl) rfl ⟨?_,hB⟩
  exact rfl

set_option maxRecDepth 100000 in
set_option maxHeartbeats 1000000 in
theorem ms_n0 {R TT Z ca:Nat} (ee0:Nat→Int × Int) {va:Value} {m:Mx_} {ve:Value} {ee:Nat→Int × Int} (hfs:¬ (∀ t,pl R (wth 0 m (en ee Z)) 0≤t→t<R→(rs R (wth 0 m (en ee Z)) 0).m t 0=0)) {w:World} (hm:Mx w) (ht:Tab w) (hse:Sl EEn TT 2 w ve (tb (fun z1=>(ee z1)) Z)) (hta:TA w (.agg #[.int .u8 (ca:Int),va]) R 0 m):
    Calls Tryz.prog 7 #[(.agg #[(.int .u8 ((ca:Int))),va]),ve,(.bool false)] w fun e w'=>e=.returned (.bool true)∧Gr w w':=by
 have hR5:=hta.R5
 have hN6:=hta.N6
 have hRN:=hta.R0
 have hps:isP R (wth 0 m (en ee Z)) (0+1) 0=true:=by cases h:isP R (wth 0 m (en ee Z)) (0+1) 0 with | true=>rfl | false=>exact absurd ((fit_P _).1 h) hfs
 have hfc:(∀ t,pl 0 (wth R (fun z7 z8=>m z8 z7) (en ee Z)) R≤t→t<0→(rs 0 (wth R (fun z7 z8=>m z8 z7) (en ee Z)) R).m t R=0):=fun t _ h=>absurd h (Nat.not_lt_zero t)
 go_enter Tryz.func7,Tryz.ntmps7
 have hB:=Gr.refl w
 refine wp_seq_k (fun K10 k10=>?_)
 refine rg [0,1] ?_
 refine se ?_
 refine eb 24 #[(.int .u8 ((ca:Int))),va] 3 hB fun b11 w11 g11 L11 o11 q11 hB=>?_
 simp only [p3,p4]
 refine sv 6 (.bool false) ?_
 refine sq_nil ?_
 refine k10 _ _ ?_
 try clear k10 K10
 refine wp_seq_k (fun K12 k12=>?_)
 refine wp_seq_k (fun K13 k13=>?_)
 refine rg [0,1,2,3,4,5,6] ?_
 refine se ?_
 refine ec 18 (l5_known _ (hm.gr hB) (ht.gr hB)) ?_
 rintro e14 w14 ⟨rfl,g14⟩
 refine ⟨_,rfl,?_⟩
 replace hB:=hB.trans g14
 simp only [p3,p4]
 refine sv 19 (.bool false) ?_
 refine sv 20 (.bool false) ?_
 refine sv 21 ve ?_
 refine sw 22 (.int .i64 ((Z:Int))) rfl (rv_lenn (e:=114) hse (tb_lenz rfl) _ _ rfl rfl (by kernel_rfl)) ?_
 refine sv 23 (.bool (decide ((10:Int)<(Z:Int)))) ?_
 refine sv 24 (.bool (decide ((10:Int)<(Z:Int)))) ?_
 refine sq_nil ?_
 refine k13 _ _ ?_
 try clear k13 K13
 refine wp_cond_split (t:=decide ((10:Int)<(Z:Int))) rfl (fun hb15=>?_) (fun hb15=>?_)
 ·have hq16:((10:Int)<(Z:Int)):=of_decide_eq_true hb15
  refine wp_seq_k (fun K17 k17=>?_)
  refine rg [0,1] ?_
  refine se ?_
  refine ec 25 (l5_known _ (hm.gr hB) (ht.gr hB)) ?_
  rintro e18 w18 ⟨rfl,g18⟩
  refine ⟨_,rfl,?_⟩
  replace hB:=hB.trans g18
  simp only [p3,p4]
  refine sv 6 (.bool true) ?_
  refine sq_nil ?_
  refine k17 _ _ ?_
  try clear k17 K17
  refine wp_ret ?_
  simp only [Exit.then]
  refine bodyPost_ret (v:=(.bool true)) (ret_tmp rfl rfl) rfl ⟨?_,hB⟩
  exact rfl
 ·have hq19:¬ ((10:Int)<(Z:Int)):=of_decide_eq_false hb15
  refine wp_skip ?_
  refine k12 _ _ ?_
  try clear k12 K12
  refine wp_seq_k (fun K20 k20=>?_)
  refine rg [0,1,2] ?_
  replace L11:=L11.gr g14
  refine sw 26 (.agg #[(.int .u8 ((ca:Int))),va]) rfl (rl 24 0 [(.int .u8 ((ca:Int))),va] L11) ?_
  refine se ?_
  refine ec 27 (l5_rowsT (hta.gr hB)) ?_
  rintro e21 w21 ⟨⟨u21,rfl,hs21⟩,g21⟩
  refine ⟨_,rfl,?_⟩
  replace hB:=hB.trans g21
  simp only [p3,p4]
  refine sv 7 u21 ?_
  refine sq_nil ?_
  refine k20 _ _ ?_
  try clear k20 K20
  refine wp_seq_k (fun K22 k22=>?_)
  refine rg [0,1,2] ?_
  refine sv 28 u21 ?_
  refine sw 29 (.int .i64 ((R:Int))) rfl (rv_lenn (e:=51) hs21 (tb_lenz rfl) _ _ rfl rfl (by kernel_rfl)) ?_
  refine sv 8 (.int .i64 ((R:Int))) ?_
  refine sq_nil ?_
  refine k22 _ _ ?_
  try clear k22 K22
  refine wp_seq_k (fun K23 k23=>?_)
  refine wp_seq_k (fun K24 k24=>?_)
  refine rg [0] ?_
  refine sv 30 (.bool false) ?_
  refine sq_nil ?_
  refine k24 _ _ ?_
  try clear k24 K24
  refine wp_cond_false rfl ?_
  refine wp_skip ?_
  refine k23 _ _ ?_
  try clear k23 K23
  refine wp_seq_k (fun K25 k25=>?_)
  refine rg [0,1,2,3] ?_
  refine sv 33 ve ?_
  refine sv 34 (.int .i64 ((R:Int))) ?_
  refine se ?_
  refine ec 35 (l5_line R (by omega) (hse.gr stab_en hB)) ?_
  rintro e26 w26 ⟨⟨u26,rfl,hs26⟩,g26⟩
  refine ⟨_,rfl,?_⟩
  replace hB:=hB.trans g26
  simp only [p3,p4]
  refine sv 9 u26 ?_
  refine sq_nil ?_
  refine k25 _ _ ?_
  try clear k25 K25
  refine wp_seq_k (fun K27 k27=>?_)
  refine rg [0,1,2,3,4,5,6,7,8,9] ?_
  refine sv 37 u21 ?_
  refine se ?_
  replace hs21:=hs21.gr (stab_rw stab_fr 84 2) g26
  refine ec 38 (l5_own (by omega) (by omega) (fun i _ k _=>(hta.z i k).mono (by omega) (by omega)) (hm.gr hB) hs21) ?_
  rintro e28 w28 ⟨⟨u28,rfl,hs28⟩,g28⟩
  refine ⟨_,rfl,?_⟩
  replace hB:=hB.trans g28
  simp only [p3,p4]
  refine sv 39 u26 ?_
  refine se ?_
  replace hs26:=hs26.gr stab_fr g28
  refine ec 40 (l5_list (by omega) (fun j _=>(en_zs hse j).mono (by omega) (by omega)) (hm.gr hB) hs26) ?_
  rintro e29 w29 ⟨⟨u29,rfl,hs29⟩,g29⟩
  refine ⟨_,rfl,?_⟩
  replace hB:=hB.trans g29
  simp only [p3,p4]
  refine se ?_
  replace hs28:=hs28.gr (stab_rw (stab_rat 64) 71 4) g29
  refine ec 41 (mx_Solve_n (K:=4899) (R:=R) (N:=0) (m:=m) (b:=(en ee Z)) hRN (by omega) (by omega) (by omega) (by omega) (rs_sm (wth_z (fun i _ k _=>hta.z i k) (fun i _=>en_zs hse i)) (by omega) (Nat.le_succ 0)) hfs (hs28.ratrows (by omega)) (hs29.rats (by omega))) ?_
  rintro e30 w30 ⟨rfl,g30⟩
  refine ⟨_,rfl,?_⟩
  replace hB:=hB.trans g30
  simp only [p3,p4]
  refine sv 36 (.tuple #[(.slice none 0 0),(.int .i64 21)]) ?_
  refine sv 42 (.slice none 0 0) ?_
  refine sv 43 (.int .i64 21) ?_
  refine sv 10 (.slice none 0 0) ?_
  refine sv 11 (.int .i64 21) ?_
  refine sq_nil ?_
  refine k27 _ _ ?_
  try clear k27 K27
  refine wp_seq_k (fun K31 k31=>?_)
  refine wp_seq_k (fun K32 k32=>?_)
  refine rg [0] ?_
  refine sv 44 (.bool false) ?_
  refine sq_nil ?_
  refine k32 _ _ ?_
  try clear k32 K32
  refine wp_cond_false rfl ?_
  refine wp_seq_k (fun K33 k33=>?_)
  refine rg [0,1,2,3,4,5,6,7] ?_
  refine sv 53 u21 ?_
  refine sv 54 u26 ?_
  refine se ?_
  replace hs21:=hs21.gr (stab_rw stab_fr 84 2) (g28.trans (g29.trans g30))
  replace hs26:=hs26.gr stab_fr (g29.trans g30)
  refine ec 55 (f5_solve_n (K:=4899) (R:=R) (N:=0) (m:=m) (b:=(en ee Z)) hRN (by omega) (by omega) (by omega) (rs_sf (wth_z (fun i _ k _=>hta.z i k) (fun i _=>en_zs hse i)) (by omega)) hps hs21 hs26) ?_
  rintro e34 w34 ⟨rfl,g34⟩
  refine ⟨_,rfl,?_⟩
  replace hB:=hB.trans g34
  simp only [p3,p4]
  refine sv 52 (.tuple #[(.slice none 0 0),(.bool false)]) ?_
  refine sv 56 (.slice none 0 0) ?_
  refine sv 57 (.bool false) ?_
  refine sv 12 (.slice none 0 0) ?_
  refine sv 13 (.bool false) ?_
  refine sq_nil ?_
  refine k33 _ _ ?_
  try clear k33 K33
  refine wp_seq_k (fun K35 k35=>?_)
  refine rg [0,1] ?_
  refine sv 58 (.bool false) ?_
  refine sv 59 (.bool true) ?_
  refine sq_nil ?_
  refine k35 _ _ ?_
  try clear k35 K35
  refine wp_cond_true rfl ?_
  refine wp_seq_k (fun K36 k36=>?_)
  refine rg [0,1,2,3,4,5,6] ?_
  refine sv 60 (.slice none 0 0) ?_
  refine sv 61 (.int .i64 0) ?_
  refine sv 62 (.bool false) ?_
  refine sv 63 (.bool false) ?_
  refine sv 64 (.int .i64 21) ?_
  refine sv 65 (.bool false) ?_
  refine sv 66 (.bool false) ?_
  refine sq_nil ?_
  refine k36 _ _ ?_
  try clear k36 K36
  refine wp_cond_false rfl ?_
  refine wp_skip ?_
  refine k31 _ _ ?_
  try clear k31 K31
  refine wp_seq_k (fun K37 k37=>?_)
  refine rg [0,1,2] ?_
  refine sv 75 u21 ?_
  refine se ?_
  replace hs21:=hs21.gr (stab_rw stab_fr 84 2) g34
  refine ec 76 (f5_columns hRN hs21) ?_
  rintro e38 w38 ⟨rfl,g38⟩
  refine ⟨_,rfl,?_⟩
  replace hB:=hB.trans g38
  simp only [p3,p4]
  refine sv 8 (.int .i64 0) ?_
  refine sq_nil ?_
  refine k37 _ _ ?_
  try clear k37 K37
  refine wp_seq_k (fun K39 k39=>?_)
  refine wp_seq_k (fun K40 k40=>?_)
  refine rg [0] ?_
  refine sv 77 (.bool false) ?_
  refine sq_nil ?_
  refine k40 _ _ ?_
  try clear k40 K40
  refine wp_cond_false rfl ?_
  refine wp_skip ?_
  refine k39 _ _ ?_
  try clear k39 K39
  refine wp_seq_k (fun K41 k41=>?_)
  refine rg [0,1,2,3] ?_
  refine sv 80 ve ?_
  refine sv 81 (.int .i64 0) ?_
  refine se ?_
  refine ec 82 (l5_line 0 (by omega) (hse.gr stab_en hB)) ?_
  rintro e42 w42 ⟨⟨u42,rfl,hs42⟩,g42⟩
  refine ⟨_,rfl,?_⟩
  replace hB:=hB.trans g42
  simp only [p3,p4]
  refine sv 9 u42 ?_
  refine sq_nil ?_
  refine k41 _ _ ?_
  try clear k41 K41
  refine wp_seq_k (fun K43 k43=>?_)
  refine rg [0,1,2,3,4,5,6,7,8,9] ?_
  refine sv 84 u21 ?_
  refine se ?_
  replace hs21:=hs21.gr (stab_rw stab_fr 84 2) (g38.trans g42)
  refine ec 85 (l5_own (by omega) (by omega) (fun i _ k _=>(hta.z i k).mono (by omega) (by omega)) (hm.gr hB) hs21) ?_
  rintro e44 w44 ⟨⟨u44,rfl,hs44⟩,g44⟩
  refine ⟨_,rfl,?_⟩
  replace hB:=hB.trans g44
  simp only [p3,p4]
  refine sv 86 u42 ?_
  refine se ?_
  replace hs42:=hs42.gr stab_fr g44
  refine ec 87 (l5_list (by omega) (fun j _=>(en_zs hse j).mono (by omega) (by omega)) (hm.gr hB) hs42) ?_
  rintro e45 w45 ⟨⟨u45,rfl,hs45⟩,g45⟩
  refine ⟨_,rfl,?_⟩
  replace hB:=hB.trans g45
  simp only [p3,p4]
  refine se ?_
  replace hs44:=hs44.gr (stab_rw (stab_rat 64) 71 4) g45
  refine ec 88 (mx_Combine_y (K:=4899) (R:=R) (N:=0) (m:=m) (b:=(en ee Z)) hRN (by omega) (by omega) (by omega) (by omega) (rs_sm (wth_z (fun i _ k _=>hta.z k i) (fun i _=>en_zs hse i)) (by omega) (Nat.le_succ R)) hfc (hs44.ratrows (by omega)) (hs45.rats (by omega))) ?_
  rintro e46 w46 ⟨⟨u46,rfl,hs46⟩,g46⟩
  refine ⟨_,rfl,?_⟩
  replace hB:=hB.trans g46
  replace hs46:=hs46.cast (show _=tb (fun z1=>en ee0 0 z1) R from tb_congr fun k _=>by rw [en_none,← sol_pik,rs_zero rfl];rfl)
  simp only [p3,p4]
  refine sv 83 (.tuple #[u46,(.int .i64 0)]) ?_
  refine sv 89 u46 ?_
  refine sv 90 (.int .i64 0) ?_
  refine sv 14 u46 ?_
  refine sv 15 (.int .i64 0) ?_
  refine sq_nil ?_
  refine k43 _ _ ?_
  try clear k43 K43
  refine wp_seq_k (fun K47 k47=>?_)
  refine wp_seq_k (fun K48 k48=>?_)
  refine rg [0] ?_
  refine sv 91 (.bool false) ?_
  refine sq_nil ?_
  refine k48 _ _ ?_
  try clear k48 K48
  refine wp_cond_false rfl ?_
  refine wp_skip ?_
  refine k47 _ _ ?_
  try clear k47 K47
  refine wp_seq_k (fun K49 k49=>?_)
  refine rg [0,1,2,3,4,5,6,7,8] ?_
  refine sv 100 u21 ?_
  refine se ?_
  replace hs21:=hs21.gr (stab_rw stab_fr 84 2) (g44.trans (g45.trans g46))
  refine ec 101 (f5_transpose (m:=m) hRN (by omega) (by omega) hs21) ?_
  rintro e50 w50 ⟨⟨u50,rfl,hs50⟩,g50⟩
  refine ⟨_,rfl,?_⟩
  replace hB:=hB.trans g50
  simp only [p3,p4]
  refine sv 102 u42 ?_
  refine se ?_
  replace hs42:=hs42.gr stab_fr (g45.trans (g46.trans g50))
  refine ec 103 (f5_solve_y (K:=4899) (R:=0) (N:=0) (m:=fun _ _=>0) (b:=en ee Z) (fun h=>h) (by omega) (by omega) (by omega) (fun k i _ h=>absurd h.lt.2 (Nat.not_lt_zero i)) ((fit_P _).2 fun t _ h=>absurd h (Nat.not_lt_zero t)) (hs50.cast (show _=tb (fun z0=>tb (fun z1=>(0:Rat)) 0) 0 from rfl)) hs42) ?_
  rintro e51 w51 ⟨⟨u51,rfl,hs51⟩,g51⟩
  refine ⟨_,rfl,?_⟩
  replace hB:=hB.trans g51
  simp only [p3,p4]
  refine sv 99 (.tuple #[u51,(.bool true)]) ?_
  refine sv 104 u51 ?_
  refine sv 105 (.bool true) ?_
  refine sv 16 u51 ?_
  refine sv 17 (.bool true) ?_
  refine sq_nil ?_
  refine k49 _ _ ?_
  try clear k49 K49
  refine wp_seq_k (fun K52 k52=>?_)
  refine wp_seq_k (fun K53 k53=>?_)
  refine rg [0,1,2] ?_
  refine sv 106 u21 ?_
  refine se ?_
  replace hs21:=hs21.gr (stab_rw stab_fr 84 2) (g50.trans g51)
  refine ec 107 (f5_columns hRN hs21) ?_
  rintro e54 w54 ⟨rfl,g54⟩
  refine ⟨_,rfl,?_⟩
  replace hB:=hB.trans g54
  simp only [p3,p4]
  refine sv 108 (.bool true) ?_
  refine sq_nil ?_
  refine k53 _ _ ?_
  try clear k53 K53
  refine wp_cond_true rfl ?_
  refine rg [0,1,2,3,4] ?_
  refine sv 109 u21 ?_
  refine sw 110 (.int .i64 ((R:Int))) rfl (rv_lenn (e:=51) hs21 (tb_lenz rfl) _ _ rfl rfl (by kernel_rfl)) ?_
  refine se ?_
  refine ec 111 (l5_line (TT:=0) (ee:=ee0) (Z:=0) R (by omega) (Sl.nil _ _ _ _ none 0)) ?_
  rintro e55 w55 ⟨⟨u55,rfl,hs55⟩,g55⟩
  refine ⟨_,rfl,?_⟩
  replace hB:=hB.trans g55
  simp only [p3,p4]
  refine sv 16 u55 ?_
  refine sv 17 (.bool true) ?_
  refine sq_nil ?_
  refine k52 _ _ ?_
  try clear k52 K52
  refine wp_seq_k (fun K56 k56=>?_)
  refine wp_seq_k (fun K57 k57=>?_)
  refine rg [0,1] ?_
  refine sv 112 (.bool true) ?_
  refine sv 113 (.bool false) ?_
  refine sq_nil ?_
  refine k57 _ _ ?_
  try clear k57 K57
  refine wp_cond_false rfl ?_
  refine wp_skip ?_
  refine k56 _ _ ?_
  try clear k56 K56
  refine wp_seq_k (fun K58 k58=>?_)
  refine rg [0,1,2,3,4,5,6,7] ?_
  refine sv 121 u46 ?_
  refine sv 122 u55 ?_
  refine se ?_
  replace hs46:=hs46.gr (stab_rat 4899) (g50.trans (g51.trans (g54.trans g55)))
  refine ec 123 (l5_equal (L:=8) (by omega) (by omega) (by omega) (fun j _=>by rw [en_none];exact RZ.zero _ _ (by decide)) (ht.gr hB) hs46 hs55) ?_
  rintro e59 w59 ⟨rfl,g59⟩
  refine ⟨_,rfl,?_⟩
  replace hB:=hB.trans g59
  simp only [p3,p4]
  refine sv 124 (.bool true) ?_
  refine sv 125 (.int .i64 0) ?_
  refine sv 126 (.bool true) ?_
  refine sv 127 (.bool true) ?_
  refine sv 6 (.bool true) ?_
  refine sq_nil ?_
  refine k58 _ _ ?_
  try clear k58 K58
  refine wp_ret ?_
  refine bodyPost_ret (v:=(.bool true)) (ret_tmp rfl rfl) rfl ⟨?_,hB⟩
  exact rfl

set_option maxRecDepth 100000 in
set_option maxHeartbeats 1000000 in
theorem ms_ny {R N TT Z ca:Nat} {va:Value} {m:Mx_} {ve:Value} {ee:Nat→Int × Int} (_hN0:0<N) (hfs:¬ (∀ t,pl R (wth N m (en ee Z)) N≤t→t<R→(rs R (wth N m (en ee Z)) N).m t N=0)) (hfc:(∀ t,pl N (wth R (fun z7 z8=>m z8 z7) (en ee Z)) R≤t→t<N→(rs N (wth R (fun z7 z8=>m z8 z7) (en ee Z)) R).m t R=0)) {w:World} (hm:Mx w) (ht:Tab w) (hse:Sl EEn TT 2 w ve (tb (fun z1=>(ee z1)) Z)) (hta:TA w (.agg #[.int .u8 (ca:Int),va]) R N m):
    Calls Tryz.prog 7 #[(.agg #[(.int .u8 ((ca:Int))),va]),ve,(.bool false)] w fun e w'=>e=.returned (.bool true)∧Gr w w':=by
 have hR5:=hta.R5
 have hN6:=hta.N6
 have hRN:=hta.R0
 have hps:isP R (wth N m (en ee Z)) (N+1) N=true:=by cases h:isP R (wth N m (en ee Z)) (N+1) N with | true=>rfl | false=>exact absurd ((fit_P _).1 h) hfs
 have hpc:=(fit_P (wth R (fun z7 z8=>m z8 z7) (en ee Z))).2 hfc
 go_enter Tryz.func7,Tryz.ntmps7
 have hB:=Gr.refl w
 refine wp_seq_k (fun K10 k10=>?_)
 refine rg [0,1] ?_
 refine se ?_
 refine eb 24 #[(.int .u8 ((ca:Int))),va] 3 hB fun b11 w11 g11 L11 o11 q11 hB=>?_
 simp only [p3,p4]
 refine sv 6 (.bool false) ?_
 refine sq_nil ?_
 refine k10 _ _ ?_
 try clear k10 K10
 refine wp_seq_k (fun K12 k12=>?_)
 refine wp_seq_k (fun K13 k13=>?_)
 refine rg [0,1,2,3,4,5,6] ?_
 refine se ?_
 refine ec 18 (l5_known _ (hm.gr hB) (ht.gr hB)) ?_
 rintro e14 w14 ⟨rfl,g14⟩
 refine ⟨_,rfl,?_⟩
 replace hB:=hB.trans g14
 simp only [p3,p4]
 refine sv 19 (.bool false) ?_
 refine sv 20 (.bool false) ?_
 refine sv 21 ve ?_
 refine sw 22 (.int .i64 ((Z:Int))) rfl (rv_lenn (e:=114) hse (tb_lenz rfl) _ _ rfl rfl (by kernel_rfl)) ?_
 refine sv 23 (.bool (decide ((10:Int)<(Z:Int)))) ?_
 refine sv 24 (.bool (decide ((10:Int)<(Z:Int)))) ?_
 refine sq_nil ?_
 refine k13 _ _ ?_
 try clear k13 K13
 refine wp_cond_split (t:=decide ((10:Int)<(Z:Int))) rfl (fun hb15=>?_) (fun hb15=>?_)
 ·have hq16:((10:Int)<(Z:Int)):=of_decide_eq_true hb15
  refine wp_seq_k (fun K17 k17=>?_)
  refine rg [0,1] ?_
  refine se ?_
  refine ec 25 (l5_known _ (hm.gr hB) (ht.gr hB)) ?_
  rintro e18 w18 ⟨rfl,g18⟩
  refine ⟨_,rfl,?_⟩
  replace hB:=hB.trans g18
  simp only [p3,p4]
  refine sv 6 (.bool true) ?_
  refine sq_nil ?_
  refine k17 _ _ ?_
  try clear k17 K17
  refine wp_ret ?_
  simp only [Exit.then]
  refine bodyPost_ret (v:=(.bool true)) (ret_tmp rfl rfl) rfl ⟨?_,hB⟩
  exact rfl
 ·have hq19:¬ ((10:Int)<(Z:Int)):=of_decide_eq_false hb15
  refine wp_skip ?_
  refine k12 _ _ ?_
  try clear k12 K12
  refine wp_seq_k (fun K20 k20=>?_)
  refine rg [0,1,2] ?_
  replace L11:=L11.gr g14
  refine sw 26 (.agg #[(.int .u8 ((ca:Int))),va]) rfl (rl 24 0 [(.int .u8 ((ca:Int))),va] L11) ?_
  refine se ?_
  refine ec 27 (l5_rowsT (hta.gr hB)) ?_
  rintro e21 w21 ⟨⟨u21,rfl,hs21⟩,g21⟩
  refine ⟨_,rfl,?_⟩
  replace hB:=hB.trans g21
  simp only [p3,p4]
  refine sv 7 u21 ?_
  refine sq_nil ?_
  refine k20 _ _ ?_
  try clear k20 K20
  refine wp_seq_k (fun K22 k22=>?_)
  refine rg [0,1,2] ?_
  refine sv 28 u21 ?_
  refine sw 29 (.int .i64 ((R:Int))) rfl (rv_lenn (e:=51) hs21 (tb_lenz rfl) _ _ rfl rfl (by kernel_rfl)) ?_
  refine sv 8 (.int .i64 ((R:Int))) ?_
  refine sq_nil ?_
  refine k22 _ _ ?_
  try clear k22 K22
  refine wp_seq_k (fun K23 k23=>?_)
  refine wp_seq_k (fun K24 k24=>?_)
  refine rg [0] ?_
  refine sv 30 (.bool false) ?_
  refine sq_nil ?_
  refine k24 _ _ ?_
  try clear k24 K24
  refine wp_cond_false rfl ?_
  refine wp_skip ?_
  refine k23 _ _ ?_
  try clear k23 K23
  refine wp_seq_k (fun K25 k25=>?_)
  refine rg [0,1,2,3] ?_
  refine sv 33 ve ?_
  refine sv 34 (.int .i64 ((R:Int))) ?_
  refine se ?_
  refine ec 35 (l5_line R (by omega) (hse.gr stab_en hB)) ?_
  rintro e26 w26 ⟨⟨u26,rfl,hs26⟩,g26⟩
  refine ⟨_,rfl,?_⟩
  replace hB:=hB.trans g26
  simp only [p3,p4]
  refine sv 9 u26 ?_
  refine sq_nil ?_
  refine k25 _ _ ?_
  try clear k25 K25
  refine wp_seq_k (fun K27 k27=>?_)
  refine rg [0,1,2,3,4,5,6,7,8,9] ?_
  refine sv 37 u21 ?_
  refine se ?_
  replace hs21:=hs21.gr (stab_rw stab_fr 84 2) g26
  refine ec 38 (l5_own (by omega) (by omega) (fun i _ k _=>(hta.z i k).mono (by omega) (by omega)) (hm.gr hB) hs21) ?_
  rintro e28 w28 ⟨⟨u28,rfl,hs28⟩,g28⟩
  refine ⟨_,rfl,?_⟩
  replace hB:=hB.trans g28
  simp only [p3,p4]
  refine sv 39 u26 ?_
  refine se ?_
  replace hs26:=hs26.gr stab_fr g28
  refine ec 40 (l5_list (by omega) (fun j _=>(en_zs hse j).mono (by omega) (by omega)) (hm.gr hB) hs26) ?_
  rintro e29 w29 ⟨⟨u29,rfl,hs29⟩,g29⟩
  refine ⟨_,rfl,?_⟩
  replace hB:=hB.trans g29
  simp only [p3,p4]
  refine se ?_
  replace hs28:=hs28.gr (stab_rw (stab_rat 64) 71 4) g29
  refine ec 41 (mx_Solve_n (K:=4899) (R:=R) (N:=N) (m:=m) (b:=(en ee Z)) hRN (by omega) (by omega) (by omega) (by omega) (rs_sm (wth_z (fun i _ k _=>hta.z i k) (fun i _=>en_zs hse i)) (by omega) (Nat.le_succ N)) hfs (hs28.ratrows (by omega)) (hs29.rats (by omega))) ?_
  rintro e30 w30 ⟨rfl,g30⟩
  refine ⟨_,rfl,?_⟩
  replace hB:=hB.trans g30
  simp only [p3,p4]
  refine sv 36 (.tuple #[(.slice none 0 0),(.int .i64 21)]) ?_
  refine sv 42 (.slice none 0 0) ?_
  refine sv 43 (.int .i64 21) ?_
  refine sv 10 (.slice none 0 0) ?_
  refine sv 11 (.int .i64 21) ?_
  refine sq_nil ?_
  refine k27 _ _ ?_
  try clear k27 K27
  refine wp_seq_k (fun K31 k31=>?_)
  refine wp_seq_k (fun K32 k32=>?_)
  refine rg [0] ?_
  refine sv 44 (.bool false) ?_
  refine sq_nil ?_
  refine k32 _ _ ?_
  try clear k32 K32
  refine wp_cond_false rfl ?_
  refine wp_seq_k (fun K33 k33=>?_)
  refine rg [0,1,2,3,4,5,6,7] ?_
  refine sv 53 u21 ?_
  refine sv 54 u26 ?_
  refine se ?_
  replace hs21:=hs21.gr (stab_rw stab_fr 84 2) (g28.trans (g29.trans g30))
  replace hs26:=hs26.gr stab_fr (g29.trans g30)
  refine ec 55 (f5_solve_n (K:=4899) (R:=R) (N:=N) (m:=m) (b:=(en ee Z)) hRN (by omega) (by omega) (by omega) (rs_sf (wth_z (fun i _ k _=>hta.z i k) (fun i _=>en_zs hse i)) (by omega)) hps hs21 hs26) ?_
  rintro e34 w34 ⟨rfl,g34⟩
  refine ⟨_,rfl,?_⟩
  replace hB:=hB.trans g34
  simp only [p3,p4]
  refine sv 52 (.tuple #[(.slice none 0 0),(.bool false)]) ?_
  refine sv 56 (.slice none 0 0) ?_
  refine sv 57 (.bool false) ?_
  refine sv 12 (.slice none 0 0) ?_
  refine sv 13 (.bool false) ?_
  refine sq_nil ?_
  refine k33 _ _ ?_
  try clear k33 K33
  refine wp_seq_k (fun K35 k35=>?_)
  refine rg [0,1] ?_
  refine sv 58 (.bool false) ?_
  refine sv 59 (.bool true) ?_
  refine sq_nil ?_
  refine k35 _ _ ?_
  try clear k35 K35
  refine wp_cond_true rfl ?_
  refine wp_seq_k (fun K36 k36=>?_)
  refine rg [0,1,2,3,4,5,6] ?_
  refine sv 60 (.slice none 0 0) ?_
  refine sv 61 (.int .i64 0) ?_
  refine sv 62 (.bool false) ?_
  refine sv 63 (.bool false) ?_
  refine sv 64 (.int .i64 21) ?_
  refine sv 65 (.bool false) ?_
  refine sv 66 (.bool false) ?_
  refine sq_nil ?_
  refine k36 _ _ ?_
  try clear k36 K36
  refine wp_cond_false rfl ?_
  refine wp_skip ?_
  refine k31 _ _ ?_
  try clear k31 K31
  refine wp_seq_k (fun K37 k37=>?_)
  refine rg [0,1,2] ?_
  refine sv 75 u21 ?_
  refine se ?_
  replace hs21:=hs21.gr (stab_rw stab_fr 84 2) g34
  refine ec 76 (f5_columns hRN hs21) ?_
  rintro e38 w38 ⟨rfl,g38⟩
  refine ⟨_,rfl,?_⟩
  replace hB:=hB.trans g38
  simp only [p3,p4]
  refine sv 8 (.int .i64 ((N:Int))) ?_
  refine sq_nil ?_
  refine k37 _ _ ?_
  try clear k37 K37
  refine wp_seq_k (fun K39 k39=>?_)
  refine wp_seq_k (fun K40 k40=>?_)
  refine rg [0] ?_
  refine sv 77 (.bool false) ?_
  refine sq_nil ?_
  refine k40 _ _ ?_
  try clear k40 K40
  refine wp_cond_false rfl ?_
  refine wp_skip ?_
  refine k39 _ _ ?_
  try clear k39 K39
  refine wp_seq_k (fun K41 k41=>?_)
  refine rg [0,1,2,3] ?_
  refine sv 80 ve ?_
  refine sv 81 (.int .i64 ((N:Int))) ?_
  refine se ?_
  refine ec 82 (l5_line N (by omega) (hse.gr stab_en hB)) ?_
  rintro e42 w42 ⟨⟨u42,rfl,hs42⟩,g42⟩
  refine ⟨_,rfl,?_⟩
  replace hB:=hB.trans g42
  simp only [p3,p4]
  refine sv 9 u42 ?_
  refine sq_nil ?_
  refine k41 _ _ ?_
  try clear k41 K41
  refine wp_seq_k (fun K43 k43=>?_)
  refine rg [0,1,2,3,4,5,6,7,8,9] ?_
  refine sv 84 u21 ?_
  refine se ?_
  replace hs21:=hs21.gr (stab_rw stab_fr 84 2) (g38.trans g42)
  refine ec 85 (l5_own (by omega) (by omega) (fun i _ k _=>(hta.z i k).mono (by omega) (by omega)) (hm.gr hB) hs21) ?_
  rintro e44 w44 ⟨⟨u44,rfl,hs44⟩,g44⟩
  refine ⟨_,rfl,?_⟩
  replace hB:=hB.trans g44
  simp only [p3,p4]
  refine sv 86 u42 ?_
  refine se ?_
  replace hs42:=hs42.gr stab_fr g44
  refine ec 87 (l5_list (by omega) (fun j _=>(en_zs hse j).mono (by omega) (by omega)) (hm.gr hB) hs42) ?_
  rintro e45 w45 ⟨⟨u45,rfl,hs45⟩,g45⟩
  refine ⟨_,rfl,?_⟩
  replace hB:=hB.trans g45
  simp only [p3,p4]
  refine se ?_
  replace hs44:=hs44.gr (stab_rw (stab_rat 64) 71 4) g45
  refine ec 88 (mx_Combine_y (K:=4899) (R:=R) (N:=N) (m:=m) (b:=(en ee Z)) hRN (by omega) (by omega) (by omega) (by omega) (rs_sm (wth_z (fun i _ k _=>hta.z k i) (fun i _=>en_zs hse i)) (by omega) (Nat.le_succ R)) hfc (hs44.ratrows (by omega)) (hs45.rats (by omega))) ?_
  rintro e46 w46 ⟨⟨u46,rfl,hs46⟩,g46⟩
  refine ⟨_,rfl,?_⟩
  replace hB:=hB.trans g46
  replace hs46:=hs46.cast (show _=tb (fun z1=>sol (rs N (wth R (fun z7 z8=>m z8 z7) (en ee Z)) (R+1)) R z1) R from by rw [fit_S _ hpc])
  simp only [p3,p4]
  refine sv 83 (.tuple #[u46,(.int .i64 0)]) ?_
  refine sv 89 u46 ?_
  refine sv 90 (.int .i64 0) ?_
  refine sv 14 u46 ?_
  refine sv 15 (.int .i64 0) ?_
  refine sq_nil ?_
  refine k43 _ _ ?_
  try clear k43 K43
  refine wp_seq_k (fun K47 k47=>?_)
  refine wp_seq_k (fun K48 k48=>?_)
  refine rg [0] ?_
  refine sv 91 (.bool false) ?_
  refine sq_nil ?_
  refine k48 _ _ ?_
  try clear k48 K48
  refine wp_cond_false rfl ?_
  refine wp_skip ?_
  refine k47 _ _ ?_
  try clear k47 K47
  refine wp_seq_k (fun K49 k49=>?_)
  refine rg [0,1,2,3,4,5,6,7,8] ?_
  refine sv 100 u21 ?_
  refine se ?_
  replace hs21:=hs21.gr (stab_rw stab_fr 84 2) (g44.trans (g45.trans g46))
  refine ec 101 (f5_transpose (m:=m) hRN (by omega) (by omega) hs21) ?_
  rintro e50 w50 ⟨⟨u50,rfl,hs50⟩,g50⟩
  refine ⟨_,rfl,?_⟩
  replace hB:=hB.trans g50
  simp only [p3,p4]
  refine sv 102 u42 ?_
  refine se ?_
  replace hs42:=hs42.gr stab_fr (g45.trans (g46.trans g50))
  refine ec 103 (f5_solve_y (K:=4899) (R:=N) (N:=R) (m:=(fun z7 z8=>m z8 z7)) (b:=(en ee Z)) (fun h=>absurd h (by omega)) (by omega) (by omega) (by omega) (rs_sf (wth_z (fun i _ k _=>hta.z k i) (fun i _=>en_zs hse i)) (by omega)) hpc hs50 hs42) ?_
  rintro e51 w51 ⟨⟨u51,rfl,hs51⟩,g51⟩
  refine ⟨_,rfl,?_⟩
  replace hB:=hB.trans g51
  simp only [p3,p4]
  refine sv 99 (.tuple #[u51,(.bool true)]) ?_
  refine sv 104 u51 ?_
  refine sv 105 (.bool true) ?_
  refine sv 16 u51 ?_
  refine sv 17 (.bool true) ?_
  refine sq_nil ?_
  refine k49 _ _ ?_
  try clear k49 K49
  refine wp_seq_k (fun K52 k52=>?_)
  refine wp_seq_k (fun K53 k53=>?_)
  refine rg [0,1,2] ?_
  refine sv 106 u21 ?_
  refine se ?_
  replace hs21:=hs21.gr (stab_rw stab_fr 84 2) (g50.trans g51)
  refine ec 107 (f5_columns hRN hs21) ?_
  rintro e54 w54 ⟨rfl,g54⟩
  refine ⟨_,rfl,?_⟩
  replace hB:=hB.trans g54
  simp only [p3,p4]
  have hb55:(((N:Int)==(0:Int)))=false:=(by simp;omega)
  refine sw 108 (.bool false) rfl (RunV.bool (x:=((N:Int)==(0:Int))) (rvk (by kernel_rfl)) hb55) ?_
  refine sq_nil ?_
  refine k53 _ _ ?_
  try clear k53 K53
  refine wp_cond_false rfl ?_
  refine wp_skip ?_
  refine k52 _ _ ?_
  try clear k52 K52
  refine wp_seq_k (fun K56 k56=>?_)
  refine wp_seq_k (fun K57 k57=>?_)
  refine rg [0,1] ?_
  refine sv 112 (.bool true) ?_
  refine sv 113 (.bool false) ?_
  refine sq_nil ?_
  refine k57 _ _ ?_
  try clear k57 K57
  refine wp_cond_false rfl ?_
  refine wp_skip ?_
  refine k56 _ _ ?_
  try clear k56 K56
  refine wp_seq_k (fun K58 k58=>?_)
  refine rg [0,1,2,3,4,5,6,7] ?_
  refine sv 121 u46 ?_
  refine sv 122 u51 ?_
  refine se ?_
  replace hs46:=hs46.gr (stab_rat 4899) (g50.trans (g51.trans g54))
  replace hs51:=hs51.gr stab_fr g54
  refine ec 123 (l5_equal (L:=4899) (by omega) (by omega) (by omega) (fun j hj=>by rw [fit_S _ hpc];exact sol_z (by decide) (Nat.lt_succ_self R) ((rs_sm (wth_z (fun i _ k _=>hta.z k i) (fun i _=>en_zs hse i)) (.inl hR5) (Nat.le_succ R)) R (Nat.le_refl _)).1) (ht.gr hB) hs46 hs51) ?_
  rintro e59 w59 ⟨rfl,g59⟩
  refine ⟨_,rfl,?_⟩
  replace hB:=hB.trans g59
  simp only [p3,p4]
  refine sv 124 (.bool true) ?_
  refine sv 125 (.int .i64 0) ?_
  refine sv 126 (.bool true) ?_
  refine sv 127 (.bool true) ?_
  refine sv 6 (.bool true) ?_
  refine sq_nil ?_
  refine k58 _ _ ?_
  try clear k58 K58
  refine wp_ret ?_
  refine bodyPost_ret (v:=(.bool true)) (ret_tmp rfl rfl) rfl ⟨?_,hB⟩
  exact rfl

set_option maxRecDepth 100000 in
set_option maxHeartbeats 1000000 in
theorem ms_nn {R N TT Z ca:Nat} {va:Value} {m:Mx_} {ve:Value} {ee:Nat→Int × Int} (_hN0:0<N) (hfs:¬ (∀ t,pl R (wth N m (en ee Z)) N≤t→t<R→(rs R (wth N m (en ee Z)) N).m t N=0)) (hfc:¬ (∀ t,pl N (wth R (fun z7 z8=>m z8 z7) (en ee Z)) R≤t→t<N→(rs N (wth R (fun z7 z8=>m z8 z7) (en ee Z)) R).m t R=0)) {w:World} (hm:Mx w) (ht:Tab w) (hse:Sl EEn TT 2 w ve (tb (fun z1=>(ee z1)) Z)) (hta:TA w (.agg #[.int .u8 (ca:Int),va]) R N m):
    Calls Tryz.prog 7 #[(.agg #[(.int .u8 ((ca:Int))),va]),ve,(.bool false)] w fun e w'=>e=.returned (.bool true)∧Gr w w':=by
 have hR5:=hta.R5
 have hN6:=hta.N6
 have hRN:=hta.R0
 have hps:isP R (wth N m (en ee Z)) (N+1) N=true:=by cases h:isP R (wth N m (en ee Z)) (N+1) N with | true=>rfl | false=>exact absurd ((fit_P _).1 h) hfs
 have hpc:isP N (wth R (fun z7 z8=>m z8 z7) (en ee Z)) (R+1) R=true:=by cases h:isP N (wth R (fun z7 z8=>m z8 z7) (en ee Z)) (R+1) R with | true=>rfl | false=>exact absurd ((fit_P _).1 h) hfc
 go_enter Tryz.func7,Tryz.ntmps7
 have hB:=Gr.refl w
 refine wp_seq_k (fun K10 k10=>?_)
 refine rg [0,1] ?_
 refine se ?_
 refine eb 24 #[(.int .u8 ((ca:Int))),va] 3 hB fun b11 w11 g11 L11 o11 q11 hB=>?_
 simp only [p3,p4]
 refine sv 6 (.bool false) ?_
 refine sq_nil ?_
 refine k10 _ _ ?_
 try clear k10 K10
 refine wp_seq_k (fun K12 k12=>?_)
 refine wp_seq_k (fun K13 k13=>?_)
 refine rg [0,1,2,3,4,5,6] ?_
 refine se ?_
 refine ec 18 (l5_known _ (hm.gr hB) (ht.gr hB)) ?_
 rintro e14 w14 ⟨rfl,g14⟩
 refine ⟨_,rfl,?_⟩
 replace hB:=hB.trans g14
 simp only [p3,p4]
 refine sv 19 (.bool false) ?_
 refine sv 20 (.bool false) ?_
 refine sv 21 ve ?_
 refine sw 22 (.int .i64 ((Z:Int))) rfl (rv_lenn (e:=114) hse (tb_lenz rfl) _ _ rfl rfl (by kernel_rfl)) ?_
 refine sv 23 (.bool (decide ((10:Int)<(Z:Int)))) ?_
 refine sv 24 (.bool (decide ((10:Int)<(Z:Int)))) ?_
 refine sq_nil ?_
 refine k13 _ _ ?_
 try clear k13 K13
 refine wp_cond_split (t:=decide ((10:Int)<(Z:Int))) rfl (fun hb15=>?_) (fun hb15=>?_)
 ·have hq16:((10:Int)<(Z:Int)):=of_decide_eq_true hb15
  refine wp_seq_k (fun K17 k17=>?_)
  refine rg [0,1] ?_
  refine se ?_
  refine ec 25 (l5_known _ (hm.gr hB) (ht.gr hB)) ?_
  rintro e18 w18 ⟨rfl,g18⟩
  refine ⟨_,rfl,?_⟩
  replace hB:=hB.trans g18
  simp only [p3,p4]
  refine sv 6 (.bool true) ?_
  refine sq_nil ?_
  refine k17 _ _ ?_
  try clear k17 K17
  refine wp_ret ?_
  simp only [Exit.then]
  refine bodyPost_ret (v:=(.bool true)) (ret_tmp rfl rfl) rfl ⟨?_,hB⟩
  exact rfl
 ·have hq19:¬ ((10:Int)<(Z:Int)):=of_decide_eq_false hb15
  refine wp_skip ?_
  refine k12 _ _ ?_
  try clear k12 K12
  refine wp_seq_k (fun K20 k20=>?_)
  refine rg [0,1,2] ?_
  replace L11:=L11.gr g14
  refine sw 26 (.agg #[(.int .u8 ((ca:Int))),va]) rfl (rl 24 0 [(.int .u8 ((ca:Int))),va] L11) ?_
  refine se ?_
  refine ec 27 (l5_rowsT (hta.gr hB)) ?_
  rintro e21 w21 ⟨⟨u21,rfl,hs21⟩,g21⟩
  refine ⟨_,rfl,?_⟩
  replace hB:=hB.trans g21
  simp only [p3,p4]
  refine sv 7 u21 ?_
  refine sq_nil ?_
  refine k20 _ _ ?_
  try clear k20 K20
  refine wp_seq_k (fun K22 k22=>?_)
  refine rg [0,1,2] ?_
  refine sv 28 u21 ?_
  refine sw 29 (.int .i64 ((R:Int))) rfl (rv_lenn (e:=51) hs21 (tb_lenz rfl) _ _ rfl rfl (by kernel_rfl)) ?_
  refine sv 8 (.int .i64 ((R:Int))) ?_
  refine sq_nil ?_
  refine k22 _ _ ?_
  try clear k22 K22
  refine wp_seq_k (fun K23 k23=>?_)
  refine wp_seq_k (fun K24 k24=>?_)
  refine rg [0] ?_
  refine sv 30 (.bool false) ?_
  refine sq_nil ?_
  refine k24 _ _ ?_
  try clear k24 K24
  refine wp_cond_false rfl ?_
  refine wp_skip ?_
  refine k23 _ _ ?_
  try clear k23 K23
  refine wp_seq_k (fun K25 k25=>?_)
  refine rg [0,1,2,3] ?_
  refine sv 33 ve ?_
  refine sv 34 (.int .i64 ((R:Int))) ?_
  refine se ?_
  refine ec 35 (l5_line R (by omega) (hse.gr stab_en hB)) ?_
  rintro e26 w26 ⟨⟨u26,rfl,hs26⟩,g26⟩
  refine ⟨_,rfl,?_⟩
  replace hB:=hB.trans g26
  simp only [p3,p4]
  refine sv 9 u26 ?_
  refine sq_nil ?_
  refine k25 _ _ ?_
  try clear k25 K25
  refine wp_seq_k (fun K27 k27=>?_)
  refine rg [0,1,2,3,4,5,6,7,8,9] ?_
  refine sv 37 u21 ?_
  refine se ?_
  replace hs21:=hs21.gr (stab_rw stab_fr 84 2) g26
  refine ec 38 (l5_own (by omega) (by omega) (fun i _ k _=>(hta.z i k).mono (by omega) (by omega)) (hm.gr hB) hs21) ?_
  rintro e28 w28 ⟨⟨u28,rfl,hs28⟩,g28⟩
  refine ⟨_,rfl,?_⟩
  replace hB:=hB.trans g28
  simp only [p3,p4]
  refine sv 39 u26 ?_
  refine se ?_
  replace hs26:=hs26.gr stab_fr g28
  refine ec 40 (l5_list (by omega) (fun j _=>(en_zs hse j).mono (by omega) (by omega)) (hm.gr hB) hs26) ?_
  rintro e29 w29 ⟨⟨u29,rfl,hs29⟩,g29⟩
  refine ⟨_,rfl,?_⟩
  replace hB:=hB.trans g29
  simp only [p3,p4]
  refine se ?_
  replace hs28:=hs28.gr (stab_rw (stab_rat 64) 71 4) g29
  refine ec 41 (mx_Solve_n (K:=4899) (R:=R) (N:=N) (m:=m) (b:=(en ee Z)) hRN (by omega) (by omega) (by omega) (by omega) (rs_sm (wth_z (fun i _ k _=>hta.z i k) (fun i _=>en_zs hse i)) (by omega) (Nat.le_succ N)) hfs (hs28.ratrows (by omega)) (hs29.rats (by omega))) ?_
  rintro e30 w30 ⟨rfl,g30⟩
  refine ⟨_,rfl,?_⟩
  replace hB:=hB.trans g30
  simp only [p3,p4]
  refine sv 36 (.tuple #[(.slice none 0 0),(.int .i64 21)]) ?_
  refine sv 42 (.slice none 0 0) ?_
  refine sv 43 (.int .i64 21) ?_
  refine sv 10 (.slice none 0 0) ?_
  refine sv 11 (.int .i64 21) ?_
  refine sq_nil ?_
  refine k27 _ _ ?_
  try clear k27 K27
  refine wp_seq_k (fun K31 k31=>?_)
  refine wp_seq_k (fun K32 k32=>?_)
  refine rg [0] ?_
  refine sv 44 (.bool false) ?_
  refine sq_nil ?_
  refine k32 _ _ ?_
  try clear k32 K32
  refine wp_cond_false rfl ?_
  refine wp_seq_k (fun K33 k33=>?_)
  refine rg [0,1,2,3,4,5,6,7] ?_
  refine sv 53 u21 ?_
  refine sv 54 u26 ?_
  refine se ?_
  replace hs21:=hs21.gr (stab_rw stab_fr 84 2) (g28.trans (g29.trans g30))
  replace hs26:=hs26.gr stab_fr (g29.trans g30)
  refine ec 55 (f5_solve_n (K:=4899) (R:=R) (N:=N) (m:=m) (b:=(en ee Z)) hRN (by omega) (by omega) (by omega) (rs_sf (wth_z (fun i _ k _=>hta.z i k) (fun i _=>en_zs hse i)) (by omega)) hps hs21 hs26) ?_
  rintro e34 w34 ⟨rfl,g34⟩
  refine ⟨_,rfl,?_⟩
  replace hB:=hB.trans g34
  simp only [p3,p4]
  refine sv 52 (.tuple #[(.slice none 0 0),(.bool false)]) ?_
  refine sv 56 (.slice none 0 0) ?_
  refine sv 57 (.bool false) ?_
  refine sv 12 (.slice none 0 0) ?_
  refine sv 13 (.bool false) ?_
  refine sq_nil ?_
  refine k33 _ _ ?_
  try clear k33 K33
  refine wp_seq_k (fun K35 k35=>?_)
  refine rg [0,1] ?_
  refine sv 58 (.bool false) ?_
  refine sv 59 (.bool true) ?_
  refine sq_nil ?_
  refine k35 _ _ ?_
  try clear k35 K35
  refine wp_cond_true rfl ?_
  refine wp_seq_k (fun K36 k36=>?_)
  refine rg [0,1,2,3,4,5,6] ?_
  refine sv 60 (.slice none 0 0) ?_
  refine sv 61 (.int .i64 0) ?_
  refine sv 62 (.bool false) ?_
  refine sv 63 (.bool false) ?_
  refine sv 64 (.int .i64 21) ?_
  refine sv 65 (.bool false) ?_
  refine sv 66 (.bool false) ?_
  refine sq_nil ?_
  refine k36 _ _ ?_
  try clear k36 K36
  refine wp_cond_false rfl ?_
  refine wp_skip ?_
  refine k31 _ _ ?_
  try clear k31 K31
  refine wp_seq_k (fun K37 k37=>?_)
  refine rg [0,1,2] ?_
  refine sv 75 u21 ?_
  refine se ?_
  replace hs21:=hs21.gr (stab_rw stab_fr 84 2) g34
  refine ec 76 (f5_columns hRN hs21) ?_
  rintro e38 w38 ⟨rfl,g38⟩
  refine ⟨_,rfl,?_⟩
  replace hB:=hB.trans g38
  simp only [p3,p4]
  refine sv 8 (.int .i64 ((N:Int))) ?_
  refine sq_nil ?_
  refine k37 _ _ ?_
  try clear k37 K37
  refine wp_seq_k (fun K39 k39=>?_)
  refine wp_seq_k (fun K40 k40=>?_)
  refine rg [0] ?_
  refine sv 77 (.bool false) ?_
  refine sq_nil ?_
  refine k40 _ _ ?_
  try clear k40 K40
  refine wp_cond_false rfl ?_
  refine wp_skip ?_
  refine k39 _ _ ?_
  try clear k39 K39
  refine wp_seq_k (fun K41 k41=>?_)
  refine rg [0,1,2,3] ?_
  refine sv 80 ve ?_
  refine sv 81 (.int .i64 ((N:Int))) ?_
  refine se ?_
  refine ec 82 (l5_line N (by omega) (hse.gr stab_en hB)) ?_
  rintro e42 w42 ⟨⟨u42,rfl,hs42⟩,g42⟩
  refine ⟨_,rfl,?_⟩
  replace hB:=hB.trans g42
  simp only [p3,p4]
  refine sv 9 u42 ?_
  refine sq_nil ?_
  refine k41 _ _ ?_
  try clear k41 K41
  refine wp_seq_k (fun K43 k43=>?_)
  refine rg [0,1,2,3,4,5,6,7,8,9] ?_
  refine sv 84 u21 ?_
  refine se ?_
  replace hs21:=hs21.gr (stab_rw stab_fr 84 2) (g38.trans g42)
  refine ec 85 (l5_own (by omega) (by omega) (fun i _ k _=>(hta.z i k).mono (by omega) (by omega)) (hm.gr hB) hs21) ?_
  rintro e44 w44 ⟨⟨u44,rfl,hs44⟩,g44⟩
  refine ⟨_,rfl,?_⟩
  replace hB:=hB.trans g44
  simp only [p3,p4]
  refine sv 86 u42 ?_
  refine se ?_
  replace hs42:=hs42.gr stab_fr g44
  refine ec 87 (l5_list (by omega) (fun j _=>(en_zs hse j).mono (by omega) (by omega)) (hm.gr hB) hs42) ?_
  rintro e45 w45 ⟨⟨u45,rfl,hs45⟩,g45⟩
  refine ⟨_,rfl,?_⟩
  replace hB:=hB.trans g45
  simp only [p3,p4]
  refine se ?_
  replace hs44:=hs44.gr (stab_rw (stab_rat 64) 71 4) g45
  refine ec 88 (mx_Combine_n (K:=4899) (R:=R) (N:=N) (m:=m) (b:=(en ee Z)) hRN (by omega) (by omega) (by omega) (by omega) (rs_sm (wth_z (fun i _ k _=>hta.z k i) (fun i _=>en_zs hse i)) (by omega) (Nat.le_succ R)) hfc (hs44.ratrows (by omega)) (hs45.rats (by omega))) ?_
  rintro e46 w46 ⟨rfl,g46⟩
  refine ⟨_,rfl,?_⟩
  replace hB:=hB.trans g46
  simp only [p3,p4]
  refine sv 83 (.tuple #[(.slice none 0 0),(.int .i64 21)]) ?_
  refine sv 89 (.slice none 0 0) ?_
  refine sv 90 (.int .i64 21) ?_
  refine sv 14 (.slice none 0 0) ?_
  refine sv 15 (.int .i64 21) ?_
  refine sq_nil ?_
  refine k43 _ _ ?_
  try clear k43 K43
  refine wp_seq_k (fun K47 k47=>?_)
  refine wp_seq_k (fun K48 k48=>?_)
  refine rg [0] ?_
  refine sv 91 (.bool false) ?_
  refine sq_nil ?_
  refine k48 _ _ ?_
  try clear k48 K48
  refine wp_cond_false rfl ?_
  refine wp_skip ?_
  refine k47 _ _ ?_
  try clear k47 K47
  refine wp_seq_k (fun K49 k49=>?_)
  refine rg [0,1,2,3,4,5,6,7,8] ?_
  refine sv 100 u21 ?_
  refine se ?_
  replace hs21:=hs21.gr (stab_rw stab_fr 84 2) (g44.trans (g45.trans g46))
  refine ec 101 (f5_transpose (m:=m) hRN (by omega) (by omega) hs21) ?_
  rintro e50 w50 ⟨⟨u50,rfl,hs50⟩,g50⟩
  refine ⟨_,rfl,?_⟩
  replace hB:=hB.trans g50
  simp only [p3,p4]
  refine sv 102 u42 ?_
  refine se ?_
  replace hs42:=hs42.gr stab_fr (g45.trans (g46.trans g50))
  refine ec 103 (f5_solve_n (K:=4899) (R:=N) (N:=R) (m:=(fun z7 z8=>m z8 z7)) (b:=(en ee Z)) (fun h=>absurd h (by omega)) (by omega) (by omega) (by omega) (rs_sf (wth_z (fun i _ k _=>hta.z k i) (fun i _=>en_zs hse i)) (by omega)) hpc hs50 hs42) ?_
  rintro e51 w51 ⟨rfl,g51⟩
  refine ⟨_,rfl,?_⟩
  replace hB:=hB.trans g51
  simp only [p3,p4]
  refine sv 99 (.tuple #[(.slice none 0 0),(.bool false)]) ?_
  refine sv 104 (.slice none 0 0) ?_
  refine sv 105 (.bool false) ?_
  refine sv 16 (.slice none 0 0) ?_
  refine sv 17 (.bool false) ?_
  refine sq_nil ?_
  refine k49 _ _ ?_
  try clear k49 K49
  refine wp_seq_k (fun K52 k52=>?_)
  refine wp_seq_k (fun K53 k53=>?_)
  refine rg [0,1,2] ?_
  refine sv 106 u21 ?_
  refine se ?_
  replace hs21:=hs21.gr (stab_rw stab_fr 84 2) (g50.trans g51)
  refine ec 107 (f5_columns hRN hs21) ?_
  rintro e54 w54 ⟨rfl,g54⟩
  refine ⟨_,rfl,?_⟩
  replace hB:=hB.trans g54
  simp only [p3,p4]
  have hb55:(((N:Int)==(0:Int)))=false:=(by simp;omega)
  refine sw 108 (.bool false) rfl (RunV.bool (x:=((N:Int)==(0:Int))) (rvk (by kernel_rfl)) hb55) ?_
  refine sq_nil ?_
  refine k53 _ _ ?_
  try clear k53 K53
  refine wp_cond_false rfl ?_
  refine wp_skip ?_
  refine k52 _ _ ?_
  try clear k52 K52
  refine wp_seq_k (fun K56 k56=>?_)
  refine wp_seq_k (fun K57 k57=>?_)
  refine rg [0,1] ?_
  refine sv 112 (.bool false) ?_
  refine sv 113 (.bool true) ?_
  refine sq_nil ?_
  refine k57 _ _ ?_
  try clear k57 K57
  refine wp_cond_true rfl ?_
  refine wp_seq_k (fun K58 k58=>?_)
  refine rg [0,1,2,3,4,5,6,7] ?_
  refine sv 114 (.slice none 0 0) ?_
  refine sv 115 (.int .i64 0) ?_
  refine sv 116 (.bool true) ?_
  refine sv 117 (.bool true) ?_
  refine sv 118 (.int .i64 21) ?_
  refine sv 119 (.bool true) ?_
  refine sv 120 (.bool true) ?_
  refine sv 6 (.bool true) ?_
  refine sq_nil ?_
  refine k58 _ _ ?_
  try clear k58 K58
  refine wp_ret ?_
  simp only [Exit.then]
  refine bodyPost_ret (v:=(.bool true)) (ret_tmp rfl rfl) rfl ⟨?_,hB⟩
  exact rfl

set_option maxRecDepth 100000 in
set_option maxHeartbeats 1000000 in
theorem ms_more {R N TT Z ca:Nat} {va:Value} {m:Mx_} {ve:Value} {ee:Nat→Int × Int} {w:World} (hm:Mx w) (ht:Tab w) (hse:Sl EEn TT 2 w ve (tb (fun z1=>(ee z1)) Z)) (hta:TA w (.agg #[.int .u8 (ca:Int),va]) R N m):
    Calls Tryz.prog 7 #[(.agg #[(.int .u8 ((ca:Int))),va]),ve,(.bool true)] w fun e w'=>e=.returned (.bool true)∧Gr w w':=by
 have hR5:=hta.R5
 have hN6:=hta.N6
 have hRN:=hta.R0
 go_enter Tryz.func7,Tryz.ntmps7
 have hB:=Gr.refl w
 refine wp_seq_k (fun K10 k10=>?_)
 refine rg [0,1] ?_
 refine se ?_
 refine eb 24 #[(.int .u8 ((ca:Int))),va] 3 hB fun b11 w11 g11 L11 o11 q11 hB=>?_
 simp only [p3,p4]
 refine sv 6 (.bool false) ?_
 refine sq_nil ?_
 refine k10 _ _ ?_
 try clear k10 K10
 refine wp_seq_k (fun K12 k12=>?_)
 refine wp_seq_k (fun K13 k13=>?_)
 refine rg [0,1,2,3,4,5,6] ?_
 refine se ?_
 refine ec 18 (l5_known _ (hm.gr hB) (ht.gr hB)) ?_
 rintro e14 w14 ⟨rfl,g14⟩
 refine ⟨_,rfl,?_⟩
 replace hB:=hB.trans g14
 simp only [p3,p4]
 refine sv 19 (.bool false) ?_
 refine sv 20 (.bool false) ?_
 refine sv 21 ve ?_
 refine sw 22 (.int .i64 ((Z:Int))) rfl (rv_lenn (e:=114) hse (tb_lenz rfl) _ _ rfl rfl (by kernel_rfl)) ?_
 refine sv 23 (.bool (decide ((10:Int)<(Z:Int)))) ?_
 refine sv 24 (.bool (decide ((10:Int)<(Z:Int)))) ?_
 refine sq_nil ?_
 refine k13 _ _ ?_
 try clear k13 K13
 refine wp_cond_split (t:=decide ((10:Int)<(Z:Int))) rfl (fun hb15=>?_) (fun hb15=>?_)
 ·have hq16:((10:Int)<(Z:Int)):=of_decide_eq_true hb15
  refine wp_seq_k (fun K17 k17=>?_)
  refine rg [0,1] ?_
  refine se ?_
  refine ec 25 (l5_known _ (hm.gr hB) (ht.gr hB)) ?_
  rintro e18 w18 ⟨rfl,g18⟩
  refine ⟨_,rfl,?_⟩
  replace hB:=hB.trans g18
  simp only [p3,p4]
  refine sv 6 (.bool true) ?_
  refine sq_nil ?_
  refine k17 _ _ ?_
  try clear k17 K17
  refine wp_ret ?_
  simp only [Exit.then]
  refine bodyPost_ret (v:=(.bool true)) (ret_tmp rfl rfl) rfl ⟨?_,hB⟩
  exact rfl
 ·have hq19:¬ ((10:Int)<(Z:Int)):=of_decide_eq_false hb15
  refine wp_skip ?_
  refine k12 _ _ ?_
  try clear k12 K12
  refine wp_seq_k (fun K20 k20=>?_)
  refine rg [0,1,2] ?_
  replace L11:=L11.gr g14
  refine sw 26 (.agg #[(.int .u8 ((ca:Int))),va]) rfl (rl 24 0 [(.int .u8 ((ca:Int))),va] L11) ?_
  refine se ?_
  refine ec 27 (l5_rowsT (hta.gr hB)) ?_
  rintro e21 w21 ⟨⟨u21,rfl,hs21⟩,g21⟩
  refine ⟨_,rfl,?_⟩
  replace hB:=hB.trans g21
  simp only [p3,p4]
  refine sv 7 u21 ?_
  refine sq_nil ?_
  refine k20 _ _ ?_
  try clear k20 K20
  refine wp_seq_k (fun K22 k22=>?_)
  refine rg [0,1,2] ?_
  refine sv 28 u21 ?_
  refine sw 29 (.int .i64 ((R:Int))) rfl (rv_lenn (e:=51) hs21 (tb_lenz rfl) _ _ rfl rfl (by kernel_rfl)) ?_
  refine sv 8 (.int .i64 ((R:Int))) ?_
  refine sq_nil ?_
  refine k22 _ _ ?_
  try clear k22 K22
  refine wp_seq_k (fun K23 k23=>?_)
  refine wp_seq_k (fun K24 k24=>?_)
  refine rg [0] ?_
  refine sv 30 (.bool true) ?_
  refine sq_nil ?_
  refine k24 _ _ ?_
  try clear k24 K24
  refine wp_cond_true rfl ?_
  refine rg [0,1,2] ?_
  refine sv 31 (.int .i64 ((R:Int))) ?_
  refine sw 32 (.int .i64 (((R:Int)+1))) rfl (RunV.int (x:=IntKind.i64.wrap (((R:Int)+1))) (y:=((R:Int)+1)) (rvk (by kernel_rfl)) (by first | rfl | (rw [IntKind.wrap_i64];omega))) ?_
  refine sv 8 (.int .i64 (((R:Int)+1))) ?_
  refine sq_nil ?_
  refine k23 _ _ ?_
  try clear k23 K23
  refine wp_seq_k (fun K25 k25=>?_)
  refine rg [0,1,2,3] ?_
  refine sv 33 ve ?_
  refine sv 34 (.int .i64 (((R:Int)+1))) ?_
  refine se ?_
  refine ec 35 (l5_line (R+1) (by omega) (hse.gr stab_en hB)) ?_
  rintro e26 w26 ⟨⟨u26,rfl,hs26⟩,g26⟩
  refine ⟨_,rfl,?_⟩
  replace hB:=hB.trans g26
  simp only [p3,p4]
  refine sv 9 u26 ?_
  refine sq_nil ?_
  refine k25 _ _ ?_
  try clear k25 K25
  refine wp_seq_k (fun K27 k27=>?_)
  refine rg [0,1,2,3,4,5,6,7,8,9] ?_
  refine sv 37 u21 ?_
  refine se ?_
  replace hs21:=hs21.gr (stab_rw stab_fr 84 2) g26
  refine ec 38 (l5_own (by omega) (by omega) (fun i _ k _=>(hta.z i k).mono (by omega) (by omega)) (hm.gr hB) hs21) ?_
  rintro e28 w28 ⟨⟨u28,rfl,hs28⟩,g28⟩
  refine ⟨_,rfl,?_⟩
  replace hB:=hB.trans g28
  simp only [p3,p4]
  refine sv 39 u26 ?_
  refine se ?_
  replace hs26:=hs26.gr stab_fr g28
  refine ec 40 (l5_list (by omega) (fun j _=>(en_zs hse j).mono (by omega) (by omega)) (hm.gr hB) hs26) ?_
  rintro e29 w29 ⟨⟨u29,rfl,hs29⟩,g29⟩
  refine ⟨_,rfl,?_⟩
  replace hB:=hB.trans g29
  simp only [p3,p4]
  refine se ?_
  replace hs28:=hs28.gr (stab_rw (stab_rat 64) 71 4) g29
  refine ec 41 (mx_Solve_e (by omega) (by omega) (by omega) hs28 hs29) ?_
  rintro e30 w30 ⟨rfl,g30⟩
  refine ⟨_,rfl,?_⟩
  replace hB:=hB.trans g30
  simp only [p3,p4]
  refine sv 36 (.tuple #[(.slice none 0 0),(.int .i64 13)]) ?_
  refine sv 42 (.slice none 0 0) ?_
  refine sv 43 (.int .i64 13) ?_
  refine sv 10 (.slice none 0 0) ?_
  refine sv 11 (.int .i64 13) ?_
  refine sq_nil ?_
  refine k27 _ _ ?_
  try clear k27 K27
  refine wp_seq_k (fun K31 k31=>?_)
  refine wp_seq_k (fun K32 k32=>?_)
  refine rg [0] ?_
  refine sv 44 (.bool true) ?_
  refine sq_nil ?_
  refine k32 _ _ ?_
  try clear k32 K32
  refine wp_cond_true rfl ?_
  refine wp_seq_k (fun K33 k33=>?_)
  refine rg [0,1,2,3,4,5,6] ?_
  refine sv 45 (.slice none 0 0) ?_
  refine sv 46 (.int .i64 0) ?_
  refine sv 47 (.bool false) ?_
  refine sv 48 (.bool false) ?_
  refine sv 49 (.int .i64 13) ?_
  refine sv 50 (.bool false) ?_
  refine sv 51 (.bool false) ?_
  refine sq_nil ?_
  refine k33 _ _ ?_
  try clear k33 K33
  refine wp_cond_false rfl ?_
  refine wp_skip ?_
  refine k31 _ _ ?_
  try clear k31 K31
  refine wp_seq_k (fun K34 k34=>?_)
  refine rg [0,1,2] ?_
  refine sv 75 u21 ?_
  refine se ?_
  replace hs21:=hs21.gr (stab_rw stab_fr 84 2) (g28.trans (g29.trans g30))
  refine ec 76 (f5_columns hRN hs21) ?_
  rintro e35 w35 ⟨rfl,g35⟩
  refine ⟨_,rfl,?_⟩
  replace hB:=hB.trans g35
  simp only [p3,p4]
  refine sv 8 (.int .i64 ((N:Int))) ?_
  refine sq_nil ?_
  refine k34 _ _ ?_
  try clear k34 K34
  refine wp_seq_k (fun K36 k36=>?_)
  refine wp_seq_k (fun K37 k37=>?_)
  refine rg [0] ?_
  refine sv 77 (.bool true) ?_
  refine sq_nil ?_
  refine k37 _ _ ?_
  try clear k37 K37
  refine wp_cond_true rfl ?_
  refine rg [0,1,2] ?_
  refine sv 78 (.int .i64 ((N:Int))) ?_
  refine sw 79 (.int .i64 (((N:Int)+1))) rfl (RunV.int (x:=IntKind.i64.wrap (((N:Int)+1))) (y:=((N:Int)+1)) (rvk (by kernel_rfl)) (by first | rfl | (rw [IntKind.wrap_i64];omega))) ?_
  refine sv 8 (.int .i64 (((N:Int)+1))) ?_
  refine sq_nil ?_
  refine k36 _ _ ?_
  try clear k36 K36
  refine wp_seq_k (fun K38 k38=>?_)
  refine rg [0,1,2,3] ?_
  refine sv 80 ve ?_
  refine sv 81 (.int .i64 (((N:Int)+1))) ?_
  refine se ?_
  refine ec 82 (l5_line (N+1) (by omega) (hse.gr stab_en hB)) ?_
  rintro e39 w39 ⟨⟨u39,rfl,hs39⟩,g39⟩
  refine ⟨_,rfl,?_⟩
  replace hB:=hB.trans g39
  simp only [p3,p4]
  refine sv 9 u39 ?_
  refine sq_nil ?_
  refine k38 _ _ ?_
  try clear k38 K38
  refine wp_seq_k (fun K40 k40=>?_)
  refine rg [0,1,2,3,4,5,6,7,8,9] ?_
  refine sv 84 u21 ?_
  refine se ?_
  replace hs21:=hs21.gr (stab_rw stab_fr 84 2) (g35.trans g39)
  refine ec 85 (l5_own (by omega) (by omega) (fun i _ k _=>(hta.z i k).mono (by omega) (by omega)) (hm.gr hB) hs21) ?_
  rintro e41 w41 ⟨⟨u41,rfl,hs41⟩,g41⟩
  refine ⟨_,rfl,?_⟩
  replace hB:=hB.trans g41
  simp only [p3,p4]
  refine sv 86 u39 ?_
  refine se ?_
  replace hs39:=hs39.gr stab_fr g41
  refine ec 87 (l5_list (by omega) (fun j _=>(en_zs hse j).mono (by omega) (by omega)) (hm.gr hB) hs39) ?_
  rintro e42 w42 ⟨⟨u42,rfl,hs42⟩,g42⟩
  refine ⟨_,rfl,?_⟩
  replace hB:=hB.trans g42
  simp only [p3,p4]
  refine se ?_
  replace hs41:=hs41.gr (stab_rw (stab_rat 64) 71 4) g42
  refine ec 88 (mx_Combine_e (by omega) (by omega) hRN (by omega) hs41 hs42) ?_
  rintro e43 w43 ⟨rfl,g43⟩
  refine ⟨_,rfl,?_⟩
  replace hB:=hB.trans g43
  simp only [p3,p4]
  refine sv 83 (.tuple #[(.slice none 0 0),(.int .i64 13)]) ?_
  refine sv 89 (.slice none 0 0) ?_
  refine sv 90 (.int .i64 13) ?_
  refine sv 14 (.slice none 0 0) ?_
  refine sv 15 (.int .i64 13) ?_
  refine sq_nil ?_
  refine k40 _ _ ?_
  try clear k40 K40
  refine wp_seq_k (fun K44 k44=>?_)
  refine wp_seq_k (fun K45 k45=>?_)
  refine rg [0] ?_
  refine sv 91 (.bool true) ?_
  refine sq_nil ?_
  refine k45 _ _ ?_
  try clear k45 K45
  refine wp_cond_true rfl ?_
  refine wp_seq_k (fun K46 k46=>?_)
  refine rg [0,1,2,3,4,5,6,7] ?_
  refine sv 92 (.slice none 0 0) ?_
  refine sv 93 (.int .i64 0) ?_
  refine sv 94 (.bool true) ?_
  refine sv 95 (.bool true) ?_
  refine sv 96 (.int .i64 13) ?_
  refine sv 97 (.bool true) ?_
  refine sv 98 (.bool true) ?_
  refine sv 6 (.bool true) ?_
  refine sq_nil ?_
  refine k46 _ _ ?_
  try clear k46 K46
  refine wp_ret ?_
  simp only [Exit.then]
  refine bodyPost_ret (v:=(.bool true)) (ret_tmp rfl rfl) rfl ⟨?_,hB⟩
  exact rfl

theorem matrix_solves {R N:Nat} {xa:Value} {m:Mx_} {w:World} (hta:TA w xa R N m) {TT Z:Nat} {ve:Value} {ee:Nat→Int × Int} (hse:Sl EEn TT 2 w ve (tb (fun z1=>(ee z1)) Z)) (b:Bool) (W:World) (hW:W=w) (ht:Tab W) (hm:Mx W):Calls Tryz.prog 7 #[xa,ve,.bool b] W fun e w'=>e=.returned (.bool true)∧Gr W w':=by
  subst hW
  obtain ⟨_,_,ca,va,_,_,rfl,_⟩:=id hta
  cases b with
  | true=>exact ms_more hm ht hse hta
  | false=>
    by_cases hfs:(∀ t,pl R (wth N m (en ee Z)) N≤t→t<R→(rs R (wth N m (en ee Z)) N).m t N=0)
    · rcases Nat.eq_zero_or_pos N with rfl | hN0
      · exact ms_y0 ee hfs hm ht hse hta
      · by_cases hfc:(∀ t,pl N (wth R (fun z7 z8=>m z8 z7) (en ee Z)) R≤t→t<N→(rs N (wth R (fun z7 z8=>m z8 z7) (en ee Z)) R).m t R=0)
        · exact ms_yy hN0 hfs hfc hm ht hse hta
        · exact ms_yn hN0 hfs hfc hm ht hse hta
    · rcases Nat.eq_zero_or_pos N with rfl | hN0
      · exact ms_n0 ee hfs hm ht hse hta
      · by_cases hfc:(∀ t,pl N (wth R (fun z7 z8=>m z8 z7) (en ee Z)) R≤t→t<N→(rs N (wth R (fun z7 z8=>m z8 z7) (en ee Z)) R).m t R=0)
        · exact ms_ny hN0 hfs hfc hm ht hse hta
        · exact ms_nn hN0 hfs hfc hm ht hse hta
end Go.Proofs.YtepgkcimmdmgcaaGreatDoor
namespace Go.Proofs.YtepgkcimmdmgcaaGreatDoor
open Go.ChangeShapes Go.WideShapes Go.ChangeAt Go.RowKit

theorem matrixSolves_table {W : World} (h : laidMetH Tryz.prog Rows.matrixSolvesRow.laid W) : Tab W :=
  Lib.tabIs_of_head (rest := _) (g := 1) (t := 236) (e := 152) (n := 20) (by kernel_rfl) (by kernel_rfl) (by kernel_rfl) (by kernel_rfl) (by kernel_rfl) (by kernel_rfl) ((show laidMet Tryz.prog Rows.matrixSolvesRow.laid W from (MakeChecks.laidMetH_plain _ _ _ (by kernel_rfl)) ▸ h).tail.tail)
theorem matrixSolves_maxlen {W : World} (h : W.ShapedOpen Tryz.prog) : Mx W :=
  Go.Proofs.cell_of_shapedOpen_int (zero := #[.int .i64 0]) (g := 0) (t := 3) h (of_decide_eq_true (by kernel_rfl)) (by kernel_rfl) rfl (by kernel_rfl) (by kernel_rfl) Tryz.underlying3
set_option maxRecDepth 100000 in
theorem matrixSolves_contract (H : Type) (enc : TypeId × Value → H) (W : World) (base : Nat) (args : Array Value) (ds gs : List (DataW H)) (before : List MemPlace)
    (hval : ∀ (j : Nat) t v, Tryz.f7.params[j]? = some t → args[j]? = some v → Value.okWide Tryz.prog W .any base t v)
    (hW : DataW.Whole enc Tryz.prog Tryz.f7.params.toList Rows.matrixSolvesSpec.vars false W args.toList ds gs before) (hL : laidMetH Tryz.prog Rows.matrixSolvesRow.laid W) (hsh : W.ShapedOpen Tryz.prog) :
    Calls Tryz.prog 7 args W fun e W' => ∃ v, e = .returned v ∧ Rows.matrixSolvesSpec.post enc Tryz.prog Tryz.f7 false true false false W args v W' := by
  have hW' := hW
  obtain ⟨p, q, hA0, hV, rfl, hfz, hnd⟩ := hW
  have hA : DataW.TrodAll enc Tryz.prog W 0 (fun _ => true) true Tryz.f7.params.toList args.toList ds p := hA0
  rw [Tryz.params7] at hA hval
  obtain ⟨v0, vs0, d0, ds0, p0, q0, hargs, rfl, rfl, h0, r0⟩ := trodAll_cons hA
  obtain ⟨v1, vs1, d1, ds1, p1, q1, rfl, rfl, rfl, h1, r1⟩ := trodAll_cons r0
  obtain ⟨v2, vs2, d2, ds2, p2, q2, rfl, rfl, rfl, h2, r2⟩ := trodAll_cons r1
  obtain ⟨rfl, rfl, rfl⟩ := trodAll_nil r2
  obtain rfl : args = #[v0, v1, v2] := by cases args; simp_all
  obtain ⟨rfl, rfl⟩ := trodVars_none hV
  obtain ⟨z0, u0, T0, Xs0, rfl, bz0, sl0⟩ := open_tabk (E := ESl (EK [.i8, .u8]) 2) (k := .u8) (e := 45) (c := 1) (by kernel_rfl) (by kernel_rfl) (by decide) (fun _ _ _ _ hx => trod_esl (e := 114) (by kernel_rfl) (by kernel_rfl) (by decide) (trod_ek 5 (ks := [.i8, .u8]) (by kernel_rfl)) hx) (hval 0 24 v0 rfl rfl) h0
  obtain ⟨R0, N0, m0, ta0⟩ := ta_of sl0 (has_u8 bz0)
  obtain ⟨T1, Xs1, o1⟩ := open_ints 5 (ks := [.i8, .u8]) (e := 114) (by kernel_rfl) (by kernel_rfl) (by kernel_rfl) (by decide) (hval 1 45 v1 rfl rfl) h1
  obtain ⟨ee1, Z1, se1⟩ := ent_of o1
  obtain ⟨n2_0, rfl⟩ := open_bool (by kernel_rfl) (hval 2 4 v2 rfl rfl)
  refine ((fun _ => matrix_solves ta0 se1 n2_0 _ rfl)  W (matrixSolves_table hL) (matrixSolves_maxlen hsh)).mono fun e W' ⟨he, hg⟩ => ?_
  subst he
  exact ⟨_, rfl, law_post (tb := 4) laidOut (by kernel_rfl) (by kernel_rfl) (by kernel_rfl) rfl hW' rfl hg⟩
noncomputable def matrixSolves_world (os : Os) : World := World.laidAll Tryz.prog os Rows.matrixSolvesRow.laid
theorem matrixSolves_met (os : Os) : laidMet Tryz.prog Rows.matrixSolvesRow.laid ((matrixSolves_world os).forCall (fun _ _ => 0) ⟨#[], #[.agg #[.int .u8 0, .slice none 0 0], .slice none 0 0, .bool false], []⟩).memory :=
  laidMet_laidAll _ (by kernel_rfl) (by kernel_rfl)
theorem matrixSolves_reads (os : Os) {H : Type} (enc : TypeId × Value → H) : ∃ places, DataW.whole enc Tryz.prog ((matrixSolves_world os).forCall (fun _ _ => 0) ⟨#[], #[.agg #[.int .u8 0, .slice none 0 0], .slice none 0 0, .bool false], []⟩).memory Tryz.f7.params.toList Rows.matrixSolvesSpec.vars false (#[.agg #[.int .u8 0, .slice none 0 0], .slice none 0 0, .bool false] : Array Value).toList 8 = some ([.agg [.lit (.int .u8 0), .nil], .nil, .lit (.bool false)], [], places) :=
  ⟨[], by kernel_rfl⟩
set_option maxRecDepth 100000 in
theorem matrixSolves_lifted (os : Os) (started : os.Started) (H : Type) (enc : TypeId × Value → H) (F : Stop.Interp) :
    ReturnsInHanded {} Tryz.checked os 7 .any ((OpenSpec.ofChange Rows.matrixSolvesSpec).preRow enc Tryz.prog Tryz.f7 Rows.matrixSolvesRow.domain false Rows.matrixSolvesRow.laid) (((OpenSpec.ofChange Rows.matrixSolvesSpec).at F).post enc Tryz.prog Tryz.f7 false true false false) := by
  obtain ⟨places, hx⟩ := matrixSolves_reads os enc
  refine returnsInHanded_of_row (C := Tryz.checked) (s := OpenSpec.ofChange Rows.matrixSolvesSpec) own started (by kernel_rfl) Tryz.func7
    (witness_row_sh (enc := enc) (C := Tryz.checked) false (matrixSolves_world os) #[.agg #[.int .u8 0, .slice none 0 0], .slice none 0 0, .bool false] (World.laidAll_os _ _ _) (World.shaped_of_ZipB (by kernel_rfl) (by kernel_rfl)) (by kernel_rfl)
      (OpenSpec.preRow_of_cond 8 hx (by kernel_rfl) (fun k hk => by cases hk) (by kernel_rfl) (by rw [MakeChecks.laidMetH_plain _ _ _ (by kernel_rfl)]; exact matrixSolves_met os))) ?_
  intro W base args ds gs before hval hW _ _ _ hL hsh _
  exact matrixSolves_contract H enc W base args ds gs before hval hW hL hsh
theorem matrixSolves_said : Rows.MatrixSolvesSaid :=
  OpenClaim.holds_of_cond 7 Tryz.f7 rfl rfl rfl rfl rfl rfl rfl ⟨rfl, rfl, rfl, rfl, rfl⟩ rfl rfl rfl rfl rfl (by kernel_rfl) Tryz.func7 (by kernel_rfl)
    (of_decide_eq_true (by kernel_rfl)) (by unfold Func.isWrapper; first | (rw [if_pos (by decide +kernel)]; kernel_rfl) | (rw [if_neg (by decide +kernel)]; exact ⟨rfl, rfl⟩))
    (fun os started H enc _ F => by rw [OpenClaim.pre_eq_preRow]; exact matrixSolves_lifted os started H enc F)
theorem matrixSolves_plain (f : FuncId) (fn : Func) (hf : Tryz.pinned.checked.prog.funcNamed "dowel/dowellaw05.MatrixSolves" = some f) (hfn : Tryz.pinned.checked.prog.funcs[f]? = some fn) :
    true = Tryz.pinned.checked.prog.looks [] ∧ ∀ (j : Nat) t, fn.params[j]? = some t → Tryz.pinned.checked.prog.wantsStandIn t = false := by
  obtain rfl : f = 7 := Option.some.inj ((show Tryz.prog.funcNamed "dowel/dowellaw05.MatrixSolves" = some 7 by kernel_rfl).symm.trans hf) |>.symm
  obtain rfl : fn = Tryz.f7 := (Option.some.inj (Tryz.func7.symm.trans hfn)).symm
  refine ⟨by kernel_rfl, fun j t ht => ?_⟩
  rw [Tryz.params7] at ht
  have hm := Array.mem_of_getElem? ht
  have hall : (#[24, 45, 4] : Array TypeId).toList.all (fun t => !Tryz.prog.wantsStandIn t) = true := by kernel_rfl
  have := List.all_eq_true.1 hall t (Array.mem_toList_iff.2 hm)
  have h3 : Tryz.prog.wantsStandIn t = false := by simpa using this
  exact h3
/-- the card -/
theorem matrixSolves_card : Rows.MatrixSolvesCardSaid :=
  Claim7.holds_tied_plain_at .later [] _ _ _ _ matrixSolves_said (fun _ h => by cases h) (by kernel_rfl) (fun _ h => by cases h) matrixSolves_row_tie rfl ⟨rfl, rfl⟩ (by kernel_rfl) rfl matrixSolves_plain (by kernel_rfl)
end Go.Proofs.YtepgkcimmdmgcaaGreatDoor
