/- Joined of: Gen185, RowMatrixInverts. -/
import Derived.Test.YtepgkcimmdmgcaaGreatDoorPartG
import Derived.Test.YtepgkcimmdmgcaaGreatDoorCards
import Derived.Test.YtepgkcimmdmgcaaGreatDoorTie
import Derived.Test.YtepgkcimmdmgcaaGreatDoorPartA
import Derived.Test.YtepgkcimmdmgcaaGreatDoorPartB
namespace Go.Proofs.YtepgkcimmdmgcaaGreatDoor
open Go.RowKit

set_option maxRecDepth 100000 in
set_option maxHeartbeats 1000000 in
theorem mv_n {R N ca:Nat} {va:Value} {m:Mx_} (hne:¬ R=N) {w:World} (hm:Mx w) (ht:Tab w) (hta:TA w (.agg #[.int .u8 (ca:Int),va]) R N m):
    Calls Tryz.prog 8 #[(.agg #[(.int .u8 ((ca:Int))),va])] w fun e w'=>e=.returned (.bool true)∧Gr w w':=by
 have hR5:=hta.R5
 have hN6:=hta.N6
 have hRN:=hta.R0
 go_enter Tryz.func8,Tryz.ntmps8
 have hB:=Gr.refl w
 refine wp_seq_k (fun K10 k10=>?_)
 refine rg [0,1] ?_
 refine se ?_
 refine eb 24 #[(.int .u8 ((ca:Int))),va] 1 hB fun b11 w11 g11 L11 o11 q11 hB=>?_
 simp only [p3,p4]
 refine sv 2 (.bool false) ?_
 refine sq_nil ?_
 refine k10 _ _ ?_
 try clear k10 K10
 refine wp_seq_k (fun K12 k12=>?_)
 refine wp_seq_k (fun K13 k13=>?_)
 refine rg [0,1] ?_
 refine se ?_
 refine ec 10 (l5_known _ (hm.gr hB) (ht.gr hB)) ?_
 rintro e14 w14 ⟨rfl,g14⟩
 refine ⟨_,rfl,?_⟩
 replace hB:=hB.trans g14
 simp only [p3,p4]
 refine sv 11 (.bool false) ?_
 refine sq_nil ?_
 refine k13 _ _ ?_
 try clear k13 K13
 refine wp_cond_false rfl ?_
 refine wp_skip ?_
 refine k12 _ _ ?_
 try clear k12 K12
 refine wp_seq_k (fun K15 k15=>?_)
 refine rg [0,1,2] ?_
 replace L11:=L11.gr g14
 refine sw 12 (.agg #[(.int .u8 ((ca:Int))),va]) rfl (rl 24 0 [(.int .u8 ((ca:Int))),va] L11) ?_
 refine se ?_
 refine ec 13 (l5_rowsT (hta.gr hB)) ?_
 rintro e16 w16 ⟨⟨u16,rfl,hs16⟩,g16⟩
 refine ⟨_,rfl,?_⟩
 replace hB:=hB.trans g16
 simp only [p3,p4]
 refine sv 3 u16 ?_
 refine sq_nil ?_
 refine k15 _ _ ?_
 try clear k15 K15
 refine wp_seq_k (fun K17 k17=>?_)
 have lehC:=Below.size hB
 have hC:=Gr.refl w16
 refine rg [0,1,2,3,4,5,6,7,8] ?_
 refine sv 15 u16 ?_
 refine se ?_
 refine ec 16 (l5_own (by omega) (by omega) (fun i _ k _=>(hta.z i k).mono (by omega) (by omega)) (hm.gr hB) (hs16.gr (stab_rw stab_fr 84 2) hC)) ?_
 rintro e18 w18 ⟨⟨u18,rfl,hs18⟩,g18⟩
 refine ⟨_,rfl,?_⟩
 replace hB:=hB.trans g18
 replace hC:=hC.trans g18
 simp only [p3,p4]
 refine se ?_
 refine ec 17 (mx_Determinant_n hRN hne (by omega) (by omega) hs18) ?_
 rintro e19 w19 ⟨rfl,g19⟩
 refine ⟨_,rfl,?_⟩
 replace hB:=hB.trans g19
 replace hC:=hC.trans g19
 simp only [p3,p4]
 refine sv 14 (.tuple #[(.agg #[(.bool false),(.slice none 0 0),(.bool false),(.slice none 0 0)]),(.int .i64 13)]) ?_
 refine sv 18 (.agg #[(.bool false),(.slice none 0 0),(.bool false),(.slice none 0 0)]) ?_
 refine sv 19 (.int .i64 13) ?_
 refine se ?_
 refine ea 71 #[(.bool false),(.slice none 0 0),(.bool false),(.slice none 0 0)] 4 hB fun b20 w20 g20 L20 o20 q20 hB=>?_
 have q20_hC:=Nat.le_trans (Below.size hC) o20
 replace hC:=hC.trans g20
 simp only [p3,p4]
 refine se ?_
 have lo21:=L20
 refine es 71 0 (.agg #[(.bool false),(.slice none 0 0),(.bool false),(.slice none 0 0)]) [(.bool false),(.slice none 0 0),(.bool false),(.slice none 0 0)] #[(.bool false),(.slice none 0 0),(.bool false),(.slice none 0 0)] L20 hB q20 ⟨rfl,rfl,rfl,rfl,trivial⟩ fun w21 st21 kp21 L20 hB=>?_
 replace hC:=st21.gr hC q20_hC
 refine sv 5 (.int .i64 13) ?_
 refine sq_nil ?_
 refine k17 _ _ ?_
 try clear k17 K17
 refine wp_seq_k (fun K22 k22=>?_)
 refine rg [0,1,2,3,4,5,6,7] ?_
 refine sv 21 u16 ?_
 refine se ?_
 refine ec 22 (l5_own (by omega) (by omega) (fun i _ k _=>(hta.z i k).mono (by omega) (by omega)) (hm.gr hB) (hs16.gr (stab_rw stab_fr 84 2) hC)) ?_
 rintro e23 w23 ⟨⟨u23,rfl,hs23⟩,g23⟩
 refine ⟨_,rfl,?_⟩
 replace hB:=hB.trans g23
 replace hC:=hC.trans g23
 simp only [p3,p4]
 refine se ?_
 refine ec 23 (mx_Inverse_n hRN hne (by omega) (by omega) hs23) ?_
 rintro e24 w24 ⟨rfl,g24⟩
 refine ⟨_,rfl,?_⟩
 replace hB:=hB.trans g24
 replace hC:=hC.trans g24
 simp only [p3,p4]
 refine sv 20 (.tuple #[(.slice none 0 0),(.int .i64 13)]) ?_
 refine sv 24 (.slice none 0 0) ?_
 refine sv 25 (.int .i64 13) ?_
 refine sv 6 (.slice none 0 0) ?_
 refine sv 7 (.int .i64 13) ?_
 refine sq_nil ?_
 refine k22 _ _ ?_
 try clear k22 K22
 refine wp_seq_k (fun K25 k25=>?_)
 refine wp_seq_k (fun K26 k26=>?_)
 refine rg [0,1,2,3,4] ?_
 refine sv 26 u16 ?_
 refine sw 27 (.int .i64 ((R:Int))) rfl (rv_lenn (e:=51) hs16 (tb_lenz rfl) _ _ rfl rfl (by kernel_rfl)) ?_
 refine sv 28 u16 ?_
 refine se ?_
 refine ec 29 (f5_columns hRN (hs16.gr (stab_rw stab_fr 84 2) hC)) ?_
 rintro e27 w27 ⟨rfl,g27⟩
 refine ⟨_,rfl,?_⟩
 replace hB:=hB.trans g27
 replace hC:=hC.trans g27
 simp only [p3,p4]
 have hb28:(((R:Int) !=(N:Int)))=true:=(by simp;omega)
 refine sw 30 (.bool true) rfl (RunV.bool (x:=((R:Int) !=(N:Int))) (rvk (by kernel_rfl)) hb28) ?_
 refine sq_nil ?_
 refine k26 _ _ ?_
 try clear k26 K26
 refine wp_cond_true rfl ?_
 refine wp_seq_k (fun K29 k29=>?_)
 refine rg [0,1,2,3,4,5,6,7,8,9,10,11,12,13,14,15,16] ?_
 replace L20:=L20.gr (g23.trans (g24.trans g27))
 refine sw 31 (.agg #[(.bool false),(.slice none 0 0),(.bool false),(.slice none 0 0)]) rfl (rl 71 0 [(.bool false),(.slice none 0 0),(.bool false),(.slice none 0 0)] L20) ?_
 refine se ?_
 refine ec 32 (sign_r (IsRat.zero _ (k:=64) (Nat.le_refl _))) ?_
 rintro e30 w30 ⟨rfl,g30⟩
 refine ⟨_,rfl,?_⟩
 replace hB:=hB.trans g30
 replace hC:=hC.trans g30
 simp only [p3,p4]
 have hb31:((sgn ((0:Rat)).num==(0:Int)))=true:=(by decide)
 refine sw 33 (.bool true) rfl (RunV.bool (x:=(sgn ((0:Rat)).num==(0:Int))) (rvk (by kernel_rfl)) hb31) ?_
 refine sv 34 (.bool true) ?_
 refine sv 35 (.int .i64 13) ?_
 refine sv 36 (.bool true) ?_
 refine sv 37 (.bool true) ?_
 refine sv 38 (.bool true) ?_
 refine sv 39 (.slice none 0 0) ?_
 refine sv 40 (.int .i64 0) ?_
 refine sv 41 (.bool true) ?_
 refine sv 42 (.bool true) ?_
 refine sv 43 (.bool true) ?_
 refine sv 44 (.int .i64 13) ?_
 refine sv 45 (.bool true) ?_
 refine sv 46 (.bool true) ?_
 refine sv 2 (.bool true) ?_
 refine sq_nil ?_
 refine k29 _ _ ?_
 try clear k29 K29
 refine wp_ret ?_
 simp only [Exit.then]
 refine bodyPost_ret (v:=(.bool true)) (ret_tmp rfl rfl) rfl ⟨?_,hB⟩
 exact rfl

set_option maxRecDepth 100000 in
set_option maxHeartbeats 1000000 in
theorem mv_s {R ca:Nat} {va:Value} {m:Mx_} (hf:pl R (wid R m) R<R) {w:World} (hm:Mx w) (ht:Tab w) (hta:TA w (.agg #[.int .u8 (ca:Int),va]) R R m):
    Calls Tryz.prog 8 #[(.agg #[(.int .u8 ((ca:Int))),va])] w fun e w'=>e=.returned (.bool true)∧Gr w w':=by
 have hR5:=hta.R5
 have hN6:=hta.N6
 have hRN:=hta.R0
 go_enter Tryz.func8,Tryz.ntmps8
 have hB:=Gr.refl w
 refine wp_seq_k (fun K10 k10=>?_)
 refine rg [0,1] ?_
 refine se ?_
 refine eb 24 #[(.int .u8 ((ca:Int))),va] 1 hB fun b11 w11 g11 L11 o11 q11 hB=>?_
 simp only [p3,p4]
 refine sv 2 (.bool false) ?_
 refine sq_nil ?_
 refine k10 _ _ ?_
 try clear k10 K10
 refine wp_seq_k (fun K12 k12=>?_)
 refine wp_seq_k (fun K13 k13=>?_)
 refine rg [0,1] ?_
 refine se ?_
 refine ec 10 (l5_known _ (hm.gr hB) (ht.gr hB)) ?_
 rintro e14 w14 ⟨rfl,g14⟩
 refine ⟨_,rfl,?_⟩
 replace hB:=hB.trans g14
 simp only [p3,p4]
 refine sv 11 (.bool false) ?_
 refine sq_nil ?_
 refine k13 _ _ ?_
 try clear k13 K13
 refine wp_cond_false rfl ?_
 refine wp_skip ?_
 refine k12 _ _ ?_
 try clear k12 K12
 refine wp_seq_k (fun K15 k15=>?_)
 refine rg [0,1,2] ?_
 replace L11:=L11.gr g14
 refine sw 12 (.agg #[(.int .u8 ((ca:Int))),va]) rfl (rl 24 0 [(.int .u8 ((ca:Int))),va] L11) ?_
 refine se ?_
 refine ec 13 (l5_rowsT (hta.gr hB)) ?_
 rintro e16 w16 ⟨⟨u16,rfl,hs16⟩,g16⟩
 refine ⟨_,rfl,?_⟩
 replace hB:=hB.trans g16
 simp only [p3,p4]
 refine sv 3 u16 ?_
 refine sq_nil ?_
 refine k15 _ _ ?_
 try clear k15 K15
 refine wp_seq_k (fun K17 k17=>?_)
 have lehC:=Below.size hB
 have hC:=Gr.refl w16
 refine rg [0,1,2,3,4,5,6,7,8] ?_
 refine sv 15 u16 ?_
 refine se ?_
 refine ec 16 (l5_own (by omega) (by omega) (fun i _ k _=>(hta.z i k).mono (by omega) (by omega)) (hm.gr hB) (hs16.gr (stab_rw stab_fr 84 2) hC)) ?_
 rintro e18 w18 ⟨⟨u18,rfl,hs18⟩,g18⟩
 refine ⟨_,rfl,?_⟩
 replace hB:=hB.trans g18
 replace hC:=hC.trans g18
 simp only [p3,p4]
 refine se ?_
 refine ec 17 (mx_Determinant (K:=4899) (m:=m) (by omega) (by omega) (by omega) hta.bd (hs18.ratrows (by omega))) ?_
 rintro e19 w19 ⟨⟨p19,q19,r19,s19,rfl,h19⟩,g19⟩
 refine ⟨_,rfl,?_⟩
 replace hB:=hB.trans g19
 replace hC:=hC.trans g19
 simp only [p3,p4]
 refine sv 14 (.tuple #[(.agg #[p19,q19,r19,s19]),(.int .i64 0)]) ?_
 refine sv 18 (.agg #[p19,q19,r19,s19]) ?_
 refine sv 19 (.int .i64 0) ?_
 refine se ?_
 refine ea 71 #[(.bool false),(.slice none 0 0),(.bool false),(.slice none 0 0)] 4 hB fun b20 w20 g20 L20 o20 q20 hB=>?_
 have q20_hC:=Nat.le_trans (Below.size hC) o20
 replace hC:=hC.trans g20
 simp only [p3,p4]
 refine se ?_
 have lo21:=L20
 refine es 71 0 (.agg #[p19,q19,r19,s19]) [p19,q19,r19,s19] #[p19,q19,r19,s19] L20 hB q20 ⟨h19.one0,h19.one1,h19.one2,h19.one3,trivial⟩ fun w21 st21 kp21 L20 hB=>?_
 replace hC:=st21.gr hC q20_hC
 refine sv 5 (.int .i64 0) ?_
 refine sq_nil ?_
 refine k17 _ _ ?_
 try clear k17 K17
 refine wp_seq_k (fun K22 k22=>?_)
 refine rg [0,1,2,3,4,5,6,7] ?_
 refine sv 21 u16 ?_
 refine se ?_
 refine ec 22 (l5_own (by omega) (by omega) (fun i _ k _=>(hta.z i k).mono (by omega) (by omega)) (hm.gr hB) (hs16.gr (stab_rw stab_fr 84 2) hC)) ?_
 rintro e23 w23 ⟨⟨u23,rfl,hs23⟩,g23⟩
 refine ⟨_,rfl,?_⟩
 replace hB:=hB.trans g23
 replace hC:=hC.trans g23
 simp only [p3,p4]
 refine se ?_
 refine ec 23 (mx_Inverse_s (K:=4899) (m:=m) (by omega) (by omega) (by omega) (rs_all (P:=5) ⟨8,3,8,3,1⟩ (fun i hi k hk=>wid_z (by decide) (by decide) hta.zz i hi k (by omega)) (fun i hi k _ hk=>wid_z (by decide) (by decide) hta.zz i hi k hk) (Nat.le_refl _) (.inl hR5) (by decide)) hf (hs23.ratrows (by omega))) ?_
 rintro e24 w24 ⟨rfl,g24⟩
 refine ⟨_,rfl,?_⟩
 replace hB:=hB.trans g24
 replace hC:=hC.trans g24
 simp only [p3,p4]
 refine sv 20 (.tuple #[(.slice none 0 0),(.int .i64 20)]) ?_
 refine sv 24 (.slice none 0 0) ?_
 refine sv 25 (.int .i64 20) ?_
 refine sv 6 (.slice none 0 0) ?_
 refine sv 7 (.int .i64 20) ?_
 refine sq_nil ?_
 refine k22 _ _ ?_
 try clear k22 K22
 refine wp_seq_k (fun K25 k25=>?_)
 refine wp_seq_k (fun K26 k26=>?_)
 refine rg [0,1,2,3,4] ?_
 refine sv 26 u16 ?_
 refine sw 27 (.int .i64 ((R:Int))) rfl (rv_lenn (e:=51) hs16 (tb_lenz rfl) _ _ rfl rfl (by kernel_rfl)) ?_
 refine sv 28 u16 ?_
 refine se ?_
 refine ec 29 (f5_columns hRN (hs16.gr (stab_rw stab_fr 84 2) hC)) ?_
 rintro e27 w27 ⟨rfl,g27⟩
 refine ⟨_,rfl,?_⟩
 replace hB:=hB.trans g27
 replace hC:=hC.trans g27
 simp only [p3,p4]
 have hb28:(((R:Int) !=(R:Int)))=false:=(by simp)
 refine sw 30 (.bool false) rfl (RunV.bool (x:=((R:Int) !=(R:Int))) (rvk (by kernel_rfl)) hb28) ?_
 refine sq_nil ?_
 refine k26 _ _ ?_
 try clear k26 K26
 refine wp_cond_false rfl ?_
 refine wp_skip ?_
 refine k25 _ _ ?_
 try clear k25 K25
 refine wp_seq_k (fun K29 k29=>?_)
 refine wp_seq_k (fun K30 k30=>?_)
 refine rg [0,1,2,3,4,5,6,7,8,9] ?_
 replace L20:=L20.gr (g23.trans (g24.trans g27))
 refine sw 47 (.agg #[p19,q19,r19,s19]) rfl (rl 71 0 [p19,q19,r19,s19] L20) ?_
 refine se ?_
 have kq32:=g20.kp.trans (kp21.trans (g23.kp.trans (g24.kp.trans g27.kp)))
 replace h19:=h19.kp kq32
 refine ec 48 (number_r h19 (by omega) (ht.gr hB)) ?_
 rintro e31 w31 ⟨rfl,g31⟩
 refine ⟨_,rfl,?_⟩
 replace hB:=hB.trans g31
 replace hC:=hC.trans g31
 simp only [p3,p4]
 refine sv 49 u16 ?_
 refine se ?_
 refine ec 50 (f5_detE hR5 (hs16.gr (stab_rw stab_fr 84 2) hC) hta.zz) ?_
 rintro e33 w33 ⟨rfl,g33⟩
 refine ⟨_,rfl,?_⟩
 replace hB:=hB.trans g33
 replace hC:=hC.trans g33
 simp only [p3,p4]
 refine se ?_
 refine ec 51 (f5_text (dtE R m) (dtE_z (by decide) (hta.bd R (Nat.le_refl _))) (by omega) _) ?_
 rintro e34 w34 ⟨rfl,g34⟩
 refine ⟨_,rfl,?_⟩
 replace hB:=hB.trans g34
 replace hC:=hC.trans g34
 simp only [p3,p4]
 have hb35:(((ratL (dtE R m)) !=(ratL (dtE R m))))=false:=(by simp)
 refine sw 52 (.bool false) rfl (RunV.bool (x:=((ratL (dtE R m)) !=(ratL (dtE R m)))) (rv_sne 9 9 _ _ (ratL (dtE R m)) (ratL (dtE R m)) rfl rfl rfl) hb35) ?_
 refine sv 53 (.bool false) ?_
 refine sv 54 (.int .i64 0) ?_
 refine sv 55 (.bool false) ?_
 refine sv 56 (.bool false) ?_
 refine sq_nil ?_
 refine k30 _ _ ?_
 try clear k30 K30
 refine wp_cond_false rfl ?_
 refine wp_skip ?_
 refine k29 _ _ ?_
 try clear k29 K29
 refine wp_seq_k (fun K36 k36=>?_)
 refine rg [0,1,2,3,4,5,6] ?_
 refine sv 58 u16 ?_
 refine se ?_
 refine ec 59 (f5_inverse_n (K:=4899) (m:=m) (by omega) (by omega) (rs_sf (wid_z (by decide) (by decide) hta.zz) (.inr (by omega))) (fun h=>(full_P R m).1 h hf) (hs16.gr (stab_rw stab_fr 84 2) hC)) ?_
 rintro e37 w37 ⟨rfl,g37⟩
 refine ⟨_,rfl,?_⟩
 replace hB:=hB.trans g37
 replace hC:=hC.trans g37
 simp only [p3,p4]
 refine sv 57 (.tuple #[(.slice none 0 0),(.bool false)]) ?_
 refine sv 60 (.slice none 0 0) ?_
 refine sv 61 (.bool false) ?_
 refine sv 8 (.slice none 0 0) ?_
 refine sv 9 (.bool false) ?_
 refine sq_nil ?_
 refine k36 _ _ ?_
 try clear k36 K36
 refine wp_seq_k (fun K38 k38=>?_)
 refine wp_seq_k (fun K39 k39=>?_)
 refine rg [0,1] ?_
 refine sv 62 (.bool false) ?_
 refine sv 63 (.bool true) ?_
 refine sq_nil ?_
 refine k39 _ _ ?_
 try clear k39 K39
 refine wp_cond_true rfl ?_
 refine wp_seq_k (fun K40 k40=>?_)
 refine rg [0,1,2,3,4,5,6,7] ?_
 refine sv 64 (.slice none 0 0) ?_
 refine sv 65 (.int .i64 0) ?_
 refine sv 66 (.bool true) ?_
 refine sv 67 (.bool true) ?_
 refine sv 68 (.int .i64 20) ?_
 refine sv 69 (.bool true) ?_
 refine sv 70 (.bool true) ?_
 refine sv 2 (.bool true) ?_
 refine sq_nil ?_
 refine k40 _ _ ?_
 try clear k40 K40
 refine wp_ret ?_
 simp only [Exit.then]
 refine bodyPost_ret (v:=(.bool true)) (ret_tmp rfl rfl) rfl ⟨?_,hB⟩
 exact rfl

set_option maxRecDepth 100000 in
set_option maxHeartbeats 1000000 in
theorem mv_y {R ca:Nat} {va:Value} {m:Mx_} (hf:¬ pl R (wid R m) R<R) {w:World} (hm:Mx w) (ht:Tab w) (hta:TA w (.agg #[.int .u8 (ca:Int),va]) R R m):
    Calls Tryz.prog 8 #[(.agg #[(.int .u8 ((ca:Int))),va])] w fun e w'=>e=.returned (.bool true)∧Gr w w':=by
 have hR5:=hta.R5
 have hN6:=hta.N6
 have hRN:=hta.R0
 go_enter Tryz.func8,Tryz.ntmps8
 have hB:=Gr.refl w
 refine wp_seq_k (fun K10 k10=>?_)
 refine rg [0,1] ?_
 refine se ?_
 refine eb 24 #[(.int .u8 ((ca:Int))),va] 1 hB fun b11 w11 g11 L11 o11 q11 hB=>?_
 simp only [p3,p4]
 refine sv 2 (.bool false) ?_
 refine sq_nil ?_
 refine k10 _ _ ?_
 try clear k10 K10
 refine wp_seq_k (fun K12 k12=>?_)
 refine wp_seq_k (fun K13 k13=>?_)
 refine rg [0,1] ?_
 refine se ?_
 refine ec 10 (l5_known _ (hm.gr hB) (ht.gr hB)) ?_
 rintro e14 w14 ⟨rfl,g14⟩
 refine ⟨_,rfl,?_⟩
 replace hB:=hB.trans g14
 simp only [p3,p4]
 refine sv 11 (.bool false) ?_
 refine sq_nil ?_
 refine k13 _ _ ?_
 try clear k13 K13
 refine wp_cond_false rfl ?_
 refine wp_skip ?_
 refine k12 _ _ ?_
 try clear k12 K12
 refine wp_seq_k (fun K15 k15=>?_)
 refine rg [0,1,2] ?_
 replace L11:=L11.gr g14
 refine sw 12 (.agg #[(.int .u8 ((ca:Int))),va]) rfl (rl 24 0 [(.int .u8 ((ca:Int))),va] L11) ?_
 refine se ?_
 refine ec 13 (l5_rowsT (hta.gr hB)) ?_
 rintro e16 w16 ⟨⟨u16,rfl,hs16⟩,g16⟩
 refine ⟨_,rfl,?_⟩
 replace hB:=hB.trans g16
 simp only [p3,p4]
 refine sv 3 u16 ?_
 refine sq_nil ?_
 refine k15 _ _ ?_
 try clear k15 K15
 refine wp_seq_k (fun K17 k17=>?_)
 have lehC:=Below.size hB
 have hC:=Gr.refl w16
 refine rg [0,1,2,3,4,5,6,7,8] ?_
 refine sv 15 u16 ?_
 refine se ?_
 refine ec 16 (l5_own (by omega) (by omega) (fun i _ k _=>(hta.z i k).mono (by omega) (by omega)) (hm.gr hB) (hs16.gr (stab_rw stab_fr 84 2) hC)) ?_
 rintro e18 w18 ⟨⟨u18,rfl,hs18⟩,g18⟩
 refine ⟨_,rfl,?_⟩
 replace hB:=hB.trans g18
 replace hC:=hC.trans g18
 simp only [p3,p4]
 refine se ?_
 refine ec 17 (mx_Determinant (K:=4899) (m:=m) (by omega) (by omega) (by omega) hta.bd (hs18.ratrows (by omega))) ?_
 rintro e19 w19 ⟨⟨p19,q19,r19,s19,rfl,h19⟩,g19⟩
 refine ⟨_,rfl,?_⟩
 replace hB:=hB.trans g19
 replace hC:=hC.trans g19
 simp only [p3,p4]
 refine sv 14 (.tuple #[(.agg #[p19,q19,r19,s19]),(.int .i64 0)]) ?_
 refine sv 18 (.agg #[p19,q19,r19,s19]) ?_
 refine sv 19 (.int .i64 0) ?_
 refine se ?_
 refine ea 71 #[(.bool false),(.slice none 0 0),(.bool false),(.slice none 0 0)] 4 hB fun b20 w20 g20 L20 o20 q20 hB=>?_
 have q20_hC:=Nat.le_trans (Below.size hC) o20
 replace hC:=hC.trans g20
 simp only [p3,p4]
 refine se ?_
 have lo21:=L20
 refine es 71 0 (.agg #[p19,q19,r19,s19]) [p19,q19,r19,s19] #[p19,q19,r19,s19] L20 hB q20 ⟨h19.one0,h19.one1,h19.one2,h19.one3,trivial⟩ fun w21 st21 kp21 L20 hB=>?_
 replace hC:=st21.gr hC q20_hC
 refine sv 5 (.int .i64 0) ?_
 refine sq_nil ?_
 refine k17 _ _ ?_
 try clear k17 K17
 refine wp_seq_k (fun K22 k22=>?_)
 refine rg [0,1,2,3,4,5,6,7] ?_
 refine sv 21 u16 ?_
 refine se ?_
 refine ec 22 (l5_own (by omega) (by omega) (fun i _ k _=>(hta.z i k).mono (by omega) (by omega)) (hm.gr hB) (hs16.gr (stab_rw stab_fr 84 2) hC)) ?_
 rintro e23 w23 ⟨⟨u23,rfl,hs23⟩,g23⟩
 refine ⟨_,rfl,?_⟩
 replace hB:=hB.trans g23
 replace hC:=hC.trans g23
 simp only [p3,p4]
 refine se ?_
 refine ec 23 (mx_Inverse_y (K:=4899) (m:=m) (by omega) (by omega) (by omega) (rs_all (P:=5) ⟨8,3,8,3,1⟩ (fun i hi k hk=>wid_z (by decide) (by decide) hta.zz i hi k (by omega)) (fun i hi k _ hk=>wid_z (by decide) (by decide) hta.zz i hi k hk) (Nat.le_refl _) (.inl hR5) (by decide)) hf (hs23.ratrows (by omega))) ?_
 rintro e24 w24 ⟨⟨u24,rfl,hs24⟩,g24⟩
 refine ⟨_,rfl,?_⟩
 replace hB:=hB.trans g24
 replace hC:=hC.trans g24
 replace hs24:=hs24.cast (show _=tb (fun z0=>tb (fun z1=>(rs R (wid R m) (R+R)).m z0 (R+z1)) R) R from by rw [inv_same hf])
 simp only [p3,p4]
 refine sv 20 (.tuple #[u24,(.int .i64 0)]) ?_
 refine sv 24 u24 ?_
 refine sv 25 (.int .i64 0) ?_
 refine sv 6 u24 ?_
 refine sv 7 (.int .i64 0) ?_
 refine sq_nil ?_
 refine k22 _ _ ?_
 try clear k22 K22
 refine wp_seq_k (fun K25 k25=>?_)
 refine wp_seq_k (fun K26 k26=>?_)
 refine rg [0,1,2,3,4] ?_
 refine sv 26 u16 ?_
 refine sw 27 (.int .i64 ((R:Int))) rfl (rv_lenn (e:=51) hs16 (tb_lenz rfl) _ _ rfl rfl (by kernel_rfl)) ?_
 refine sv 28 u16 ?_
 refine se ?_
 refine ec 29 (f5_columns hRN (hs16.gr (stab_rw stab_fr 84 2) hC)) ?_
 rintro e27 w27 ⟨rfl,g27⟩
 refine ⟨_,rfl,?_⟩
 replace hB:=hB.trans g27
 replace hC:=hC.trans g27
 simp only [p3,p4]
 have hb28:(((R:Int) !=(R:Int)))=false:=(by simp)
 refine sw 30 (.bool false) rfl (RunV.bool (x:=((R:Int) !=(R:Int))) (rvk (by kernel_rfl)) hb28) ?_
 refine sq_nil ?_
 refine k26 _ _ ?_
 try clear k26 K26
 refine wp_cond_false rfl ?_
 refine wp_skip ?_
 refine k25 _ _ ?_
 try clear k25 K25
 refine wp_seq_k (fun K29 k29=>?_)
 refine wp_seq_k (fun K30 k30=>?_)
 refine rg [0,1,2,3,4,5,6,7,8,9] ?_
 replace L20:=L20.gr (g23.trans (g24.trans g27))
 refine sw 47 (.agg #[p19,q19,r19,s19]) rfl (rl 71 0 [p19,q19,r19,s19] L20) ?_
 refine se ?_
 have kq32:=g20.kp.trans (kp21.trans (g23.kp.trans (g24.kp.trans g27.kp)))
 replace h19:=h19.kp kq32
 refine ec 48 (number_r h19 (by omega) (ht.gr hB)) ?_
 rintro e31 w31 ⟨rfl,g31⟩
 refine ⟨_,rfl,?_⟩
 replace hB:=hB.trans g31
 replace hC:=hC.trans g31
 simp only [p3,p4]
 refine sv 49 u16 ?_
 refine se ?_
 refine ec 50 (f5_detE hR5 (hs16.gr (stab_rw stab_fr 84 2) hC) hta.zz) ?_
 rintro e33 w33 ⟨rfl,g33⟩
 refine ⟨_,rfl,?_⟩
 replace hB:=hB.trans g33
 replace hC:=hC.trans g33
 simp only [p3,p4]
 refine se ?_
 refine ec 51 (f5_text (dtE R m) (dtE_z (by decide) (hta.bd R (Nat.le_refl _))) (by omega) _) ?_
 rintro e34 w34 ⟨rfl,g34⟩
 refine ⟨_,rfl,?_⟩
 replace hB:=hB.trans g34
 replace hC:=hC.trans g34
 simp only [p3,p4]
 have hb35:(((ratL (dtE R m)) !=(ratL (dtE R m))))=false:=(by simp)
 refine sw 52 (.bool false) rfl (RunV.bool (x:=((ratL (dtE R m)) !=(ratL (dtE R m)))) (rv_sne 9 9 _ _ (ratL (dtE R m)) (ratL (dtE R m)) rfl rfl rfl) hb35) ?_
 refine sv 53 (.bool false) ?_
 refine sv 54 (.int .i64 0) ?_
 refine sv 55 (.bool false) ?_
 refine sv 56 (.bool false) ?_
 refine sq_nil ?_
 refine k30 _ _ ?_
 try clear k30 K30
 refine wp_cond_false rfl ?_
 refine wp_skip ?_
 refine k29 _ _ ?_
 try clear k29 K29
 refine wp_seq_k (fun K36 k36=>?_)
 refine rg [0,1,2,3,4,5,6] ?_
 refine sv 58 u16 ?_
 refine se ?_
 refine ec 59 (f5_inverse_y (K:=4899) (m:=m) (by omega) (by omega) (rs_sf (wid_z (by decide) (by decide) hta.zz) (.inr (by omega))) ((full_P R m).2 hf) (hs16.gr (stab_rw stab_fr 84 2) hC)) ?_
 rintro e37 w37 ⟨⟨u37,rfl,hs37⟩,g37⟩
 refine ⟨_,rfl,?_⟩
 replace hB:=hB.trans g37
 replace hC:=hC.trans g37
 simp only [p3,p4]
 refine sv 57 (.tuple #[u37,(.bool true)]) ?_
 refine sv 60 u37 ?_
 refine sv 61 (.bool true) ?_
 refine sv 8 u37 ?_
 refine sv 9 (.bool true) ?_
 refine sq_nil ?_
 refine k36 _ _ ?_
 try clear k36 K36
 refine wp_seq_k (fun K38 k38=>?_)
 refine wp_seq_k (fun K39 k39=>?_)
 refine rg [0,1] ?_
 refine sv 62 (.bool true) ?_
 refine sv 63 (.bool false) ?_
 refine sq_nil ?_
 refine k39 _ _ ?_
 try clear k39 K39
 refine wp_cond_false rfl ?_
 refine wp_skip ?_
 refine k38 _ _ ?_
 try clear k38 K38
 refine wp_seq_k (fun K40 k40=>?_)
 refine rg [0,1,2,3,4,5,6,7] ?_
 refine sv 71 u24 ?_
 refine sv 72 u37 ?_
 refine se ?_
 replace hs24:=hs24.gr (stab_rw (stab_rat 4899) 71 4) (g27.trans (g31.trans (g33.trans (g34.trans g37))))
 refine ec 73 (l5_is (L:=4899) (by omega) (by omega) (by omega) (by omega) (fun i hi k hk=>by rw [inv_same hf];exact ((rs_all (P:=5) ⟨8,3,8,3,1⟩ (fun i hi k hk=>wid_z (by decide) (by decide) hta.zz i hi k (by omega)) (fun i hi k _ hk=>wid_z (by decide) (by decide) hta.zz i hi k hk) (Nat.le_refl _) (.inl hR5) (by decide)) R (Nat.le_refl _)).1 i hi _ (by omega)) (ht.gr hB) hs24 hs37) ?_
 rintro e41 w41 ⟨rfl,g41⟩
 refine ⟨_,rfl,?_⟩
 replace hB:=hB.trans g41
 replace hC:=hC.trans g41
 simp only [p3,p4]
 refine sv 74 (.bool true) ?_
 refine sv 75 (.int .i64 0) ?_
 refine sv 76 (.bool true) ?_
 refine sv 77 (.bool true) ?_
 refine sv 2 (.bool true) ?_
 refine sq_nil ?_
 refine k40 _ _ ?_
 try clear k40 K40
 refine wp_ret ?_
 refine bodyPost_ret (v:=(.bool true)) (ret_tmp rfl rfl) rfl ⟨?_,hB⟩
 exact rfl

theorem matrix_inverts {R N:Nat} {xa:Value} {m:Mx_} {w:World} (hta:TA w xa R N m) (W:World) (hW:W=w) (ht:Tab W) (hm:Mx W):Calls Tryz.prog 8 #[xa] W fun e w'=>e=.returned (.bool true)∧Gr W w':=by
  subst hW
  obtain ⟨_,_,ca,va,_,_,rfl,_⟩:=id hta
  by_cases hne:R=N
  · subst hne
    by_cases hf:pl R (wid R m) R<R
    · exact mv_s hf hm ht hta
    · exact mv_y hf hm ht hta
  · exact mv_n hne hm ht hta
end Go.Proofs.YtepgkcimmdmgcaaGreatDoor
namespace Go.Proofs.YtepgkcimmdmgcaaGreatDoor
open Go.ChangeShapes Go.WideShapes Go.ChangeAt Go.RowKit

theorem matrixInverts_table {W : World} (h : laidMetH Tryz.prog Rows.matrixInvertsRow.laid W) : Tab W :=
  Lib.tabIs_of_head (rest := _) (g := 1) (t := 236) (e := 152) (n := 20) (by kernel_rfl) (by kernel_rfl) (by kernel_rfl) (by kernel_rfl) (by kernel_rfl) (by kernel_rfl) ((show laidMet Tryz.prog Rows.matrixInvertsRow.laid W from (MakeChecks.laidMetH_plain _ _ _ (by kernel_rfl)) ▸ h).tail.tail)
theorem matrixInverts_maxlen {W : World} (h : W.ShapedOpen Tryz.prog) : Mx W :=
  Go.Proofs.cell_of_shapedOpen_int (zero := #[.int .i64 0]) (g := 0) (t := 3) h (of_decide_eq_true (by kernel_rfl)) (by kernel_rfl) rfl (by kernel_rfl) (by kernel_rfl) Tryz.underlying3
set_option maxRecDepth 100000 in
theorem matrixInverts_contract (H : Type) (enc : TypeId × Value → H) (W : World) (base : Nat) (args : Array Value) (ds gs : List (DataW H)) (before : List MemPlace)
    (hval : ∀ (j : Nat) t v, Tryz.f8.params[j]? = some t → args[j]? = some v → Value.okWide Tryz.prog W .any base t v)
    (hW : DataW.Whole enc Tryz.prog Tryz.f8.params.toList Rows.matrixInvertsSpec.vars false W args.toList ds gs before) (hL : laidMetH Tryz.prog Rows.matrixInvertsRow.laid W) (hsh : W.ShapedOpen Tryz.prog) :
    Calls Tryz.prog 8 args W fun e W' => ∃ v, e = .returned v ∧ Rows.matrixInvertsSpec.post enc Tryz.prog Tryz.f8 false true false false W args v W' := by
  have hW' := hW
  obtain ⟨p, q, hA0, hV, rfl, hfz, hnd⟩ := hW
  have hA : DataW.TrodAll enc Tryz.prog W 0 (fun _ => true) true Tryz.f8.params.toList args.toList ds p := hA0
  rw [Tryz.params8] at hA hval
  obtain ⟨v0, vs0, d0, ds0, p0, q0, hargs, rfl, rfl, h0, r0⟩ := trodAll_cons hA
  obtain ⟨rfl, rfl, rfl⟩ := trodAll_nil r0
  obtain rfl : args = #[v0] := by cases args; simp_all
  obtain ⟨rfl, rfl⟩ := trodVars_none hV
  obtain ⟨z0, u0, T0, Xs0, rfl, bz0, sl0⟩ := open_tabk (E := ESl (EK [.i8, .u8]) 2) (k := .u8) (e := 45) (c := 1) (by kernel_rfl) (by kernel_rfl) (by decide) (fun _ _ _ _ hx => trod_esl (e := 114) (by kernel_rfl) (by kernel_rfl) (by decide) (trod_ek 5 (ks := [.i8, .u8]) (by kernel_rfl)) hx) (hval 0 24 v0 rfl rfl) h0
  obtain ⟨R0, N0, m0, ta0⟩ := ta_of sl0 (has_u8 bz0)
  refine ((fun _ => matrix_inverts ta0 _ rfl)  W (matrixInverts_table hL) (matrixInverts_maxlen hsh)).mono fun e W' ⟨he, hg⟩ => ?_
  subst he
  exact ⟨_, rfl, law_post (tb := 4) laidOut (by kernel_rfl) (by kernel_rfl) (by kernel_rfl) rfl hW' rfl hg⟩
noncomputable def matrixInverts_world (os : Os) : World := World.laidAll Tryz.prog os Rows.matrixInvertsRow.laid
theorem matrixInverts_met (os : Os) : laidMet Tryz.prog Rows.matrixInvertsRow.laid ((matrixInverts_world os).forCall (fun _ _ => 0) ⟨#[], #[.agg #[.int .u8 0, .slice none 0 0]], []⟩).memory :=
  laidMet_laidAll _ (by kernel_rfl) (by kernel_rfl)
theorem matrixInverts_reads (os : Os) {H : Type} (enc : TypeId × Value → H) : ∃ places, DataW.whole enc Tryz.prog ((matrixInverts_world os).forCall (fun _ _ => 0) ⟨#[], #[.agg #[.int .u8 0, .slice none 0 0]], []⟩).memory Tryz.f8.params.toList Rows.matrixInvertsSpec.vars false (#[.agg #[.int .u8 0, .slice none 0 0]] : Array Value).toList 8 = some ([.agg [.lit (.int .u8 0), .nil]], [], places) :=
  ⟨[], by kernel_rfl⟩
set_option maxRecDepth 100000 in
theorem matrixInverts_lifted (os : Os) (started : os.Started) (H : Type) (enc : TypeId × Value → H) (F : Stop.Interp) :
    ReturnsInHanded {} Tryz.checked os 8 .any ((OpenSpec.ofChange Rows.matrixInvertsSpec).preRow enc Tryz.prog Tryz.f8 Rows.matrixInvertsRow.domain false Rows.matrixInvertsRow.laid) (((OpenSpec.ofChange Rows.matrixInvertsSpec).at F).post enc Tryz.prog Tryz.f8 false true false false) := by
  obtain ⟨places, hx⟩ := matrixInverts_reads os enc
  refine returnsInHanded_of_row (C := Tryz.checked) (s := OpenSpec.ofChange Rows.matrixInvertsSpec) own started (by kernel_rfl) Tryz.func8
    (witness_row_sh (enc := enc) (C := Tryz.checked) false (matrixInverts_world os) #[.agg #[.int .u8 0, .slice none 0 0]] (World.laidAll_os _ _ _) (World.shaped_of_ZipB (by kernel_rfl) (by kernel_rfl)) (by kernel_rfl)
      (OpenSpec.preRow_of_cond 8 hx (by kernel_rfl) (fun k hk => by cases hk) (by kernel_rfl) (by rw [MakeChecks.laidMetH_plain _ _ _ (by kernel_rfl)]; exact matrixInverts_met os))) ?_
  intro W base args ds gs before hval hW _ _ _ hL hsh _
  exact matrixInverts_contract H enc W base args ds gs before hval hW hL hsh
theorem matrixInverts_said : Rows.MatrixInvertsSaid :=
  OpenClaim.holds_of_cond 8 Tryz.f8 rfl rfl rfl rfl rfl rfl rfl ⟨rfl, rfl, rfl, rfl, rfl⟩ rfl rfl rfl rfl rfl (by kernel_rfl) Tryz.func8 (by kernel_rfl)
    (of_decide_eq_true (by kernel_rfl)) (by unfold Func.isWrapper; first | (rw [if_pos (by decide +kernel)]; kernel_rfl) | (rw [if_neg (by decide +kernel)]; exact ⟨rfl, rfl⟩))
    (fun os started H enc _ F => by rw [OpenClaim.pre_eq_preRow]; exact matrixInverts_lifted os started H enc F)
theorem matrixInverts_plain (f : FuncId) (fn : Func) (hf : Tryz.pinned.checked.prog.funcNamed "dowel/dowellaw05.MatrixInverts" = some f) (hfn : Tryz.pinned.checked.prog.funcs[f]? = some fn) :
    true = Tryz.pinned.checked.prog.looks [] ∧ ∀ (j : Nat) t, fn.params[j]? = some t → Tryz.pinned.checked.prog.wantsStandIn t = false := by
  obtain rfl : f = 8 := Option.some.inj ((show Tryz.prog.funcNamed "dowel/dowellaw05.MatrixInverts" = some 8 by kernel_rfl).symm.trans hf) |>.symm
  obtain rfl : fn = Tryz.f8 := (Option.some.inj (Tryz.func8.symm.trans hfn)).symm
  refine ⟨by kernel_rfl, fun j t ht => ?_⟩
  rw [Tryz.params8] at ht
  have hm := Array.mem_of_getElem? ht
  have hall : (#[24] : Array TypeId).toList.all (fun t => !Tryz.prog.wantsStandIn t) = true := by kernel_rfl
  have := List.all_eq_true.1 hall t (Array.mem_toList_iff.2 hm)
  have h3 : Tryz.prog.wantsStandIn t = false := by simpa using this
  exact h3
/-- the card -/
theorem matrixInverts_card : Rows.MatrixInvertsCardSaid :=
  Claim7.holds_tied_plain_at .later [] _ _ _ _ matrixInverts_said (fun _ h => by cases h) (by kernel_rfl) (fun _ h => by cases h) matrixInverts_row_tie rfl ⟨rfl, rfl⟩ (by kernel_rfl) rfl matrixInverts_plain (by kernel_rfl)
end Go.Proofs.YtepgkcimmdmgcaaGreatDoor
