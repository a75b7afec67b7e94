/- Joined of: Gen5, Gen6, Gen60, Rord, Gen7, Gen8, Prim, Vec, Inti, Gen52, Vin, Sy2, Sy3, Sy4, Sy5. -/
import Derived.Test.YthhbibpaeonecaaGreatDoorPartC
import Derived.Test.YthhbibpaeonecaaGreatDoorPartD
import Derived.Test.YthhbibpaeonecaaGreatDoorPartB
namespace Go.Proofs.YthhbibpaeonecaaGreatDoor
open Go.RowKit

set_option maxRecDepth 100000 in
set_option maxHeartbeats 4000000 in
theorem each_add {k m:Nat} {uaa0 uaa1 uaa2 uaa3 uab0 uab1 uab2 uab3 uac0 uac1 uac2 uac3:Value} {a1 a2 a3:Rat} {vaa0 vaa1 vaa2 vaa3 vab0 vab1 vab2 vab3 vac0 vac1 vac2 vac3:Value} {c1 c2 c3:Rat} {w:World} (hua1:IsRat w k uaa0 uaa1 uaa2 uaa3 a1) (hua2:IsRat w k uab0 uab1 uab2 uab3 a2) (hua3:IsRat w k uac0 uac1 uac2 uac3 a3) (hva1:IsRat w m vaa0 vaa1 vaa2 vaa3 c1) (hva2:IsRat w m vab0 vab1 vab2 vab3 c2) (hva3:IsRat w m vac0 vac1 vac2 vac3 c3) (_hk:k+m≤100000):
    Calls Tryz.prog 60 #[(.agg #[uaa0,uaa1,uaa2,uaa3,uab0,uab1,uab2,uab3,uac0,uac1,uac2,uac3]),(.agg #[vaa0,vaa1,vaa2,vaa3,vab0,vab1,vab2,vab3,vac0,vac1,vac2,vac3]),(.func (.func 46) #[] #[])] w fun e w'=>(∃ t0 t1 t2 t3 t4 t5 t6 t7 t8 t9 t10 t11,e=.returned (.agg #[t0,t1,t2,t3,t4,t5,t6,t7,t8,t9,t10,t11])∧IsRat w' (k+m+1) t0 t1 t2 t3 ((a1+c1))∧IsRat w' (k+m+1) t4 t5 t6 t7 ((a2+c2))∧IsRat w' (k+m+1) t8 t9 t10 t11 ((a3+c3)))∧Gr w w':=by
 go_enter Tryz.func60,Tryz.ntmps60
 have hB:=Gr.refl w
 refine wp_seq_k (fun K1 k1=>?_)
 refine rg [0,1,2] ?_
 refine se ?_
 refine eb 35 #[uaa0,uaa1,uaa2,uaa3,uab0,uab1,uab2,uab3,uac0,uac1,uac2,uac3] 3 hB fun b2 w2 g2 L2 o2 q2 hB=>?_
 simp only [p3,p4]
 refine se ?_
 refine eb 35 #[vaa0,vaa1,vaa2,vaa3,vab0,vab1,vab2,vab3,vac0,vac1,vac2,vac3] 4 hB fun b3 w3 g3 L3 o3 q3 hB=>?_
 simp only [p3,p4]
 refine se ?_
 refine ea 35 #[(.bool false),(.slice none 0 0),(.bool false),(.slice none 0 0),(.bool false),(.slice none 0 0),(.bool false),(.slice none 0 0),(.bool false),(.slice none 0 0),(.bool false),(.slice none 0 0)] 6 hB fun b4 w4 g4 L4 o4 q4 hB=>?_
 replace L2:=L2.gr g3
 simp only [p3,p4]
 refine sq_nil ?_
 refine k1 _ _ ?_
 try clear k1 K1
 refine wp_seq_k (fun K5 k5=>?_)
 refine rg [0] ?_
 refine se ?_
 refine ea 35 #[(.bool false),(.slice none 0 0),(.bool false),(.slice none 0 0),(.bool false),(.slice none 0 0),(.bool false),(.slice none 0 0),(.bool false),(.slice none 0 0),(.bool false),(.slice none 0 0)] 7 hB fun b6 w6 g6 L6 o6 q6 hB=>?_
 replace L2:=L2.gr g4
 have ne2_6:=L2.ne o6
 replace L3:=L3.gr g4
 have ne3_6:=L3.ne o6
 have ne4_6:=L4.ne o6
 simp only [p3,p4]
 refine sq_nil ?_
 refine k5 _ _ ?_
 try clear k5 K5
 refine wp_seq_k (fun K7 k7=>?_)
 refine wp_seq_k (fun K8 k8=>?_)
 refine rg [0] ?_
 refine sv 9 (.int .i64 0) ?_
 refine sq_nil ?_
 refine k8 _ _ ?_
 try clear k8 K8
 refine wp_block ?_
 refine wp_loop_rounds 4 ?_
 show Code.wp _ _ _ _ _
 refine wp_seq_k (fun K9 k9=>?_)
 refine rg [0] ?_
 refine sv 10 (.bool true) ?_
 refine sq_nil ?_
 refine k9 _ _ ?_
 try clear k9 K9
 refine wp_seq_k (fun K10 k10=>?_)
 refine wp_cond_true rfl ?_
 refine wp_skip ?_
 refine k10 _ _ ?_
 try clear k10 K10
 refine wp_seq_k (fun K11 k11=>?_)
 refine wp_block ?_
 refine wp_seq_k (fun K12 k12=>?_)
 refine rg [0,1] ?_
 refine sv 11 (.int .i64 0) ?_
 refine sv 8 (.int .i64 0) ?_
 refine sq_nil ?_
 refine k12 _ _ ?_
 try clear k12 K12
 have gd19:=Gr.drew w6
 replace hB:=hB.trans gd19
 replace L2:=L2.gr (g6.trans gd19)
 replace L3:=L3.gr (g6.trans gd19)
 refine wp_region_ord (fun w'=>Lc w' b2 #[uaa0,uaa1,uaa2,uaa3,uab0,uab1,uab2,uab3,uac0,uac1,uac2,uac3] 35∧Lc w' b3 #[vaa0,vaa1,vaa2,vaa3,vab0,vab1,vab2,vab3,vac0,vac1,vac2,vac3] 35) [(true,0),(true,1),(true,2),(true,3),(true,4),(true,5),(true,6),(true,7),(false,8),(true,9),(false,10)] (by kernel_rfl) (by kernel_rfl) (by kernel_rfl) (by decide) (fun _ _ _ _ _ h=>h) ⟨L2,L3⟩ ?_
 refine ov 12 (.int .i64 0) ?_
 refine ov 13 (.func (.func 46) #[] #[]) ?_
 refine ov 14 (.int .i64 0) ?_
 refine ov 15 (.pointer (some ⟨b2,0,none⟩)) ?_
 refine ow 16 (.agg #[uaa0,uaa1,uaa2,uaa3]) rfl (fun w' hS=>(rl 33 0 [uaa0,uaa1,uaa2,uaa3] hS.1)) ?_
 refine ov 17 (.int .i64 0) ?_
 refine ov 18 (.pointer (some ⟨b3,0,none⟩)) ?_
 refine ow 19 (.agg #[vaa0,vaa1,vaa2,vaa3]) rfl (fun w' hS=>(rl 33 0 [vaa0,vaa1,vaa2,vaa3] hS.2)) ?_
 refine oe ?_
 have kq22:=g2.kp.trans (g3.kp.trans (g4.kp.trans (g6.kp.trans gd19.kp)))
 replace hua1:=hua1.kp kq22
 replace hva1:=hva1.kp kq22
 refine ec 20 (add_r hua1 hva1 (by omega)) ?_
 rintro e21 w21 ⟨⟨p21,q21,r21,s21,rfl,h21⟩,g21⟩
 refine ⟨_,rfl,?_⟩
 replace hB:=hB.trans g21
 replace L2:=L2.gr g21
 replace L3:=L3.gr g21
 refine ⟨⟨L2,L3⟩,?_⟩
 simp only [p3,p4]
 refine ov 21 (.pointer (some ⟨b6,0,none⟩)) ?_
 refine oe ?_
 replace L6:=L6.gr (gd19.trans g21)
 refine es 33 0 (.agg #[p21,q21,r21,s21]) [p21,q21,r21,s21] #[p21,q21,r21,s21,(.bool false),(.slice none 0 0),(.bool false),(.slice none 0 0),(.bool false),(.slice none 0 0),(.bool false),(.slice none 0 0)] L6 hB q6 ⟨h21.one0,h21.one1,h21.one2,h21.one3,trivial⟩ fun w24 st24 kp24 L6 hB=>?_
 replace L2:=st24.lc L2 ne2_6
 replace L3:=st24.lc L3 ne3_6
 refine ⟨⟨L2,L3⟩,?_⟩
 refine ord_nil ?_
 refine k11 _ _ ?_
 try clear k11 K11
 refine rg [0,1] ?_
 refine sv 22 (.int .i64 1) ?_
 refine sv 9 (.int .i64 1) ?_
 refine sq_nil ?_
 show Code.rounds _ _ _ _ _ _
 show Code.wp _ _ _ _ _
 refine wp_seq_k (fun K25 k25=>?_)
 refine rg [0] ?_
 refine sv 10 (.bool true) ?_
 refine sq_nil ?_
 refine k25 _ _ ?_
 try clear k25 K25
 refine wp_seq_k (fun K26 k26=>?_)
 refine wp_cond_true rfl ?_
 refine wp_skip ?_
 refine k26 _ _ ?_
 try clear k26 K26
 refine wp_seq_k (fun K27 k27=>?_)
 refine wp_block ?_
 refine wp_seq_k (fun K28 k28=>?_)
 refine rg [0,1] ?_
 refine sv 11 (.int .i64 1) ?_
 refine sv 8 (.int .i64 1) ?_
 refine sq_nil ?_
 refine k28 _ _ ?_
 try clear k28 K28
 have gd35:=Gr.drew w24
 replace hB:=hB.trans gd35
 replace L2:=L2.gr gd35
 replace L3:=L3.gr gd35
 refine wp_region_ord (fun w'=>Lc w' b2 #[uaa0,uaa1,uaa2,uaa3,uab0,uab1,uab2,uab3,uac0,uac1,uac2,uac3] 35∧Lc w' b3 #[vaa0,vaa1,vaa2,vaa3,vab0,vab1,vab2,vab3,vac0,vac1,vac2,vac3] 35) [(true,0),(true,1),(true,2),(true,3),(true,4),(true,5),(true,6),(true,7),(false,8),(true,9),(false,10)] (by kernel_rfl) (by kernel_rfl) (by kernel_rfl) (by decide) (fun _ _ _ _ _ h=>h) ⟨L2,L3⟩ ?_
 refine ov 12 (.int .i64 1) ?_
 refine ov 13 (.func (.func 46) #[] #[]) ?_
 refine ov 14 (.int .i64 1) ?_
 refine ov 15 (.pointer (some ⟨b2,4,none⟩)) ?_
 refine ow 16 (.agg #[uab0,uab1,uab2,uab3]) rfl (fun w' hS=>(rl 33 4 [uab0,uab1,uab2,uab3] hS.1)) ?_
 refine ov 17 (.int .i64 1) ?_
 refine ov 18 (.pointer (some ⟨b3,4,none⟩)) ?_
 refine ow 19 (.agg #[vab0,vab1,vab2,vab3]) rfl (fun w' hS=>(rl 33 4 [vab0,vab1,vab2,vab3] hS.2)) ?_
 refine oe ?_
 have kq38:=g2.kp.trans (g3.kp.trans (g4.kp.trans (g6.kp.trans (gd19.kp.trans (g21.kp.trans (kp24.trans gd35.kp))))))
 replace hua2:=hua2.kp kq38
 replace hva2:=hva2.kp kq38
 refine ec 20 (add_r hua2 hva2 (by omega)) ?_
 rintro e37 w37 ⟨⟨p37,q37,r37,s37,rfl,h37⟩,g37⟩
 refine ⟨_,rfl,?_⟩
 replace hB:=hB.trans g37
 replace L2:=L2.gr g37
 replace L3:=L3.gr g37
 refine ⟨⟨L2,L3⟩,?_⟩
 simp only [p3,p4]
 refine ov 21 (.pointer (some ⟨b6,4,none⟩)) ?_
 refine oe ?_
 replace L6:=L6.gr (gd35.trans g37)
 refine es 33 4 (.agg #[p37,q37,r37,s37]) [p37,q37,r37,s37] #[p21,q21,r21,s21,p37,q37,r37,s37,(.bool false),(.slice none 0 0),(.bool false),(.slice none 0 0)] L6 hB q6 ⟨h37.one0,h37.one1,h37.one2,h37.one3,trivial⟩ fun w40 st40 kp40 L6 hB=>?_
 replace L2:=st40.lc L2 ne2_6
 replace L3:=st40.lc L3 ne3_6
 refine ⟨⟨L2,L3⟩,?_⟩
 refine ord_nil ?_
 refine k27 _ _ ?_
 try clear k27 K27
 refine rg [0,1] ?_
 refine sv 22 (.int .i64 2) ?_
 refine sv 9 (.int .i64 2) ?_
 refine sq_nil ?_
 show Code.rounds _ _ _ _ _ _
 show Code.wp _ _ _ _ _
 refine wp_seq_k (fun K41 k41=>?_)
 refine rg [0] ?_
 refine sv 10 (.bool true) ?_
 refine sq_nil ?_
 refine k41 _ _ ?_
 try clear k41 K41
 refine wp_seq_k (fun K42 k42=>?_)
 refine wp_cond_true rfl ?_
 refine wp_skip ?_
 refine k42 _ _ ?_
 try clear k42 K42
 refine wp_seq_k (fun K43 k43=>?_)
 refine wp_block ?_
 refine wp_seq_k (fun K44 k44=>?_)
 refine rg [0,1] ?_
 refine sv 11 (.int .i64 2) ?_
 refine sv 8 (.int .i64 2) ?_
 refine sq_nil ?_
 refine k44 _ _ ?_
 try clear k44 K44
 have gd51:=Gr.drew w40
 replace hB:=hB.trans gd51
 replace L2:=L2.gr gd51
 replace L3:=L3.gr gd51
 refine wp_region_ord (fun w'=>Lc w' b2 #[uaa0,uaa1,uaa2,uaa3,uab0,uab1,uab2,uab3,uac0,uac1,uac2,uac3] 35∧Lc w' b3 #[vaa0,vaa1,vaa2,vaa3,vab0,vab1,vab2,vab3,vac0,vac1,vac2,vac3] 35) [(true,0),(true,1),(true,2),(true,3),(true,4),(true,5),(true,6),(true,7),(false,8),(true,9),(false,10)] (by kernel_rfl) (by kernel_rfl) (by kernel_rfl) (by decide) (fun _ _ _ _ _ h=>h) ⟨L2,L3⟩ ?_
 refine ov 12 (.int .i64 2) ?_
 refine ov 13 (.func (.func 46) #[] #[]) ?_
 refine ov 14 (.int .i64 2) ?_
 refine ov 15 (.pointer (some ⟨b2,8,none⟩)) ?_
 refine ow 16 (.agg #[uac0,uac1,uac2,uac3]) rfl (fun w' hS=>(rl 33 8 [uac0,uac1,uac2,uac3] hS.1)) ?_
 refine ov 17 (.int .i64 2) ?_
 refine ov 18 (.pointer (some ⟨b3,8,none⟩)) ?_
 refine ow 19 (.agg #[vac0,vac1,vac2,vac3]) rfl (fun w' hS=>(rl 33 8 [vac0,vac1,vac2,vac3] hS.2)) ?_
 refine oe ?_
 have kq54:=g2.kp.trans (g3.kp.trans (g4.kp.trans (g6.kp.trans (gd19.kp.trans (g21.kp.trans (kp24.trans (gd35.kp.trans (g37.kp.trans (kp40.trans gd51.kp)))))))))
 replace hua3:=hua3.kp kq54
 replace hva3:=hva3.kp kq54
 refine ec 20 (add_r hua3 hva3 (by omega)) ?_
 rintro e53 w53 ⟨⟨p53,q53,r53,s53,rfl,h53⟩,g53⟩
 refine ⟨_,rfl,?_⟩
 replace hB:=hB.trans g53
 replace L2:=L2.gr g53
 replace L3:=L3.gr g53
 refine ⟨⟨L2,L3⟩,?_⟩
 simp only [p3,p4]
 refine ov 21 (.pointer (some ⟨b6,8,none⟩)) ?_
 refine oe ?_
 replace L6:=L6.gr (gd51.trans g53)
 refine es 33 8 (.agg #[p53,q53,r53,s53]) [p53,q53,r53,s53] #[p21,q21,r21,s21,p37,q37,r37,s37,p53,q53,r53,s53] L6 hB q6 ⟨h53.one0,h53.one1,h53.one2,h53.one3,trivial⟩ fun w56 st56 kp56 L6 hB=>?_
 replace L2:=st56.lc L2 ne2_6
 replace L3:=st56.lc L3 ne3_6
 refine ⟨⟨L2,L3⟩,?_⟩
 refine ord_nil ?_
 refine k43 _ _ ?_
 try clear k43 K43
 refine rg [0,1] ?_
 refine sv 22 (.int .i64 3) ?_
 refine sv 9 (.int .i64 3) ?_
 refine sq_nil ?_
 show Code.rounds _ _ _ _ _ _
 show Code.wp _ _ _ _ _
 refine wp_seq_k (fun K57 k57=>?_)
 refine rg [0] ?_
 refine sv 10 (.bool false) ?_
 refine sq_nil ?_
 refine k57 _ _ ?_
 try clear k57 K57
 refine wp_seq_k (fun K58 k58=>?_)
 refine wp_cond_false rfl ?_
 refine wp_exit ?_
 simp only [Exit.then,Exit.inBlock,↓reduceIte]
 refine k7 _ _ ?_
 try clear k7 K7
 refine wp_seq_k (fun K59 k59=>?_)
 refine rg [0,1] ?_
 refine sw 23 (.agg #[p21,q21,r21,s21,p37,q37,r37,s37,p53,q53,r53,s53]) rfl (rl 35 0 [p21,q21,r21,s21,p37,q37,r37,s37,p53,q53,r53,s53] L6) ?_
 refine se ?_
 replace L4:=st56.lc ((st40.lc ((st24.lc (L4.gr (g6.trans (gd19.trans g21))) ne4_6).gr (gd35.trans g37)) ne4_6).gr (gd51.trans g53)) ne4_6
 refine es 35 0 (.agg #[p21,q21,r21,s21,p37,q37,r37,s37,p53,q53,r53,s53]) [p21,q21,r21,s21,p37,q37,r37,s37,p53,q53,r53,s53] #[p21,q21,r21,s21,p37,q37,r37,s37,p53,q53,r53,s53] L4 hB q4 ⟨h21.one0,h21.one1,h21.one2,h21.one3,h37.one0,h37.one1,h37.one2,h37.one3,h53.one0,h53.one1,h53.one2,h53.one3,trivial⟩ fun w60 st60 kp60 L4 hB=>?_
 refine sq_nil ?_
 refine k59 _ _ ?_
 try clear k59 K59
 refine wp_ret ?_
 refine bodyPost_ret (v:=(.agg #[p21,q21,r21,s21,p37,q37,r37,s37,p53,q53,r53,s53])) (ret_cell _ _ _ rfl rfl L4 (by kernel_rfl)) rfl ⟨?_,hB⟩
 have kq61:=kp24.trans (gd35.kp.trans (g37.kp.trans (kp40.trans (gd51.kp.trans (g53.kp.trans (kp56.trans kp60))))))
 replace h21:=h21.kp kq61
 have kq62:=kp40.trans (gd51.kp.trans (g53.kp.trans (kp56.trans kp60)))
 replace h37:=h37.kp kq62
 have kq63:=kp56.trans kp60
 replace h53:=h53.kp kq63
 exact ⟨_,_,_,_,_,_,_,_,_,_,_,_,rfl,h21,h37,h53⟩

set_option maxRecDepth 100000 in
set_option maxHeartbeats 4000000 in
theorem each_mul {k m:Nat} {uaa0 uaa1 uaa2 uaa3 uab0 uab1 uab2 uab3 uac0 uac1 uac2 uac3:Value} {a1 a2 a3:Rat} {vaa0 vaa1 vaa2 vaa3 vab0 vab1 vab2 vab3 vac0 vac1 vac2 vac3:Value} {c1 c2 c3:Rat} {w:World} (hua1:IsRat w k uaa0 uaa1 uaa2 uaa3 a1) (hua2:IsRat w k uab0 uab1 uab2 uab3 a2) (hua3:IsRat w k uac0 uac1 uac2 uac3 a3) (hva1:IsRat w m vaa0 vaa1 vaa2 vaa3 c1) (hva2:IsRat w m vab0 vab1 vab2 vab3 c2) (hva3:IsRat w m vac0 vac1 vac2 vac3 c3) (_hk:k+m≤100000):
    Calls Tryz.prog 60 #[(.agg #[uaa0,uaa1,uaa2,uaa3,uab0,uab1,uab2,uab3,uac0,uac1,uac2,uac3]),(.agg #[vaa0,vaa1,vaa2,vaa3,vab0,vab1,vab2,vab3,vac0,vac1,vac2,vac3]),(.func (.func 53) #[] #[])] w fun e w'=>(∃ t0 t1 t2 t3 t4 t5 t6 t7 t8 t9 t10 t11,e=.returned (.agg #[t0,t1,t2,t3,t4,t5,t6,t7,t8,t9,t10,t11])∧IsRat w' (k+m) t0 t1 t2 t3 ((a1*c1))∧IsRat w' (k+m) t4 t5 t6 t7 ((a2*c2))∧IsRat w' (k+m) t8 t9 t10 t11 ((a3*c3)))∧Gr w w':=by
 go_enter Tryz.func60,Tryz.ntmps60
 have hB:=Gr.refl w
 refine wp_seq_k (fun K1 k1=>?_)
 refine rg [0,1,2] ?_
 refine se ?_
 refine eb 35 #[uaa0,uaa1,uaa2,uaa3,uab0,uab1,uab2,uab3,uac0,uac1,uac2,uac3] 3 hB fun b2 w2 g2 L2 o2 q2 hB=>?_
 simp only [p3,p4]
 refine se ?_
 refine eb 35 #[vaa0,vaa1,vaa2,vaa3,vab0,vab1,vab2,vab3,vac0,vac1,vac2,vac3] 4 hB fun b3 w3 g3 L3 o3 q3 hB=>?_
 simp only [p3,p4]
 refine se ?_
 refine ea 35 #[(.bool false),(.slice none 0 0),(.bool false),(.slice none 0 0),(.bool false),(.slice none 0 0),(.bool false),(.slice none 0 0),(.bool false),(.slice none 0 0),(.bool false),(.slice none 0 0)] 6 hB fun b4 w4 g4 L4 o4 q4 hB=>?_
 replace L2:=L2.gr g3
 simp only [p3,p4]
 refine sq_nil ?_
 refine k1 _ _ ?_
 try clear k1 K1
 refine wp_seq_k (fun K5 k5=>?_)
 refine rg [0] ?_
 refine se ?_
 refine ea 35 #[(.bool false),(.slice none 0 0),(.bool false),(.slice none 0 0),(.bool false),(.slice none 0 0),(.bool false),(.slice none 0 0),(.bool false),(.slice none 0 0),(.bool false),(.slice none 0 0)] 7 hB fun b6 w6 g6 L6 o6 q6 hB=>?_
 replace L2:=L2.gr g4
 have ne2_6:=L2.ne o6
 replace L3:=L3.gr g4
 have ne3_6:=L3.ne o6
 have ne4_6:=L4.ne o6
 simp only [p3,p4]
 refine sq_nil ?_
 refine k5 _ _ ?_
 try clear k5 K5
 refine wp_seq_k (fun K7 k7=>?_)
 refine wp_seq_k (fun K8 k8=>?_)
 refine rg [0] ?_
 refine sv 9 (.int .i64 0) ?_
 refine sq_nil ?_
 refine k8 _ _ ?_
 try clear k8 K8
 refine wp_block ?_
 refine wp_loop_rounds 4 ?_
 show Code.wp _ _ _ _ _
 refine wp_seq_k (fun K9 k9=>?_)
 refine rg [0] ?_
 refine sv 10 (.bool true) ?_
 refine sq_nil ?_
 refine k9 _ _ ?_
 try clear k9 K9
 refine wp_seq_k (fun K10 k10=>?_)
 refine wp_cond_true rfl ?_
 refine wp_skip ?_
 refine k10 _ _ ?_
 try clear k10 K10
 refine wp_seq_k (fun K11 k11=>?_)
 refine wp_block ?_
 refine wp_seq_k (fun K12 k12=>?_)
 refine rg [0,1] ?_
 refine sv 11 (.int .i64 0) ?_
 refine sv 8 (.int .i64 0) ?_
 refine sq_nil ?_
 refine k12 _ _ ?_
 try clear k12 K12
 have gd19:=Gr.drew w6
 replace hB:=hB.trans gd19
 replace L2:=L2.gr (g6.trans gd19)
 replace L3:=L3.gr (g6.trans gd19)
 refine wp_region_ord (fun w'=>Lc w' b2 #[uaa0,uaa1,uaa2,uaa3,uab0,uab1,uab2,uab3,uac0,uac1,uac2,uac3] 35∧Lc w' b3 #[vaa0,vaa1,vaa2,vaa3,vab0,vab1,vab2,vab3,vac0,vac1,vac2,vac3] 35) [(true,0),(true,1),(true,2),(true,3),(true,4),(true,5),(true,6),(true,7),(false,8),(true,9),(false,10)] (by kernel_rfl) (by kernel_rfl) (by kernel_rfl) (by decide) (fun _ _ _ _ _ h=>h) ⟨L2,L3⟩ ?_
 refine ov 12 (.int .i64 0) ?_
 refine ov 13 (.func (.func 53) #[] #[]) ?_
 refine ov 14 (.int .i64 0) ?_
 refine ov 15 (.pointer (some ⟨b2,0,none⟩)) ?_
 refine ow 16 (.agg #[uaa0,uaa1,uaa2,uaa3]) rfl (fun w' hS=>(rl 33 0 [uaa0,uaa1,uaa2,uaa3] hS.1)) ?_
 refine ov 17 (.int .i64 0) ?_
 refine ov 18 (.pointer (some ⟨b3,0,none⟩)) ?_
 refine ow 19 (.agg #[vaa0,vaa1,vaa2,vaa3]) rfl (fun w' hS=>(rl 33 0 [vaa0,vaa1,vaa2,vaa3] hS.2)) ?_
 refine oe ?_
 have kq22:=g2.kp.trans (g3.kp.trans (g4.kp.trans (g6.kp.trans gd19.kp)))
 replace hua1:=hua1.kp kq22
 replace hva1:=hva1.kp kq22
 refine ec 20 (mul_r hua1 hva1 (by omega)) ?_
 rintro e21 w21 ⟨⟨p21,q21,r21,s21,rfl,h21⟩,g21⟩
 refine ⟨_,rfl,?_⟩
 replace hB:=hB.trans g21
 replace L2:=L2.gr g21
 replace L3:=L3.gr g21
 refine ⟨⟨L2,L3⟩,?_⟩
 simp only [p3,p4]
 refine ov 21 (.pointer (some ⟨b6,0,none⟩)) ?_
 refine oe ?_
 replace L6:=L6.gr (gd19.trans g21)
 refine es 33 0 (.agg #[p21,q21,r21,s21]) [p21,q21,r21,s21] #[p21,q21,r21,s21,(.bool false),(.slice none 0 0),(.bool false),(.slice none 0 0),(.bool false),(.slice none 0 0),(.bool false),(.slice none 0 0)] L6 hB q6 ⟨h21.one0,h21.one1,h21.one2,h21.one3,trivial⟩ fun w24 st24 kp24 L6 hB=>?_
 replace L2:=st24.lc L2 ne2_6
 replace L3:=st24.lc L3 ne3_6
 refine ⟨⟨L2,L3⟩,?_⟩
 refine ord_nil ?_
 refine k11 _ _ ?_
 try clear k11 K11
 refine rg [0,1] ?_
 refine sv 22 (.int .i64 1) ?_
 refine sv 9 (.int .i64 1) ?_
 refine sq_nil ?_
 show Code.rounds _ _ _ _ _ _
 show Code.wp _ _ _ _ _
 refine wp_seq_k (fun K25 k25=>?_)
 refine rg [0] ?_
 refine sv 10 (.bool true) ?_
 refine sq_nil ?_
 refine k25 _ _ ?_
 try clear k25 K25
 refine wp_seq_k (fun K26 k26=>?_)
 refine wp_cond_true rfl ?_
 refine wp_skip ?_
 refine k26 _ _ ?_
 try clear k26 K26
 refine wp_seq_k (fun K27 k27=>?_)
 refine wp_block ?_
 refine wp_seq_k (fun K28 k28=>?_)
 refine rg [0,1] ?_
 refine sv 11 (.int .i64 1) ?_
 refine sv 8 (.int .i64 1) ?_
 refine sq_nil ?_
 refine k28 _ _ ?_
 try clear k28 K28
 have gd35:=Gr.drew w24
 replace hB:=hB.trans gd35
 replace L2:=L2.gr gd35
 replace L3:=L3.gr gd35
 refine wp_region_ord (fun w'=>Lc w' b2 #[uaa0,uaa1,uaa2,uaa3,uab0,uab1,uab2,uab3,uac0,uac1,uac2,uac3] 35∧Lc w' b3 #[vaa0,vaa1,vaa2,vaa3,vab0,vab1,vab2,vab3,vac0,vac1,vac2,vac3] 35) [(true,0),(true,1),(true,2),(true,3),(true,4),(true,5),(true,6),(true,7),(false,8),(true,9),(false,10)] (by kernel_rfl) (by kernel_rfl) (by kernel_rfl) (by decide) (fun _ _ _ _ _ h=>h) ⟨L2,L3⟩ ?_
 refine ov 12 (.int .i64 1) ?_
 refine ov 13 (.func (.func 53) #[] #[]) ?_
 refine ov 14 (.int .i64 1) ?_
 refine ov 15 (.pointer (some ⟨b2,4,none⟩)) ?_
 refine ow 16 (.agg #[uab0,uab1,uab2,uab3]) rfl (fun w' hS=>(rl 33 4 [uab0,uab1,uab2,uab3] hS.1)) ?_
 refine ov 17 (.int .i64 1) ?_
 refine ov 18 (.pointer (some ⟨b3,4,none⟩)) ?_
 refine ow 19 (.agg #[vab0,vab1,vab2,vab3]) rfl (fun w' hS=>(rl 33 4 [vab0,vab1,vab2,vab3] hS.2)) ?_
 refine oe ?_
 have kq38:=g2.kp.trans (g3.kp.trans (g4.kp.trans (g6.kp.trans (gd19.kp.trans (g21.kp.trans (kp24.trans gd35.kp))))))
 replace hua2:=hua2.kp kq38
 replace hva2:=hva2.kp kq38
 refine ec 20 (mul_r hua2 hva2 (by omega)) ?_
 rintro e37 w37 ⟨⟨p37,q37,r37,s37,rfl,h37⟩,g37⟩
 refine ⟨_,rfl,?_⟩
 replace hB:=hB.trans g37
 replace L2:=L2.gr g37
 replace L3:=L3.gr g37
 refine ⟨⟨L2,L3⟩,?_⟩
 simp only [p3,p4]
 refine ov 21 (.pointer (some ⟨b6,4,none⟩)) ?_
 refine oe ?_
 replace L6:=L6.gr (gd35.trans g37)
 refine es 33 4 (.agg #[p37,q37,r37,s37]) [p37,q37,r37,s37] #[p21,q21,r21,s21,p37,q37,r37,s37,(.bool false),(.slice none 0 0),(.bool false),(.slice none 0 0)] L6 hB q6 ⟨h37.one0,h37.one1,h37.one2,h37.one3,trivial⟩ fun w40 st40 kp40 L6 hB=>?_
 replace L2:=st40.lc L2 ne2_6
 replace L3:=st40.lc L3 ne3_6
 refine ⟨⟨L2,L3⟩,?_⟩
 refine ord_nil ?_
 refine k27 _ _ ?_
 try clear k27 K27
 refine rg [0,1] ?_
 refine sv 22 (.int .i64 2) ?_
 refine sv 9 (.int .i64 2) ?_
 refine sq_nil ?_
 show Code.rounds _ _ _ _ _ _
 show Code.wp _ _ _ _ _
 refine wp_seq_k (fun K41 k41=>?_)
 refine rg [0] ?_
 refine sv 10 (.bool true) ?_
 refine sq_nil ?_
 refine k41 _ _ ?_
 try clear k41 K41
 refine wp_seq_k (fun K42 k42=>?_)
 refine wp_cond_true rfl ?_
 refine wp_skip ?_
 refine k42 _ _ ?_
 try clear k42 K42
 refine wp_seq_k (fun K43 k43=>?_)
 refine wp_block ?_
 refine wp_seq_k (fun K44 k44=>?_)
 refine rg [0,1] ?_
 refine sv 11 (.int .i64 2) ?_
 refine sv 8 (.int .i64 2) ?_
 refine sq_nil ?_
 refine k44 _ _ ?_
 try clear k44 K44
 have gd51:=Gr.drew w40
 replace hB:=hB.trans gd51
 replace L2:=L2.gr gd51
 replace L3:=L3.gr gd51
 refine wp_region_ord (fun w'=>Lc w' b2 #[uaa0,uaa1,uaa2,uaa3,uab0,uab1,uab2,uab3,uac0,uac1,uac2,uac3] 35∧Lc w' b3 #[vaa0,vaa1,vaa2,vaa3,vab0,vab1,vab2,vab3,vac0,vac1,vac2,vac3] 35) [(true,0),(true,1),(true,2),(true,3),(true,4),(true,5),(true,6),(true,7),(false,8),(true,9),(false,10)] (by kernel_rfl) (by kernel_rfl) (by kernel_rfl) (by decide) (fun _ _ _ _ _ h=>h) ⟨L2,L3⟩ ?_
 refine ov 12 (.int .i64 2) ?_
 refine ov 13 (.func (.func 53) #[] #[]) ?_
 refine ov 14 (.int .i64 2) ?_
 refine ov 15 (.pointer (some ⟨b2,8,none⟩)) ?_
 refine ow 16 (.agg #[uac0,uac1,uac2,uac3]) rfl (fun w' hS=>(rl 33 8 [uac0,uac1,uac2,uac3] hS.1)) ?_
 refine ov 17 (.int .i64 2) ?_
 refine ov 18 (.pointer (some ⟨b3,8,none⟩)) ?_
 refine ow 19 (.agg #[vac0,vac1,vac2,vac3]) rfl (fun w' hS=>(rl 33 8 [vac0,vac1,vac2,vac3] hS.2)) ?_
 refine oe ?_
 have kq54:=g2.kp.trans (g3.kp.trans (g4.kp.trans (g6.kp.trans (gd19.kp.trans (g21.kp.trans (kp24.trans (gd35.kp.trans (g37.kp.trans (kp40.trans gd51.kp)))))))))
 replace hua3:=hua3.kp kq54
 replace hva3:=hva3.kp kq54
 refine ec 20 (mul_r hua3 hva3 (by omega)) ?_
 rintro e53 w53 ⟨⟨p53,q53,r53,s53,rfl,h53⟩,g53⟩
 refine ⟨_,rfl,?_⟩
 replace hB:=hB.trans g53
 replace L2:=L2.gr g53
 replace L3:=L3.gr g53
 refine ⟨⟨L2,L3⟩,?_⟩
 simp only [p3,p4]
 refine ov 21 (.pointer (some ⟨b6,8,none⟩)) ?_
 refine oe ?_
 replace L6:=L6.gr (gd51.trans g53)
 refine es 33 8 (.agg #[p53,q53,r53,s53]) [p53,q53,r53,s53] #[p21,q21,r21,s21,p37,q37,r37,s37,p53,q53,r53,s53] L6 hB q6 ⟨h53.one0,h53.one1,h53.one2,h53.one3,trivial⟩ fun w56 st56 kp56 L6 hB=>?_
 replace L2:=st56.lc L2 ne2_6
 replace L3:=st56.lc L3 ne3_6
 refine ⟨⟨L2,L3⟩,?_⟩
 refine ord_nil ?_
 refine k43 _ _ ?_
 try clear k43 K43
 refine rg [0,1] ?_
 refine sv 22 (.int .i64 3) ?_
 refine sv 9 (.int .i64 3) ?_
 refine sq_nil ?_
 show Code.rounds _ _ _ _ _ _
 show Code.wp _ _ _ _ _
 refine wp_seq_k (fun K57 k57=>?_)
 refine rg [0] ?_
 refine sv 10 (.bool false) ?_
 refine sq_nil ?_
 refine k57 _ _ ?_
 try clear k57 K57
 refine wp_seq_k (fun K58 k58=>?_)
 refine wp_cond_false rfl ?_
 refine wp_exit ?_
 simp only [Exit.then,Exit.inBlock,↓reduceIte]
 refine k7 _ _ ?_
 try clear k7 K7
 refine wp_seq_k (fun K59 k59=>?_)
 refine rg [0,1] ?_
 refine sw 23 (.agg #[p21,q21,r21,s21,p37,q37,r37,s37,p53,q53,r53,s53]) rfl (rl 35 0 [p21,q21,r21,s21,p37,q37,r37,s37,p53,q53,r53,s53] L6) ?_
 refine se ?_
 replace L4:=st56.lc ((st40.lc ((st24.lc (L4.gr (g6.trans (gd19.trans g21))) ne4_6).gr (gd35.trans g37)) ne4_6).gr (gd51.trans g53)) ne4_6
 refine es 35 0 (.agg #[p21,q21,r21,s21,p37,q37,r37,s37,p53,q53,r53,s53]) [p21,q21,r21,s21,p37,q37,r37,s37,p53,q53,r53,s53] #[p21,q21,r21,s21,p37,q37,r37,s37,p53,q53,r53,s53] L4 hB q4 ⟨h21.one0,h21.one1,h21.one2,h21.one3,h37.one0,h37.one1,h37.one2,h37.one3,h53.one0,h53.one1,h53.one2,h53.one3,trivial⟩ fun w60 st60 kp60 L4 hB=>?_
 refine sq_nil ?_
 refine k59 _ _ ?_
 try clear k59 K59
 refine wp_ret ?_
 refine bodyPost_ret (v:=(.agg #[p21,q21,r21,s21,p37,q37,r37,s37,p53,q53,r53,s53])) (ret_cell _ _ _ rfl rfl L4 (by kernel_rfl)) rfl ⟨?_,hB⟩
 have kq61:=kp24.trans (gd35.kp.trans (g37.kp.trans (kp40.trans (gd51.kp.trans (g53.kp.trans (kp56.trans kp60))))))
 replace h21:=h21.kp kq61
 have kq62:=kp40.trans (gd51.kp.trans (g53.kp.trans (kp56.trans kp60)))
 replace h37:=h37.kp kq62
 have kq63:=kp56.trans kp60
 replace h53:=h53.kp kq63
 exact ⟨_,_,_,_,_,_,_,_,_,_,_,_,rfl,h21,h37,h53⟩

set_option maxRecDepth 100000 in
set_option maxHeartbeats 1000000 in
theorem scale1_r {k m:Nat} {kb:Nat} {s0 s1 s2 s3:Value} {sq:Rat} {u0 u1 u2 u3 v0 v1 v2 v3:Value} {a:Rat} {w:World} (ha:IsRat w k u0 u1 u2 u3 a) (hL:Lc w kb #[s0,s1,s2,s3] 33) (hs:IsRat w m s0 s1 s2 s3 sq) (_hk:k+m≤100000):
    Calls Tryz.prog 80 #[(.agg #[u0,u1,u2,u3]),(.agg #[v0,v1,v2,v3]),(.pointer (some ⟨kb,0,none⟩))] w fun e w'=>(∃ z0 z1 z2 z3,e=.returned (.agg #[z0,z1,z2,z3])∧IsRat w' (m+k) z0 z1 z2 z3 (sq*a))∧Gr w w':=by
 go_enter Tryz.func80,Tryz.ntmps80
 have hB:=Gr.refl w
 refine wp_seq_k (fun K1 k1=>?_)
 refine rg [0,1,2] ?_
 refine se ?_
 refine eb 33 #[u0,u1,u2,u3] 3 hB fun b2 w2 g2 L2 o2 q2 hB=>?_
 simp only [p3,p4]
 refine se ?_
 refine eb 33 #[v0,v1,v2,v3] 4 hB fun b3 w3 g3 L3 o3 q3 hB=>?_
 replace hL:=hL.gr g2
 simp only [p3,p4]
 refine se ?_
 refine ea 33 #[(.bool false),(.slice none 0 0),(.bool false),(.slice none 0 0)] 5 hB fun b4 w4 g4 L4 o4 q4 hB=>?_
 replace hL:=hL.gr g3
 replace L2:=L2.gr g3
 simp only [p3,p4]
 refine sq_nil ?_
 refine k1 _ _ ?_
 try clear k1 K1
 refine wp_seq_k (fun K5 k5=>?_)
 refine rg [0,1,2,3] ?_
 replace hL:=hL.gr g4
 refine sw 6 (.agg #[s0,s1,s2,s3]) rfl (rl 33 0 [s0,s1,s2,s3] hL) ?_
 replace L2:=L2.gr g4
 refine sw 7 (.agg #[u0,u1,u2,u3]) rfl (rl 33 0 [u0,u1,u2,u3] L2) ?_
 refine se ?_
 have kq7:=g2.kp.trans (g3.kp.trans g4.kp)
 replace hs:=hs.kp kq7
 replace ha:=ha.kp kq7
 refine ec 8 (mul_r hs ha (by omega)) ?_
 rintro e6 w6 ⟨⟨p6,q6,r6,s6,rfl,h6⟩,g6⟩
 refine ⟨_,rfl,?_⟩
 replace hB:=hB.trans g6
 simp only [p3,p4]
 refine se ?_
 replace L4:=L4.gr g6
 refine es 33 0 (.agg #[p6,q6,r6,s6]) [p6,q6,r6,s6] #[p6,q6,r6,s6] L4 hB q4 ⟨h6.one0,h6.one1,h6.one2,h6.one3,trivial⟩ fun w8 st8 kp8 L4 hB=>?_
 refine sq_nil ?_
 refine k5 _ _ ?_
 try clear k5 K5
 refine wp_ret ?_
 refine bodyPost_ret (v:=(.agg #[p6,q6,r6,s6])) (ret_cell _ _ _ rfl rfl L4 (by kernel_rfl)) rfl ⟨?_,hB⟩
 replace h6:=h6.kp kp8
 exact ⟨_,_,_,_,rfl,h6⟩

set_option maxRecDepth 100000 in
set_option maxHeartbeats 4000000 in
theorem each_scale {k m:Nat} {kb:Nat} {s0 s1 s2 s3:Value} {sq:Rat} {uaa0 uaa1 uaa2 uaa3 uab0 uab1 uab2 uab3 uac0 uac1 uac2 uac3:Value} {a1 a2 a3:Rat} {w:World} (hua1:IsRat w k uaa0 uaa1 uaa2 uaa3 a1) (hua2:IsRat w k uab0 uab1 uab2 uab3 a2) (hua3:IsRat w k uac0 uac1 uac2 uac3 a3) (hL:Lc w kb #[s0,s1,s2,s3] 33) (hs:IsRat w m s0 s1 s2 s3 sq) (_hk:k+m≤100000):
    Calls Tryz.prog 60 #[(.agg #[uaa0,uaa1,uaa2,uaa3,uab0,uab1,uab2,uab3,uac0,uac1,uac2,uac3]),(.agg #[uaa0,uaa1,uaa2,uaa3,uab0,uab1,uab2,uab3,uac0,uac1,uac2,uac3]),(.func (.func 80) #[] #[(.pointer (some ⟨kb,0,none⟩))])] w fun e w'=>(∃ t0 t1 t2 t3 t4 t5 t6 t7 t8 t9 t10 t11,e=.returned (.agg #[t0,t1,t2,t3,t4,t5,t6,t7,t8,t9,t10,t11])∧IsRat w' (m+k) t0 t1 t2 t3 (sq*a1)∧IsRat w' (m+k) t4 t5 t6 t7 (sq*a2)∧IsRat w' (m+k) t8 t9 t10 t11 (sq*a3))∧Gr w w':=by
 go_enter Tryz.func60,Tryz.ntmps60
 have hB:=Gr.refl w
 refine wp_seq_k (fun K1 k1=>?_)
 refine rg [0,1,2] ?_
 refine se ?_
 refine eb 35 #[uaa0,uaa1,uaa2,uaa3,uab0,uab1,uab2,uab3,uac0,uac1,uac2,uac3] 3 hB fun b2 w2 g2 L2 o2 q2 hB=>?_
 simp only [p3,p4]
 refine se ?_
 refine eb 35 #[uaa0,uaa1,uaa2,uaa3,uab0,uab1,uab2,uab3,uac0,uac1,uac2,uac3] 4 hB fun b3 w3 g3 L3 o3 q3 hB=>?_
 replace hL:=hL.gr g2
 simp only [p3,p4]
 refine se ?_
 refine ea 35 #[(.bool false),(.slice none 0 0),(.bool false),(.slice none 0 0),(.bool false),(.slice none 0 0),(.bool false),(.slice none 0 0),(.bool false),(.slice none 0 0),(.bool false),(.slice none 0 0)] 6 hB fun b4 w4 g4 L4 o4 q4 hB=>?_
 replace hL:=hL.gr g3
 replace L2:=L2.gr g3
 simp only [p3,p4]
 refine sq_nil ?_
 refine k1 _ _ ?_
 try clear k1 K1
 refine wp_seq_k (fun K5 k5=>?_)
 refine rg [0] ?_
 refine se ?_
 refine ea 35 #[(.bool false),(.slice none 0 0),(.bool false),(.slice none 0 0),(.bool false),(.slice none 0 0),(.bool false),(.slice none 0 0),(.bool false),(.slice none 0 0),(.bool false),(.slice none 0 0)] 7 hB fun b6 w6 g6 L6 o6 q6 hB=>?_
 replace hL:=hL.gr g4
 have ne0_6:=hL.ne o6
 replace L2:=L2.gr g4
 have ne2_6:=L2.ne o6
 replace L3:=L3.gr g4
 have ne3_6:=L3.ne o6
 have ne4_6:=L4.ne o6
 simp only [p3,p4]
 refine sq_nil ?_
 refine k5 _ _ ?_
 try clear k5 K5
 refine wp_seq_k (fun K7 k7=>?_)
 refine wp_seq_k (fun K8 k8=>?_)
 refine rg [0] ?_
 refine sv 9 (.int .i64 0) ?_
 refine sq_nil ?_
 refine k8 _ _ ?_
 try clear k8 K8
 refine wp_block ?_
 refine wp_loop_rounds 4 ?_
 show Code.wp _ _ _ _ _
 refine wp_seq_k (fun K9 k9=>?_)
 refine rg [0] ?_
 refine sv 10 (.bool true) ?_
 refine sq_nil ?_
 refine k9 _ _ ?_
 try clear k9 K9
 refine wp_seq_k (fun K10 k10=>?_)
 refine wp_cond_true rfl ?_
 refine wp_skip ?_
 refine k10 _ _ ?_
 try clear k10 K10
 refine wp_seq_k (fun K11 k11=>?_)
 refine wp_block ?_
 refine wp_seq_k (fun K12 k12=>?_)
 refine rg [0,1] ?_
 refine sv 11 (.int .i64 0) ?_
 refine sv 8 (.int .i64 0) ?_
 refine sq_nil ?_
 refine k12 _ _ ?_
 try clear k12 K12
 have gd19:=Gr.drew w6
 replace hB:=hB.trans gd19
 replace L2:=L2.gr (g6.trans gd19)
 replace L3:=L3.gr (g6.trans gd19)
 refine wp_region_ord (fun w'=>Lc w' b2 #[uaa0,uaa1,uaa2,uaa3,uab0,uab1,uab2,uab3,uac0,uac1,uac2,uac3] 35∧Lc w' b3 #[uaa0,uaa1,uaa2,uaa3,uab0,uab1,uab2,uab3,uac0,uac1,uac2,uac3] 35) [(true,0),(true,1),(true,2),(true,3),(true,4),(true,5),(true,6),(true,7),(false,8),(true,9),(false,10)] (by kernel_rfl) (by kernel_rfl) (by kernel_rfl) (by decide) (fun _ _ _ _ _ h=>h) ⟨L2,L3⟩ ?_
 refine ov 12 (.int .i64 0) ?_
 refine ov 13 (.func (.func 80) #[] #[(.pointer (some ⟨kb,0,none⟩))]) ?_
 refine ov 14 (.int .i64 0) ?_
 refine ov 15 (.pointer (some ⟨b2,0,none⟩)) ?_
 refine ow 16 (.agg #[uaa0,uaa1,uaa2,uaa3]) rfl (fun w' hS=>(rl 33 0 [uaa0,uaa1,uaa2,uaa3] hS.1)) ?_
 refine ov 17 (.int .i64 0) ?_
 refine ov 18 (.pointer (some ⟨b3,0,none⟩)) ?_
 refine ow 19 (.agg #[uaa0,uaa1,uaa2,uaa3]) rfl (fun w' hS=>(rl 33 0 [uaa0,uaa1,uaa2,uaa3] hS.2)) ?_
 refine oe ?_
 have kq22:=g2.kp.trans (g3.kp.trans (g4.kp.trans (g6.kp.trans gd19.kp)))
 replace hua1:=hua1.kp kq22
 replace hs:=hs.kp kq22
 replace hL:=hL.gr (g6.trans gd19)
 refine ec 20 (scale1_r (v0:=uaa0) (v1:=uaa1) (v2:=uaa2) (v3:=uaa3) hua1 hL hs (by omega)) ?_
 rintro e21 w21 ⟨⟨p21,q21,r21,s21,rfl,h21⟩,g21⟩
 refine ⟨_,rfl,?_⟩
 replace hB:=hB.trans g21
 replace L2:=L2.gr g21
 replace L3:=L3.gr g21
 refine ⟨⟨L2,L3⟩,?_⟩
 simp only [p3,p4]
 refine ov 21 (.pointer (some ⟨b6,0,none⟩)) ?_
 refine oe ?_
 replace L6:=L6.gr (gd19.trans g21)
 refine es 33 0 (.agg #[p21,q21,r21,s21]) [p21,q21,r21,s21] #[p21,q21,r21,s21,(.bool false),(.slice none 0 0),(.bool false),(.slice none 0 0),(.bool false),(.slice none 0 0),(.bool false),(.slice none 0 0)] L6 hB q6 ⟨h21.one0,h21.one1,h21.one2,h21.one3,trivial⟩ fun w24 st24 kp24 L6 hB=>?_
 replace L2:=st24.lc L2 ne2_6
 replace L3:=st24.lc L3 ne3_6
 refine ⟨⟨L2,L3⟩,?_⟩
 refine ord_nil ?_
 refine k11 _ _ ?_
 try clear k11 K11
 refine rg [0,1] ?_
 refine sv 22 (.int .i64 1) ?_
 refine sv 9 (.int .i64 1) ?_
 refine sq_nil ?_
 show Code.rounds _ _ _ _ _ _
 show Code.wp _ _ _ _ _
 refine wp_seq_k (fun K25 k25=>?_)
 refine rg [0] ?_
 refine sv 10 (.bool true) ?_
 refine sq_nil ?_
 refine k25 _ _ ?_
 try clear k25 K25
 refine wp_seq_k (fun K26 k26=>?_)
 refine wp_cond_true rfl ?_
 refine wp_skip ?_
 refine k26 _ _ ?_
 try clear k26 K26
 refine wp_seq_k (fun K27 k27=>?_)
 refine wp_block ?_
 refine wp_seq_k (fun K28 k28=>?_)
 refine rg [0,1] ?_
 refine sv 11 (.int .i64 1) ?_
 refine sv 8 (.int .i64 1) ?_
 refine sq_nil ?_
 refine k28 _ _ ?_
 try clear k28 K28
 have gd36:=Gr.drew w24
 replace hB:=hB.trans gd36
 replace L2:=L2.gr gd36
 replace L3:=L3.gr gd36
 refine wp_region_ord (fun w'=>Lc w' b2 #[uaa0,uaa1,uaa2,uaa3,uab0,uab1,uab2,uab3,uac0,uac1,uac2,uac3] 35∧Lc w' b3 #[uaa0,uaa1,uaa2,uaa3,uab0,uab1,uab2,uab3,uac0,uac1,uac2,uac3] 35) [(true,0),(true,1),(true,2),(true,3),(true,4),(true,5),(true,6),(true,7),(false,8),(true,9),(false,10)] (by kernel_rfl) (by kernel_rfl) (by kernel_rfl) (by decide) (fun _ _ _ _ _ h=>h) ⟨L2,L3⟩ ?_
 refine ov 12 (.int .i64 1) ?_
 refine ov 13 (.func (.func 80) #[] #[(.pointer (some ⟨kb,0,none⟩))]) ?_
 refine ov 14 (.int .i64 1) ?_
 refine ov 15 (.pointer (some ⟨b2,4,none⟩)) ?_
 refine ow 16 (.agg #[uab0,uab1,uab2,uab3]) rfl (fun w' hS=>(rl 33 4 [uab0,uab1,uab2,uab3] hS.1)) ?_
 refine ov 17 (.int .i64 1) ?_
 refine ov 18 (.pointer (some ⟨b3,4,none⟩)) ?_
 refine ow 19 (.agg #[uab0,uab1,uab2,uab3]) rfl (fun w' hS=>(rl 33 4 [uab0,uab1,uab2,uab3] hS.2)) ?_
 refine oe ?_
 have kq39:=g2.kp.trans (g3.kp.trans (g4.kp.trans (g6.kp.trans (gd19.kp.trans (g21.kp.trans (kp24.trans gd36.kp))))))
 replace hua2:=hua2.kp kq39
 have kq40:=g21.kp.trans (kp24.trans gd36.kp)
 replace hs:=hs.kp kq40
 replace hL:=(st24.lc (hL.gr g21) ne0_6).gr gd36
 refine ec 20 (scale1_r (v0:=uab0) (v1:=uab1) (v2:=uab2) (v3:=uab3) hua2 hL hs (by omega)) ?_
 rintro e38 w38 ⟨⟨p38,q38,r38,s38,rfl,h38⟩,g38⟩
 refine ⟨_,rfl,?_⟩
 replace hB:=hB.trans g38
 replace L2:=L2.gr g38
 replace L3:=L3.gr g38
 refine ⟨⟨L2,L3⟩,?_⟩
 simp only [p3,p4]
 refine ov 21 (.pointer (some ⟨b6,4,none⟩)) ?_
 refine oe ?_
 replace L6:=L6.gr (gd36.trans g38)
 refine es 33 4 (.agg #[p38,q38,r38,s38]) [p38,q38,r38,s38] #[p21,q21,r21,s21,p38,q38,r38,s38,(.bool false),(.slice none 0 0),(.bool false),(.slice none 0 0)] L6 hB q6 ⟨h38.one0,h38.one1,h38.one2,h38.one3,trivial⟩ fun w42 st42 kp42 L6 hB=>?_
 replace L2:=st42.lc L2 ne2_6
 replace L3:=st42.lc L3 ne3_6
 refine ⟨⟨L2,L3⟩,?_⟩
 refine ord_nil ?_
 refine k27 _ _ ?_
 try clear k27 K27
 refine rg [0,1] ?_
 refine sv 22 (.int .i64 2) ?_
 refine sv 9 (.int .i64 2) ?_
 refine sq_nil ?_
 show Code.rounds _ _ _ _ _ _
 show Code.wp _ _ _ _ _
 refine wp_seq_k (fun K43 k43=>?_)
 refine rg [0] ?_
 refine sv 10 (.bool true) ?_
 refine sq_nil ?_
 refine k43 _ _ ?_
 try clear k43 K43
 refine wp_seq_k (fun K44 k44=>?_)
 refine wp_cond_true rfl ?_
 refine wp_skip ?_
 refine k44 _ _ ?_
 try clear k44 K44
 refine wp_seq_k (fun K45 k45=>?_)
 refine wp_block ?_
 refine wp_seq_k (fun K46 k46=>?_)
 refine rg [0,1] ?_
 refine sv 11 (.int .i64 2) ?_
 refine sv 8 (.int .i64 2) ?_
 refine sq_nil ?_
 refine k46 _ _ ?_
 try clear k46 K46
 have gd54:=Gr.drew w42
 replace hB:=hB.trans gd54
 replace L2:=L2.gr gd54
 replace L3:=L3.gr gd54
 refine wp_region_ord (fun w'=>Lc w' b2 #[uaa0,uaa1,uaa2,uaa3,uab0,uab1,uab2,uab3,uac0,uac1,uac2,uac3] 35∧Lc w' b3 #[uaa0,uaa1,uaa2,uaa3,uab0,uab1,uab2,uab3,uac0,uac1,uac2,uac3] 35) [(true,0),(true,1),(true,2),(true,3),(true,4),(true,5),(true,6),(true,7),(false,8),(true,9),(false,10)] (by kernel_rfl) (by kernel_rfl) (by kernel_rfl) (by decide) (fun _ _ _ _ _ h=>h) ⟨L2,L3⟩ ?_
 refine ov 12 (.int .i64 2) ?_
 refine ov 13 (.func (.func 80) #[] #[(.pointer (some ⟨kb,0,none⟩))]) ?_
 refine ov 14 (.int .i64 2) ?_
 refine ov 15 (.pointer (some ⟨b2,8,none⟩)) ?_
 refine ow 16 (.agg #[uac0,uac1,uac2,uac3]) rfl (fun w' hS=>(rl 33 8 [uac0,uac1,uac2,uac3] hS.1)) ?_
 refine ov 17 (.int .i64 2) ?_
 refine ov 18 (.pointer (some ⟨b3,8,none⟩)) ?_
 refine ow 19 (.agg #[uac0,uac1,uac2,uac3]) rfl (fun w' hS=>(rl 33 8 [uac0,uac1,uac2,uac3] hS.2)) ?_
 refine oe ?_
 have kq57:=g2.kp.trans (g3.kp.trans (g4.kp.trans (g6.kp.trans (gd19.kp.trans (g21.kp.trans (kp24.trans (gd36.kp.trans (g38.kp.trans (kp42.trans gd54.kp)))))))))
 replace hua3:=hua3.kp kq57
 have kq58:=g38.kp.trans (kp42.trans gd54.kp)
 replace hs:=hs.kp kq58
 replace hL:=(st42.lc (hL.gr g38) ne0_6).gr gd54
 refine ec 20 (scale1_r (v0:=uac0) (v1:=uac1) (v2:=uac2) (v3:=uac3) hua3 hL hs (by omega)) ?_
 rintro e56 w56 ⟨⟨p56,q56,r56,s56,rfl,h56⟩,g56⟩
 refine ⟨_,rfl,?_⟩
 replace hB:=hB.trans g56
 replace L2:=L2.gr g56
 replace L3:=L3.gr g56
 refine ⟨⟨L2,L3⟩,?_⟩
 simp only [p3,p4]
 refine ov 21 (.pointer (some ⟨b6,8,none⟩)) ?_
 refine oe ?_
 replace L6:=L6.gr (gd54.trans g56)
 refine es 33 8 (.agg #[p56,q56,r56,s56]) [p56,q56,r56,s56] #[p21,q21,r21,s21,p38,q38,r38,s38,p56,q56,r56,s56] L6 hB q6 ⟨h56.one0,h56.one1,h56.one2,h56.one3,trivial⟩ fun w60 st60 kp60 L6 hB=>?_
 replace L2:=st60.lc L2 ne2_6
 replace L3:=st60.lc L3 ne3_6
 refine ⟨⟨L2,L3⟩,?_⟩
 refine ord_nil ?_
 refine k45 _ _ ?_
 try clear k45 K45
 refine rg [0,1] ?_
 refine sv 22 (.int .i64 3) ?_
 refine sv 9 (.int .i64 3) ?_
 refine sq_nil ?_
 show Code.rounds _ _ _ _ _ _
 show Code.wp _ _ _ _ _
 refine wp_seq_k (fun K61 k61=>?_)
 refine rg [0] ?_
 refine sv 10 (.bool false) ?_
 refine sq_nil ?_
 refine k61 _ _ ?_
 try clear k61 K61
 refine wp_seq_k (fun K62 k62=>?_)
 refine wp_cond_false rfl ?_
 refine wp_exit ?_
 simp only [Exit.then,Exit.inBlock,↓reduceIte]
 refine k7 _ _ ?_
 try clear k7 K7
 refine wp_seq_k (fun K63 k63=>?_)
 refine rg [0,1] ?_
 refine sw 23 (.agg #[p21,q21,r21,s21,p38,q38,r38,s38,p56,q56,r56,s56]) rfl (rl 35 0 [p21,q21,r21,s21,p38,q38,r38,s38,p56,q56,r56,s56] L6) ?_
 refine se ?_
 replace L4:=st60.lc ((st42.lc ((st24.lc (L4.gr (g6.trans (gd19.trans g21))) ne4_6).gr (gd36.trans g38)) ne4_6).gr (gd54.trans g56)) ne4_6
 refine es 35 0 (.agg #[p21,q21,r21,s21,p38,q38,r38,s38,p56,q56,r56,s56]) [p21,q21,r21,s21,p38,q38,r38,s38,p56,q56,r56,s56] #[p21,q21,r21,s21,p38,q38,r38,s38,p56,q56,r56,s56] L4 hB q4 ⟨h21.one0,h21.one1,h21.one2,h21.one3,h38.one0,h38.one1,h38.one2,h38.one3,h56.one0,h56.one1,h56.one2,h56.one3,trivial⟩ fun w64 st64 kp64 L4 hB=>?_
 refine sq_nil ?_
 refine k63 _ _ ?_
 try clear k63 K63
 refine wp_ret ?_
 refine bodyPost_ret (v:=(.agg #[p21,q21,r21,s21,p38,q38,r38,s38,p56,q56,r56,s56])) (ret_cell _ _ _ rfl rfl L4 (by kernel_rfl)) rfl ⟨?_,hB⟩
 have kq65:=kp24.trans (gd36.kp.trans (g38.kp.trans (kp42.trans (gd54.kp.trans (g56.kp.trans (kp60.trans kp64))))))
 replace h21:=h21.kp kq65
 have kq66:=kp42.trans (gd54.kp.trans (g56.kp.trans (kp60.trans kp64)))
 replace h38:=h38.kp kq66
 have kq67:=kp60.trans kp64
 replace h56:=h56.kp kq67
 exact ⟨_,_,_,_,_,_,_,_,_,_,_,_,rfl,h21,h38,h56⟩

set_option maxRecDepth 100000 in
set_option maxHeartbeats 1000000 in
theorem vadd_v {k m:Nat} {uaa0 uaa1 uaa2 uaa3 uab0 uab1 uab2 uab3 uac0 uac1 uac2 uac3:Value} {a1 a2 a3:Rat} {vaa0 vaa1 vaa2 vaa3 vab0 vab1 vab2 vab3 vac0 vac1 vac2 vac3:Value} {c1 c2 c3:Rat} {w:World} (hua1:IsRat w k uaa0 uaa1 uaa2 uaa3 a1) (hua2:IsRat w k uab0 uab1 uab2 uab3 a2) (hua3:IsRat w k uac0 uac1 uac2 uac3 a3) (hva1:IsRat w m vaa0 vaa1 vaa2 vaa3 c1) (hva2:IsRat w m vab0 vab1 vab2 vab3 c2) (hva3:IsRat w m vac0 vac1 vac2 vac3 c3) (_hk:k+m≤100000):
    Calls Tryz.prog 37 #[(.agg #[uaa0,uaa1,uaa2,uaa3,uab0,uab1,uab2,uab3,uac0,uac1,uac2,uac3]),(.agg #[vaa0,vaa1,vaa2,vaa3,vab0,vab1,vab2,vab3,vac0,vac1,vac2,vac3])] w fun e w'=>(∃ t0 t1 t2 t3 t4 t5 t6 t7 t8 t9 t10 t11,e=.returned (.agg #[t0,t1,t2,t3,t4,t5,t6,t7,t8,t9,t10,t11])∧IsRat w' (k+m+1) t0 t1 t2 t3 ((a1+c1))∧IsRat w' (k+m+1) t4 t5 t6 t7 ((a2+c2))∧IsRat w' (k+m+1) t8 t9 t10 t11 ((a3+c3)))∧Gr w w':=by
 go_enter Tryz.func37,Tryz.ntmps37
 have hB:=Gr.refl w
 refine wp_seq_k (fun K1 k1=>?_)
 refine rg [0,1,2] ?_
 refine se ?_
 refine eb 35 #[uaa0,uaa1,uaa2,uaa3,uab0,uab1,uab2,uab3,uac0,uac1,uac2,uac3] 2 hB fun b2 w2 g2 L2 o2 q2 hB=>?_
 simp only [p3,p4]
 refine se ?_
 refine eb 35 #[vaa0,vaa1,vaa2,vaa3,vab0,vab1,vab2,vab3,vac0,vac1,vac2,vac3] 3 hB fun b3 w3 g3 L3 o3 q3 hB=>?_
 simp only [p3,p4]
 refine se ?_
 refine ea 35 #[(.bool false),(.slice none 0 0),(.bool false),(.slice none 0 0),(.bool false),(.slice none 0 0),(.bool false),(.slice none 0 0),(.bool false),(.slice none 0 0),(.bool false),(.slice none 0 0)] 4 hB fun b4 w4 g4 L4 o4 q4 hB=>?_
 replace L2:=L2.gr g3
 simp only [p3,p4]
 refine sq_nil ?_
 refine k1 _ _ ?_
 try clear k1 K1
 refine wp_seq_k (fun K5 k5=>?_)
 refine rg [0,1,2,3] ?_
 replace L2:=L2.gr g4
 refine sw 5 (.agg #[uaa0,uaa1,uaa2,uaa3,uab0,uab1,uab2,uab3,uac0,uac1,uac2,uac3]) rfl (rl 35 0 [uaa0,uaa1,uaa2,uaa3,uab0,uab1,uab2,uab3,uac0,uac1,uac2,uac3] L2) ?_
 replace L3:=L3.gr g4
 refine sw 6 (.agg #[vaa0,vaa1,vaa2,vaa3,vab0,vab1,vab2,vab3,vac0,vac1,vac2,vac3]) rfl (rl 35 0 [vaa0,vaa1,vaa2,vaa3,vab0,vab1,vab2,vab3,vac0,vac1,vac2,vac3] L3) ?_
 refine se ?_
 have kq7:=g2.kp.trans (g3.kp.trans g4.kp)
 replace hua1:=hua1.kp kq7
 replace hua2:=hua2.kp kq7
 replace hua3:=hua3.kp kq7
 replace hva1:=hva1.kp kq7
 replace hva2:=hva2.kp kq7
 replace hva3:=hva3.kp kq7
 refine ec 7 (each_add hua1 hua2 hua3 hva1 hva2 hva3 (by omega)) ?_
 rintro e6 w6 ⟨⟨t6_0,t6_1,t6_2,t6_3,t6_4,t6_5,t6_6,t6_7,t6_8,t6_9,t6_10,t6_11,rfl,h6a,h6b,h6c⟩,g6⟩
 refine ⟨_,rfl,?_⟩
 replace hB:=hB.trans g6
 simp only [p3,p4]
 refine se ?_
 replace L4:=L4.gr g6
 refine es 35 0 (.agg #[t6_0,t6_1,t6_2,t6_3,t6_4,t6_5,t6_6,t6_7,t6_8,t6_9,t6_10,t6_11]) [t6_0,t6_1,t6_2,t6_3,t6_4,t6_5,t6_6,t6_7,t6_8,t6_9,t6_10,t6_11] #[t6_0,t6_1,t6_2,t6_3,t6_4,t6_5,t6_6,t6_7,t6_8,t6_9,t6_10,t6_11] L4 hB q4 ⟨h6a.one0,h6a.one1,h6a.one2,h6a.one3,h6b.one0,h6b.one1,h6b.one2,h6b.one3,h6c.one0,h6c.one1,h6c.one2,h6c.one3,trivial⟩ fun w8 st8 kp8 L4 hB=>?_
 refine sq_nil ?_
 refine k5 _ _ ?_
 try clear k5 K5
 refine wp_ret ?_
 refine bodyPost_ret (v:=(.agg #[t6_0,t6_1,t6_2,t6_3,t6_4,t6_5,t6_6,t6_7,t6_8,t6_9,t6_10,t6_11])) (ret_cell _ _ _ rfl rfl L4 (by kernel_rfl)) rfl ⟨?_,hB⟩
 replace h6a:=h6a.kp kp8
 replace h6b:=h6b.kp kp8
 replace h6c:=h6c.kp kp8
 exact ⟨_,_,_,_,_,_,_,_,_,_,_,_,rfl,h6a,h6b,h6c⟩

set_option maxRecDepth 100000 in
set_option maxHeartbeats 1000000 in
theorem vscale_v {k m:Nat} {s0 s1 s2 s3:Value} {sq:Rat} {uaa0 uaa1 uaa2 uaa3 uab0 uab1 uab2 uab3 uac0 uac1 uac2 uac3:Value} {a1 a2 a3:Rat} {w:World} (hua1:IsRat w k uaa0 uaa1 uaa2 uaa3 a1) (hua2:IsRat w k uab0 uab1 uab2 uab3 a2) (hua3:IsRat w k uac0 uac1 uac2 uac3 a3) (hs:IsRat w m s0 s1 s2 s3 sq) (_hk:k+m≤100000):
    Calls Tryz.prog 52 #[(.agg #[uaa0,uaa1,uaa2,uaa3,uab0,uab1,uab2,uab3,uac0,uac1,uac2,uac3]),(.agg #[s0,s1,s2,s3])] w fun e w'=>(∃ t0 t1 t2 t3 t4 t5 t6 t7 t8 t9 t10 t11,e=.returned (.agg #[t0,t1,t2,t3,t4,t5,t6,t7,t8,t9,t10,t11])∧IsRat w' (m+k) t0 t1 t2 t3 (sq*a1)∧IsRat w' (m+k) t4 t5 t6 t7 (sq*a2)∧IsRat w' (m+k) t8 t9 t10 t11 (sq*a3))∧Gr w w':=by
 go_enter Tryz.func52,Tryz.ntmps52
 have hB:=Gr.refl w
 refine wp_seq_k (fun K1 k1=>?_)
 refine rg [0,1,2] ?_
 refine se ?_
 refine eb 35 #[uaa0,uaa1,uaa2,uaa3,uab0,uab1,uab2,uab3,uac0,uac1,uac2,uac3] 2 hB fun b2 w2 g2 L2 o2 q2 hB=>?_
 simp only [p3,p4]
 refine se ?_
 refine eb 33 #[s0,s1,s2,s3] 3 hB fun b3 w3 g3 L3 o3 q3 hB=>?_
 simp only [p3,p4]
 refine se ?_
 refine ea 35 #[(.bool false),(.slice none 0 0),(.bool false),(.slice none 0 0),(.bool false),(.slice none 0 0),(.bool false),(.slice none 0 0),(.bool false),(.slice none 0 0),(.bool false),(.slice none 0 0)] 4 hB fun b4 w4 g4 L4 o4 q4 hB=>?_
 replace L2:=L2.gr g3
 simp only [p3,p4]
 refine sq_nil ?_
 refine k1 _ _ ?_
 try clear k1 K1
 refine wp_seq_k (fun K5 k5=>?_)
 refine rg [0,1,2,3,4] ?_
 replace L2:=L2.gr g4
 refine sw 5 (.agg #[uaa0,uaa1,uaa2,uaa3,uab0,uab1,uab2,uab3,uac0,uac1,uac2,uac3]) rfl (rl 35 0 [uaa0,uaa1,uaa2,uaa3,uab0,uab1,uab2,uab3,uac0,uac1,uac2,uac3] L2) ?_
 refine sw 6 (.agg #[uaa0,uaa1,uaa2,uaa3,uab0,uab1,uab2,uab3,uac0,uac1,uac2,uac3]) rfl (rl 35 0 [uaa0,uaa1,uaa2,uaa3,uab0,uab1,uab2,uab3,uac0,uac1,uac2,uac3] L2) ?_
 refine sv 7 (.func (.func 80) #[] #[(.pointer (some ⟨b3,0,none⟩))]) ?_
 refine se ?_
 have kq7:=g2.kp.trans (g3.kp.trans g4.kp)
 replace hs:=hs.kp kq7
 replace hua1:=hua1.kp kq7
 replace hua2:=hua2.kp kq7
 replace hua3:=hua3.kp kq7
 replace L3:=L3.gr g4
 refine ec 8 (each_scale hua1 hua2 hua3 L3 hs (by omega)) ?_
 rintro e6 w6 ⟨⟨t6_0,t6_1,t6_2,t6_3,t6_4,t6_5,t6_6,t6_7,t6_8,t6_9,t6_10,t6_11,rfl,h6a,h6b,h6c⟩,g6⟩
 refine ⟨_,rfl,?_⟩
 replace hB:=hB.trans g6
 simp only [p3,p4]
 refine se ?_
 replace L4:=L4.gr g6
 refine es 35 0 (.agg #[t6_0,t6_1,t6_2,t6_3,t6_4,t6_5,t6_6,t6_7,t6_8,t6_9,t6_10,t6_11]) [t6_0,t6_1,t6_2,t6_3,t6_4,t6_5,t6_6,t6_7,t6_8,t6_9,t6_10,t6_11] #[t6_0,t6_1,t6_2,t6_3,t6_4,t6_5,t6_6,t6_7,t6_8,t6_9,t6_10,t6_11] L4 hB q4 ⟨h6a.one0,h6a.one1,h6a.one2,h6a.one3,h6b.one0,h6b.one1,h6b.one2,h6b.one3,h6c.one0,h6c.one1,h6c.one2,h6c.one3,trivial⟩ fun w8 st8 kp8 L4 hB=>?_
 refine sq_nil ?_
 refine k5 _ _ ?_
 try clear k5 K5
 refine wp_ret ?_
 refine bodyPost_ret (v:=(.agg #[t6_0,t6_1,t6_2,t6_3,t6_4,t6_5,t6_6,t6_7,t6_8,t6_9,t6_10,t6_11])) (ret_cell _ _ _ rfl rfl L4 (by kernel_rfl)) rfl ⟨?_,hB⟩
 replace h6a:=h6a.kp kp8
 replace h6b:=h6b.kp kp8
 replace h6c:=h6c.kp kp8
 exact ⟨_,_,_,_,_,_,_,_,_,_,_,_,rfl,h6a,h6b,h6c⟩

set_option maxRecDepth 100000 in
set_option maxHeartbeats 4000000 in
theorem sum3_r {k:Nat} {ab:Nat} {uaa0 uaa1 uaa2 uaa3 uab0 uab1 uab2 uab3 uac0 uac1 uac2 uac3:Value} {a1 a2 a3:Rat} {w:World} (hua1:IsRat w k uaa0 uaa1 uaa2 uaa3 a1) (hua2:IsRat w k uab0 uab1 uab2 uab3 a2) (hua3:IsRat w k uac0 uac1 uac2 uac3 a3) (hL:Lc w ab #[uaa0,uaa1,uaa2,uaa3,uab0,uab1,uab2,uab3,uac0,uac1,uac2,uac3] 35) (_hk:k≤25000):
    Calls Tryz.prog 62 #[(.slice (some ⟨ab,0,none⟩) 3 3)] w fun e w'=>(∃ z0 z1 z2 z3,e=.returned (.agg #[z0,z1,z2,z3])∧IsRat w' (64+k+1+k+1+k+1) z0 z1 z2 z3 (0+a1+a2+a3))∧Gr w w':=by
 have hbig:=hua1.big
 go_enter Tryz.func62,Tryz.ntmps62
 have hB:=Gr.refl w
 refine wp_seq_k (fun K1 k1=>?_)
 refine rg [0] ?_
 refine se ?_
 refine ea 33 #[(.bool false),(.slice none 0 0),(.bool false),(.slice none 0 0)] 2 hB fun b2 w2 g2 L2 o2 q2 hB=>?_
 simp only [p3,p4]
 refine sq_nil ?_
 refine k1 _ _ ?_
 try clear k1 K1
 refine wp_seq_k (fun K3 k3=>?_)
 refine rg [0] ?_
 refine se ?_
 refine ea 33 #[(.bool false),(.slice none 0 0),(.bool false),(.slice none 0 0)] 3 hB fun b4 w4 g4 L4 o4 q4 hB=>?_
 replace hL:=hL.gr g2
 have ne0_4:=hL.ne o4
 have ne2_4:=L2.ne o4
 simp only [p3,p4]
 refine sq_nil ?_
 refine k3 _ _ ?_
 try clear k3 K3
 refine wp_seq_k (fun K5 k5=>?_)
 refine wp_seq_k (fun K6 k6=>?_)
 refine rg [0,1,2] ?_
 refine sv 6 (.slice (some ⟨ab,0,none⟩) 3 3) ?_
 refine sv 7 (.int .i64 3) ?_
 refine sv 8 (.int .i64 0) ?_
 refine sq_nil ?_
 refine k6 _ _ ?_
 try clear k6 K6
 refine wp_block ?_
 refine wp_loop_rounds 4 ?_
 show Code.wp _ _ _ _ _
 refine wp_seq_k (fun K7 k7=>?_)
 refine rg [0] ?_
 refine sv 9 (.bool true) ?_
 refine sq_nil ?_
 refine k7 _ _ ?_
 try clear k7 K7
 refine wp_seq_k (fun K8 k8=>?_)
 refine wp_cond_true rfl ?_
 refine wp_skip ?_
 refine k8 _ _ ?_
 try clear k8 K8
 refine wp_seq_k (fun K9 k9=>?_)
 refine wp_block ?_
 refine wp_seq_k (fun K10 k10=>?_)
 refine rg [0,1,2,3] ?_
 refine sv 10 (.pointer (some ⟨ab,0,none⟩)) ?_
 replace hL:=hL.gr g4
 refine sw 11 (.agg #[uaa0,uaa1,uaa2,uaa3]) rfl (rl 33 0 [uaa0,uaa1,uaa2,uaa3] hL) ?_
 refine se ?_
 refine ea 33 #[(.bool false),(.slice none 0 0),(.bool false),(.slice none 0 0)] 5 hB fun b11 w11 g11 L11 o11 q11 hB=>?_
 have ne0_11:=hL.ne o11
 replace L2:=L2.gr g4
 have ne2_11:=L2.ne o11
 have ne4_11:=L4.ne o11
 simp only [p3,p4]
 refine se ?_
 refine es 33 0 (.agg #[uaa0,uaa1,uaa2,uaa3]) [uaa0,uaa1,uaa2,uaa3] #[uaa0,uaa1,uaa2,uaa3] L11 hB q11 ⟨hua1.one0,hua1.one1,hua1.one2,hua1.one3,trivial⟩ fun w12 st12 kp12 L11 hB=>?_
 refine sq_nil ?_
 refine k10 _ _ ?_
 try clear k10 K10
 refine rg [0,1,2,3] ?_
 replace L4:=st12.lc (L4.gr g11) ne4_11
 refine sw 12 (.agg #[(.bool false),(.slice none 0 0),(.bool false),(.slice none 0 0)]) rfl (rl 33 0 [(.bool false),(.slice none 0 0),(.bool false),(.slice none 0 0)] L4) ?_
 refine sw 13 (.agg #[uaa0,uaa1,uaa2,uaa3]) rfl (rl 33 0 [uaa0,uaa1,uaa2,uaa3] L11) ?_
 refine se ?_
 have kq14:=g2.kp.trans (g4.kp.trans (g11.kp.trans kp12))
 replace hua1:=hua1.kp kq14
 refine ec 14 (add_r (IsRat.zero _ (k:=64) (Nat.le_refl _)) hua1 (by omega)) ?_
 rintro e13 w13 ⟨⟨p13,q13,r13,s13,rfl,h13⟩,g13⟩
 refine ⟨_,rfl,?_⟩
 replace hB:=hB.trans g13
 simp only [p3,p4]
 refine se ?_
 replace L4:=L4.gr g13
 refine es 33 0 (.agg #[p13,q13,r13,s13]) [p13,q13,r13,s13] #[p13,q13,r13,s13] L4 hB q4 ⟨h13.one0,h13.one1,h13.one2,h13.one3,trivial⟩ fun w15 st15 kp15 L4 hB=>?_
 refine sq_nil ?_
 refine k9 _ _ ?_
 try clear k9 K9
 refine rg [0,1] ?_
 refine sv 15 (.int .i64 1) ?_
 refine sv 8 (.int .i64 1) ?_
 refine sq_nil ?_
 show Code.rounds _ _ _ _ _ _
 show Code.wp _ _ _ _ _
 refine wp_seq_k (fun K16 k16=>?_)
 refine rg [0] ?_
 refine sv 9 (.bool true) ?_
 refine sq_nil ?_
 refine k16 _ _ ?_
 try clear k16 K16
 refine wp_seq_k (fun K17 k17=>?_)
 refine wp_cond_true rfl ?_
 refine wp_skip ?_
 refine k17 _ _ ?_
 try clear k17 K17
 refine wp_seq_k (fun K18 k18=>?_)
 refine wp_block ?_
 refine wp_seq_k (fun K19 k19=>?_)
 refine rg [0,1,2,3] ?_
 refine sv 10 (.pointer (some ⟨ab,4,none⟩)) ?_
 replace hL:=st15.lc ((st12.lc (hL.gr g11) ne0_11).gr g13) ne0_4
 refine sw 11 (.agg #[uab0,uab1,uab2,uab3]) rfl (rl 33 4 [uab0,uab1,uab2,uab3] hL) ?_
 refine se ?_
 refine ea 33 #[(.bool false),(.slice none 0 0),(.bool false),(.slice none 0 0)] 5 hB fun b20 w20 g20 L20 o20 q20 hB=>?_
 have ne0_20:=hL.ne o20
 replace L2:=st15.lc ((st12.lc (L2.gr g11) ne2_11).gr g13) ne2_4
 have ne2_20:=L2.ne o20
 have ne4_20:=L4.ne o20
 simp only [p3,p4]
 refine se ?_
 refine es 33 0 (.agg #[uab0,uab1,uab2,uab3]) [uab0,uab1,uab2,uab3] #[uab0,uab1,uab2,uab3] L20 hB q20 ⟨hua2.one0,hua2.one1,hua2.one2,hua2.one3,trivial⟩ fun w21 st21 kp21 L20 hB=>?_
 refine sq_nil ?_
 refine k19 _ _ ?_
 try clear k19 K19
 refine rg [0,1,2,3] ?_
 replace L4:=st21.lc (L4.gr g20) ne4_20
 refine sw 12 (.agg #[p13,q13,r13,s13]) rfl (rl 33 0 [p13,q13,r13,s13] L4) ?_
 refine sw 13 (.agg #[uab0,uab1,uab2,uab3]) rfl (rl 33 0 [uab0,uab1,uab2,uab3] L20) ?_
 refine se ?_
 have kq23:=kp15.trans (g20.kp.trans kp21)
 replace h13:=h13.kp kq23
 have kq24:=g2.kp.trans (g4.kp.trans (g11.kp.trans (kp12.trans (g13.kp.trans (kp15.trans (g20.kp.trans kp21))))))
 replace hua2:=hua2.kp kq24
 refine ec 14 (add_r h13 hua2 (by omega)) ?_
 rintro e22 w22 ⟨⟨p22,q22,r22,s22,rfl,h22⟩,g22⟩
 refine ⟨_,rfl,?_⟩
 replace hB:=hB.trans g22
 simp only [p3,p4]
 refine se ?_
 replace L4:=L4.gr g22
 refine es 33 0 (.agg #[p22,q22,r22,s22]) [p22,q22,r22,s22] #[p22,q22,r22,s22] L4 hB q4 ⟨h22.one0,h22.one1,h22.one2,h22.one3,trivial⟩ fun w25 st25 kp25 L4 hB=>?_
 refine sq_nil ?_
 refine k18 _ _ ?_
 try clear k18 K18
 refine rg [0,1] ?_
 refine sv 15 (.int .i64 2) ?_
 refine sv 8 (.int .i64 2) ?_
 refine sq_nil ?_
 show Code.rounds _ _ _ _ _ _
 show Code.wp _ _ _ _ _
 refine wp_seq_k (fun K26 k26=>?_)
 refine rg [0] ?_
 refine sv 9 (.bool true) ?_
 refine sq_nil ?_
 refine k26 _ _ ?_
 try clear k26 K26
 refine wp_seq_k (fun K27 k27=>?_)
 refine wp_cond_true rfl ?_
 refine wp_skip ?_
 refine k27 _ _ ?_
 try clear k27 K27
 refine wp_seq_k (fun K28 k28=>?_)
 refine wp_block ?_
 refine wp_seq_k (fun K29 k29=>?_)
 refine rg [0,1,2,3] ?_
 refine sv 10 (.pointer (some ⟨ab,8,none⟩)) ?_
 replace hL:=st25.lc ((st21.lc (hL.gr g20) ne0_20).gr g22) ne0_4
 refine sw 11 (.agg #[uac0,uac1,uac2,uac3]) rfl (rl 33 8 [uac0,uac1,uac2,uac3] hL) ?_
 refine se ?_
 refine ea 33 #[(.bool false),(.slice none 0 0),(.bool false),(.slice none 0 0)] 5 hB fun b30 w30 g30 L30 o30 q30 hB=>?_
 replace L2:=st25.lc ((st21.lc (L2.gr g20) ne2_20).gr g22) ne2_4
 have ne2_30:=L2.ne o30
 have ne4_30:=L4.ne o30
 simp only [p3,p4]
 refine se ?_
 refine es 33 0 (.agg #[uac0,uac1,uac2,uac3]) [uac0,uac1,uac2,uac3] #[uac0,uac1,uac2,uac3] L30 hB q30 ⟨hua3.one0,hua3.one1,hua3.one2,hua3.one3,trivial⟩ fun w31 st31 kp31 L30 hB=>?_
 refine sq_nil ?_
 refine k29 _ _ ?_
 try clear k29 K29
 refine rg [0,1,2,3] ?_
 replace L4:=st31.lc (L4.gr g30) ne4_30
 refine sw 12 (.agg #[p22,q22,r22,s22]) rfl (rl 33 0 [p22,q22,r22,s22] L4) ?_
 refine sw 13 (.agg #[uac0,uac1,uac2,uac3]) rfl (rl 33 0 [uac0,uac1,uac2,uac3] L30) ?_
 refine se ?_
 have kq33:=kp25.trans (g30.kp.trans kp31)
 replace h22:=h22.kp kq33
 have kq34:=g2.kp.trans (g4.kp.trans (g11.kp.trans (kp12.trans (g13.kp.trans (kp15.trans (g20.kp.trans (kp21.trans (g22.kp.trans (kp25.trans (g30.kp.trans kp31))))))))))
 replace hua3:=hua3.kp kq34
 refine ec 14 (add_r h22 hua3 (by omega)) ?_
 rintro e32 w32 ⟨⟨p32,q32,r32,s32,rfl,h32⟩,g32⟩
 refine ⟨_,rfl,?_⟩
 replace hB:=hB.trans g32
 simp only [p3,p4]
 refine se ?_
 replace L4:=L4.gr g32
 refine es 33 0 (.agg #[p32,q32,r32,s32]) [p32,q32,r32,s32] #[p32,q32,r32,s32] L4 hB q4 ⟨h32.one0,h32.one1,h32.one2,h32.one3,trivial⟩ fun w35 st35 kp35 L4 hB=>?_
 refine sq_nil ?_
 refine k28 _ _ ?_
 try clear k28 K28
 refine rg [0,1] ?_
 refine sv 15 (.int .i64 3) ?_
 refine sv 8 (.int .i64 3) ?_
 refine sq_nil ?_
 show Code.rounds _ _ _ _ _ _
 show Code.wp _ _ _ _ _
 refine wp_seq_k (fun K36 k36=>?_)
 refine rg [0] ?_
 refine sv 9 (.bool false) ?_
 refine sq_nil ?_
 refine k36 _ _ ?_
 try clear k36 K36
 refine wp_seq_k (fun K37 k37=>?_)
 refine wp_cond_false rfl ?_
 refine wp_exit ?_
 simp only [Exit.then,Exit.inBlock,↓reduceIte]
 refine k5 _ _ ?_
 try clear k5 K5
 refine wp_seq_k (fun K38 k38=>?_)
 refine rg [0,1] ?_
 refine sw 16 (.agg #[p32,q32,r32,s32]) rfl (rl 33 0 [p32,q32,r32,s32] L4) ?_
 refine se ?_
 replace L2:=st35.lc ((st31.lc (L2.gr g30) ne2_30).gr g32) ne2_4
 refine es 33 0 (.agg #[p32,q32,r32,s32]) [p32,q32,r32,s32] #[p32,q32,r32,s32] L2 hB q2 ⟨h32.one0,h32.one1,h32.one2,h32.one3,trivial⟩ fun w39 st39 kp39 L2 hB=>?_
 refine sq_nil ?_
 refine k38 _ _ ?_
 try clear k38 K38
 refine wp_ret ?_
 refine bodyPost_ret (v:=(.agg #[p32,q32,r32,s32])) (ret_cell _ _ _ rfl rfl L2 (by kernel_rfl)) rfl ⟨?_,hB⟩
 have kq40:=kp35.trans kp39
 replace h32:=h32.kp kq40
 exact ⟨_,_,_,_,rfl,h32⟩

set_option maxRecDepth 100000 in
set_option maxHeartbeats 1000000 in
theorem dot_v {k m:Nat} {uaa0 uaa1 uaa2 uaa3 uab0 uab1 uab2 uab3 uac0 uac1 uac2 uac3:Value} {a1 a2 a3:Rat} {vaa0 vaa1 vaa2 vaa3 vab0 vab1 vab2 vab3 vac0 vac1 vac2 vac3:Value} {c1 c2 c3:Rat} {w:World} (hua1:IsRat w k uaa0 uaa1 uaa2 uaa3 a1) (hua2:IsRat w k uab0 uab1 uab2 uab3 a2) (hua3:IsRat w k uac0 uac1 uac2 uac3 a3) (hva1:IsRat w m vaa0 vaa1 vaa2 vaa3 c1) (hva2:IsRat w m vab0 vab1 vab2 vab3 c2) (hva3:IsRat w m vac0 vac1 vac2 vac3 c3) (_hk:k+m≤25000):
    Calls Tryz.prog 40 #[(.agg #[uaa0,uaa1,uaa2,uaa3,uab0,uab1,uab2,uab3,uac0,uac1,uac2,uac3]),(.agg #[vaa0,vaa1,vaa2,vaa3,vab0,vab1,vab2,vab3,vac0,vac1,vac2,vac3])] w fun e w'=>(∃ z0 z1 z2 z3,e=.returned (.agg #[z0,z1,z2,z3])∧IsRat w' (64+(k+m)+1+(k+m)+1+(k+m)+1) z0 z1 z2 z3 (0+a1*c1+a2*c2+a3*c3))∧Gr w w':=by
 go_enter Tryz.func40,Tryz.ntmps40
 have hB:=Gr.refl w
 refine wp_seq_k (fun K1 k1=>?_)
 refine rg [0,1,2] ?_
 refine se ?_
 refine eb 35 #[uaa0,uaa1,uaa2,uaa3,uab0,uab1,uab2,uab3,uac0,uac1,uac2,uac3] 2 hB fun b2 w2 g2 L2 o2 q2 hB=>?_
 simp only [p3,p4]
 refine se ?_
 refine eb 35 #[vaa0,vaa1,vaa2,vaa3,vab0,vab1,vab2,vab3,vac0,vac1,vac2,vac3] 3 hB fun b3 w3 g3 L3 o3 q3 hB=>?_
 simp only [p3,p4]
 refine se ?_
 refine ea 33 #[(.bool false),(.slice none 0 0),(.bool false),(.slice none 0 0)] 4 hB fun b4 w4 g4 L4 o4 q4 hB=>?_
 replace L2:=L2.gr g3
 simp only [p3,p4]
 refine sq_nil ?_
 refine k1 _ _ ?_
 try clear k1 K1
 refine wp_seq_k (fun K5 k5=>?_)
 refine rg [0,1,2,3,4] ?_
 replace L2:=L2.gr g4
 refine sw 6 (.agg #[uaa0,uaa1,uaa2,uaa3,uab0,uab1,uab2,uab3,uac0,uac1,uac2,uac3]) rfl (rl 35 0 [uaa0,uaa1,uaa2,uaa3,uab0,uab1,uab2,uab3,uac0,uac1,uac2,uac3] L2) ?_
 replace L3:=L3.gr g4
 refine sw 7 (.agg #[vaa0,vaa1,vaa2,vaa3,vab0,vab1,vab2,vab3,vac0,vac1,vac2,vac3]) rfl (rl 35 0 [vaa0,vaa1,vaa2,vaa3,vab0,vab1,vab2,vab3,vac0,vac1,vac2,vac3] L3) ?_
 refine se ?_
 have kq7:=g2.kp.trans (g3.kp.trans g4.kp)
 replace hua1:=hua1.kp kq7
 replace hua2:=hua2.kp kq7
 replace hua3:=hua3.kp kq7
 replace hva1:=hva1.kp kq7
 replace hva2:=hva2.kp kq7
 replace hva3:=hva3.kp kq7
 refine ec 8 (each_mul hua1 hua2 hua3 hva1 hva2 hva3 (by omega)) ?_
 rintro e6 w6 ⟨⟨t6_0,t6_1,t6_2,t6_3,t6_4,t6_5,t6_6,t6_7,t6_8,t6_9,t6_10,t6_11,rfl,h6a,h6b,h6c⟩,g6⟩
 refine ⟨_,rfl,?_⟩
 replace hB:=hB.trans g6
 simp only [p3,p4]
 refine se ?_
 refine ea 35 #[(.bool false),(.slice none 0 0),(.bool false),(.slice none 0 0),(.bool false),(.slice none 0 0),(.bool false),(.slice none 0 0),(.bool false),(.slice none 0 0),(.bool false),(.slice none 0 0)] 5 hB fun b8 w8 g8 L8 o8 q8 hB=>?_
 replace L4:=L4.gr g6
 have ne4_8:=L4.ne o8
 simp only [p3,p4]
 refine se ?_
 refine es 35 0 (.agg #[t6_0,t6_1,t6_2,t6_3,t6_4,t6_5,t6_6,t6_7,t6_8,t6_9,t6_10,t6_11]) [t6_0,t6_1,t6_2,t6_3,t6_4,t6_5,t6_6,t6_7,t6_8,t6_9,t6_10,t6_11] #[t6_0,t6_1,t6_2,t6_3,t6_4,t6_5,t6_6,t6_7,t6_8,t6_9,t6_10,t6_11] L8 hB q8 ⟨h6a.one0,h6a.one1,h6a.one2,h6a.one3,h6b.one0,h6b.one1,h6b.one2,h6b.one3,h6c.one0,h6c.one1,h6c.one2,h6c.one3,trivial⟩ fun w9 st9 kp9 L8 hB=>?_
 refine sq_nil ?_
 refine k5 _ _ ?_
 try clear k5 K5
 refine wp_seq_k (fun K10 k10=>?_)
 refine rg [0,1,2] ?_
 refine sv 9 (.slice (some ⟨b8,0,none⟩) 3 3) ?_
 refine se ?_
 have kq12:=g8.kp.trans kp9
 replace h6a:=h6a.kp kq12
 replace h6b:=h6b.kp kq12
 replace h6c:=h6c.kp kq12
 refine ec 10 (sum3_r h6a h6b h6c L8 (by omega)) ?_
 rintro e11 w11 ⟨⟨p11,q11,r11,s11,rfl,h11⟩,g11⟩
 refine ⟨_,rfl,?_⟩
 replace hB:=hB.trans g11
 simp only [p3,p4]
 refine se ?_
 replace L4:=(st9.lc (L4.gr g8) ne4_8).gr g11
 refine es 33 0 (.agg #[p11,q11,r11,s11]) [p11,q11,r11,s11] #[p11,q11,r11,s11] L4 hB q4 ⟨h11.one0,h11.one1,h11.one2,h11.one3,trivial⟩ fun w13 st13 kp13 L4 hB=>?_
 refine sq_nil ?_
 refine k10 _ _ ?_
 try clear k10 K10
 refine wp_ret ?_
 refine bodyPost_ret (v:=(.agg #[p11,q11,r11,s11])) (ret_cell _ _ _ rfl rfl L4 (by kernel_rfl)) rfl ⟨?_,hB⟩
 replace h11:=h11.kp kp13
 exact ⟨_,_,_,_,rfl,h11⟩

set_option maxRecDepth 100000 in
set_option maxHeartbeats 8000000 in
theorem cross_v {k m:Nat} {uaa0 uaa1 uaa2 uaa3 uab0 uab1 uab2 uab3 uac0 uac1 uac2 uac3:Value} {a1 a2 a3:Rat} {vaa0 vaa1 vaa2 vaa3 vab0 vab1 vab2 vab3 vac0 vac1 vac2 vac3:Value} {c1 c2 c3:Rat} {w:World} (hua1:IsRat w k uaa0 uaa1 uaa2 uaa3 a1) (hua2:IsRat w k uab0 uab1 uab2 uab3 a2) (hua3:IsRat w k uac0 uac1 uac2 uac3 a3) (hva1:IsRat w m vaa0 vaa1 vaa2 vaa3 c1) (hva2:IsRat w m vab0 vab1 vab2 vab3 c2) (hva3:IsRat w m vac0 vac1 vac2 vac3 c3) (_hk:k+m≤25000):
    Calls Tryz.prog 38 #[(.agg #[uaa0,uaa1,uaa2,uaa3,uab0,uab1,uab2,uab3,uac0,uac1,uac2,uac3]),(.agg #[vaa0,vaa1,vaa2,vaa3,vab0,vab1,vab2,vab3,vac0,vac1,vac2,vac3])] w fun e w'=>(∃ t0 t1 t2 t3 t4 t5 t6 t7 t8 t9 t10 t11,e=.returned (.agg #[t0,t1,t2,t3,t4,t5,t6,t7,t8,t9,t10,t11])∧IsRat w' (k+m+(k+m)+1) t0 t1 t2 t3 (a2*c3 - a3*c2)∧IsRat w' (k+m+(k+m)+1) t4 t5 t6 t7 (a3*c1 - a1*c3)∧IsRat w' (k+m+(k+m)+1) t8 t9 t10 t11 (a1*c2 - a2*c1))∧Gr w w':=by
 go_enter Tryz.func38,Tryz.ntmps38
 have hB:=Gr.refl w
 refine wp_seq_k (fun K1 k1=>?_)
 refine rg [0,1,2] ?_
 refine se ?_
 refine eb 35 #[uaa0,uaa1,uaa2,uaa3,uab0,uab1,uab2,uab3,uac0,uac1,uac2,uac3] 2 hB fun b2 w2 g2 L2 o2 q2 hB=>?_
 simp only [p3,p4]
 refine se ?_
 refine eb 35 #[vaa0,vaa1,vaa2,vaa3,vab0,vab1,vab2,vab3,vac0,vac1,vac2,vac3] 3 hB fun b3 w3 g3 L3 o3 q3 hB=>?_
 simp only [p3,p4]
 refine se ?_
 refine ea 35 #[(.bool false),(.slice none 0 0),(.bool false),(.slice none 0 0),(.bool false),(.slice none 0 0),(.bool false),(.slice none 0 0),(.bool false),(.slice none 0 0),(.bool false),(.slice none 0 0)] 4 hB fun b4 w4 g4 L4 o4 q4 hB=>?_
 replace L2:=L2.gr g3
 simp only [p3,p4]
 refine sq_nil ?_
 refine k1 _ _ ?_
 try clear k1 K1
 refine wp_seq_k (fun K5 k5=>?_)
 refine rg [0] ?_
 refine se ?_
 refine ea 35 #[(.bool false),(.slice none 0 0),(.bool false),(.slice none 0 0),(.bool false),(.slice none 0 0),(.bool false),(.slice none 0 0),(.bool false),(.slice none 0 0),(.bool false),(.slice none 0 0)] 5 hB fun b6 w6 g6 L6 o6 q6 hB=>?_
 replace L2:=L2.gr g4
 have ne2_6:=L2.ne o6
 replace L3:=L3.gr g4
 have ne3_6:=L3.ne o6
 have ne4_6:=L4.ne o6
 simp only [p3,p4]
 refine sq_nil ?_
 refine k5 _ _ ?_
 try clear k5 K5
 refine wp_seq_k (fun K7 k7=>?_)
 refine wp_seq_k (fun K8 k8=>?_)
 refine rg [0] ?_
 refine sv 9 (.int .i64 0) ?_
 refine sq_nil ?_
 refine k8 _ _ ?_
 try clear k8 K8
 refine wp_block ?_
 refine wp_loop_rounds 4 ?_
 show Code.wp _ _ _ _ _
 refine wp_seq_k (fun K9 k9=>?_)
 refine rg [0] ?_
 refine sv 10 (.bool true) ?_
 refine sq_nil ?_
 refine k9 _ _ ?_
 try clear k9 K9
 refine wp_seq_k (fun K10 k10=>?_)
 refine wp_cond_true rfl ?_
 refine wp_skip ?_
 refine k10 _ _ ?_
 try clear k10 K10
 refine wp_seq_k (fun K11 k11=>?_)
 refine wp_block ?_
 refine wp_seq_k (fun K12 k12=>?_)
 refine rg [0,1] ?_
 refine sv 11 (.int .i64 0) ?_
 refine sv 6 (.int .i64 0) ?_
 refine sq_nil ?_
 refine k12 _ _ ?_
 try clear k12 K12
 refine wp_seq_k (fun K13 k13=>?_)
 refine rg [0,1,2,3,4,5,6,7] ?_
 refine sv 12 (.int .i64 0) ?_
 refine sv 13 (.int .i64 1) ?_
 refine sv 14 (.int .i64 1) ?_
 refine sv 15 (.int .i64 0) ?_
 refine sv 16 (.int .i64 2) ?_
 refine sv 17 (.int .i64 2) ?_
 refine sv 7 (.int .i64 1) ?_
 refine sv 8 (.int .i64 2) ?_
 refine sq_nil ?_
 refine k13 _ _ ?_
 try clear k13 K13
 have gd25:=Gr.drew w6
 replace hB:=hB.trans gd25
 replace L2:=L2.gr (g6.trans gd25)
 replace L3:=L3.gr (g6.trans gd25)
 refine wp_region_ord (fun w'=>Lc w' b2 #[uaa0,uaa1,uaa2,uaa3,uab0,uab1,uab2,uab3,uac0,uac1,uac2,uac3] 35∧Lc w' b3 #[vaa0,vaa1,vaa2,vaa3,vab0,vab1,vab2,vab3,vac0,vac1,vac2,vac3] 35) [(true,0),(true,1),(true,2),(true,3),(true,4),(true,5),(true,6),(true,8),(true,9),(true,10),(true,11),(true,12),(true,13),(false,7),(false,14),(false,15),(true,16),(false,17)] (by kernel_rfl) (by kernel_rfl) (by kernel_rfl) (by decide) (fun _ _ _ _ _ h=>h) ⟨L2,L3⟩ ?_
 refine ov 18 (.int .i64 0) ?_
 refine ov 19 (.int .i64 1) ?_
 refine ov 20 (.pointer (some ⟨b2,4,none⟩)) ?_
 refine ow 21 (.agg #[uab0,uab1,uab2,uab3]) rfl (fun w' hS=>(rl 33 4 [uab0,uab1,uab2,uab3] hS.1)) ?_
 refine ov 22 (.int .i64 2) ?_
 refine ov 23 (.pointer (some ⟨b3,8,none⟩)) ?_
 refine ow 24 (.agg #[vac0,vac1,vac2,vac3]) rfl (fun w' hS=>(rl 33 8 [vac0,vac1,vac2,vac3] hS.2)) ?_
 refine ov 26 (.int .i64 2) ?_
 refine ov 27 (.pointer (some ⟨b2,8,none⟩)) ?_
 refine ow 28 (.agg #[uac0,uac1,uac2,uac3]) rfl (fun w' hS=>(rl 33 8 [uac0,uac1,uac2,uac3] hS.1)) ?_
 refine ov 29 (.int .i64 1) ?_
 refine ov 30 (.pointer (some ⟨b3,4,none⟩)) ?_
 refine ow 31 (.agg #[vab0,vab1,vab2,vab3]) rfl (fun w' hS=>(rl 33 4 [vab0,vab1,vab2,vab3] hS.2)) ?_
 refine oe ?_
 have kq28:=g2.kp.trans (g3.kp.trans (g4.kp.trans (g6.kp.trans gd25.kp)))
 replace hua2:=hua2.kp kq28
 replace hva3:=hva3.kp kq28
 refine ec 25 (mul_r hua2 hva3 (by omega)) ?_
 rintro e27 w27 ⟨⟨p27,q27,r27,s27,rfl,h27⟩,g27⟩
 refine ⟨_,rfl,?_⟩
 replace hB:=hB.trans g27
 replace L2:=L2.gr g27
 replace L3:=L3.gr g27
 refine ⟨⟨L2,L3⟩,?_⟩
 simp only [p3,p4]
 refine oe ?_
 have kq31:=g2.kp.trans (g3.kp.trans (g4.kp.trans (g6.kp.trans (gd25.kp.trans g27.kp))))
 replace hua3:=hua3.kp kq31
 replace hva2:=hva2.kp kq31
 refine ec 32 (mul_r hua3 hva2 (by omega)) ?_
 rintro e30 w30 ⟨⟨p30,q30,r30,s30,rfl,h30⟩,g30⟩
 refine ⟨_,rfl,?_⟩
 replace hB:=hB.trans g30
 replace L2:=L2.gr g30
 replace L3:=L3.gr g30
 refine ⟨⟨L2,L3⟩,?_⟩
 simp only [p3,p4]
 refine oe ?_
 replace h27:=h27.kp g30.kp
 refine ec 33 (sub_r h27 h30 (by omega)) ?_
 rintro e33 w33 ⟨⟨p33,q33,r33,s33,rfl,h33⟩,g33⟩
 refine ⟨_,rfl,?_⟩
 replace hB:=hB.trans g33
 replace L2:=L2.gr g33
 replace L3:=L3.gr g33
 refine ⟨⟨L2,L3⟩,?_⟩
 simp only [p3,p4]
 refine ov 34 (.pointer (some ⟨b6,0,none⟩)) ?_
 refine oe ?_
 replace L6:=L6.gr (gd25.trans (g27.trans (g30.trans g33)))
 refine es 33 0 (.agg #[p33,q33,r33,s33]) [p33,q33,r33,s33] #[p33,q33,r33,s33,(.bool false),(.slice none 0 0),(.bool false),(.slice none 0 0),(.bool false),(.slice none 0 0),(.bool false),(.slice none 0 0)] L6 hB q6 ⟨h33.one0,h33.one1,h33.one2,h33.one3,trivial⟩ fun w35 st35 kp35 L6 hB=>?_
 replace L2:=st35.lc L2 ne2_6
 replace L3:=st35.lc L3 ne3_6
 refine ⟨⟨L2,L3⟩,?_⟩
 refine ord_nil ?_
 refine k11 _ _ ?_
 try clear k11 K11
 refine rg [0,1] ?_
 refine sv 35 (.int .i64 1) ?_
 refine sv 9 (.int .i64 1) ?_
 refine sq_nil ?_
 show Code.rounds _ _ _ _ _ _
 show Code.wp _ _ _ _ _
 refine wp_seq_k (fun K36 k36=>?_)
 refine rg [0] ?_
 refine sv 10 (.bool true) ?_
 refine sq_nil ?_
 refine k36 _ _ ?_
 try clear k36 K36
 refine wp_seq_k (fun K37 k37=>?_)
 refine wp_cond_true rfl ?_
 refine wp_skip ?_
 refine k37 _ _ ?_
 try clear k37 K37
 refine wp_seq_k (fun K38 k38=>?_)
 refine wp_block ?_
 refine wp_seq_k (fun K39 k39=>?_)
 refine rg [0,1] ?_
 refine sv 11 (.int .i64 1) ?_
 refine sv 6 (.int .i64 1) ?_
 refine sq_nil ?_
 refine k39 _ _ ?_
 try clear k39 K39
 refine wp_seq_k (fun K40 k40=>?_)
 refine rg [0,1,2,3,4,5,6,7] ?_
 refine sv 12 (.int .i64 1) ?_
 refine sv 13 (.int .i64 2) ?_
 refine sv 14 (.int .i64 2) ?_
 refine sv 15 (.int .i64 1) ?_
 refine sv 16 (.int .i64 3) ?_
 refine sv 17 (.int .i64 0) ?_
 refine sv 7 (.int .i64 2) ?_
 refine sv 8 (.int .i64 0) ?_
 refine sq_nil ?_
 refine k40 _ _ ?_
 try clear k40 K40
 have gd54:=Gr.drew w35
 replace hB:=hB.trans gd54
 replace L2:=L2.gr gd54
 replace L3:=L3.gr gd54
 refine wp_region_ord (fun w'=>Lc w' b2 #[uaa0,uaa1,uaa2,uaa3,uab0,uab1,uab2,uab3,uac0,uac1,uac2,uac3] 35∧Lc w' b3 #[vaa0,vaa1,vaa2,vaa3,vab0,vab1,vab2,vab3,vac0,vac1,vac2,vac3] 35) [(true,0),(true,1),(true,2),(true,3),(true,4),(true,5),(true,6),(true,8),(true,9),(true,10),(true,11),(true,12),(true,13),(false,7),(false,14),(false,15),(true,16),(false,17)] (by kernel_rfl) (by kernel_rfl) (by kernel_rfl) (by decide) (fun _ _ _ _ _ h=>h) ⟨L2,L3⟩ ?_
 refine ov 18 (.int .i64 1) ?_
 refine ov 19 (.int .i64 2) ?_
 refine ov 20 (.pointer (some ⟨b2,8,none⟩)) ?_
 refine ow 21 (.agg #[uac0,uac1,uac2,uac3]) rfl (fun w' hS=>(rl 33 8 [uac0,uac1,uac2,uac3] hS.1)) ?_
 refine ov 22 (.int .i64 0) ?_
 refine ov 23 (.pointer (some ⟨b3,0,none⟩)) ?_
 refine ow 24 (.agg #[vaa0,vaa1,vaa2,vaa3]) rfl (fun w' hS=>(rl 33 0 [vaa0,vaa1,vaa2,vaa3] hS.2)) ?_
 refine ov 26 (.int .i64 0) ?_
 refine ov 27 (.pointer (some ⟨b2,0,none⟩)) ?_
 refine ow 28 (.agg #[uaa0,uaa1,uaa2,uaa3]) rfl (fun w' hS=>(rl 33 0 [uaa0,uaa1,uaa2,uaa3] hS.1)) ?_
 refine ov 29 (.int .i64 2) ?_
 refine ov 30 (.pointer (some ⟨b3,8,none⟩)) ?_
 refine ow 31 (.agg #[vac0,vac1,vac2,vac3]) rfl (fun w' hS=>(rl 33 8 [vac0,vac1,vac2,vac3] hS.2)) ?_
 refine oe ?_
 have kq57:=g30.kp.trans (g33.kp.trans (kp35.trans gd54.kp))
 replace hua3:=hua3.kp kq57
 have kq58:=g2.kp.trans (g3.kp.trans (g4.kp.trans (g6.kp.trans (gd25.kp.trans (g27.kp.trans (g30.kp.trans (g33.kp.trans (kp35.trans gd54.kp))))))))
 replace hva1:=hva1.kp kq58
 refine ec 25 (mul_r hua3 hva1 (by omega)) ?_
 rintro e56 w56 ⟨⟨p56,q56,r56,s56,rfl,h56⟩,g56⟩
 refine ⟨_,rfl,?_⟩
 replace hB:=hB.trans g56
 replace L2:=L2.gr g56
 replace L3:=L3.gr g56
 refine ⟨⟨L2,L3⟩,?_⟩
 simp only [p3,p4]
 refine oe ?_
 have kq61:=g2.kp.trans (g3.kp.trans (g4.kp.trans (g6.kp.trans (gd25.kp.trans (g27.kp.trans (g30.kp.trans (g33.kp.trans (kp35.trans (gd54.kp.trans g56.kp)))))))))
 replace hua1:=hua1.kp kq61
 have kq62:=g27.kp.trans (g30.kp.trans (g33.kp.trans (kp35.trans (gd54.kp.trans g56.kp))))
 replace hva3:=hva3.kp kq62
 refine ec 32 (mul_r hua1 hva3 (by omega)) ?_
 rintro e60 w60 ⟨⟨p60,q60,r60,s60,rfl,h60⟩,g60⟩
 refine ⟨_,rfl,?_⟩
 replace hB:=hB.trans g60
 replace L2:=L2.gr g60
 replace L3:=L3.gr g60
 refine ⟨⟨L2,L3⟩,?_⟩
 simp only [p3,p4]
 refine oe ?_
 replace h56:=h56.kp g60.kp
 refine ec 33 (sub_r h56 h60 (by omega)) ?_
 rintro e64 w64 ⟨⟨p64,q64,r64,s64,rfl,h64⟩,g64⟩
 refine ⟨_,rfl,?_⟩
 replace hB:=hB.trans g64
 replace L2:=L2.gr g64
 replace L3:=L3.gr g64
 refine ⟨⟨L2,L3⟩,?_⟩
 simp only [p3,p4]
 refine ov 34 (.pointer (some ⟨b6,4,none⟩)) ?_
 refine oe ?_
 replace L6:=L6.gr (gd54.trans (g56.trans (g60.trans g64)))
 refine es 33 4 (.agg #[p64,q64,r64,s64]) [p64,q64,r64,s64] #[p33,q33,r33,s33,p64,q64,r64,s64,(.bool false),(.slice none 0 0),(.bool false),(.slice none 0 0)] L6 hB q6 ⟨h64.one0,h64.one1,h64.one2,h64.one3,trivial⟩ fun w66 st66 kp66 L6 hB=>?_
 replace L2:=st66.lc L2 ne2_6
 replace L3:=st66.lc L3 ne3_6
 refine ⟨⟨L2,L3⟩,?_⟩
 refine ord_nil ?_
 refine k38 _ _ ?_
 try clear k38 K38
 refine rg [0,1] ?_
 refine sv 35 (.int .i64 2) ?_
 refine sv 9 (.int .i64 2) ?_
 refine sq_nil ?_
 show Code.rounds _ _ _ _ _ _
 show Code.wp _ _ _ _ _
 refine wp_seq_k (fun K67 k67=>?_)
 refine rg [0] ?_
 refine sv 10 (.bool true) ?_
 refine sq_nil ?_
 refine k67 _ _ ?_
 try clear k67 K67
 refine wp_seq_k (fun K68 k68=>?_)
 refine wp_cond_true rfl ?_
 refine wp_skip ?_
 refine k68 _ _ ?_
 try clear k68 K68
 refine wp_seq_k (fun K69 k69=>?_)
 refine wp_block ?_
 refine wp_seq_k (fun K70 k70=>?_)
 refine rg [0,1] ?_
 refine sv 11 (.int .i64 2) ?_
 refine sv 6 (.int .i64 2) ?_
 refine sq_nil ?_
 refine k70 _ _ ?_
 try clear k70 K70
 refine wp_seq_k (fun K71 k71=>?_)
 refine rg [0,1,2,3,4,5,6,7] ?_
 refine sv 12 (.int .i64 2) ?_
 refine sv 13 (.int .i64 3) ?_
 refine sv 14 (.int .i64 0) ?_
 refine sv 15 (.int .i64 2) ?_
 refine sv 16 (.int .i64 4) ?_
 refine sv 17 (.int .i64 1) ?_
 refine sv 7 (.int .i64 0) ?_
 refine sv 8 (.int .i64 1) ?_
 refine sq_nil ?_
 refine k71 _ _ ?_
 try clear k71 K71
 have gd85:=Gr.drew w66
 replace hB:=hB.trans gd85
 replace L2:=L2.gr gd85
 replace L3:=L3.gr gd85
 refine wp_region_ord (fun w'=>Lc w' b2 #[uaa0,uaa1,uaa2,uaa3,uab0,uab1,uab2,uab3,uac0,uac1,uac2,uac3] 35∧Lc w' b3 #[vaa0,vaa1,vaa2,vaa3,vab0,vab1,vab2,vab3,vac0,vac1,vac2,vac3] 35) [(true,0),(true,1),(true,2),(true,3),(true,4),(true,5),(true,6),(true,8),(true,9),(true,10),(true,11),(true,12),(true,13),(false,7),(false,14),(false,15),(true,16),(false,17)] (by kernel_rfl) (by kernel_rfl) (by kernel_rfl) (by decide) (fun _ _ _ _ _ h=>h) ⟨L2,L3⟩ ?_
 refine ov 18 (.int .i64 2) ?_
 refine ov 19 (.int .i64 0) ?_
 refine ov 20 (.pointer (some ⟨b2,0,none⟩)) ?_
 refine ow 21 (.agg #[uaa0,uaa1,uaa2,uaa3]) rfl (fun w' hS=>(rl 33 0 [uaa0,uaa1,uaa2,uaa3] hS.1)) ?_
 refine ov 22 (.int .i64 1) ?_
 refine ov 23 (.pointer (some ⟨b3,4,none⟩)) ?_
 refine ow 24 (.agg #[vab0,vab1,vab2,vab3]) rfl (fun w' hS=>(rl 33 4 [vab0,vab1,vab2,vab3] hS.2)) ?_
 refine ov 26 (.int .i64 1) ?_
 refine ov 27 (.pointer (some ⟨b2,4,none⟩)) ?_
 refine ow 28 (.agg #[uab0,uab1,uab2,uab3]) rfl (fun w' hS=>(rl 33 4 [uab0,uab1,uab2,uab3] hS.1)) ?_
 refine ov 29 (.int .i64 0) ?_
 refine ov 30 (.pointer (some ⟨b3,0,none⟩)) ?_
 refine ow 31 (.agg #[vaa0,vaa1,vaa2,vaa3]) rfl (fun w' hS=>(rl 33 0 [vaa0,vaa1,vaa2,vaa3] hS.2)) ?_
 refine oe ?_
 have kq88:=g60.kp.trans (g64.kp.trans (kp66.trans gd85.kp))
 replace hua1:=hua1.kp kq88
 have kq89:=g30.kp.trans (g33.kp.trans (kp35.trans (gd54.kp.trans (g56.kp.trans (g60.kp.trans (g64.kp.trans (kp66.trans gd85.kp)))))))
 replace hva2:=hva2.kp kq89
 refine ec 25 (mul_r hua1 hva2 (by omega)) ?_
 rintro e87 w87 ⟨⟨p87,q87,r87,s87,rfl,h87⟩,g87⟩
 refine ⟨_,rfl,?_⟩
 replace hB:=hB.trans g87
 replace L2:=L2.gr g87
 replace L3:=L3.gr g87
 refine ⟨⟨L2,L3⟩,?_⟩
 simp only [p3,p4]
 refine oe ?_
 have kq92:=g27.kp.trans (g30.kp.trans (g33.kp.trans (kp35.trans (gd54.kp.trans (g56.kp.trans (g60.kp.trans (g64.kp.trans (kp66.trans (gd85.kp.trans g87.kp)))))))))
 replace hua2:=hua2.kp kq92
 have kq93:=g56.kp.trans (g60.kp.trans (g64.kp.trans (kp66.trans (gd85.kp.trans g87.kp))))
 replace hva1:=hva1.kp kq93
 refine ec 32 (mul_r hua2 hva1 (by omega)) ?_
 rintro e91 w91 ⟨⟨p91,q91,r91,s91,rfl,h91⟩,g91⟩
 refine ⟨_,rfl,?_⟩
 replace hB:=hB.trans g91
 replace L2:=L2.gr g91
 replace L3:=L3.gr g91
 refine ⟨⟨L2,L3⟩,?_⟩
 simp only [p3,p4]
 refine oe ?_
 replace h87:=h87.kp g91.kp
 refine ec 33 (sub_r h87 h91 (by omega)) ?_
 rintro e95 w95 ⟨⟨p95,q95,r95,s95,rfl,h95⟩,g95⟩
 refine ⟨_,rfl,?_⟩
 replace hB:=hB.trans g95
 replace L2:=L2.gr g95
 replace L3:=L3.gr g95
 refine ⟨⟨L2,L3⟩,?_⟩
 simp only [p3,p4]
 refine ov 34 (.pointer (some ⟨b6,8,none⟩)) ?_
 refine oe ?_
 replace L6:=L6.gr (gd85.trans (g87.trans (g91.trans g95)))
 refine es 33 8 (.agg #[p95,q95,r95,s95]) [p95,q95,r95,s95] #[p33,q33,r33,s33,p64,q64,r64,s64,p95,q95,r95,s95] L6 hB q6 ⟨h95.one0,h95.one1,h95.one2,h95.one3,trivial⟩ fun w97 st97 kp97 L6 hB=>?_
 replace L2:=st97.lc L2 ne2_6
 replace L3:=st97.lc L3 ne3_6
 refine ⟨⟨L2,L3⟩,?_⟩
 refine ord_nil ?_
 refine k69 _ _ ?_
 try clear k69 K69
 refine rg [0,1] ?_
 refine sv 35 (.int .i64 3) ?_
 refine sv 9 (.int .i64 3) ?_
 refine sq_nil ?_
 show Code.rounds _ _ _ _ _ _
 show Code.wp _ _ _ _ _
 refine wp_seq_k (fun K98 k98=>?_)
 refine rg [0] ?_
 refine sv 10 (.bool false) ?_
 refine sq_nil ?_
 refine k98 _ _ ?_
 try clear k98 K98
 refine wp_seq_k (fun K99 k99=>?_)
 refine wp_cond_false rfl ?_
 refine wp_exit ?_
 simp only [Exit.then,Exit.inBlock,↓reduceIte]
 refine k7 _ _ ?_
 try clear k7 K7
 refine wp_seq_k (fun K100 k100=>?_)
 refine rg [0,1] ?_
 refine sw 36 (.agg #[p33,q33,r33,s33,p64,q64,r64,s64,p95,q95,r95,s95]) rfl (rl 35 0 [p33,q33,r33,s33,p64,q64,r64,s64,p95,q95,r95,s95] L6) ?_
 refine se ?_
 replace L4:=st97.lc ((st66.lc ((st35.lc (L4.gr (g6.trans (gd25.trans (g27.trans (g30.trans g33))))) ne4_6).gr (gd54.trans (g56.trans (g60.trans g64)))) ne4_6).gr (gd85.trans (g87.trans (g91.trans g95)))) ne4_6
 refine es 35 0 (.agg #[p33,q33,r33,s33,p64,q64,r64,s64,p95,q95,r95,s95]) [p33,q33,r33,s33,p64,q64,r64,s64,p95,q95,r95,s95] #[p33,q33,r33,s33,p64,q64,r64,s64,p95,q95,r95,s95] L4 hB q4 ⟨h33.one0,h33.one1,h33.one2,h33.one3,h64.one0,h64.one1,h64.one2,h64.one3,h95.one0,h95.one1,h95.one2,h95.one3,trivial⟩ fun w101 st101 kp101 L4 hB=>?_
 refine sq_nil ?_
 refine k100 _ _ ?_
 try clear k100 K100
 refine wp_ret ?_
 refine bodyPost_ret (v:=(.agg #[p33,q33,r33,s33,p64,q64,r64,s64,p95,q95,r95,s95])) (ret_cell _ _ _ rfl rfl L4 (by kernel_rfl)) rfl ⟨?_,hB⟩
 have kq102:=kp35.trans (gd54.kp.trans (g56.kp.trans (g60.kp.trans (g64.kp.trans (kp66.trans (gd85.kp.trans (g87.kp.trans (g91.kp.trans (g95.kp.trans (kp97.trans kp101))))))))))
 replace h33:=h33.kp kq102
 have kq103:=kp66.trans (gd85.kp.trans (g87.kp.trans (g91.kp.trans (g95.kp.trans (kp97.trans kp101)))))
 replace h64:=h64.kp kq103
 have kq104:=kp97.trans kp101
 replace h95:=h95.kp kq104
 exact ⟨_,_,_,_,_,_,_,_,_,_,_,_,rfl,h33,h64,h95⟩

/-- the order of two vectors -/
def vcmp (a1 a2 a3 c1 c2 c3:Rat):Int:=if rcmp a1 c1=0 then if rcmp a2 c2=0 then rcmp a3 c3 else rcmp a2 c2 else rcmp a1 c1
theorem vcmp_zero {a1 a2 a3 c1 c2 c3:Rat}:vcmp a1 a2 a3 c1 c2 c3=0↔a1=c1∧a2=c2∧a3=c3:=by
  unfold vcmp
  rw [← rcmp_zero (a:=a1),← rcmp_zero (a:=a2),← rcmp_zero (a:=a3)]
  split
  · split<;>simp_all
  · simp_all

set_option maxRecDepth 100000 in
set_option maxHeartbeats 1000000 in
theorem vcomp_1 {k m:Nat} {uaa0 uaa1 uaa2 uaa3 uab0 uab1 uab2 uab3 uac0 uac1 uac2 uac3:Value} {a1 a2 a3:Rat} {vaa0 vaa1 vaa2 vaa3 vab0 vab1 vab2 vab3 vac0 vac1 vac2 vac3:Value} {c1 c2 c3:Rat} {w:World} (hua1:IsRat w k uaa0 uaa1 uaa2 uaa3 a1) (_hua2:IsRat w k uab0 uab1 uab2 uab3 a2) (_hua3:IsRat w k uac0 uac1 uac2 uac3 a3) (hva1:IsRat w m vaa0 vaa1 vaa2 vaa3 c1) (_hva2:IsRat w m vab0 vab1 vab2 vab3 c2) (_hva3:IsRat w m vac0 vac1 vac2 vac3 c3) (_hk:k+m≤100000) (e1:(rcmp a1 c1 !=(0:Int))=true):
    Calls Tryz.prog 39 #[(.agg #[uaa0,uaa1,uaa2,uaa3,uab0,uab1,uab2,uab3,uac0,uac1,uac2,uac3]),(.agg #[vaa0,vaa1,vaa2,vaa3,vab0,vab1,vab2,vab3,vac0,vac1,vac2,vac3])] w fun e w'=>e=.returned (.int .i64 (rcmp a1 c1))∧Gr w w':=by
 go_enter Tryz.func39,Tryz.ntmps39
 have hB:=Gr.refl w
 refine wp_seq_k (fun K1 k1=>?_)
 refine rg [0,1,2] ?_
 refine se ?_
 refine eb 35 #[uaa0,uaa1,uaa2,uaa3,uab0,uab1,uab2,uab3,uac0,uac1,uac2,uac3] 2 hB fun b2 w2 g2 L2 o2 q2 hB=>?_
 simp only [p3,p4]
 refine se ?_
 refine eb 35 #[vaa0,vaa1,vaa2,vaa3,vab0,vab1,vab2,vab3,vac0,vac1,vac2,vac3] 3 hB fun b3 w3 g3 L3 o3 q3 hB=>?_
 simp only [p3,p4]
 refine sv 4 (.int .i64 0) ?_
 refine sq_nil ?_
 refine k1 _ _ ?_
 try clear k1 K1
 refine wp_seq_k (fun K4 k4=>?_)
 refine wp_seq_k (fun K5 k5=>?_)
 refine rg [0] ?_
 refine sv 7 (.int .i64 0) ?_
 refine sq_nil ?_
 refine k5 _ _ ?_
 try clear k5 K5
 refine wp_block ?_
 refine wp_loop_rounds 4 ?_
 show Code.wp _ _ _ _ _
 refine wp_seq_k (fun K6 k6=>?_)
 refine rg [0] ?_
 refine sv 8 (.bool true) ?_
 refine sq_nil ?_
 refine k6 _ _ ?_
 try clear k6 K6
 refine wp_seq_k (fun K7 k7=>?_)
 refine wp_cond_true rfl ?_
 refine wp_skip ?_
 refine k7 _ _ ?_
 try clear k7 K7
 refine wp_seq_k (fun K8 k8=>?_)
 refine wp_block ?_
 refine wp_seq_k (fun K9 k9=>?_)
 refine rg [0,1] ?_
 refine sv 9 (.int .i64 0) ?_
 refine sv 5 (.int .i64 0) ?_
 refine sq_nil ?_
 refine k9 _ _ ?_
 try clear k9 K9
 refine wp_seq_k (fun K10 k10=>?_)
 have gd15:=Gr.drew w3
 replace hB:=hB.trans gd15
 replace L2:=L2.gr (g3.trans gd15)
 replace L3:=L3.gr gd15
 refine wp_region_ord (fun w'=>Lc w' b2 #[uaa0,uaa1,uaa2,uaa3,uab0,uab1,uab2,uab3,uac0,uac1,uac2,uac3] 35∧Lc w' b3 #[vaa0,vaa1,vaa2,vaa3,vab0,vab1,vab2,vab3,vac0,vac1,vac2,vac3] 35) [(true,0),(true,1),(true,2),(true,3),(true,4),(true,5),(false,6),(true,7)] (by kernel_rfl) (by kernel_rfl) (by kernel_rfl) (by decide) (fun _ _ _ _ _ h=>h) ⟨L2,L3⟩ ?_
 refine ov 10 (.int .i64 0) ?_
 refine ov 11 (.pointer (some ⟨b2,0,none⟩)) ?_
 refine ow 12 (.agg #[uaa0,uaa1,uaa2,uaa3]) rfl (fun w' hS=>(rl 33 0 [uaa0,uaa1,uaa2,uaa3] hS.1)) ?_
 refine ov 13 (.int .i64 0) ?_
 refine ov 14 (.pointer (some ⟨b3,0,none⟩)) ?_
 refine ow 15 (.agg #[vaa0,vaa1,vaa2,vaa3]) rfl (fun w' hS=>(rl 33 0 [vaa0,vaa1,vaa2,vaa3] hS.2)) ?_
 refine oe ?_
 have kq18:=g2.kp.trans (g3.kp.trans gd15.kp)
 replace hua1:=hua1.kp kq18
 replace hva1:=hva1.kp kq18
 refine ec 16 (compare_r hua1 hva1 (by omega)) ?_
 rintro e17 w17 ⟨rfl,g17⟩
 refine ⟨_,rfl,?_⟩
 replace hB:=hB.trans g17
 replace L2:=L2.gr g17
 replace L3:=L3.gr g17
 refine ⟨⟨L2,L3⟩,?_⟩
 simp only [p3,p4]
 refine ov 6 (.int .i64 (rcmp a1 c1)) ?_
 refine ord_nil ?_
 refine k10 _ _ ?_
 try clear k10 K10
 refine wp_seq_k (fun K19 k19=>?_)
 refine rg [0,1] ?_
 refine sv 17 (.int .i64 (rcmp a1 c1)) ?_
 refine sw 18 (.bool true) rfl (RunV.bool (x:=(rcmp a1 c1 !=(0:Int))) (rvk (by kernel_rfl)) e1) ?_
 refine sq_nil ?_
 refine k19 _ _ ?_
 try clear k19 K19
 refine wp_cond_true rfl ?_
 refine wp_seq_k (fun K20 k20=>?_)
 refine rg [0,1] ?_
 refine sv 19 (.int .i64 (rcmp a1 c1)) ?_
 refine sv 4 (.int .i64 (rcmp a1 c1)) ?_
 refine sq_nil ?_
 refine k20 _ _ ?_
 try clear k20 K20
 refine wp_ret ?_
 simp only [Exit.then,Exit.inBlock]
 refine bodyPost_ret (v:=(.int .i64 (rcmp a1 c1))) (ret_tmp rfl rfl) rfl ⟨?_,hB⟩
 exact rfl

set_option maxRecDepth 100000 in
set_option maxHeartbeats 1000000 in
theorem vcomp_2 {k m:Nat} {uaa0 uaa1 uaa2 uaa3 uab0 uab1 uab2 uab3 uac0 uac1 uac2 uac3:Value} {a1 a2 a3:Rat} {vaa0 vaa1 vaa2 vaa3 vab0 vab1 vab2 vab3 vac0 vac1 vac2 vac3:Value} {c1 c2 c3:Rat} {w:World} (hua1:IsRat w k uaa0 uaa1 uaa2 uaa3 a1) (hua2:IsRat w k uab0 uab1 uab2 uab3 a2) (_hua3:IsRat w k uac0 uac1 uac2 uac3 a3) (hva1:IsRat w m vaa0 vaa1 vaa2 vaa3 c1) (hva2:IsRat w m vab0 vab1 vab2 vab3 c2) (_hva3:IsRat w m vac0 vac1 vac2 vac3 c3) (_hk:k+m≤100000) (e1:(rcmp a1 c1 !=(0:Int))=false) (e2:(rcmp a2 c2 !=(0:Int))=true):
    Calls Tryz.prog 39 #[(.agg #[uaa0,uaa1,uaa2,uaa3,uab0,uab1,uab2,uab3,uac0,uac1,uac2,uac3]),(.agg #[vaa0,vaa1,vaa2,vaa3,vab0,vab1,vab2,vab3,vac0,vac1,vac2,vac3])] w fun e w'=>e=.returned (.int .i64 (rcmp a2 c2))∧Gr w w':=by
 go_enter Tryz.func39,Tryz.ntmps39
 have hB:=Gr.refl w
 refine wp_seq_k (fun K1 k1=>?_)
 refine rg [0,1,2] ?_
 refine se ?_
 refine eb 35 #[uaa0,uaa1,uaa2,uaa3,uab0,uab1,uab2,uab3,uac0,uac1,uac2,uac3] 2 hB fun b2 w2 g2 L2 o2 q2 hB=>?_
 simp only [p3,p4]
 refine se ?_
 refine eb 35 #[vaa0,vaa1,vaa2,vaa3,vab0,vab1,vab2,vab3,vac0,vac1,vac2,vac3] 3 hB fun b3 w3 g3 L3 o3 q3 hB=>?_
 simp only [p3,p4]
 refine sv 4 (.int .i64 0) ?_
 refine sq_nil ?_
 refine k1 _ _ ?_
 try clear k1 K1
 refine wp_seq_k (fun K4 k4=>?_)
 refine wp_seq_k (fun K5 k5=>?_)
 refine rg [0] ?_
 refine sv 7 (.int .i64 0) ?_
 refine sq_nil ?_
 refine k5 _ _ ?_
 try clear k5 K5
 refine wp_block ?_
 refine wp_loop_rounds 4 ?_
 show Code.wp _ _ _ _ _
 refine wp_seq_k (fun K6 k6=>?_)
 refine rg [0] ?_
 refine sv 8 (.bool true) ?_
 refine sq_nil ?_
 refine k6 _ _ ?_
 try clear k6 K6
 refine wp_seq_k (fun K7 k7=>?_)
 refine wp_cond_true rfl ?_
 refine wp_skip ?_
 refine k7 _ _ ?_
 try clear k7 K7
 refine wp_seq_k (fun K8 k8=>?_)
 refine wp_block ?_
 refine wp_seq_k (fun K9 k9=>?_)
 refine rg [0,1] ?_
 refine sv 9 (.int .i64 0) ?_
 refine sv 5 (.int .i64 0) ?_
 refine sq_nil ?_
 refine k9 _ _ ?_
 try clear k9 K9
 refine wp_seq_k (fun K10 k10=>?_)
 have gd15:=Gr.drew w3
 replace hB:=hB.trans gd15
 replace L2:=L2.gr (g3.trans gd15)
 replace L3:=L3.gr gd15
 refine wp_region_ord (fun w'=>Lc w' b2 #[uaa0,uaa1,uaa2,uaa3,uab0,uab1,uab2,uab3,uac0,uac1,uac2,uac3] 35∧Lc w' b3 #[vaa0,vaa1,vaa2,vaa3,vab0,vab1,vab2,vab3,vac0,vac1,vac2,vac3] 35) [(true,0),(true,1),(true,2),(true,3),(true,4),(true,5),(false,6),(true,7)] (by kernel_rfl) (by kernel_rfl) (by kernel_rfl) (by decide) (fun _ _ _ _ _ h=>h) ⟨L2,L3⟩ ?_
 refine ov 10 (.int .i64 0) ?_
 refine ov 11 (.pointer (some ⟨b2,0,none⟩)) ?_
 refine ow 12 (.agg #[uaa0,uaa1,uaa2,uaa3]) rfl (fun w' hS=>(rl 33 0 [uaa0,uaa1,uaa2,uaa3] hS.1)) ?_
 refine ov 13 (.int .i64 0) ?_
 refine ov 14 (.pointer (some ⟨b3,0,none⟩)) ?_
 refine ow 15 (.agg #[vaa0,vaa1,vaa2,vaa3]) rfl (fun w' hS=>(rl 33 0 [vaa0,vaa1,vaa2,vaa3] hS.2)) ?_
 refine oe ?_
 have kq18:=g2.kp.trans (g3.kp.trans gd15.kp)
 replace hua1:=hua1.kp kq18
 replace hva1:=hva1.kp kq18
 refine ec 16 (compare_r hua1 hva1 (by omega)) ?_
 rintro e17 w17 ⟨rfl,g17⟩
 refine ⟨_,rfl,?_⟩
 replace hB:=hB.trans g17
 replace L2:=L2.gr g17
 replace L3:=L3.gr g17
 refine ⟨⟨L2,L3⟩,?_⟩
 simp only [p3,p4]
 refine ov 6 (.int .i64 (rcmp a1 c1)) ?_
 refine ord_nil ?_
 refine k10 _ _ ?_
 try clear k10 K10
 refine wp_seq_k (fun K19 k19=>?_)
 refine rg [0,1] ?_
 refine sv 17 (.int .i64 (rcmp a1 c1)) ?_
 refine sw 18 (.bool false) rfl (RunV.bool (x:=(rcmp a1 c1 !=(0:Int))) (rvk (by kernel_rfl)) e1) ?_
 refine sq_nil ?_
 refine k19 _ _ ?_
 try clear k19 K19
 refine wp_cond_false rfl ?_
 refine wp_skip ?_
 refine k8 _ _ ?_
 try clear k8 K8
 refine rg [0,1] ?_
 refine sv 20 (.int .i64 1) ?_
 refine sv 7 (.int .i64 1) ?_
 refine sq_nil ?_
 show Code.rounds _ _ _ _ _ _
 show Code.wp _ _ _ _ _
 refine wp_seq_k (fun K20 k20=>?_)
 refine rg [0] ?_
 refine sv 8 (.bool true) ?_
 refine sq_nil ?_
 refine k20 _ _ ?_
 try clear k20 K20
 refine wp_seq_k (fun K21 k21=>?_)
 refine wp_cond_true rfl ?_
 refine wp_skip ?_
 refine k21 _ _ ?_
 try clear k21 K21
 refine wp_seq_k (fun K22 k22=>?_)
 refine wp_block ?_
 refine wp_seq_k (fun K23 k23=>?_)
 refine rg [0,1] ?_
 refine sv 9 (.int .i64 1) ?_
 refine sv 5 (.int .i64 1) ?_
 refine sq_nil ?_
 refine k23 _ _ ?_
 try clear k23 K23
 refine wp_seq_k (fun K24 k24=>?_)
 have gd29:=Gr.drew w17
 replace hB:=hB.trans gd29
 replace L2:=L2.gr gd29
 replace L3:=L3.gr gd29
 refine wp_region_ord (fun w'=>Lc w' b2 #[uaa0,uaa1,uaa2,uaa3,uab0,uab1,uab2,uab3,uac0,uac1,uac2,uac3] 35∧Lc w' b3 #[vaa0,vaa1,vaa2,vaa3,vab0,vab1,vab2,vab3,vac0,vac1,vac2,vac3] 35) [(true,0),(true,1),(true,2),(true,3),(true,4),(true,5),(false,6),(true,7)] (by kernel_rfl) (by kernel_rfl) (by kernel_rfl) (by decide) (fun _ _ _ _ _ h=>h) ⟨L2,L3⟩ ?_
 refine ov 10 (.int .i64 1) ?_
 refine ov 11 (.pointer (some ⟨b2,4,none⟩)) ?_
 refine ow 12 (.agg #[uab0,uab1,uab2,uab3]) rfl (fun w' hS=>(rl 33 4 [uab0,uab1,uab2,uab3] hS.1)) ?_
 refine ov 13 (.int .i64 1) ?_
 refine ov 14 (.pointer (some ⟨b3,4,none⟩)) ?_
 refine ow 15 (.agg #[vab0,vab1,vab2,vab3]) rfl (fun w' hS=>(rl 33 4 [vab0,vab1,vab2,vab3] hS.2)) ?_
 refine oe ?_
 have kq32:=g2.kp.trans (g3.kp.trans (gd15.kp.trans (g17.kp.trans gd29.kp)))
 replace hua2:=hua2.kp kq32
 replace hva2:=hva2.kp kq32
 refine ec 16 (compare_r hua2 hva2 (by omega)) ?_
 rintro e31 w31 ⟨rfl,g31⟩
 refine ⟨_,rfl,?_⟩
 replace hB:=hB.trans g31
 replace L2:=L2.gr g31
 replace L3:=L3.gr g31
 refine ⟨⟨L2,L3⟩,?_⟩
 simp only [p3,p4]
 refine ov 6 (.int .i64 (rcmp a2 c2)) ?_
 refine ord_nil ?_
 refine k24 _ _ ?_
 try clear k24 K24
 refine wp_seq_k (fun K33 k33=>?_)
 refine rg [0,1] ?_
 refine sv 17 (.int .i64 (rcmp a2 c2)) ?_
 refine sw 18 (.bool true) rfl (RunV.bool (x:=(rcmp a2 c2 !=(0:Int))) (rvk (by kernel_rfl)) e2) ?_
 refine sq_nil ?_
 refine k33 _ _ ?_
 try clear k33 K33
 refine wp_cond_true rfl ?_
 refine wp_seq_k (fun K34 k34=>?_)
 refine rg [0,1] ?_
 refine sv 19 (.int .i64 (rcmp a2 c2)) ?_
 refine sv 4 (.int .i64 (rcmp a2 c2)) ?_
 refine sq_nil ?_
 refine k34 _ _ ?_
 try clear k34 K34
 refine wp_ret ?_
 simp only [Exit.then,Exit.inBlock]
 refine bodyPost_ret (v:=(.int .i64 (rcmp a2 c2))) (ret_tmp rfl rfl) rfl ⟨?_,hB⟩
 exact rfl

set_option maxRecDepth 100000 in
set_option maxHeartbeats 1000000 in
theorem vcomp_3 {k m:Nat} {uaa0 uaa1 uaa2 uaa3 uab0 uab1 uab2 uab3 uac0 uac1 uac2 uac3:Value} {a1 a2 a3:Rat} {vaa0 vaa1 vaa2 vaa3 vab0 vab1 vab2 vab3 vac0 vac1 vac2 vac3:Value} {c1 c2 c3:Rat} {w:World} (hua1:IsRat w k uaa0 uaa1 uaa2 uaa3 a1) (hua2:IsRat w k uab0 uab1 uab2 uab3 a2) (hua3:IsRat w k uac0 uac1 uac2 uac3 a3) (hva1:IsRat w m vaa0 vaa1 vaa2 vaa3 c1) (hva2:IsRat w m vab0 vab1 vab2 vab3 c2) (hva3:IsRat w m vac0 vac1 vac2 vac3 c3) (_hk:k+m≤100000) (e1:(rcmp a1 c1 !=(0:Int))=false) (e2:(rcmp a2 c2 !=(0:Int))=false) (e3:(rcmp a3 c3 !=(0:Int))=true):
    Calls Tryz.prog 39 #[(.agg #[uaa0,uaa1,uaa2,uaa3,uab0,uab1,uab2,uab3,uac0,uac1,uac2,uac3]),(.agg #[vaa0,vaa1,vaa2,vaa3,vab0,vab1,vab2,vab3,vac0,vac1,vac2,vac3])] w fun e w'=>e=.returned (.int .i64 (rcmp a3 c3))∧Gr w w':=by
 go_enter Tryz.func39,Tryz.ntmps39
 have hB:=Gr.refl w
 refine wp_seq_k (fun K1 k1=>?_)
 refine rg [0,1,2] ?_
 refine se ?_
 refine eb 35 #[uaa0,uaa1,uaa2,uaa3,uab0,uab1,uab2,uab3,uac0,uac1,uac2,uac3] 2 hB fun b2 w2 g2 L2 o2 q2 hB=>?_
 simp only [p3,p4]
 refine se ?_
 refine eb 35 #[vaa0,vaa1,vaa2,vaa3,vab0,vab1,vab2,vab3,vac0,vac1,vac2,vac3] 3 hB fun b3 w3 g3 L3 o3 q3 hB=>?_
 simp only [p3,p4]
 refine sv 4 (.int .i64 0) ?_
 refine sq_nil ?_
 refine k1 _ _ ?_
 try clear k1 K1
 refine wp_seq_k (fun K4 k4=>?_)
 refine wp_seq_k (fun K5 k5=>?_)
 refine rg [0] ?_
 refine sv 7 (.int .i64 0) ?_
 refine sq_nil ?_
 refine k5 _ _ ?_
 try clear k5 K5
 refine wp_block ?_
 refine wp_loop_rounds 4 ?_
 show Code.wp _ _ _ _ _
 refine wp_seq_k (fun K6 k6=>?_)
 refine rg [0] ?_
 refine sv 8 (.bool true) ?_
 refine sq_nil ?_
 refine k6 _ _ ?_
 try clear k6 K6
 refine wp_seq_k (fun K7 k7=>?_)
 refine wp_cond_true rfl ?_
 refine wp_skip ?_
 refine k7 _ _ ?_
 try clear k7 K7
 refine wp_seq_k (fun K8 k8=>?_)
 refine wp_block ?_
 refine wp_seq_k (fun K9 k9=>?_)
 refine rg [0,1] ?_
 refine sv 9 (.int .i64 0) ?_
 refine sv 5 (.int .i64 0) ?_
 refine sq_nil ?_
 refine k9 _ _ ?_
 try clear k9 K9
 refine wp_seq_k (fun K10 k10=>?_)
 have gd15:=Gr.drew w3
 replace hB:=hB.trans gd15
 replace L2:=L2.gr (g3.trans gd15)
 replace L3:=L3.gr gd15
 refine wp_region_ord (fun w'=>Lc w' b2 #[uaa0,uaa1,uaa2,uaa3,uab0,uab1,uab2,uab3,uac0,uac1,uac2,uac3] 35∧Lc w' b3 #[vaa0,vaa1,vaa2,vaa3,vab0,vab1,vab2,vab3,vac0,vac1,vac2,vac3] 35) [(true,0),(true,1),(true,2),(true,3),(true,4),(true,5),(false,6),(true,7)] (by kernel_rfl) (by kernel_rfl) (by kernel_rfl) (by decide) (fun _ _ _ _ _ h=>h) ⟨L2,L3⟩ ?_
 refine ov 10 (.int .i64 0) ?_
 refine ov 11 (.pointer (some ⟨b2,0,none⟩)) ?_
 refine ow 12 (.agg #[uaa0,uaa1,uaa2,uaa3]) rfl (fun w' hS=>(rl 33 0 [uaa0,uaa1,uaa2,uaa3] hS.1)) ?_
 refine ov 13 (.int .i64 0) ?_
 refine ov 14 (.pointer (some ⟨b3,0,none⟩)) ?_
 refine ow 15 (.agg #[vaa0,vaa1,vaa2,vaa3]) rfl (fun w' hS=>(rl 33 0 [vaa0,vaa1,vaa2,vaa3] hS.2)) ?_
 refine oe ?_
 have kq18:=g2.kp.trans (g3.kp.trans gd15.kp)
 replace hua1:=hua1.kp kq18
 replace hva1:=hva1.kp kq18
 refine ec 16 (compare_r hua1 hva1 (by omega)) ?_
 rintro e17 w17 ⟨rfl,g17⟩
 refine ⟨_,rfl,?_⟩
 replace hB:=hB.trans g17
 replace L2:=L2.gr g17
 replace L3:=L3.gr g17
 refine ⟨⟨L2,L3⟩,?_⟩
 simp only [p3,p4]
 refine ov 6 (.int .i64 (rcmp a1 c1)) ?_
 refine ord_nil ?_
 refine k10 _ _ ?_
 try clear k10 K10
 refine wp_seq_k (fun K19 k19=>?_)
 refine rg [0,1] ?_
 refine sv 17 (.int .i64 (rcmp a1 c1)) ?_
 refine sw 18 (.bool false) rfl (RunV.bool (x:=(rcmp a1 c1 !=(0:Int))) (rvk (by kernel_rfl)) e1) ?_
 refine sq_nil ?_
 refine k19 _ _ ?_
 try clear k19 K19
 refine wp_cond_false rfl ?_
 refine wp_skip ?_
 refine k8 _ _ ?_
 try clear k8 K8
 refine rg [0,1] ?_
 refine sv 20 (.int .i64 1) ?_
 refine sv 7 (.int .i64 1) ?_
 refine sq_nil ?_
 show Code.rounds _ _ _ _ _ _
 show Code.wp _ _ _ _ _
 refine wp_seq_k (fun K20 k20=>?_)
 refine rg [0] ?_
 refine sv 8 (.bool true) ?_
 refine sq_nil ?_
 refine k20 _ _ ?_
 try clear k20 K20
 refine wp_seq_k (fun K21 k21=>?_)
 refine wp_cond_true rfl ?_
 refine wp_skip ?_
 refine k21 _ _ ?_
 try clear k21 K21
 refine wp_seq_k (fun K22 k22=>?_)
 refine wp_block ?_
 refine wp_seq_k (fun K23 k23=>?_)
 refine rg [0,1] ?_
 refine sv 9 (.int .i64 1) ?_
 refine sv 5 (.int .i64 1) ?_
 refine sq_nil ?_
 refine k23 _ _ ?_
 try clear k23 K23
 refine wp_seq_k (fun K24 k24=>?_)
 have gd29:=Gr.drew w17
 replace hB:=hB.trans gd29
 replace L2:=L2.gr gd29
 replace L3:=L3.gr gd29
 refine wp_region_ord (fun w'=>Lc w' b2 #[uaa0,uaa1,uaa2,uaa3,uab0,uab1,uab2,uab3,uac0,uac1,uac2,uac3] 35∧Lc w' b3 #[vaa0,vaa1,vaa2,vaa3,vab0,vab1,vab2,vab3,vac0,vac1,vac2,vac3] 35) [(true,0),(true,1),(true,2),(true,3),(true,4),(true,5),(false,6),(true,7)] (by kernel_rfl) (by kernel_rfl) (by kernel_rfl) (by decide) (fun _ _ _ _ _ h=>h) ⟨L2,L3⟩ ?_
 refine ov 10 (.int .i64 1) ?_
 refine ov 11 (.pointer (some ⟨b2,4,none⟩)) ?_
 refine ow 12 (.agg #[uab0,uab1,uab2,uab3]) rfl (fun w' hS=>(rl 33 4 [uab0,uab1,uab2,uab3] hS.1)) ?_
 refine ov 13 (.int .i64 1) ?_
 refine ov 14 (.pointer (some ⟨b3,4,none⟩)) ?_
 refine ow 15 (.agg #[vab0,vab1,vab2,vab3]) rfl (fun w' hS=>(rl 33 4 [vab0,vab1,vab2,vab3] hS.2)) ?_
 refine oe ?_
 have kq32:=g2.kp.trans (g3.kp.trans (gd15.kp.trans (g17.kp.trans gd29.kp)))
 replace hua2:=hua2.kp kq32
 replace hva2:=hva2.kp kq32
 refine ec 16 (compare_r hua2 hva2 (by omega)) ?_
 rintro e31 w31 ⟨rfl,g31⟩
 refine ⟨_,rfl,?_⟩
 replace hB:=hB.trans g31
 replace L2:=L2.gr g31
 replace L3:=L3.gr g31
 refine ⟨⟨L2,L3⟩,?_⟩
 simp only [p3,p4]
 refine ov 6 (.int .i64 (rcmp a2 c2)) ?_
 refine ord_nil ?_
 refine k24 _ _ ?_
 try clear k24 K24
 refine wp_seq_k (fun K33 k33=>?_)
 refine rg [0,1] ?_
 refine sv 17 (.int .i64 (rcmp a2 c2)) ?_
 refine sw 18 (.bool false) rfl (RunV.bool (x:=(rcmp a2 c2 !=(0:Int))) (rvk (by kernel_rfl)) e2) ?_
 refine sq_nil ?_
 refine k33 _ _ ?_
 try clear k33 K33
 refine wp_cond_false rfl ?_
 refine wp_skip ?_
 refine k22 _ _ ?_
 try clear k22 K22
 refine rg [0,1] ?_
 refine sv 20 (.int .i64 2) ?_
 refine sv 7 (.int .i64 2) ?_
 refine sq_nil ?_
 show Code.rounds _ _ _ _ _ _
 show Code.wp _ _ _ _ _
 refine wp_seq_k (fun K34 k34=>?_)
 refine rg [0] ?_
 refine sv 8 (.bool true) ?_
 refine sq_nil ?_
 refine k34 _ _ ?_
 try clear k34 K34
 refine wp_seq_k (fun K35 k35=>?_)
 refine wp_cond_true rfl ?_
 refine wp_skip ?_
 refine k35 _ _ ?_
 try clear k35 K35
 refine wp_seq_k (fun K36 k36=>?_)
 refine wp_block ?_
 refine wp_seq_k (fun K37 k37=>?_)
 refine rg [0,1] ?_
 refine sv 9 (.int .i64 2) ?_
 refine sv 5 (.int .i64 2) ?_
 refine sq_nil ?_
 refine k37 _ _ ?_
 try clear k37 K37
 refine wp_seq_k (fun K38 k38=>?_)
 have gd43:=Gr.drew w31
 replace hB:=hB.trans gd43
 replace L2:=L2.gr gd43
 replace L3:=L3.gr gd43
 refine wp_region_ord (fun w'=>Lc w' b2 #[uaa0,uaa1,uaa2,uaa3,uab0,uab1,uab2,uab3,uac0,uac1,uac2,uac3] 35∧Lc w' b3 #[vaa0,vaa1,vaa2,vaa3,vab0,vab1,vab2,vab3,vac0,vac1,vac2,vac3] 35) [(true,0),(true,1),(true,2),(true,3),(true,4),(true,5),(false,6),(true,7)] (by kernel_rfl) (by kernel_rfl) (by kernel_rfl) (by decide) (fun _ _ _ _ _ h=>h) ⟨L2,L3⟩ ?_
 refine ov 10 (.int .i64 2) ?_
 refine ov 11 (.pointer (some ⟨b2,8,none⟩)) ?_
 refine ow 12 (.agg #[uac0,uac1,uac2,uac3]) rfl (fun w' hS=>(rl 33 8 [uac0,uac1,uac2,uac3] hS.1)) ?_
 refine ov 13 (.int .i64 2) ?_
 refine ov 14 (.pointer (some ⟨b3,8,none⟩)) ?_
 refine ow 15 (.agg #[vac0,vac1,vac2,vac3]) rfl (fun w' hS=>(rl 33 8 [vac0,vac1,vac2,vac3] hS.2)) ?_
 refine oe ?_
 have kq46:=g2.kp.trans (g3.kp.trans (gd15.kp.trans (g17.kp.trans (gd29.kp.trans (g31.kp.trans gd43.kp)))))
 replace hua3:=hua3.kp kq46
 replace hva3:=hva3.kp kq46
 refine ec 16 (compare_r hua3 hva3 (by omega)) ?_
 rintro e45 w45 ⟨rfl,g45⟩
 refine ⟨_,rfl,?_⟩
 replace hB:=hB.trans g45
 replace L2:=L2.gr g45
 replace L3:=L3.gr g45
 refine ⟨⟨L2,L3⟩,?_⟩
 simp only [p3,p4]
 refine ov 6 (.int .i64 (rcmp a3 c3)) ?_
 refine ord_nil ?_
 refine k38 _ _ ?_
 try clear k38 K38
 refine wp_seq_k (fun K47 k47=>?_)
 refine rg [0,1] ?_
 refine sv 17 (.int .i64 (rcmp a3 c3)) ?_
 refine sw 18 (.bool true) rfl (RunV.bool (x:=(rcmp a3 c3 !=(0:Int))) (rvk (by kernel_rfl)) e3) ?_
 refine sq_nil ?_
 refine k47 _ _ ?_
 try clear k47 K47
 refine wp_cond_true rfl ?_
 refine wp_seq_k (fun K48 k48=>?_)
 refine rg [0,1] ?_
 refine sv 19 (.int .i64 (rcmp a3 c3)) ?_
 refine sv 4 (.int .i64 (rcmp a3 c3)) ?_
 refine sq_nil ?_
 refine k48 _ _ ?_
 try clear k48 K48
 refine wp_ret ?_
 simp only [Exit.then,Exit.inBlock]
 refine bodyPost_ret (v:=(.int .i64 (rcmp a3 c3))) (ret_tmp rfl rfl) rfl ⟨?_,hB⟩
 exact rfl

set_option maxRecDepth 100000 in
set_option maxHeartbeats 1000000 in
theorem vcomp_4 {k m:Nat} {uaa0 uaa1 uaa2 uaa3 uab0 uab1 uab2 uab3 uac0 uac1 uac2 uac3:Value} {a1 a2 a3:Rat} {vaa0 vaa1 vaa2 vaa3 vab0 vab1 vab2 vab3 vac0 vac1 vac2 vac3:Value} {c1 c2 c3:Rat} {w:World} (hua1:IsRat w k uaa0 uaa1 uaa2 uaa3 a1) (hua2:IsRat w k uab0 uab1 uab2 uab3 a2) (hua3:IsRat w k uac0 uac1 uac2 uac3 a3) (hva1:IsRat w m vaa0 vaa1 vaa2 vaa3 c1) (hva2:IsRat w m vab0 vab1 vab2 vab3 c2) (hva3:IsRat w m vac0 vac1 vac2 vac3 c3) (_hk:k+m≤100000) (e1:(rcmp a1 c1 !=(0:Int))=false) (e2:(rcmp a2 c2 !=(0:Int))=false) (e3:(rcmp a3 c3 !=(0:Int))=false):
    Calls Tryz.prog 39 #[(.agg #[uaa0,uaa1,uaa2,uaa3,uab0,uab1,uab2,uab3,uac0,uac1,uac2,uac3]),(.agg #[vaa0,vaa1,vaa2,vaa3,vab0,vab1,vab2,vab3,vac0,vac1,vac2,vac3])] w fun e w'=>e=.returned (.int .i64 0)∧Gr w w':=by
 go_enter Tryz.func39,Tryz.ntmps39
 have hB:=Gr.refl w
 refine wp_seq_k (fun K1 k1=>?_)
 refine rg [0,1,2] ?_
 refine se ?_
 refine eb 35 #[uaa0,uaa1,uaa2,uaa3,uab0,uab1,uab2,uab3,uac0,uac1,uac2,uac3] 2 hB fun b2 w2 g2 L2 o2 q2 hB=>?_
 simp only [p3,p4]
 refine se ?_
 refine eb 35 #[vaa0,vaa1,vaa2,vaa3,vab0,vab1,vab2,vab3,vac0,vac1,vac2,vac3] 3 hB fun b3 w3 g3 L3 o3 q3 hB=>?_
 simp only [p3,p4]
 refine sv 4 (.int .i64 0) ?_
 refine sq_nil ?_
 refine k1 _ _ ?_
 try clear k1 K1
 refine wp_seq_k (fun K4 k4=>?_)
 refine wp_seq_k (fun K5 k5=>?_)
 refine rg [0] ?_
 refine sv 7 (.int .i64 0) ?_
 refine sq_nil ?_
 refine k5 _ _ ?_
 try clear k5 K5
 refine wp_block ?_
 refine wp_loop_rounds 4 ?_
 show Code.wp _ _ _ _ _
 refine wp_seq_k (fun K6 k6=>?_)
 refine rg [0] ?_
 refine sv 8 (.bool true) ?_
 refine sq_nil ?_
 refine k6 _ _ ?_
 try clear k6 K6
 refine wp_seq_k (fun K7 k7=>?_)
 refine wp_cond_true rfl ?_
 refine wp_skip ?_
 refine k7 _ _ ?_
 try clear k7 K7
 refine wp_seq_k (fun K8 k8=>?_)
 refine wp_block ?_
 refine wp_seq_k (fun K9 k9=>?_)
 refine rg [0,1] ?_
 refine sv 9 (.int .i64 0) ?_
 refine sv 5 (.int .i64 0) ?_
 refine sq_nil ?_
 refine k9 _ _ ?_
 try clear k9 K9
 refine wp_seq_k (fun K10 k10=>?_)
 have gd15:=Gr.drew w3
 replace hB:=hB.trans gd15
 replace L2:=L2.gr (g3.trans gd15)
 replace L3:=L3.gr gd15
 refine wp_region_ord (fun w'=>Lc w' b2 #[uaa0,uaa1,uaa2,uaa3,uab0,uab1,uab2,uab3,uac0,uac1,uac2,uac3] 35∧Lc w' b3 #[vaa0,vaa1,vaa2,vaa3,vab0,vab1,vab2,vab3,vac0,vac1,vac2,vac3] 35) [(true,0),(true,1),(true,2),(true,3),(true,4),(true,5),(false,6),(true,7)] (by kernel_rfl) (by kernel_rfl) (by kernel_rfl) (by decide) (fun _ _ _ _ _ h=>h) ⟨L2,L3⟩ ?_
 refine ov 10 (.int .i64 0) ?_
 refine ov 11 (.pointer (some ⟨b2,0,none⟩)) ?_
 refine ow 12 (.agg #[uaa0,uaa1,uaa2,uaa3]) rfl (fun w' hS=>(rl 33 0 [uaa0,uaa1,uaa2,uaa3] hS.1)) ?_
 refine ov 13 (.int .i64 0) ?_
 refine ov 14 (.pointer (some ⟨b3,0,none⟩)) ?_
 refine ow 15 (.agg #[vaa0,vaa1,vaa2,vaa3]) rfl (fun w' hS=>(rl 33 0 [vaa0,vaa1,vaa2,vaa3] hS.2)) ?_
 refine oe ?_
 have kq18:=g2.kp.trans (g3.kp.trans gd15.kp)
 replace hua1:=hua1.kp kq18
 replace hva1:=hva1.kp kq18
 refine ec 16 (compare_r hua1 hva1 (by omega)) ?_
 rintro e17 w17 ⟨rfl,g17⟩
 refine ⟨_,rfl,?_⟩
 replace hB:=hB.trans g17
 replace L2:=L2.gr g17
 replace L3:=L3.gr g17
 refine ⟨⟨L2,L3⟩,?_⟩
 simp only [p3,p4]
 refine ov 6 (.int .i64 (rcmp a1 c1)) ?_
 refine ord_nil ?_
 refine k10 _ _ ?_
 try clear k10 K10
 refine wp_seq_k (fun K19 k19=>?_)
 refine rg [0,1] ?_
 refine sv 17 (.int .i64 (rcmp a1 c1)) ?_
 refine sw 18 (.bool false) rfl (RunV.bool (x:=(rcmp a1 c1 !=(0:Int))) (rvk (by kernel_rfl)) e1) ?_
 refine sq_nil ?_
 refine k19 _ _ ?_
 try clear k19 K19
 refine wp_cond_false rfl ?_
 refine wp_skip ?_
 refine k8 _ _ ?_
 try clear k8 K8
 refine rg [0,1] ?_
 refine sv 20 (.int .i64 1) ?_
 refine sv 7 (.int .i64 1) ?_
 refine sq_nil ?_
 show Code.rounds _ _ _ _ _ _
 show Code.wp _ _ _ _ _
 refine wp_seq_k (fun K20 k20=>?_)
 refine rg [0] ?_
 refine sv 8 (.bool true) ?_
 refine sq_nil ?_
 refine k20 _ _ ?_
 try clear k20 K20
 refine wp_seq_k (fun K21 k21=>?_)
 refine wp_cond_true rfl ?_
 refine wp_skip ?_
 refine k21 _ _ ?_
 try clear k21 K21
 refine wp_seq_k (fun K22 k22=>?_)
 refine wp_block ?_
 refine wp_seq_k (fun K23 k23=>?_)
 refine rg [0,1] ?_
 refine sv 9 (.int .i64 1) ?_
 refine sv 5 (.int .i64 1) ?_
 refine sq_nil ?_
 refine k23 _ _ ?_
 try clear k23 K23
 refine wp_seq_k (fun K24 k24=>?_)
 have gd29:=Gr.drew w17
 replace hB:=hB.trans gd29
 replace L2:=L2.gr gd29
 replace L3:=L3.gr gd29
 refine wp_region_ord (fun w'=>Lc w' b2 #[uaa0,uaa1,uaa2,uaa3,uab0,uab1,uab2,uab3,uac0,uac1,uac2,uac3] 35∧Lc w' b3 #[vaa0,vaa1,vaa2,vaa3,vab0,vab1,vab2,vab3,vac0,vac1,vac2,vac3] 35) [(true,0),(true,1),(true,2),(true,3),(true,4),(true,5),(false,6),(true,7)] (by kernel_rfl) (by kernel_rfl) (by kernel_rfl) (by decide) (fun _ _ _ _ _ h=>h) ⟨L2,L3⟩ ?_
 refine ov 10 (.int .i64 1) ?_
 refine ov 11 (.pointer (some ⟨b2,4,none⟩)) ?_
 refine ow 12 (.agg #[uab0,uab1,uab2,uab3]) rfl (fun w' hS=>(rl 33 4 [uab0,uab1,uab2,uab3] hS.1)) ?_
 refine ov 13 (.int .i64 1) ?_
 refine ov 14 (.pointer (some ⟨b3,4,none⟩)) ?_
 refine ow 15 (.agg #[vab0,vab1,vab2,vab3]) rfl (fun w' hS=>(rl 33 4 [vab0,vab1,vab2,vab3] hS.2)) ?_
 refine oe ?_
 have kq32:=g2.kp.trans (g3.kp.trans (gd15.kp.trans (g17.kp.trans gd29.kp)))
 replace hua2:=hua2.kp kq32
 replace hva2:=hva2.kp kq32
 refine ec 16 (compare_r hua2 hva2 (by omega)) ?_
 rintro e31 w31 ⟨rfl,g31⟩
 refine ⟨_,rfl,?_⟩
 replace hB:=hB.trans g31
 replace L2:=L2.gr g31
 replace L3:=L3.gr g31
 refine ⟨⟨L2,L3⟩,?_⟩
 simp only [p3,p4]
 refine ov 6 (.int .i64 (rcmp a2 c2)) ?_
 refine ord_nil ?_
 refine k24 _ _ ?_
 try clear k24 K24
 refine wp_seq_k (fun K33 k33=>?_)
 refine rg [0,1] ?_
 refine sv 17 (.int .i64 (rcmp a2 c2)) ?_
 refine sw 18 (.bool false) rfl (RunV.bool (x:=(rcmp a2 c2 !=(0:Int))) (rvk (by kernel_rfl)) e2) ?_
 refine sq_nil ?_
 refine k33 _ _ ?_
 try clear k33 K33
 refine wp_cond_false rfl ?_
 refine wp_skip ?_
 refine k22 _ _ ?_
 try clear k22 K22
 refine rg [0,1] ?_
 refine sv 20 (.int .i64 2) ?_
 refine sv 7 (.int .i64 2) ?_
 refine sq_nil ?_
 show Code.rounds _ _ _ _ _ _
 show Code.wp _ _ _ _ _
 refine wp_seq_k (fun K34 k34=>?_)
 refine rg [0] ?_
 refine sv 8 (.bool true) ?_
 refine sq_nil ?_
 refine k34 _ _ ?_
 try clear k34 K34
 refine wp_seq_k (fun K35 k35=>?_)
 refine wp_cond_true rfl ?_
 refine wp_skip ?_
 refine k35 _ _ ?_
 try clear k35 K35
 refine wp_seq_k (fun K36 k36=>?_)
 refine wp_block ?_
 refine wp_seq_k (fun K37 k37=>?_)
 refine rg [0,1] ?_
 refine sv 9 (.int .i64 2) ?_
 refine sv 5 (.int .i64 2) ?_
 refine sq_nil ?_
 refine k37 _ _ ?_
 try clear k37 K37
 refine wp_seq_k (fun K38 k38=>?_)
 have gd43:=Gr.drew w31
 replace hB:=hB.trans gd43
 replace L2:=L2.gr gd43
 replace L3:=L3.gr gd43
 refine wp_region_ord (fun w'=>Lc w' b2 #[uaa0,uaa1,uaa2,uaa3,uab0,uab1,uab2,uab3,uac0,uac1,uac2,uac3] 35∧Lc w' b3 #[vaa0,vaa1,vaa2,vaa3,vab0,vab1,vab2,vab3,vac0,vac1,vac2,vac3] 35) [(true,0),(true,1),(true,2),(true,3),(true,4),(true,5),(false,6),(true,7)] (by kernel_rfl) (by kernel_rfl) (by kernel_rfl) (by decide) (fun _ _ _ _ _ h=>h) ⟨L2,L3⟩ ?_
 refine ov 10 (.int .i64 2) ?_
 refine ov 11 (.pointer (some ⟨b2,8,none⟩)) ?_
 refine ow 12 (.agg #[uac0,uac1,uac2,uac3]) rfl (fun w' hS=>(rl 33 8 [uac0,uac1,uac2,uac3] hS.1)) ?_
 refine ov 13 (.int .i64 2) ?_
 refine ov 14 (.pointer (some ⟨b3,8,none⟩)) ?_
 refine ow 15 (.agg #[vac0,vac1,vac2,vac3]) rfl (fun w' hS=>(rl 33 8 [vac0,vac1,vac2,vac3] hS.2)) ?_
 refine oe ?_
 have kq46:=g2.kp.trans (g3.kp.trans (gd15.kp.trans (g17.kp.trans (gd29.kp.trans (g31.kp.trans gd43.kp)))))
 replace hua3:=hua3.kp kq46
 replace hva3:=hva3.kp kq46
 refine ec 16 (compare_r hua3 hva3 (by omega)) ?_
 rintro e45 w45 ⟨rfl,g45⟩
 refine ⟨_,rfl,?_⟩
 replace hB:=hB.trans g45
 replace L2:=L2.gr g45
 replace L3:=L3.gr g45
 refine ⟨⟨L2,L3⟩,?_⟩
 simp only [p3,p4]
 refine ov 6 (.int .i64 (rcmp a3 c3)) ?_
 refine ord_nil ?_
 refine k38 _ _ ?_
 try clear k38 K38
 refine wp_seq_k (fun K47 k47=>?_)
 refine rg [0,1] ?_
 refine sv 17 (.int .i64 (rcmp a3 c3)) ?_
 refine sw 18 (.bool false) rfl (RunV.bool (x:=(rcmp a3 c3 !=(0:Int))) (rvk (by kernel_rfl)) e3) ?_
 refine sq_nil ?_
 refine k47 _ _ ?_
 try clear k47 K47
 refine wp_cond_false rfl ?_
 refine wp_skip ?_
 refine k36 _ _ ?_
 try clear k36 K36
 refine rg [0,1] ?_
 refine sv 20 (.int .i64 3) ?_
 refine sv 7 (.int .i64 3) ?_
 refine sq_nil ?_
 show Code.rounds _ _ _ _ _ _
 show Code.wp _ _ _ _ _
 refine wp_seq_k (fun K48 k48=>?_)
 refine rg [0] ?_
 refine sv 8 (.bool false) ?_
 refine sq_nil ?_
 refine k48 _ _ ?_
 try clear k48 K48
 refine wp_seq_k (fun K49 k49=>?_)
 refine wp_cond_false rfl ?_
 refine wp_exit ?_
 simp only [Exit.then,Exit.inBlock,↓reduceIte]
 refine k4 _ _ ?_
 try clear k4 K4
 refine wp_seq_k (fun K50 k50=>?_)
 refine rg [0] ?_
 refine sv 4 (.int .i64 0) ?_
 refine sq_nil ?_
 refine k50 _ _ ?_
 try clear k50 K50
 refine wp_ret ?_
 refine bodyPost_ret (v:=(.int .i64 0)) (ret_tmp rfl rfl) rfl ⟨?_,hB⟩
 exact rfl

theorem vcomp_v {k m:Nat} {uaa0 uaa1 uaa2 uaa3 uab0 uab1 uab2 uab3 uac0 uac1 uac2 uac3:Value} {a1 a2 a3:Rat} {vaa0 vaa1 vaa2 vaa3 vab0 vab1 vab2 vab3 vac0 vac1 vac2 vac3:Value} {c1 c2 c3:Rat} {w:World} (hua1:IsRat w k uaa0 uaa1 uaa2 uaa3 a1) (hua2:IsRat w k uab0 uab1 uab2 uab3 a2) (hua3:IsRat w k uac0 uac1 uac2 uac3 a3) (hva1:IsRat w m vaa0 vaa1 vaa2 vaa3 c1) (hva2:IsRat w m vab0 vab1 vab2 vab3 c2) (hva3:IsRat w m vac0 vac1 vac2 vac3 c3) (hk:k+m≤100000):
    Calls Tryz.prog 39 #[(.agg #[uaa0,uaa1,uaa2,uaa3,uab0,uab1,uab2,uab3,uac0,uac1,uac2,uac3]),(.agg #[vaa0,vaa1,vaa2,vaa3,vab0,vab1,vab2,vab3,vac0,vac1,vac2,vac3])] w fun e w'=>e=.returned (.int .i64 (vcmp a1 a2 a3 c1 c2 c3))∧Gr w w':=by
  unfold vcmp
  by_cases e1:rcmp a1 c1=0
  · rw [if_pos e1]
    have d1:(rcmp a1 c1 !=(0:Int))=false:=by simp [e1]
    by_cases e2:rcmp a2 c2=0
    · rw [if_pos e2]
      have d2:(rcmp a2 c2 !=(0:Int))=false:=by simp [e2]
      by_cases e3:rcmp a3 c3=0
      · rw [e3];exact vcomp_4 hua1 hua2 hua3 hva1 hva2 hva3 hk d1 d2 (by simp [e3])
      · exact vcomp_3 hua1 hua2 hua3 hva1 hva2 hva3 hk d1 d2 (by simp [e3])
    · rw [if_neg e2];exact vcomp_2 hua1 hua2 hua3 hva1 hva2 hva3 hk d1 (by simp [e2])
  · rw [if_neg e1];exact vcomp_1 hua1 hua2 hua3 hva1 hva2 hva3 hk (by simp [e1])

set_option maxRecDepth 100000 in
set_option maxHeartbeats 1000000 in
theorem vzero_v {k:Nat} {uaa0 uaa1 uaa2 uaa3 uab0 uab1 uab2 uab3 uac0 uac1 uac2 uac3:Value} {a1 a2 a3:Rat} {w:World} (hua1:IsRat w k uaa0 uaa1 uaa2 uaa3 a1) (hua2:IsRat w k uab0 uab1 uab2 uab3 a2) (hua3:IsRat w k uac0 uac1 uac2 uac3 a3) (_hk:k≤25000):
    Calls Tryz.prog 27 #[(.agg #[uaa0,uaa1,uaa2,uaa3,uab0,uab1,uab2,uab3,uac0,uac1,uac2,uac3])] w fun e w'=>e=.returned (.bool (vcmp a1 a2 a3 0 0 0==(0:Int)))∧Gr w w':=by
 go_enter Tryz.func27,Tryz.ntmps27
 have hB:=Gr.refl w
 refine wp_seq_k (fun K1 k1=>?_)
 refine rg [0,1] ?_
 refine se ?_
 refine eb 35 #[uaa0,uaa1,uaa2,uaa3,uab0,uab1,uab2,uab3,uac0,uac1,uac2,uac3] 1 hB fun b2 w2 g2 L2 o2 q2 hB=>?_
 simp only [p3,p4]
 refine sv 2 (.bool false) ?_
 refine sq_nil ?_
 refine k1 _ _ ?_
 try clear k1 K1
 refine wp_seq_k (fun K3 k3=>?_)
 refine rg [0,1,2,3,4] ?_
 refine sw 3 (.agg #[uaa0,uaa1,uaa2,uaa3,uab0,uab1,uab2,uab3,uac0,uac1,uac2,uac3]) rfl (rl 35 0 [uaa0,uaa1,uaa2,uaa3,uab0,uab1,uab2,uab3,uac0,uac1,uac2,uac3] L2) ?_
 refine sv 4 (.agg #[(.bool false),(.slice none 0 0),(.bool false),(.slice none 0 0),(.bool false),(.slice none 0 0),(.bool false),(.slice none 0 0),(.bool false),(.slice none 0 0),(.bool false),(.slice none 0 0)]) ?_
 refine se ?_
 replace hua1:=hua1.kp g2.kp
 replace hua2:=hua2.kp g2.kp
 replace hua3:=hua3.kp g2.kp
 refine ec 5 (vcomp_v hua1 hua2 hua3 (IsRat.zero _ (k:=64) (Nat.le_refl _)) (IsRat.zero _ (k:=64) (Nat.le_refl _)) (IsRat.zero _ (k:=64) (Nat.le_refl _)) (by omega)) ?_
 rintro e4 w4 ⟨rfl,g4⟩
 refine ⟨_,rfl,?_⟩
 replace hB:=hB.trans g4
 simp only [p3,p4]
 refine sv 6 (.bool ((vcmp a1 a2 a3 0 0 0==(0:Int)))) ?_
 refine sv 2 (.bool ((vcmp a1 a2 a3 0 0 0==(0:Int)))) ?_
 refine sq_nil ?_
 refine k3 _ _ ?_
 try clear k3 K3
 refine wp_ret ?_
 refine bodyPost_ret (v:=(.bool ((vcmp a1 a2 a3 0 0 0==(0:Int))))) (ret_tmp rfl rfl) rfl ⟨?_,hB⟩
 exact rfl

set_option maxRecDepth 100000 in
set_option maxHeartbeats 1000000 in
theorem vof_v (n1 n2 n3:Int) (_j1:-9223372036854775808≤n1∧n1≤9223372036854775807) (_j2:-9223372036854775808≤n2∧n2≤9223372036854775807) (_j3:-9223372036854775808≤n3∧n3≤9223372036854775807) (w:World):
    Calls Tryz.prog 31 #[(.agg #[(.int .i64 (n1)),(.int .i64 (n2)),(.int .i64 (n3))])] w fun e w'=>(∃ t0 t1 t2 t3 t4 t5 t6 t7 t8 t9 t10 t11,e=.returned (.agg #[t0,t1,t2,t3,t4,t5,t6,t7,t8,t9,t10,t11])∧IsRat w' 64 t0 t1 t2 t3 ((n1:Int):Rat)∧IsRat w' 64 t4 t5 t6 t7 ((n2:Int):Rat)∧IsRat w' 64 t8 t9 t10 t11 ((n3:Int):Rat))∧Gr w w':=by
 go_enter Tryz.func31,Tryz.ntmps31
 have hB:=Gr.refl w
 refine wp_seq_k (fun K1 k1=>?_)
 refine rg [0,1] ?_
 refine se ?_
 refine eb 80 #[(.int .i64 (n1)),(.int .i64 (n2)),(.int .i64 (n3))] 1 hB fun b2 w2 g2 L2 o2 q2 hB=>?_
 simp only [p3,p4]
 refine se ?_
 refine ea 35 #[(.bool false),(.slice none 0 0),(.bool false),(.slice none 0 0),(.bool false),(.slice none 0 0),(.bool false),(.slice none 0 0),(.bool false),(.slice none 0 0),(.bool false),(.slice none 0 0)] 2 hB fun b3 w3 g3 L3 o3 q3 hB=>?_
 simp only [p3,p4]
 refine sq_nil ?_
 refine k1 _ _ ?_
 try clear k1 K1
 refine wp_seq_k (fun K4 k4=>?_)
 refine rg [0] ?_
 refine se ?_
 refine ea 35 #[(.bool false),(.slice none 0 0),(.bool false),(.slice none 0 0),(.bool false),(.slice none 0 0),(.bool false),(.slice none 0 0),(.bool false),(.slice none 0 0),(.bool false),(.slice none 0 0)] 3 hB fun b5 w5 g5 L5 o5 q5 hB=>?_
 replace L2:=L2.gr g3
 have ne3_5:=L3.ne o5
 simp only [p3,p4]
 refine sq_nil ?_
 refine k4 _ _ ?_
 try clear k4 K4
 refine wp_seq_k (fun K6 k6=>?_)
 refine wp_seq_k (fun K7 k7=>?_)
 refine rg [0,1] ?_
 replace L2:=L2.gr g5
 refine sw 6 (.agg #[(.int .i64 (n1)),(.int .i64 (n2)),(.int .i64 (n3))]) rfl (rl 80 0 [(.int .i64 (n1)),(.int .i64 (n2)),(.int .i64 (n3))] L2) ?_
 refine sv 7 (.int .i64 0) ?_
 refine sq_nil ?_
 refine k7 _ _ ?_
 try clear k7 K7
 refine wp_block ?_
 refine wp_loop_rounds 4 ?_
 show Code.wp _ _ _ _ _
 refine wp_seq_k (fun K8 k8=>?_)
 refine rg [0] ?_
 refine sv 8 (.bool true) ?_
 refine sq_nil ?_
 refine k8 _ _ ?_
 try clear k8 K8
 refine wp_seq_k (fun K9 k9=>?_)
 refine wp_cond_true rfl ?_
 refine wp_skip ?_
 refine k9 _ _ ?_
 try clear k9 K9
 refine wp_seq_k (fun K10 k10=>?_)
 refine wp_block ?_
 refine wp_seq_k (fun K11 k11=>?_)
 refine rg [0,1,2,3] ?_
 refine sv 9 (.int .i64 0) ?_
 refine sv 10 (.int .i64 (n1)) ?_
 refine sv 4 (.int .i64 0) ?_
 refine sv 5 (.int .i64 (n1)) ?_
 refine sq_nil ?_
 refine k11 _ _ ?_
 try clear k11 K11
 refine rg [0,1,2,3,4] ?_
 refine sv 11 (.int .i64 0) ?_
 refine sv 12 (.int .i64 (n1)) ?_
 refine se ?_
 refine ec 13 (from_r (n1) (by omega) (by omega) _) ?_
 rintro e12 w12 ⟨⟨p12,q12,r12,s12,rfl,h12⟩,g12⟩
 refine ⟨_,rfl,?_⟩
 replace hB:=hB.trans g12
 simp only [p3,p4]
 refine sv 14 (.pointer (some ⟨b5,0,none⟩)) ?_
 refine se ?_
 replace L5:=L5.gr g12
 refine es 33 0 (.agg #[p12,q12,r12,s12]) [p12,q12,r12,s12] #[p12,q12,r12,s12,(.bool false),(.slice none 0 0),(.bool false),(.slice none 0 0),(.bool false),(.slice none 0 0),(.bool false),(.slice none 0 0)] L5 hB q5 ⟨h12.one0,h12.one1,h12.one2,h12.one3,trivial⟩ fun w13 st13 kp13 L5 hB=>?_
 refine sq_nil ?_
 refine k10 _ _ ?_
 try clear k10 K10
 refine rg [0,1] ?_
 refine sv 15 (.int .i64 1) ?_
 refine sv 7 (.int .i64 1) ?_
 refine sq_nil ?_
 show Code.rounds _ _ _ _ _ _
 show Code.wp _ _ _ _ _
 refine wp_seq_k (fun K14 k14=>?_)
 refine rg [0] ?_
 refine sv 8 (.bool true) ?_
 refine sq_nil ?_
 refine k14 _ _ ?_
 try clear k14 K14
 refine wp_seq_k (fun K15 k15=>?_)
 refine wp_cond_true rfl ?_
 refine wp_skip ?_
 refine k15 _ _ ?_
 try clear k15 K15
 refine wp_seq_k (fun K16 k16=>?_)
 refine wp_block ?_
 refine wp_seq_k (fun K17 k17=>?_)
 refine rg [0,1,2,3] ?_
 refine sv 9 (.int .i64 1) ?_
 refine sv 10 (.int .i64 (n2)) ?_
 refine sv 4 (.int .i64 1) ?_
 refine sv 5 (.int .i64 (n2)) ?_
 refine sq_nil ?_
 refine k17 _ _ ?_
 try clear k17 K17
 refine rg [0,1,2,3,4] ?_
 refine sv 11 (.int .i64 1) ?_
 refine sv 12 (.int .i64 (n2)) ?_
 refine se ?_
 refine ec 13 (from_r (n2) (by omega) (by omega) _) ?_
 rintro e18 w18 ⟨⟨p18,q18,r18,s18,rfl,h18⟩,g18⟩
 refine ⟨_,rfl,?_⟩
 replace hB:=hB.trans g18
 simp only [p3,p4]
 refine sv 14 (.pointer (some ⟨b5,4,none⟩)) ?_
 refine se ?_
 replace L5:=L5.gr g18
 refine es 33 4 (.agg #[p18,q18,r18,s18]) [p18,q18,r18,s18] #[p12,q12,r12,s12,p18,q18,r18,s18,(.bool false),(.slice none 0 0),(.bool false),(.slice none 0 0)] L5 hB q5 ⟨h18.one0,h18.one1,h18.one2,h18.one3,trivial⟩ fun w19 st19 kp19 L5 hB=>?_
 refine sq_nil ?_
 refine k16 _ _ ?_
 try clear k16 K16
 refine rg [0,1] ?_
 refine sv 15 (.int .i64 2) ?_
 refine sv 7 (.int .i64 2) ?_
 refine sq_nil ?_
 show Code.rounds _ _ _ _ _ _
 show Code.wp _ _ _ _ _
 refine wp_seq_k (fun K20 k20=>?_)
 refine rg [0] ?_
 refine sv 8 (.bool true) ?_
 refine sq_nil ?_
 refine k20 _ _ ?_
 try clear k20 K20
 refine wp_seq_k (fun K21 k21=>?_)
 refine wp_cond_true rfl ?_
 refine wp_skip ?_
 refine k21 _ _ ?_
 try clear k21 K21
 refine wp_seq_k (fun K22 k22=>?_)
 refine wp_block ?_
 refine wp_seq_k (fun K23 k23=>?_)
 refine rg [0,1,2,3] ?_
 refine sv 9 (.int .i64 2) ?_
 refine sv 10 (.int .i64 (n3)) ?_
 refine sv 4 (.int .i64 2) ?_
 refine sv 5 (.int .i64 (n3)) ?_
 refine sq_nil ?_
 refine k23 _ _ ?_
 try clear k23 K23
 refine rg [0,1,2,3,4] ?_
 refine sv 11 (.int .i64 2) ?_
 refine sv 12 (.int .i64 (n3)) ?_
 refine se ?_
 refine ec 13 (from_r (n3) (by omega) (by omega) _) ?_
 rintro e24 w24 ⟨⟨p24,q24,r24,s24,rfl,h24⟩,g24⟩
 refine ⟨_,rfl,?_⟩
 replace hB:=hB.trans g24
 simp only [p3,p4]
 refine sv 14 (.pointer (some ⟨b5,8,none⟩)) ?_
 refine se ?_
 replace L5:=L5.gr g24
 refine es 33 8 (.agg #[p24,q24,r24,s24]) [p24,q24,r24,s24] #[p12,q12,r12,s12,p18,q18,r18,s18,p24,q24,r24,s24] L5 hB q5 ⟨h24.one0,h24.one1,h24.one2,h24.one3,trivial⟩ fun w25 st25 kp25 L5 hB=>?_
 refine sq_nil ?_
 refine k22 _ _ ?_
 try clear k22 K22
 refine rg [0,1] ?_
 refine sv 15 (.int .i64 3) ?_
 refine sv 7 (.int .i64 3) ?_
 refine sq_nil ?_
 show Code.rounds _ _ _ _ _ _
 show Code.wp _ _ _ _ _
 refine wp_seq_k (fun K26 k26=>?_)
 refine rg [0] ?_
 refine sv 8 (.bool false) ?_
 refine sq_nil ?_
 refine k26 _ _ ?_
 try clear k26 K26
 refine wp_seq_k (fun K27 k27=>?_)
 refine wp_cond_false rfl ?_
 refine wp_exit ?_
 simp only [Exit.then,Exit.inBlock,↓reduceIte]
 refine k6 _ _ ?_
 try clear k6 K6
 refine wp_seq_k (fun K28 k28=>?_)
 refine rg [0,1] ?_
 refine sw 16 (.agg #[p12,q12,r12,s12,p18,q18,r18,s18,p24,q24,r24,s24]) rfl (rl 35 0 [p12,q12,r12,s12,p18,q18,r18,s18,p24,q24,r24,s24] L5) ?_
 refine se ?_
 replace L3:=st25.lc ((st19.lc ((st13.lc (L3.gr (g5.trans g12)) ne3_5).gr g18) ne3_5).gr g24) ne3_5
 refine es 35 0 (.agg #[p12,q12,r12,s12,p18,q18,r18,s18,p24,q24,r24,s24]) [p12,q12,r12,s12,p18,q18,r18,s18,p24,q24,r24,s24] #[p12,q12,r12,s12,p18,q18,r18,s18,p24,q24,r24,s24] L3 hB q3 ⟨h12.one0,h12.one1,h12.one2,h12.one3,h18.one0,h18.one1,h18.one2,h18.one3,h24.one0,h24.one1,h24.one2,h24.one3,trivial⟩ fun w29 st29 kp29 L3 hB=>?_
 refine sq_nil ?_
 refine k28 _ _ ?_
 try clear k28 K28
 refine wp_ret ?_
 refine bodyPost_ret (v:=(.agg #[p12,q12,r12,s12,p18,q18,r18,s18,p24,q24,r24,s24])) (ret_cell _ _ _ rfl rfl L3 (by kernel_rfl)) rfl ⟨?_,hB⟩
 have kq30:=kp13.trans (g18.kp.trans (kp19.trans (g24.kp.trans (kp25.trans kp29))))
 replace h12:=h12.kp kq30
 have kq31:=kp19.trans (g24.kp.trans (kp25.trans kp29))
 replace h18:=h18.kp kq31
 have kq32:=kp25.trans kp29
 replace h24:=h24.kp kq32
 exact ⟨_,_,_,_,_,_,_,_,_,_,_,_,rfl,h12,h18,h24⟩

set_option maxRecDepth 100000 in
set_option maxHeartbeats 1000000 in
theorem tvel_v {k m:Nat} {uaa0 uaa1 uaa2 uaa3 uab0 uab1 uab2 uab3 uac0 uac1 uac2 uac3:Value} {a1 a2 a3:Rat} {uba0 uba1 uba2 uba3 ubb0 ubb1 ubb2 ubb3 ubc0 ubc1 ubc2 ubc3:Value} {d1 d2 d3:Rat} {vaa0 vaa1 vaa2 vaa3 vab0 vab1 vab2 vab3 vac0 vac1 vac2 vac3:Value} {c1 c2 c3:Rat} {w:World} (hua1:IsRat w k uaa0 uaa1 uaa2 uaa3 a1) (hua2:IsRat w k uab0 uab1 uab2 uab3 a2) (hua3:IsRat w k uac0 uac1 uac2 uac3 a3) (hub1:IsRat w k uba0 uba1 uba2 uba3 d1) (hub2:IsRat w k ubb0 ubb1 ubb2 ubb3 d2) (hub3:IsRat w k ubc0 ubc1 ubc2 ubc3 d3) (hva1:IsRat w m vaa0 vaa1 vaa2 vaa3 c1) (hva2:IsRat w m vab0 vab1 vab2 vab3 c2) (hva3:IsRat w m vac0 vac1 vac2 vac3 c3) (_hk:k+m≤20000):
    Calls Tryz.prog 33 #[(.agg #[uaa0,uaa1,uaa2,uaa3,uab0,uab1,uab2,uab3,uac0,uac1,uac2,uac3,uba0,uba1,uba2,uba3,ubb0,ubb1,ubb2,ubb3,ubc0,ubc1,ubc2,ubc3]),(.agg #[vaa0,vaa1,vaa2,vaa3,vab0,vab1,vab2,vab3,vac0,vac1,vac2,vac3])] w fun e w'=>(∃ t0 t1 t2 t3 t4 t5 t6 t7 t8 t9 t10 t11,e=.returned (.agg #[t0,t1,t2,t3,t4,t5,t6,t7,t8,t9,t10,t11])∧IsRat w' (k+(k+m+(k+m)+1)+1) t0 t1 t2 t3 (d1+(a2*c3 - a3*c2))∧IsRat w' (k+(k+m+(k+m)+1)+1) t4 t5 t6 t7 (d2+(a3*c1 - a1*c3))∧IsRat w' (k+(k+m+(k+m)+1)+1) t8 t9 t10 t11 (d3+(a1*c2 - a2*c1)))∧Gr w w':=by
 have hb1:=hua1.big
 have hb2:=hva1.big
 go_enter Tryz.func33,Tryz.ntmps33
 have hB:=Gr.refl w
 refine wp_seq_k (fun K1 k1=>?_)
 refine rg [0,1,2] ?_
 refine se ?_
 refine eb 42 #[uaa0,uaa1,uaa2,uaa3,uab0,uab1,uab2,uab3,uac0,uac1,uac2,uac3,uba0,uba1,uba2,uba3,ubb0,ubb1,ubb2,ubb3,ubc0,ubc1,ubc2,ubc3] 2 hB fun b2 w2 g2 L2 o2 q2 hB=>?_
 simp only [p3,p4]
 refine se ?_
 refine eb 35 #[vaa0,vaa1,vaa2,vaa3,vab0,vab1,vab2,vab3,vac0,vac1,vac2,vac3] 3 hB fun b3 w3 g3 L3 o3 q3 hB=>?_
 simp only [p3,p4]
 refine se ?_
 refine ea 35 #[(.bool false),(.slice none 0 0),(.bool false),(.slice none 0 0),(.bool false),(.slice none 0 0),(.bool false),(.slice none 0 0),(.bool false),(.slice none 0 0),(.bool false),(.slice none 0 0)] 4 hB fun b4 w4 g4 L4 o4 q4 hB=>?_
 replace L2:=L2.gr g3
 have ne2_4:=L2.ne o4
 have ne3_4:=L3.ne o4
 simp only [p3,p4]
 refine sq_nil ?_
 refine k1 _ _ ?_
 try clear k1 K1
 refine wp_seq_k (fun K5 k5=>?_)
 have gd15:=Gr.drew w4
 replace hB:=hB.trans gd15
 replace L2:=L2.gr (g4.trans gd15)
 replace L3:=L3.gr (g4.trans gd15)
 refine wp_region_ord (fun w'=>Lc w' b2 #[uaa0,uaa1,uaa2,uaa3,uab0,uab1,uab2,uab3,uac0,uac1,uac2,uac3,uba0,uba1,uba2,uba3,ubb0,ubb1,ubb2,ubb3,ubc0,ubc1,ubc2,ubc3] 42∧Lc w' b3 #[vaa0,vaa1,vaa2,vaa3,vab0,vab1,vab2,vab3,vac0,vac1,vac2,vac3] 35) [(true,0),(true,1),(true,2),(true,3),(true,4),(false,5),(false,6),(false,7)] (by kernel_rfl) (by kernel_rfl) (by kernel_rfl) (by decide) (fun _ _ _ _ _ h=>h) ⟨L2,L3⟩ ?_
 refine ov 5 (.pointer (some ⟨b2,12,none⟩)) ?_
 refine ow 6 (.agg #[uba0,uba1,uba2,uba3,ubb0,ubb1,ubb2,ubb3,ubc0,ubc1,ubc2,ubc3]) rfl (fun w' hS=>(rl 35 12 [uba0,uba1,uba2,uba3,ubb0,ubb1,ubb2,ubb3,ubc0,ubc1,ubc2,ubc3] hS.1)) ?_
 refine ov 7 (.pointer (some ⟨b2,0,none⟩)) ?_
 refine ow 8 (.agg #[uaa0,uaa1,uaa2,uaa3,uab0,uab1,uab2,uab3,uac0,uac1,uac2,uac3]) rfl (fun w' hS=>(rl 35 0 [uaa0,uaa1,uaa2,uaa3,uab0,uab1,uab2,uab3,uac0,uac1,uac2,uac3] hS.1)) ?_
 refine ow 9 (.agg #[vaa0,vaa1,vaa2,vaa3,vab0,vab1,vab2,vab3,vac0,vac1,vac2,vac3]) rfl (fun w' hS=>(rl 35 0 [vaa0,vaa1,vaa2,vaa3,vab0,vab1,vab2,vab3,vac0,vac1,vac2,vac3] hS.2)) ?_
 refine oe ?_
 have kq18:=g2.kp.trans (g3.kp.trans (g4.kp.trans gd15.kp))
 replace hua1:=hua1.kp kq18
 replace hua2:=hua2.kp kq18
 replace hua3:=hua3.kp kq18
 replace hva1:=hva1.kp kq18
 replace hva2:=hva2.kp kq18
 replace hva3:=hva3.kp kq18
 refine ec 10 (cross_v hua1 hua2 hua3 hva1 hva2 hva3 (by omega)) ?_
 rintro e17 w17 ⟨⟨t17_0,t17_1,t17_2,t17_3,t17_4,t17_5,t17_6,t17_7,t17_8,t17_9,t17_10,t17_11,rfl,h17a,h17b,h17c⟩,g17⟩
 refine ⟨_,rfl,?_⟩
 replace hB:=hB.trans g17
 replace L2:=L2.gr g17
 replace L3:=L3.gr g17
 refine ⟨⟨L2,L3⟩,?_⟩
 simp only [p3,p4]
 refine oe ?_
 have kq21:=g2.kp.trans (g3.kp.trans (g4.kp.trans (gd15.kp.trans g17.kp)))
 replace hub1:=hub1.kp kq21
 replace hub2:=hub2.kp kq21
 replace hub3:=hub3.kp kq21
 refine ec 11 (vadd_v hub1 hub2 hub3 h17a h17b h17c (by omega)) ?_
 rintro e20 w20 ⟨⟨t20_0,t20_1,t20_2,t20_3,t20_4,t20_5,t20_6,t20_7,t20_8,t20_9,t20_10,t20_11,rfl,h20a,h20b,h20c⟩,g20⟩
 refine ⟨_,rfl,?_⟩
 replace hB:=hB.trans g20
 replace L2:=L2.gr g20
 replace L3:=L3.gr g20
 refine ⟨⟨L2,L3⟩,?_⟩
 simp only [p3,p4]
 refine oe ?_
 replace L4:=L4.gr (gd15.trans (g17.trans g20))
 refine es 35 0 (.agg #[t20_0,t20_1,t20_2,t20_3,t20_4,t20_5,t20_6,t20_7,t20_8,t20_9,t20_10,t20_11]) [t20_0,t20_1,t20_2,t20_3,t20_4,t20_5,t20_6,t20_7,t20_8,t20_9,t20_10,t20_11] #[t20_0,t20_1,t20_2,t20_3,t20_4,t20_5,t20_6,t20_7,t20_8,t20_9,t20_10,t20_11] L4 hB q4 ⟨h20a.one0,h20a.one1,h20a.one2,h20a.one3,h20b.one0,h20b.one1,h20b.one2,h20b.one3,h20c.one0,h20c.one1,h20c.one2,h20c.one3,trivial⟩ fun w23 st23 kp23 L4 hB=>?_
 replace L2:=st23.lc L2 ne2_4
 replace L3:=st23.lc L3 ne3_4
 refine ⟨⟨L2,L3⟩,?_⟩
 refine ord_nil ?_
 refine k5 _ _ ?_
 try clear k5 K5
 refine wp_ret ?_
 refine bodyPost_ret (v:=(.agg #[t20_0,t20_1,t20_2,t20_3,t20_4,t20_5,t20_6,t20_7,t20_8,t20_9,t20_10,t20_11])) (ret_cell _ _ _ rfl rfl L4 (by kernel_rfl)) rfl ⟨?_,hB⟩
 replace h20a:=h20a.kp kp23
 replace h20b:=h20b.kp kp23
 replace h20c:=h20c.kp kp23
 exact ⟨_,_,_,_,_,_,_,_,_,_,_,_,rfl,h20a,h20b,h20c⟩

set_option maxRecDepth 100000 in
set_option maxHeartbeats 1000000 in
theorem trot_v {k m:Nat} {uaa0 uaa1 uaa2 uaa3 uab0 uab1 uab2 uab3 uac0 uac1 uac2 uac3:Value} {a1 a2 a3:Rat} {vaa0 vaa1 vaa2 vaa3 vab0 vab1 vab2 vab3 vac0 vac1 vac2 vac3:Value} {c1 c2 c3:Rat} {w:World} (hua1:IsRat w k uaa0 uaa1 uaa2 uaa3 a1) (hua2:IsRat w k uab0 uab1 uab2 uab3 a2) (hua3:IsRat w k uac0 uac1 uac2 uac3 a3) (hva1:IsRat w m vaa0 vaa1 vaa2 vaa3 c1) (hva2:IsRat w m vab0 vab1 vab2 vab3 c2) (hva3:IsRat w m vac0 vac1 vac2 vac3 c3) (_hk:k+m≤20000):
    Calls Tryz.prog 30 #[(.agg #[uaa0,uaa1,uaa2,uaa3,uab0,uab1,uab2,uab3,uac0,uac1,uac2,uac3]),(.agg #[vaa0,vaa1,vaa2,vaa3,vab0,vab1,vab2,vab3,vac0,vac1,vac2,vac3])] w fun e w'=>(∃ t0 t1 t2 t3 t4 t5 t6 t7 t8 t9 t10 t11 t12 t13 t14 t15 t16 t17 t18 t19 t20 t21 t22 t23,e=.returned (.agg #[t0,t1,t2,t3,t4,t5,t6,t7,t8,t9,t10,t11,t12,t13,t14,t15,t16,t17,t18,t19,t20,t21,t22,t23])∧IsRat w' k t0 t1 t2 t3 (a1)∧IsRat w' k t4 t5 t6 t7 (a2)∧IsRat w' k t8 t9 t10 t11 (a3)∧IsRat w' (m+k+(m+k)+1) t12 t13 t14 t15 (c2*a3 - c3*a2)∧IsRat w' (m+k+(m+k)+1) t16 t17 t18 t19 (c3*a1 - c1*a3)∧IsRat w' (m+k+(m+k)+1) t20 t21 t22 t23 (c1*a2 - c2*a1))∧Gr w w':=by
 go_enter Tryz.func30,Tryz.ntmps30
 have hB:=Gr.refl w
 refine wp_seq_k (fun K1 k1=>?_)
 refine rg [0,1,2] ?_
 refine se ?_
 refine eb 35 #[uaa0,uaa1,uaa2,uaa3,uab0,uab1,uab2,uab3,uac0,uac1,uac2,uac3] 2 hB fun b2 w2 g2 L2 o2 q2 hB=>?_
 simp only [p3,p4]
 refine se ?_
 refine eb 35 #[vaa0,vaa1,vaa2,vaa3,vab0,vab1,vab2,vab3,vac0,vac1,vac2,vac3] 3 hB fun b3 w3 g3 L3 o3 q3 hB=>?_
 simp only [p3,p4]
 refine se ?_
 refine ea 42 #[(.bool false),(.slice none 0 0),(.bool false),(.slice none 0 0),(.bool false),(.slice none 0 0),(.bool false),(.slice none 0 0),(.bool false),(.slice none 0 0),(.bool false),(.slice none 0 0),(.bool false),(.slice none 0 0),(.bool false),(.slice none 0 0),(.bool false),(.slice none 0 0),(.bool false),(.slice none 0 0),(.bool false),(.slice none 0 0),(.bool false),(.slice none 0 0)] 4 hB fun b4 w4 g4 L4 o4 q4 hB=>?_
 replace L2:=L2.gr g3
 have ne2_4:=L2.ne o4
 have ne3_4:=L3.ne o4
 simp only [p3,p4]
 refine sq_nil ?_
 refine k1 _ _ ?_
 try clear k1 K1
 refine wp_seq_k (fun K5 k5=>?_)
 have gd12:=Gr.drew w4
 replace hB:=hB.trans gd12
 replace L2:=L2.gr (g4.trans gd12)
 replace L3:=L3.gr (g4.trans gd12)
 refine wp_region_ord (fun w'=>Lc w' b2 #[uaa0,uaa1,uaa2,uaa3,uab0,uab1,uab2,uab3,uac0,uac1,uac2,uac3] 35∧Lc w' b3 #[vaa0,vaa1,vaa2,vaa3,vab0,vab1,vab2,vab3,vac0,vac1,vac2,vac3] 35) [(true,0),(true,1),(true,2),(false,3),(true,4),(false,5)] (by kernel_rfl) (by kernel_rfl) (by kernel_rfl) (by decide) (fun _ _ _ _ _ h=>h) ⟨L2,L3⟩ ?_
 refine ow 5 (.agg #[uaa0,uaa1,uaa2,uaa3,uab0,uab1,uab2,uab3,uac0,uac1,uac2,uac3]) rfl (fun w' hS=>(rl 35 0 [uaa0,uaa1,uaa2,uaa3,uab0,uab1,uab2,uab3,uac0,uac1,uac2,uac3] hS.1)) ?_
 refine ow 6 (.agg #[vaa0,vaa1,vaa2,vaa3,vab0,vab1,vab2,vab3,vac0,vac1,vac2,vac3]) rfl (fun w' hS=>(rl 35 0 [vaa0,vaa1,vaa2,vaa3,vab0,vab1,vab2,vab3,vac0,vac1,vac2,vac3] hS.2)) ?_
 refine ow 7 (.agg #[uaa0,uaa1,uaa2,uaa3,uab0,uab1,uab2,uab3,uac0,uac1,uac2,uac3]) rfl (fun w' hS=>(rl 35 0 [uaa0,uaa1,uaa2,uaa3,uab0,uab1,uab2,uab3,uac0,uac1,uac2,uac3] hS.1)) ?_
 refine oe ?_
 have kq15:=g2.kp.trans (g3.kp.trans (g4.kp.trans gd12.kp))
 replace hva1:=hva1.kp kq15
 replace hva2:=hva2.kp kq15
 replace hva3:=hva3.kp kq15
 replace hua1:=hua1.kp kq15
 replace hua2:=hua2.kp kq15
 replace hua3:=hua3.kp kq15
 refine ec 8 (cross_v hva1 hva2 hva3 hua1 hua2 hua3 (by omega)) ?_
 rintro e14 w14 ⟨⟨t14_0,t14_1,t14_2,t14_3,t14_4,t14_5,t14_6,t14_7,t14_8,t14_9,t14_10,t14_11,rfl,h14a,h14b,h14c⟩,g14⟩
 refine ⟨_,rfl,?_⟩
 replace hB:=hB.trans g14
 replace L2:=L2.gr g14
 replace L3:=L3.gr g14
 refine ⟨⟨L2,L3⟩,?_⟩
 simp only [p3,p4]
 refine ov 9 (.agg #[uaa0,uaa1,uaa2,uaa3,uab0,uab1,uab2,uab3,uac0,uac1,uac2,uac3,t14_0,t14_1,t14_2,t14_3,t14_4,t14_5,t14_6,t14_7,t14_8,t14_9,t14_10,t14_11]) ?_
 refine oe ?_
 replace L4:=L4.gr (gd12.trans g14)
 refine es 42 0 (.agg #[uaa0,uaa1,uaa2,uaa3,uab0,uab1,uab2,uab3,uac0,uac1,uac2,uac3,t14_0,t14_1,t14_2,t14_3,t14_4,t14_5,t14_6,t14_7,t14_8,t14_9,t14_10,t14_11]) [uaa0,uaa1,uaa2,uaa3,uab0,uab1,uab2,uab3,uac0,uac1,uac2,uac3,t14_0,t14_1,t14_2,t14_3,t14_4,t14_5,t14_6,t14_7,t14_8,t14_9,t14_10,t14_11] #[uaa0,uaa1,uaa2,uaa3,uab0,uab1,uab2,uab3,uac0,uac1,uac2,uac3,t14_0,t14_1,t14_2,t14_3,t14_4,t14_5,t14_6,t14_7,t14_8,t14_9,t14_10,t14_11] L4 hB q4 ⟨hua1.one0,hua1.one1,hua1.one2,hua1.one3,hua2.one0,hua2.one1,hua2.one2,hua2.one3,hua3.one0,hua3.one1,hua3.one2,hua3.one3,h14a.one0,h14a.one1,h14a.one2,h14a.one3,h14b.one0,h14b.one1,h14b.one2,h14b.one3,h14c.one0,h14c.one1,h14c.one2,h14c.one3,trivial⟩ fun w17 st17 kp17 L4 hB=>?_
 replace L2:=st17.lc L2 ne2_4
 replace L3:=st17.lc L3 ne3_4
 refine ⟨⟨L2,L3⟩,?_⟩
 refine ord_nil ?_
 refine k5 _ _ ?_
 try clear k5 K5
 refine wp_ret ?_
 refine bodyPost_ret (v:=(.agg #[uaa0,uaa1,uaa2,uaa3,uab0,uab1,uab2,uab3,uac0,uac1,uac2,uac3,t14_0,t14_1,t14_2,t14_3,t14_4,t14_5,t14_6,t14_7,t14_8,t14_9,t14_10,t14_11])) (ret_cell _ _ _ rfl rfl L4 (by kernel_rfl)) rfl ⟨?_,hB⟩
 have kq18:=g14.kp.trans kp17
 replace hua1:=hua1.kp kq18
 replace hua2:=hua2.kp kq18
 replace hua3:=hua3.kp kq18
 replace h14a:=h14a.kp kp17
 replace h14b:=h14b.kp kp17
 replace h14c:=h14c.kp kp17
 exact ⟨_,_,_,_,_,_,_,_,_,_,_,_,_,_,_,_,_,_,_,_,_,_,_,_,rfl,hua1,hua2,hua3,h14a,h14b,h14c⟩

theorem vzero_b {k:Nat} {uaa0 uaa1 uaa2 uaa3 uab0 uab1 uab2 uab3 uac0 uac1 uac2 uac3:Value} {a1 a2 a3:Rat} {w:World} (hua1:IsRat w k uaa0 uaa1 uaa2 uaa3 a1) (hua2:IsRat w k uab0 uab1 uab2 uab3 a2) (hua3:IsRat w k uac0 uac1 uac2 uac3 a3) (hk:k≤25000) (b:Bool) (eb:(vcmp a1 a2 a3 0 0 0==(0:Int))=b):
    Calls Tryz.prog 27 #[(.agg #[uaa0,uaa1,uaa2,uaa3,uab0,uab1,uab2,uab3,uac0,uac1,uac2,uac3])] w fun e w'=>e=.returned (.bool b)∧Gr w w':=by
  have:=vzero_v hua1 hua2 hua3 hk
  rw [eb] at this
  exact this

set_option maxRecDepth 100000 in
set_option maxHeartbeats 1000000 in
theorem tzero_f {k:Nat} {uaa0 uaa1 uaa2 uaa3 uab0 uab1 uab2 uab3 uac0 uac1 uac2 uac3:Value} {a1 a2 a3:Rat} {uba0 uba1 uba2 uba3 ubb0 ubb1 ubb2 ubb3 ubc0 ubc1 ubc2 ubc3:Value} {d1 d2 d3:Rat} {w:World} (hua1:IsRat w k uaa0 uaa1 uaa2 uaa3 a1) (hua2:IsRat w k uab0 uab1 uab2 uab3 a2) (hua3:IsRat w k uac0 uac1 uac2 uac3 a3) (_hub1:IsRat w k uba0 uba1 uba2 uba3 d1) (_hub2:IsRat w k ubb0 ubb1 ubb2 ubb3 d2) (_hub3:IsRat w k ubc0 ubc1 ubc2 ubc3 d3) (_hk:k≤25000) (e1:(vcmp a1 a2 a3 0 0 0==(0:Int))=false):
    Calls Tryz.prog 26 #[(.agg #[uaa0,uaa1,uaa2,uaa3,uab0,uab1,uab2,uab3,uac0,uac1,uac2,uac3,uba0,uba1,uba2,uba3,ubb0,ubb1,ubb2,ubb3,ubc0,ubc1,ubc2,ubc3])] w fun e w'=>e=.returned (.bool (false))∧Gr w w':=by
 go_enter Tryz.func26,Tryz.ntmps26
 have hB:=Gr.refl w
 refine wp_seq_k (fun K1 k1=>?_)
 refine rg [0,1] ?_
 refine se ?_
 refine eb 42 #[uaa0,uaa1,uaa2,uaa3,uab0,uab1,uab2,uab3,uac0,uac1,uac2,uac3,uba0,uba1,uba2,uba3,ubb0,ubb1,ubb2,ubb3,ubc0,ubc1,ubc2,ubc3] 1 hB fun b2 w2 g2 L2 o2 q2 hB=>?_
 simp only [p3,p4]
 refine sv 2 (.bool false) ?_
 refine sq_nil ?_
 refine k1 _ _ ?_
 try clear k1 K1
 refine wp_seq_k (fun K3 k3=>?_)
 refine rg [0,1,2,3,4,5,6,7,8] ?_
 refine sv 3 (.pointer (some ⟨b2,0,none⟩)) ?_
 refine sw 4 (.agg #[uaa0,uaa1,uaa2,uaa3,uab0,uab1,uab2,uab3,uac0,uac1,uac2,uac3]) rfl (rl 35 0 [uaa0,uaa1,uaa2,uaa3,uab0,uab1,uab2,uab3,uac0,uac1,uac2,uac3] L2) ?_
 refine se ?_
 replace hua1:=hua1.kp g2.kp
 replace hua2:=hua2.kp g2.kp
 replace hua3:=hua3.kp g2.kp
 refine ec 5 (vzero_b hua1 hua2 hua3 (by omega) false e1) ?_
 rintro e4 w4 ⟨rfl,g4⟩
 refine ⟨_,rfl,?_⟩
 replace hB:=hB.trans g4
 simp only [p3,p4]
 refine sv 6 (.bool false) ?_
 refine ss 7 ?_
 refine ss 8 ?_
 refine ss 9 ?_
 refine sv 10 (.bool false) ?_
 refine sv 2 (.bool false) ?_
 refine sq_nil ?_
 refine k3 _ _ ?_
 try clear k3 K3
 refine wp_ret ?_
 refine bodyPost_ret (v:=(.bool false)) (ret_tmp rfl rfl) rfl ⟨?_,hB⟩
 exact rfl

/-- the least common multiple of d and x,as the code takes it -/
def lcmS (d x:Int):Int:=d/(Int.gcd d x:Int)*x
theorem gcd_ex (d:Int) (q:Rat):0<(Int.gcd d (q.den:Int):Int)∧(Int.gcd d (q.den:Int):Int)∣d:=by
  have:=q.den_pos
  refine ⟨?_,Int.gcd_dvd_left ..⟩
  have:Int.gcd d (q.den:Int)≠0:=by rw [Ne,Int.gcd_eq_zero_iff];omega
  omega
theorem lcmS_pos {d:Int} (q:Rat) (h:0<d):0<lcmS d (q.den:Int):=by
  have:=q.den_pos
  obtain ⟨h1,h2⟩:=gcd_ex d q
  obtain ⟨c,hc⟩:=h2
  unfold lcmS
  refine Int.mul_pos ?_ (by omega)
  have:d/(Int.gcd d (q.den:Int):Int)=c:=by
    conv=>lhs;lhs;rw [hc]
    exact Int.mul_ediv_cancel_left c (by omega)
  rw [this]
  rcases Int.lt_or_le 0 c with h3 | h3
  · exact h3
  · have:=Int.mul_nonpos_of_nonneg_of_nonpos (Int.le_of_lt h1) h3;omega
def pden (a1 a2 a3:Rat):Int:=lcmS (lcmS (lcmS 1 (a1.den:Int)) (a2.den:Int)) (a3.den:Int)
theorem pden_pos (a1 a2 a3:Rat):0<pden a1 a2 a3:=lcmS_pos _ (lcmS_pos _ (lcmS_pos _ (by omega)))
def pgcd (a1 a2 a3:Rat):Int:=
  (Int.gcd (Int.gcd (Int.gcd 0 (Rat.divInt (pden a1 a2 a3) 1*a1).num:Int) (Rat.divInt (pden a1 a2 a3) 1*a2).num:Int) (Rat.divInt (pden a1 a2 a3) 1*a3).num:Int)
theorem rat_pden {d:Int} (h:0<d):Rat.divInt d 1≠0:=by
  intro e
  rw [← Rat.num_eq_zero] at e
  rw [Rat.num_divInt] at e
  simp at e
  omega
theorem pgcd_pos {a1 a2 a3:Rat} (h:¬(a1=0∧a2=0∧a3=0)):0<pgcd a1 a2 a3:=by
  have h0:0≤pgcd a1 a2 a3:=Int.natCast_nonneg _
  have hd:=rat_pden (pden_pos a1 a2 a3)
  rcases Int.lt_or_le 0 (pgcd a1 a2 a3) with h1 | h1
  · exact h1
  · exfalso
    apply h
    have e:pgcd a1 a2 a3=0:=by omega
    unfold pgcd at e
    have e1:=Int.gcd_eq_zero_iff.1 (Int.natCast_eq_zero.1 e)
    have e2:=Int.gcd_eq_zero_iff.1 (Int.natCast_eq_zero.1 e1.1)
    have e3:=Int.gcd_eq_zero_iff.1 (Int.natCast_eq_zero.1 e2.1)
    have z:∀ a:Rat,(Rat.divInt (pden a1 a2 a3) 1*a).num=0→a=0:=fun a ha=>by
      rw [Rat.num_eq_zero] at ha
      rcases Rat.mul_eq_zero.1 ha with h2 | h2
      · exact absurd h2 hd
      · exact h2
    exact ⟨z _ e3.2,z _ e2.2,z _ e1.2⟩
/-- a coordinate of the primitive vector -/
def prim (a1 a2 a3 x:Rat):Rat:=Rat.divInt 1 (pgcd a1 a2 a3)*(Rat.divInt (pden a1 a2 a3) 1*x)
theorem vzero_iff {a1 a2 a3:Rat}:(vcmp a1 a2 a3 0 0 0==(0:Int))=true↔(a1=0∧a2=0∧a3=0):=by rw [beq_iff_eq,vcmp_zero]
theorem vzero_false {a1 a2 a3:Rat}:(vcmp a1 a2 a3 0 0 0==(0:Int))=false↔¬(a1=0∧a2=0∧a3=0):=by rw [← vzero_iff];simp
/-! ### ints between bounds -/
def ile:Int→Int→Bool
  | .ofNat a,.ofNat b=>Nat.ble a b
  | .negSucc _,.ofNat _=>true
  | .ofNat _,.negSucc _=>false
  | .negSucc a,.negSucc b=>Nat.ble b a
theorem ile_eq (a b:Int):ile a b=decide (a≤b):=by
  rw [Bool.eq_iff_iff,decide_eq_true_eq]
  cases a<;>cases b<;>simp only [ile,Nat.ble_eq]<;>(try simp)<;>omega
def ilt (a b:Int):Bool:=!ile b a
theorem ilt_eq (a b:Int):ilt a b=decide (a<b):=by
  unfold ilt
  rw [ile_eq,Bool.eq_iff_iff]
  simp
def kmin:IntKind→Int
  | .i8=>-128 | .i16=>-32768 | .i32=>-2147483648 | .i64=>-9223372036854775808 | _=>0
def kmax:IntKind→Int
  | .i8=>127 | .i16=>32767 | .i32=>2147483647 | .i64=>9223372036854775807
  | .u8=>255 | .u16=>65535 | .u32=>4294967295 | .u64=>18446744073709551615
theorem wrap_in (k:IntKind) (z:Int):(kmin k≤z→z≤kmax k→k.wrap z=z)∧kmin k≤k.wrap z∧k.wrap z≤kmax k:=by
  cases k<;>simp only [IntKind.wrap,IntKind.bits,IntKind.signed,kmin,kmax]<;>simp<;>first | omega | (split<;>omega)
def wr (k:IntKind) (z lo hi:Int):Cl:=if ile (kmin k) lo&&ile hi (kmax k) then .ci k z lo hi else .ci k (k.wrap z) (kmin k) (kmax k)
theorem wr_ok {k:IntKind} {z lo hi:Int} (h0:lo≤z) (h1:z≤hi) (n:Nn) (X:Env) (W:World):(wr k z lo hi).den X=.int k (k.wrap z)∧(wr k z lo hi).ok n X W:=by
  have h:=wrap_in k z
  unfold wr
  split
  · rename_i hc
    simp only [ile_eq,Bool.and_eq_true,decide_eq_true_eq] at hc
    rw [h.1 (Int.le_trans hc.1 h0) (Int.le_trans h1 hc.2)]
    exact ⟨rfl,rfl,h0,h1⟩
  · exact ⟨rfl,rfl,h.2⟩
def ltD (la ha lc hc:Int):Option Bool:=if ilt ha lc then some true else if ile hc la then some false else none
theorem ltD_ok {a c la ha lc hc:Int} (h0:la≤a∧a≤ha) (h1:lc≤c∧c≤hc):∀ v,ltD la ha lc hc=some v→decide (a<c)=v:=by
  intro v hv
  unfold ltD at hv
  split at hv
  · cases hv;rename_i h;simp only [ilt_eq,decide_eq_true_eq] at*;omega
  · split at hv
    · cases hv;rename_i h;simp only [ile_eq,ilt_eq,decide_eq_true_eq,decide_eq_false_iff_not] at*;omega
    · cases hv
def leD (la ha lc hc:Int):Option Bool:=if ile ha lc then some true else if ilt hc la then some false else none
theorem leD_ok {a c la ha lc hc:Int} (h0:la≤a∧a≤ha) (h1:lc≤c∧c≤hc):∀ v,leD la ha lc hc=some v→decide (a≤c)=v:=by
  intro v hv
  unfold leD at hv
  split at hv
  · cases hv;rename_i h;simp only [ile_eq,decide_eq_true_eq] at*;omega
  · split at hv
    · cases hv;rename_i h;simp only [ile_eq,ilt_eq,decide_eq_true_eq,decide_eq_false_iff_not] at*;omega
    · cases hv
def eqD (la ha lc hc:Int):Option Bool:=if ile ha lc&&ile hc la then some true else if ilt ha lc||ilt hc la then some false else none
theorem eqD_ok {a c la ha lc hc:Int} (h0:la≤a∧a≤ha) (h1:lc≤c∧c≤hc):∀ v,eqD la ha lc hc=some v→(a==c)=v:=by
  intro v hv
  unfold eqD at hv
  split at hv
  · cases hv;rename_i h;simp only [ile_eq,Bool.and_eq_true,decide_eq_true_eq] at h;rw [beq_iff_eq];omega
  · split at hv
    · cases hv;rename_i h;simp only [ilt_eq,Bool.or_eq_true,decide_eq_true_eq] at h;rw [beq_eq_false_iff_ne];omega
    · cases hv
def notD (d:Option Bool):Option Bool:=match d with | some v=>some (!v) | none=>none
theorem notD_ok {t:Bool} {d:Option Bool} (h:∀ v,d=some v→t=v):∀ v,notD d=some v→(!t)=v:=by
  intro v hv
  unfold notD at hv
  split at hv
  · cases hv;rw [h _ rfl]
  · cases hv
def min4 (a b c d:Int):Int:=min (min a b) (min c d)
def max4 (a b c d:Int):Int:=max (max a b) (max c d)
theorem mul_lin {x c lc hc:Int} (h:lc≤c∧c≤hc):min (x*lc) (x*hc)≤x*c∧x*c≤max (x*lc) (x*hc):=by
  rcases Int.le_total 0 x with hx | hx
  · have a:=Int.mul_le_mul_of_nonneg_left h.1 hx
    have b:=Int.mul_le_mul_of_nonneg_left h.2 hx
    omega
  · have a:=Int.mul_le_mul_of_nonpos_left hx h.1
    have b:=Int.mul_le_mul_of_nonpos_left hx h.2
    omega
theorem mul_in {a c la ha lc hc:Int} (h0:la≤a∧a≤ha) (h1:lc≤c∧c≤hc):min4 (la*lc) (la*hc) (ha*lc) (ha*hc)≤a*c∧a*c≤max4 (la*lc) (la*hc) (ha*lc) (ha*hc):=by
  have e:=mul_lin (x:=a) h1
  have f1:=mul_lin (x:=lc) h0
  have f2:=mul_lin (x:=hc) h0
  rw [Int.mul_comm lc la,Int.mul_comm lc ha,Int.mul_comm lc a] at f1
  rw [Int.mul_comm hc la,Int.mul_comm hc ha,Int.mul_comm hc a] at f2
  unfold min4 max4
  omega
def cI (c:Cl):Option SV:=some (.so (.vc c))
def xMul (k:IntKind) (a la ha c lc hc:Int):Option SV:=cI (wr k (a*c) (min4 (la*lc) (la*hc) (ha*lc) (ha*hc)) (max4 (la*lc) (la*hc) (ha*lc) (ha*hc)))
def isL (lo hi:Int):Bool:=ile hi lo
theorem isL_ok {z lo hi:Int} (h:isL lo hi=true) (h0:lo≤z∧z≤hi):z=lo:=by
  unfold isL at h
  rw [ile_eq,decide_eq_true_eq] at h
  omega
def xQuo (k:IntKind) (_a la ha _c lc hc:Int):Option SV:=if isL la ha&&isL lc hc&&ilt 0 lc&&ile 0 la then cI (wr k (la/lc) (la/lc) (la/lc)) else none
def xRem (k:IntKind) (a la ha c lc hc:Int):Option SV:=if ilt 0 lc then (if isL la ha&&isL lc hc&&ile 0 la then cI (.ci k (la % lc) (la % lc) (la % lc)) else if ile 0 la then cI (.ci k (a % c) 0 (hc - 1)) else cI (.ci k (Int.tmod a c) (1 - hc) (hc - 1))) else none
def xInt (op:BinOp) (k:IntKind) (a la ha c lc hc:Int):Option SV:=
  match op with
  | .add=>cI (wr k (a+c) (la+lc) (ha+hc))
  | .sub=>cI (wr k (a - c) (la - hc) (ha - lc))
  | .mul=>xMul k a la ha c lc hc
  | .eql=>cI (.cb (a==c) (eqD la ha lc hc))
  | .neq=>cI (.cb (a !=c) (notD (eqD la ha lc hc)))
  | .lss=>cI (.cb (decide (a<c)) (ltD la ha lc hc))
  | .leq=>cI (.cb (decide (a≤c)) (leD la ha lc hc))
  | .gtr=>cI (.cb (decide (c<a)) (ltD lc hc la ha))
  | .geq=>cI (.cb (decide (c≤a)) (leD lc hc la ha))
  | .rem=>xRem k a la ha c lc hc
  | .quo=>xQuo k a la ha c lc hc
  | _=>none

section
variable {P:Program} {o:Oper} {n:Nn} {X:Env} {W V:World} {fr:List SV}
theorem rv_int {a:Act} (op:BinOp) (t t2:TypeId) (x y:Operand) (k:IntKind) (A B:Int) (hop:o.op=.binOp op t x y t2) (hx:a.eval x=.int k A) (hy:a.eval y=.int k B) (s:SV)
    (la ha lc hc:Int) (h0:la≤A∧A≤ha) (h1:lc≤B∧B≤hc) (h:xInt op k A la ha B lc hc=some s):RunV P a o V (s.den X)∧s.ok n X W:=by
  have hw:=fun (z:Int) (p q:Int) (hp:p≤z) (hq:z≤q)=>wr_ok (k:=k) hp hq n X W
  unfold RunV execOp
  simp only [hop,hx,hy]
  cases op<;>simp only [xInt,xMul,xRem,xQuo,cI,reduceCtorEq,Option.some.injEq] at h
  case add=>subst h;have:=hw (A+B) _ _ (Int.add_le_add h0.1 h1.1) (Int.add_le_add h0.2 h1.2);exact ⟨by simp [go_sem,binOp,eqGuard,Op.intArith,SV.den,TV.den,this.1],this.2⟩
  case sub=>subst h;have:=hw (A - B) (la - hc) (ha - lc) (by omega) (by omega);exact ⟨by simp [go_sem,binOp,eqGuard,Op.intArith,SV.den,TV.den,this.1],this.2⟩
  case mul=>subst h;have hm:=mul_in h0 h1;have:=hw (A*B) _ _ hm.1 hm.2;exact ⟨by simp [go_sem,binOp,eqGuard,Op.intArith,SV.den,TV.den,this.1],this.2⟩
  case eql=>subst h;exact ⟨by simp [go_sem,binOp,eqGuard,Op.intCmp,SV.den,TV.den,Cl.den],rfl,eqD_ok h0 h1⟩
  case neq=>subst h;exact ⟨by simp [go_sem,binOp,eqGuard,Op.intCmp,SV.den,TV.den,Cl.den],rfl,notD_ok (eqD_ok h0 h1)⟩
  case lss=>subst h;exact ⟨by simp [go_sem,binOp,eqGuard,Op.intCmp,SV.den,TV.den,Cl.den],rfl,ltD_ok h0 h1⟩
  case leq=>subst h;exact ⟨by simp [go_sem,binOp,eqGuard,Op.intCmp,SV.den,TV.den,Cl.den],rfl,leD_ok h0 h1⟩
  case gtr=>subst h;exact ⟨by simp [go_sem,binOp,eqGuard,Op.intCmp,SV.den,TV.den,Cl.den],rfl,ltD_ok h1 h0⟩
  case geq=>subst h;exact ⟨by simp [go_sem,binOp,eqGuard,Op.intCmp,SV.den,TV.den,Cl.den],rfl,leD_ok h1 h0⟩
  case rem=>
    split at h
    · rename_i hB
      simp only [ilt_eq,decide_eq_true_eq] at hB
      have hb:¬ B=0:=by omega
      have hB':0<B:=by omega
      split at h
      · rename_i hl
        simp only [Bool.and_eq_true,ile_eq,decide_eq_true_eq] at hl
        cases h
        have e1:=isL_ok hl.1.1 h0
        have e2:=isL_ok hl.1.2 h1
        subst e1 e2
        have e:Int.tmod A B=A % B:=Int.tmod_eq_emod_of_nonneg hl.2
        exact ⟨by simp [go_sem,binOp,eqGuard,Op.intDiv,SV.den,TV.den,Cl.den,hb,e],rfl,Int.le_refl _,Int.le_refl _⟩
      split at h
      · rename_i hA
        simp only [ile_eq,decide_eq_true_eq] at hA
        cases h
        have e:Int.tmod A B=A % B:=Int.tmod_eq_emod_of_nonneg (by omega)
        have e1:=Int.emod_nonneg A hb
        have e2:=Int.emod_lt_of_pos A hB'
        exact ⟨by simp [go_sem,binOp,eqGuard,Op.intDiv,SV.den,TV.den,Cl.den,hb,e],rfl,e1,by omega⟩
      · cases h
        have e1:=Int.lt_tmod_of_pos A hB'
        have e2:=Int.tmod_lt_of_pos A hB'
        exact ⟨by simp [go_sem,binOp,eqGuard,Op.intDiv,SV.den,TV.den,Cl.den,hb],rfl,by omega,by omega⟩
    · cases h
  case quo=>
    split at h
    · rename_i hl
      simp only [Bool.and_eq_true,ile_eq,ilt_eq,decide_eq_true_eq] at hl
      obtain ⟨⟨⟨l1,l2⟩,l3⟩,l4⟩:=hl
      cases h
      have e1:=isL_ok l1 h0
      have e2:=isL_ok l2 h1
      subst e1 e2
      have hb:¬ B=0:=by omega
      have e:Int.tdiv A B=A/B:=Int.tdiv_eq_ediv_of_nonneg l4
      have:=hw (A/B) _ _ (Int.le_refl _) (Int.le_refl _)
      exact ⟨by simp [go_sem,binOp,eqGuard,Op.intDiv,SV.den,TV.den,hb,e,this.1],this.2⟩
    · cases h
end
theorem addr_add (b off k:Nat):(⟨b,off,none⟩:Addr).add k=⟨b,off+k,none⟩:=by
  unfold Addr.add
  split
  · rename_i h;subst h;rfl
  · rfl
def SV.cells:SV→Option (List Cl)
  | .so (.vc c)=>some [c]
  | .so (.vg l)=>some l
  | _=>none
theorem cells_one {v:Value} (h:v.oneCell'=true):v.cells=#[v]:=by
  cases v<;>first | rfl | cases h
theorem SV.cells_ok {n:Nn} {X:Env} {W:World} {s:SV} {l:List Cl} (h:s.cells=some l) (hs:s.ok n X W):(s.den X).cells=dnL X l∧okL n X W l:=by
  unfold SV.cells at h
  split at h
  · cases h
    refine ⟨?_,fun c hc=>?_⟩
    · show (Cl.den X _).cells=_
      rw [cells_one (Cl.one hs)]
      simp [dnL]
    · rw [List.mem_singleton] at hc;exact hc ▸ hs
  · cases h;exact ⟨rfl,hs⟩
  · cases h
def writeL (cs:List Cl) (off:Nat) (v:List Cl):List Cl:=cs.take off++(v++cs.drop (off+v.length))
theorem okL_writeL {n:Nn} {X:Env} {W:World} {cs v:List Cl} (h:okL n X W cs) (hv:okL n X W v) (off:Nat):okL n X W (writeL cs off v):=fun c hc=>by
  unfold writeL at hc
  rcases List.mem_append.1 hc with hc | hc
  · exact h c (List.mem_of_mem_take hc)
  · rcases List.mem_append.1 hc with hc | hc
    · exact hv c hc
    · exact h c (List.mem_of_mem_drop hc)
theorem set_take_drop {α:Type} (cs:List α) (i:Nat) (x:α) (vs:List α) (h:i<cs.length):(cs.set i x).take (i+1)++(vs++(cs.set i x).drop (i+1+vs.length))=cs.take i++(x::vs++cs.drop (i+(vs.length+1))):=by
  have h1:(cs.set i x).take (i+1)=cs.take i++[x]:=by
    rw [List.take_add_one,List.take_set_of_le (Nat.le_refl i),List.getElem?_set_self h];rfl
  have h2:(cs.set i x).drop (i+1+vs.length)=cs.drop (i+(vs.length+1)):=by
    rw [List.drop_set_of_lt (by omega)];congr 1;omega
  rw [h1,h2];simp
theorem writeAt_ls:∀ (vs cs:List Value) (off:Nat),off+vs.length≤cs.length→writeAt cs.toArray off vs=(cs.take off++(vs++cs.drop (off+vs.length))).toArray
  | [],cs,off,_=>by simp [writeAt]
  | v::vs,cs,off,h=>by
    simp only [List.length_cons] at h
    unfold writeAt
    rw [List.setIfInBounds_toArray,writeAt_ls vs (cs.set off v) (off+1) (by simp only [List.length_set];omega),set_take_drop cs off v vs (by omega)]
    rfl
theorem fold_write (off:Nat):∀ (vs:List Value) (k:Nat) (cs:Array Value),(vs.zipIdx k).foldl (fun cs (x:Value × Nat)=>cs.setIfInBounds (off+x.2) x.1) cs=writeAt cs (off+k) vs
  | [],_,_=>rfl
  | v::vs,k,cs=>by
    rw [List.zipIdx_cons,List.foldl_cons,fold_write off vs (k+1)]
    rfl
theorem dnL_writeL {X:Env} {cs v:List Cl} {off:Nat} (h:off+v.length≤cs.length):writeAt (dnL X cs) off (v.map (Cl.den X))=dnL X (writeL cs off v):=by
  unfold dnL writeL
  rw [writeAt_ls _ _ _ (by simpa using h)]
  simp [List.map_take,List.map_drop]
def xFill (place:Nat→Option (Nat × Nat)) (cs:List Cl):List (Nat × List Cl)→Option (List Cl)
  | []=>some cs
  | (i,v)::r=>match place i with
    | none=>none
    | some (off,size)=>if Nat.beq v.length size&&Nat.ble (off+v.length) cs.length then xFill place (writeL cs off v) r else none
theorem fill_ok {n:Nn} {X:Env} {W:World} {place:Nat→Option (Nat × Nat)}:∀ {ps:List (Nat × List Cl)} {vs:List (Nat × Value)} {cs r:List Cl},xFill place cs ps=some r→okL n X W cs→
    ps.length=vs.length→(∀ (j i:Nat) (l:List Cl) (i':Nat) (v:Value),ps[j]?=some (i,l)→vs[j]?=some (i',v)→i=i'∧v.cells=dnL X l∧okL n X W l)→Instr.fill place (dnL X cs) vs=some (dnL X r)∧okL n X W r
  | [],[],cs,r,h,hc,_,_=>by cases h;exact ⟨rfl,hc⟩
  | (i,l)::ps,(i',v)::vs,cs,r,h,hc,hl,hv=>by
    obtain ⟨rfl,h1,h2⟩:=hv 0 i l i' v rfl rfl
    unfold xFill at h
    unfold Instr.fill
    split at h
    · cases h
    · rename_i off size hp
      split at h
      · rename_i hh
        simp only [Bool.and_eq_true,Nat.beq_eq,Nat.ble_eq] at hh
        have hs:v.cells.size=l.length:=by rw [h1];simp [dnL]
        have hn:¬ (decide (v.cells.size≠size)||decide (off+v.cells.size>(dnL X cs).size))=true:=by
          have:(dnL X cs).size=cs.length:=by simp [dnL]
          simp only [Bool.or_eq_true,decide_eq_true_eq,not_or]
          omega
        simp only [hp]
        rw [if_neg hn]
        have hf:(v.cells.zipIdx.foldl (fun cs (x:Value × Nat)=>cs.setIfInBounds (off+x.2) x.1) (dnL X cs))=dnL X (writeL cs off l):=by
          rw [h1,← dnL_writeL (X:=X) hh.2]
          have:=fold_write off (l.map (Cl.den X)) 0 (dnL X cs)
          simpa [dnL] using this
        have e:∀ (f:Array Value→Value × Nat→Array Value),(∀ cs c j,f cs (c,j)=cs.setIfInBounds (off+j) c)→v.cells.zipIdx.foldl f (dnL X cs)=dnL X (writeL cs off l):=fun f hf'=>by
          rw [← hf]
          congr 1
          funext cs x
          exact hf' cs x.1 x.2
        rw [e _ (fun _ _ _=>rfl)]
        exact fill_ok h (okL_writeL hc h2 off) (by simpa using hl) (fun j i l i' v hj hj'=>hv (j+1) i l i' v hj hj')
      · cases h
  | [],_::_,_,_,_,_,hl,_=>by cases hl
  | _::_,[],_,_,_,_,hl,_=>by cases hl
noncomputable def evParts (fr:List SV):List (Nat × Operand)→Option (List (Nat × List Cl))
  | []=>some []
  | (i,x)::r=>match ev fr x,evParts fr r with
    | some s,some l=>match s.cells with
      | some c=>some ((i,c)::l)
      | none=>none
    | _,_=>none
theorem evParts_ok {n:Nn} {X:Env} {W:World} {fr:List SV} (hf:okF n X W fr):∀ {ps:List (Nat × Operand)} {l:List (Nat × List Cl)},evParts fr ps=some l→
    l.length=(ps.map fun x=>(x.1,(actOf X fr).eval x.2)).length∧(∀ (j i:Nat) (c:List Cl) (i':Nat) (v:Value),l[j]?=some (i,c)→(ps.map fun x=>(x.1,(actOf X fr).eval x.2))[j]?=some (i',v)→i=i'∧v.cells=dnL X c∧okL n X W c)
  | [],l,h=>by cases h;exact ⟨rfl,fun j _ _ _ _ hj=>by cases hj⟩
  | (i,x)::r,l,h=>by
    unfold evParts at h
    split at h
    · rename_i s l' h1 h2
      split at h
      · rename_i c hc
        cases h
        have ih:=evParts_ok hf h2
        have he:=ev_ok h1 hf
        have hs:=SV.cells_ok hc he.2
        refine ⟨by simpa using ih.1,fun j i c i' v hj hj'=>?_⟩
        cases j with
        | zero=>simp only [List.getElem?_cons_zero,Option.some.injEq,Prod.mk.injEq,List.map_cons] at hj hj';obtain ⟨rfl,rfl⟩:=hj;obtain ⟨rfl,rfl⟩:=hj';exact ⟨rfl,by rw [he.1];exact hs.1,hs.2⟩
        | succ j=>exact ih.2 j i c i' v hj hj'
      · cases h
    · cases h
noncomputable def gI (l:Option (List Cl)):Option SV:=match l with | some l=>frcL l fun l=>some (.so (.vg l)) | none=>none
def zeroCls (z:Option Value):Option (List Cl):=match z with | some z=>clsOf z.cells.toList | none=>none
noncomputable def xBuild (P:Program) (fr:List SV) (t:TypeId) (parts:List (Nat × Operand)):Option SV:=
  match P.info? t,P.underlying t with
  | some it,some (.array _ e)=>match zeroCls it.zero,P.info? e,evParts fr parts with
    | some z,some ie,some ps=>gI (xFill (fun i=>some (i*ie.size,ie.size)) z ps)
    | _,_,_=>none
  | some it,some (.struct fields)=>match zeroCls it.zero,fields.toList.mapM (fun f=>(P.info? f.type).map fun i=>(f.offset,i.size)),evParts fr parts with
    | some z,some places,some ps=>gI (xFill (places.toArray[·]?) z ps)
    | _,_,_=>none
  | _,_=>none
noncomputable def xPart (P:Program) (t:TypeId) (l:List Cl) (off:Nat):Option SV:=
  match aggSize P t with
  | some n=>if Nat.ble (off+n) l.length then frcL ((l.drop off).take n) fun r=>some (.so (.vg r)) else none
  | none=>if oneSize P t then (match nth l off with | some c=>some (.so (.vc c)) | none=>none) else none
def lit1 (lo hi:Int) (len:Nat):Option Nat:=if ile hi lo&&ile 0 lo&&ilt lo len then some lo.toNat else none
noncomputable def caps:List Operand→List SV→Option (List (Nat × Nat))
  | [],_=>some []
  | x::r,fr=>match ev fr x,caps r fr with
    | some (.so (.vc (.cp j o))),some l=>some ((j,o)::l)
    | _,_=>none
def wList:List Cl→Option (List (List UInt8))
  | []=>some []
  | .cw l _::r=>match wList r with | some m=>some (l::m) | none=>none
  | .ct l::r=>match wList r with | some m=>some (l::m) | none=>none
  | _=>none
def iList (k:IntKind):List Cl→Option (List Int)
  | []=>some []
  | .ci k' z _ _::r=>if k=k' then (match iList k r with | some m=>some (z::m) | none=>none) else none
  | _=>none
def bI (op:BinOp) (t:Bool) (d:Option Bool):Option SV:=match op with
  | .eql=>cI (.cb t d)
  | .neq=>cI (.cb (!t) (notD d))
  | _=>none
def xBinG (P:Program) (op:BinOp) (t:TypeId) (l m:List Cl):Option SV:=
  if P.eqGuardType P.depth t then none else match P.underlying t with
    | some (.array n e)=>match P.underlying e with
      | some .string=>match wList l,wList m with
        | some x,some y=>if Nat.beq x.length n&&Nat.beq y.length n&&(P.info? e).isSome&&Nat.beq (P.cellsOf e) 1&&P.plainKey e then bI op (sEq x y) none else none
        | _,_=>none
      | some (.int k)=>match iList k l,iList k m with
        | some x,some y=>if Nat.beq x.length n&&Nat.beq y.length n&&(P.info? e).isSome&&Nat.beq (P.cellsOf e) 1&&P.plainKey e then bI op (conjL x y) none else none
        | _,_=>none
      | _=>none
    | some (.struct _)=>if plcT P t then (match l,m with
      | [.ci .i64 z0 _ _,.ci .i64 z1 _ _,.ci .i64 z2 _ _,.ci .i64 z3 _ _,.cw X0 _,.cw X1 _,.cw X2 _],[.ci .i64 y0 _ _,.ci .i64 y1 _ _,.ci .i64 y2 _ _,.ci .i64 y3 _ _,.cw Y0 _,.cw Y1 _,.cw Y2 _]=>bI op (allEq [z0,z1,z2,z3] [y0,y1,y2,y3]&&sEq [X0,X1,X2] [Y0,Y1,Y2]) none
      | _,_=>none) else none
    | _=>none
def xBin (P:Program) (op:BinOp) (t:TypeId):SV→SV→Option SV
  | .so (.vc (.ci k a la ha)),.so (.vc (.ci k' c lc hc))=>if k=k' then xInt op k a la ha c lc hc else none
  | .so (.vc (.cw l _)),.so (.vc (.cw m _))=>bI op (l==m) none
  | .so (.vc (.cb a d)),.so (.vc (.cb b e))=>match P.underlying t with
    | some .bool=>bI op (a==b) (match d,e with | some a,some b=>some (a==b) | _,_=>none)
    | _=>none
  | .so (.vg l),.so (.vg m)=>xBinG P op t l m
  | _,_=>none
noncomputable def xFieldA (P:Program) (t:TypeId) (f:Nat):Option SV→Option SV
  | some (.so (.vc (.cp j off)))=>match P.underlying t with
    | some (.struct fs)=>match nth fs.toList f with
      | some fd=>match P.info? fd.type with
        | some i=>if Nat.beq i.size 0 then none else cI (.cp j (off+fd.offset))
        | none=>none
      | none=>none
    | _=>none
  | _=>none
noncomputable def xIdxA (P:Program) (t:TypeId):Option SV→Option SV→Option SV
  | some (.so (.vc (.cp j off))),some (.so (.vc (.ci _ _ lo hi)))=>match P.underlying t with
    | some (.array len e)=>match lit1 lo hi len,P.info? e with
      | some k,some i=>cI (.cp j (off+k*i.size))
      | _,_=>none
    | _=>none
  | some (.so (.vc (.cs j off len _))),some (.so (.vc (.ci _ _ lo hi)))=>match P.underlying t with
    | some (.slice e)=>match lit1 lo hi len,P.info? e with
      | some k,some i=>cI (.cp j (off+k*i.size))
      | _,_=>none
    | _=>none
  | some (.fs v len c xs),some (.so (.vc (.ci _ _ lo hi)))=>match P.underlying t with
    | some (.slice e)=>match lit1 lo hi len,P.info? e with
      | some k,some i=>if Nat.beq i.size c then (match nth xs k with
        | some cs=>some (.fa v (k*c) cs)
        | none=>none) else none
      | _,_=>none
    | _=>none
  | _,_=>none
noncomputable def xLoad (P:Program) (can:Nat→Bool) (bl:List (Nat × List Cl)) (t:TypeId):Option SV→Option SV
  | some (.so (.vc (.cp j off)))=>if can j then (match nth bl j with
    | some (_,cs)=>xPart P t cs off
    | none=>none) else none
  | some (.fa _ _ cs)=>match aggSize P t with
    | some n=>if Nat.beq n cs.length then some (.so (.vg cs)) else none
    | none=>none
  | _=>none
noncomputable def xExtr (i:Nat):Option SV→Option SV
  | some (.st l)=>match nth l i with
    | some v=>some (.so v)
    | none=>none
  | _=>none
noncomputable def xField (P:Program) (t:TypeId) (f:Nat):Option SV→Option SV
  | some (.so (.vg l))=>match P.underlying t with
    | some (.struct fs)=>match nth fs.toList f with
      | some fd=>xPart P fd.type l fd.offset
      | none=>none
    | _=>none
  | _=>none
noncomputable def xIdx (P:Program) (t:TypeId):Option SV→Option SV→Option SV
  | some (.so (.vg l)),some (.so (.vc (.ci _ _ lo hi)))=>match P.underlying t with
    | some (.array len e)=>match lit1 lo hi len,P.info? e with
      | some k,some i=>xPart P e l (k*i.size)
      | _,_=>none
    | _=>none
  | _,_=>none
noncomputable def xPick (fr:List SV) (a b:Operand):Option SV→Option SV
  | some (.so (.vc (.cb _ (some true))))=>ev fr a
  | some (.so (.vc (.cb _ (some false))))=>ev fr b
  | _=>none
def xUn:UnOp→Option SV→Option SV
  | .not,some (.so (.vc (.cb t d)))=>cI (.cb (!t) (notD d))
  | .neg,some (.so (.vc (.ci k z lo hi)))=>cI (wr k (0 - z) (0 - hi) (0 - lo))
  | _,_=>none
def xConv (P:Program) (s d:TypeId):Option SV→Option SV
  | some (.so (.vc (.ci _ z lo hi)))=>match P.underlying s,P.underlying d with
    | some _,some (.int k)=>cI (wr k z lo hi)
    | _,_=>none
  | some (.so (.vc (.cw l e)))=>match P.underlying s,P.underlying d with
    | some _,some .string=>cI (.cw l e)
    | _,_=>none
  | some (.so (.vc (.ct l)))=>match P.underlying s,P.underlying d with
    | some _,some .string=>cI (.ct l)
    | _,_=>none
  | _=>none
def xSlc (P:Program) (t:TypeId):Option SV→Option SV
  | some (.so (.vc (.cp j off)))=>match P.underlying t with
    | some (.array len e)=>if (P.info? e).isSome then cI (.cs j off len len) else none
    | _=>none
  | _=>none
/-- a bound of a slice:a number that is known,or what stands for none -/
noncomputable def oB (fr:List SV) (d:Nat):Option Operand→Nat→Option Nat
  | none,_=>some d
  | some y,m=>match ev fr y with
    | some (.so (.vc (.ci _ _ lo hi)))=>lit1 lo hi (m+1)
    | _=>none
noncomputable def xSlc2 (P:Program) (fr:List SV) (t:TypeId) (lo hi:Option Operand):Option SV→Option SV
  | some (.so (.vc (.cs j off len cap)))=>match P.underlying t with
    | some (.slice e)=>match oB fr len hi cap with
      | some h=>match oB fr 0 lo h,P.info? e with
        | some l,some i=>if Nat.blt l cap then cI (.cs j (off+l*i.size) (h - l) (cap - l)) else none
        | _,_=>none
      | none=>none
    | _=>none
  | _=>none
def xArr (P:Program) (t:TypeId):Option SV→Option SV
  | some (.so (.vc (.cs j off len _)))=>match P.underlying t with
    | some (.array n _)=>if Nat.ble n len then cI (.cp j off) else none
    | _=>none
  | _=>none
noncomputable def xMkF (fr:List SV) (fn:Nat) (first captured:Array Operand):Option SV:=if first.isEmpty then (match caps captured.toList fr with
  | some l=>cI (.cf fn l)
  | none=>none) else none
def xLen (P:Program):Option TypeId→Option SV→Option SV
  | some t,some v=>match P.underlying t with
    | some (.slice _)=>match v with
      | .so (.vc (.cs _ _ len _))=>cI (.ci .i64 len len len)
      | .so (.vc (.cv (.slice none 0 0)))=>cI (.ci .i64 0 0 0)
      | .fs _ len _ _=>cI (.ci .i64 len len len)
      | _=>none
    | some (.array len _)=>cI (.ci .i64 len len len)
    | some .string=>match v with
      | .so (.vc (.cw l (some (k,_))))=>cI (.ci .i64 l.length 0 (2*k+5:Nat))
      | .so (.vc (.cw l none))=>cI (.ci .i64 l.length l.length l.length)
      | .so (.vc (.ct l))=>cI (.ci .i64 l.length 0 9223372036854775807)
      | _=>none
    | _=>none
  | _,_=>none
def xMax:Option SV→Option SV→Option SV
  | some (.so (.vc (.ci k a la ha))),some (.so (.vc (.ci _ c lc hc)))=>cI (.ci k (if c>a then c else a) (max la lc) (max ha hc))
  | _,_=>none
def xMin:Option SV→Option SV→Option SV
  | some (.so (.vc (.ci k a la ha))),some (.so (.vc (.ci _ c lc hc)))=>cI (.ci k (if c<a then c else a) (min la lc) (min ha hc))
  | _,_=>none
noncomputable def xBi (P:Program) (fr:List SV) (c:Call):Builtin→List Operand→Option SV
  | .len,[x]=>xLen P c.argTypes[0]? (ev fr x)
  | .max,[x,y]=>xMax (ev fr x) (ev fr y)
  | .min,[x,y]=>xMin (ev fr x) (ev fr y)
  | _,_=>none
def xBin2 (P:Program) (op:BinOp) (t:TypeId):Option SV→Option SV→Option SV
  | some a,some b=>xBin P op t a b
  | _,_=>none
/-- can:the blocks that may be read -/
noncomputable def xPure (P:Program) (can:Nat→Bool) (fr:List SV) (bl:List (Nat × List Cl)) (o:Oper):Option SV:=
  match o.op with
  | .move x | .assign x=>ev fr x
  | .fieldAddr t x f=>xFieldA P t f (ev fr x)
  | .indexAddr t x y=>xIdxA P t (ev fr x) (ev fr y)
  | .load t x=>xLoad P can bl t (ev fr x)
  | .build t parts=>xBuild P fr t parts.toList
  | .extract x i=>xExtr i (ev fr x)
  | .field t x f=>xField P t f (ev fr x)
  | .index t x y=>xIdx P t (ev fr x) (ev fr y)
  | .pick c a b=>xPick fr a b (ev fr c)
  | .binOp op t x y _=>xBin2 P op t (ev fr x) (ev fr y)
  | .unOp op _ x=>xUn op (ev fr x)
  | .convert s d x=>xConv P s d (ev fr x)
  | .slice t x none none none=>match ev fr x with
    | some (.so (.vc (.cs j off len cap)))=>xSlc2 P fr t none none (some (.so (.vc (.cs j off len cap))))
    | v=>xSlc P t v
  | .slice t x lo hi none=>xSlc2 P fr t lo hi (ev fr x)
  | .sliceToArrayPointer t x=>xArr P t (ev fr x)
  | .makeFunc (.func fn) first captured=>xMkF fr fn first captured
  | .call c=>match c.callee with
    | .builtin b=>xBi P fr c b c.args.toList
    | _=>none
  | _=>none

section
variable {P:Program} {o:Oper} {n:Nn} {X:Env} {W V:World} {fr:List SV}
theorem lit1_ok {z lo hi:Int} {len k:Nat} (h:lit1 lo hi len=some k) (h0:lo≤z∧z≤hi):z=(k:Int)∧k<len:=by
  unfold lit1 at h
  split at h
  · rename_i hh
    simp only [ile_eq,ilt_eq,Bool.and_eq_true,decide_eq_true_eq] at hh
    cases h
    omega
  · cases h
theorem okL_drop {l:List Cl} (h:okL n X W l) (i j:Nat):okL n X W ((l.drop i).take j):=fun c hc=>h c (List.mem_of_mem_drop (List.mem_of_mem_take hc))
theorem part_ok {t:TypeId} {l:List Cl} {off:Nat} {s:SV} (h:xPart P t l off=some s) (hl:okL n X W l):(part t (dnL X l) off).run P V=.ok (s.den X) V∧s.ok n X W∧
    ((∃ m,aggSize P t=some m∧off+m≤l.length∧s=.so (.vg ((l.drop off).take m)))∨(oneSize P t=true∧∃ c,l[off]?=some c∧s=.so (.vc c))):=by
  unfold xPart at h
  split at h
  · rename_i m hm
    split at h
    · rename_i hle
      simp only [Nat.ble_eq] at hle
      rw [frcL_eq] at h
      cases h
      refine ⟨?_,okL_drop hl _ _,.inl ⟨m,hm,hle,rfl⟩⟩
      unfold aggSize at hm
      cases hd:P.underlying t with
      | none=>rw [hd] at hm;cases hm
      | some d=>
        rw [hd] at hm
        have hrow:(isAgg t).run P V=.ok true V∧(P.info? t).map (·.size)=some m:=by
          unfold isAgg
          rw [Sem.run_bind,run_underlying hd V]
          cases d<;>first | cases hm | exact ⟨rfl,hm⟩
        obtain ⟨i,hi,hsz⟩:=Option.map_eq_some_iff.1 hrow.2
        simp only [part,Sem.run_bind,hrow.1,Result.andThen_ok]
        simp [sizeOf,typeInfo,hi,hsz,SV.den,TV.den,dnL,List.map_take,List.map_drop,List.take_drop]
    · cases h
  · split at h
    · rename_i h1
      split at h
      · rename_i c hc
        rw [nth_eq] at hc
        cases h
        refine ⟨?_,hl c (List.mem_of_getElem? hc),.inr ⟨h1,c,hc,rfl⟩⟩
        unfold oneSize at h1
        cases hd:P.underlying t with
        | none=>rw [hd] at h1;cases h1
        | some d=>
          rw [hd] at h1
          have hagg:(isAgg t).run P V=.ok false V:=by
            unfold isAgg
            rw [Sem.run_bind,run_underlying hd V]
            cases d<;>first | cases h1 | rfl
          have hx:(dnL X l)[off]?=some (c.den X):=by simp [dnL,hc]
          simp only [part,Sem.run_bind,hagg,Result.andThen_ok]
          simp [hx,SV.den,TV.den]
      · cases h
    · cases h
end
section
variable {P:Program} {o:Oper} {n:Nn} {X:Env} {W V:World} {fr:List SV}
theorem rv_of {a:Act} {v:Value} {s:Sem Value} (he:execOp a.eval o=(do pure (.value (← s)))) (hs:s.run P V=.ok v V):RunV P a o V v:=by
  unfold RunV
  rw [he]
  simp [hs]
theorem oB_ok (hf:okF n X W fr) {d m k:Nat} {o:Option Operand} (h:oB fr d o m=some k):match o with
    | none=>k=d
    | some y=>∃ kd,(actOf X fr).eval y=.int kd (k:Int)∧k≤m:=by
  cases o with
  | none=>exact (Option.some.inj h).symm
  | some y=>
    simp only [oB] at h
    split at h
    · rename_i kd z lo hi hv
      have he:=ev_ok hv hf
      have hl:=lit1_ok h he.2.2
      refine ⟨kd,?_,by omega⟩
      rw [he.1,← hl.1];rfl
    · cases h
theorem bnd_run {kd:IntKind} {k m:Nat} (hk:k≤m) (code:BoundsCode):(Instr.sliceBound (.int kd (k:Int)) m code).run P V=.ok k V:=by
  have:(0:Int)≤(k:Int)∧(k:Int)≤(m:Int):=by omega
  simp [Instr.sliceBound,asIntOf,this]
theorem slc2_ok (hf:okF n X W fr) {t e:TypeId} {i:TypeInfo} {lo hi:Option Operand} {j off len cap h l:Nat} (ht:P.underlying t=some (.slice e)) (hi':P.info? e=some i) (h1:oB fr len hi cap=some h) (h2:oB fr 0 lo h=some l) (hc:l<cap):
    (Instr.sliceAt t (.slice (some ⟨X.E j,off,none⟩) len cap) (lo.map (actOf X fr).eval) (hi.map (actOf X fr).eval) none).run P V=.ok (.slice (some ⟨X.E j,off+l*i.size,none⟩) (h - l) (cap - l)) V:=by
  have b1:=oB_ok hf h1
  have b2:=oB_ok hf h2
  have hne:¬ cap=l:=by omega
  have hb:(Instr.sliceBounds true len cap (lo.map (actOf X fr).eval) (hi.map (actOf X fr).eval) none).run P V=.ok (l,h,cap) V:=by
    cases hi with
    | none=>
      simp only at b1
      subst b1
      cases lo with
      | none=>simp only at b2;subst b2;simp [Instr.sliceBounds]
      | some y=>obtain ⟨kd,e1,e2⟩:=b2;simp [Instr.sliceBounds,e1,bnd_run e2]
    | some x=>
      obtain ⟨kd,e1,e2⟩:=b1
      cases lo with
      | none=>simp only at b2;subst b2;simp [Instr.sliceBounds,e1,bnd_run e2]
      | some y=>obtain ⟨kd2,e3,e4⟩:=b2;simp [Instr.sliceBounds,e1,bnd_run e2,e3,bnd_run e4]
  simp [Instr.sliceAt,Instr.slice,run_underlying ht,hb,sizeOf,typeInfo,hi',hne,addr_add]
theorem caps_ok (hf:okF n X W fr):∀ {l:List Operand} {r:List (Nat × Nat)},caps l fr=some r→l.map (actOf X fr).eval=r.map X.ptr∧(r.all fun x=>Nat.blt x.1 n.b)=true
  | [],r,h=>by cases h;exact ⟨rfl,rfl⟩
  | x::l,r,h=>by
    unfold caps at h
    split at h
    · rename_i j o r' h1 h2
      cases h
      have a:=ev_ok h1 hf
      have b:=caps_ok hf h2
      refine ⟨?_,?_⟩
      · rw [List.map_cons,List.map_cons,a.1,b.1];rfl
      · have:Nat.blt j n.b=true:=a.2.1
        simp only [List.all_cons,Bool.and_eq_true]
        exact ⟨this,b.2⟩
    · cases h
theorem build_ok (hf:okF n X W fr) {t:TypeId} {parts:Array (Nat × Operand)} {s:SV} (h:xBuild P fr t parts.toList=some s):
    (Instr.build t (parts.map fun (i,x)=>(i,(actOf X fr).eval x))).run P V=.ok (s.den X) V∧s.ok n X W:=by
  have key:∃ r,s=.so (.vg r)∧P.built t (parts.map fun (i,x)=>(i,(actOf X fr).eval x)).toList=some (dnL X r)∧okL n X W r:=by
    unfold xBuild at h
    have hpl:(parts.map fun (i,x)=>(i,(actOf X fr).eval x)).toList=parts.toList.map fun x=>(x.1,(actOf X fr).eval x.2):=by
      rw [Array.toList_map]
    have hz:∀ {z:Option Value} {l:List Cl},zeroCls z=some l→∃ v,z=some v∧v.cells=dnL X l∧okL n X W l:=fun {z l} hz=>by
      cases z with
      | none=>cases hz
      | some v=>
        have:=clsOf_ok (l:=v.cells.toList) hz n X W
        exact ⟨v,rfl,by unfold dnL;rw [this.1],this.2⟩
    split at h
    · rename_i it m e hit hu
      split at h
      · rename_i z ie ps h1 h2 h3
        obtain ⟨zv,hz1,hz2,hz3⟩:=hz h1
        have hp:=evParts_ok hf h3
        cases hx:xFill (fun i=>some (i*ie.size,ie.size)) z ps with
        | none=>rw [hx] at h;cases h
        | some r=>
          rw [hx] at h
          simp only [gI,frcL_eq] at h
          cases h
          have:=fill_ok (X:=X) hx hz3 hp.1 hp.2
          refine ⟨r,rfl,?_,this.2⟩
          unfold Program.built
          simp only [hit,hu,hz1,h2,hpl,hz2]
          exact this.1
      · cases h
    · rename_i it fs hit hu
      split at h
      · rename_i z pl ps h1 h2 h3
        obtain ⟨zv,hz1,hz2,hz3⟩:=hz h1
        have hp:=evParts_ok hf h3
        cases hx:xFill (pl.toArray[·]?) z ps with
        | none=>rw [hx] at h;cases h
        | some r=>
          rw [hx] at h
          simp only [gI,frcL_eq] at h
          cases h
          have:=fill_ok (X:=X) hx hz3 hp.1 hp.2
          refine ⟨r,rfl,?_,this.2⟩
          unfold Program.built
          simp only [hit,hu,hz1,h2,hpl,hz2]
          exact this.1
      · cases h
    · cases h
  obtain ⟨r,rfl,h1,h2⟩:=key
  exact ⟨run_build V t _ _ h1,h2⟩
theorem wList_den {X:Env}:∀ {l:List Cl} {x:List (List UInt8)},wList l=some x→dnL X l=(x.map fun l=>Value.string ⟨l.toArray⟩).toArray
  | [],x,h=>by cases h;rfl
  | .cw w d::r,x,h=>by
    unfold wList at h
    split at h
    · rename_i m hm
      cases h
      have:=wList_den (X:=X) hm
      unfold dnL at this ⊢
      rw [List.map_cons,List.map_cons]
      have h2:=congrArg Array.toList this
      simp only at h2
      rw [h2];rfl
    · cases h
  | .ct w::r,x,h=>by
    unfold wList at h
    split at h
    · rename_i m hm
      cases h
      have:=wList_den (X:=X) hm
      unfold dnL at this ⊢
      rw [List.map_cons,List.map_cons]
      have h2:=congrArg Array.toList this
      simp only at h2
      rw [h2];rfl
    · cases h
  | .ci ..::_,_,h | .cb ..::_,_,h | .cr ..::_,_,h | .cz ..::_,_,h | .cp ..::_,_,h | .cs ..::_,_,h | .cf ..::_,_,h | .cv ..::_,_,h=>by cases h
theorem iList_den {X:Env} {k:IntKind}:∀ {l:List Cl} {x:List Int},iList k l=some x→dnL X l=(x.map (Value.int k)).toArray
  | [],x,h=>by cases h;rfl
  | .ci k' z lo hi::r,x,h=>by
    unfold iList at h
    split at h
    · rename_i hk
      subst hk
      split at h
      · rename_i m hm
        cases h
        have:=iList_den (X:=X) hm
        unfold dnL at this ⊢
        rw [List.map_cons,List.map_cons]
        have h2:=congrArg Array.toList this
        simp only at h2
        rw [h2];rfl
      · cases h
    · cases h
  | .ct ..::_,_,h | .cw ..::_,_,h | .cb ..::_,_,h | .cr ..::_,_,h | .cz ..::_,_,h | .cp ..::_,_,h | .cs ..::_,_,h | .cf ..::_,_,h | .cv ..::_,_,h=>by cases h
theorem bI_ok {op:BinOp} {t:Bool} {d:Option Bool} {s:SV} (h:bI op t d=some s) (hd:∀ v,d=some v→t=v):
    s.ok n X W∧((op=.eql∧s.den X=.bool t)∨(op=.neq∧s.den X=.bool (!t))):=by
  unfold bI cI at h
  split at h
  · cases h;exact ⟨⟨rfl,hd⟩,.inl ⟨rfl,rfl⟩⟩
  · cases h;exact ⟨⟨rfl,notD_ok hd⟩,.inr ⟨rfl,rfl⟩⟩
  · cases h
theorem equalIn_bool {t:TypeId} (d:Nat) (h:P.underlying t=some .bool) (x y:Bool):(Op.equalIn (d+1) t (.bool x) (.bool y)).run P V=.ok (x==y) V:=by
  simp [Op.equalIn,run_underlying h]
theorem equal_bool {t:TypeId} (h:P.underlying t=some .bool) (x y:Bool):(Op.equal t (.bool x) (.bool y)).run P V=.ok (x==y) V:=by
  show (Op.equalIn (9999+1) t _ _).run P V=_
  exact equalIn_bool 9999 h x y
theorem bin_ok {a:Act} {op:BinOp} {t t2:TypeId} {x y:Operand} (hop:o.op=.binOp op t x y t2) {p q s:SV} (hx:a.eval x=p.den X) (hy:a.eval y=q.den X) (hp:p.ok n X W) (hq:q.ok n X W)
    (h:xBin P op t p q=some s):RunV P a o V (s.den X)∧s.ok n X W:=by
  unfold xBin at h
  split at h
  · rename_i k A la ha k' B lc hc
    split at h
    · rename_i hk
      subst hk
      exact rv_int op t t2 x y k A B hop hx hy s la ha lc hc hp.2 hq.2 h
    · cases h
  · rename_i l d m e
    have hb:=bI_ok (n:=n) (X:=X) (W:=W) h (fun v hv=>by cases hv)
    refine ⟨?_,hb.1⟩
    rcases hb.2 with ⟨rfl,h2⟩ | ⟨rfl,h2⟩<;>rw [h2]
    · exact rv_seq t t2 x y l m hop hx hy
    · exact rv_sne t t2 x y l m hop hx hy
  · rename_i A d B e
    split at h
    · rename_i hu
      have hd:∀ v,(match d,e with | some a,some b=>some (a==b) | _,_=>none)=some v→(A==B)=v:=by
        intro v hv
        have h1:=hp.2
        have h2:=hq.2
        cases d with
        | none=>cases hv
        | some d'=>
          cases e with
          | none=>cases hv
          | some e'=>cases hv;rw [h1 d' rfl,h2 e' rfl]
      have hb:=bI_ok (n:=n) (X:=X) (W:=W) h hd
      refine ⟨?_,hb.1⟩
      have he:=equal_bool (V:=V) hu A B
      have hx':a.eval x=.bool A:=hx
      have hy':a.eval y=.bool B:=hy
      rcases hb.2 with ⟨rfl,h2⟩ | ⟨rfl,h2⟩<;>rw [h2]<;>unfold RunV execOp<;>simp only [hop,hx',hy']
      · simp [go_sem,binOp,eqGuard,he]
      · simp [go_sem,binOp,eqGuard,he]
    · cases h
  · rename_i l m
    unfold xBinG at h
    split at h
    · cases h
    · rename_i hg
      have hg':P.eqGuardType P.depth t=false:=by simpa using hg
      split at h
      · rename_i k e hu
        split at h
        · rename_i hue
          split at h
          · rename_i A B hA hB
            split at h
            · rename_i hc
              simp only [Bool.and_eq_true,Nat.beq_eq] at hc
              obtain ⟨⟨⟨⟨c1,c2⟩,c3⟩,c4⟩,c5⟩:=hc
              have hb:=bI_ok (n:=n) (X:=X) (W:=W) h (fun v hv=>by cases hv)
              refine ⟨?_,hb.1⟩
              have hx':a.eval x=.agg (A.map fun l=>Value.string ⟨l.toArray⟩).toArray:=hx.trans (congrArg Value.agg (wList_den hA))
              have hy':a.eval y=.agg (B.map fun l=>Value.string ⟨l.toArray⟩).toArray:=hy.trans (congrArg Value.agg (wList_den hB))
              have h1:(P.underlying t,decide (A.length=B.length))=(some (.array A.length e),true):=by rw [hu,c1,c2];simp
              have h2:(P.underlying e,(P.info? e).isSome,P.cellsOf e,P.plainKey e)=(some .string,true,1,true):=by rw [hue,c3,c4,c5]
              rcases hb.2 with ⟨rfl,h3⟩ | ⟨rfl,h3⟩<;>rw [h3]
              · exact rv_ssq t t2 e x y A B hop hx' hy' h1 h2 hg'
              · exact rv_ssn t t2 e x y A B hop hx' hy' h1 h2 hg'
            · cases h
          · cases h
        · rename_i kk hue
          split at h
          · rename_i A B hA hB
            split at h
            · rename_i hc
              simp only [Bool.and_eq_true,Nat.beq_eq] at hc
              obtain ⟨⟨⟨⟨c1,c2⟩,c3⟩,c4⟩,c5⟩:=hc
              have hb:=bI_ok (n:=n) (X:=X) (W:=W) h (fun v hv=>by cases hv)
              refine ⟨?_,hb.1⟩
              have hx':a.eval x=.agg (A.map (Value.int kk)).toArray:=hx.trans (congrArg Value.agg (iList_den hA))
              have hy':a.eval y=.agg (B.map (Value.int kk)).toArray:=hy.trans (congrArg Value.agg (iList_den hB))
              have h1:(P.underlying t,decide (A.length=B.length))=(some (.array A.length e),true):=by rw [hu,c1,c2];simp
              have h2:(P.underlying e,(P.info? e).isSome,P.cellsOf e,P.plainKey e)=(some (.int kk),true,1,true):=by rw [hue,c3,c4,c5]
              rcases hb.2 with ⟨rfl,h3⟩ | ⟨rfl,h3⟩<;>rw [h3]
              · exact rv_arreq t t2 e x y A B hop hx' hy' h1 h2 hg'
              · exact rv_arrne t t2 e x y A B hop hx' hy' h1 h2 hg'
            · cases h
          · cases h
        · cases h
      · split at h
        · rename_i hp
          obtain ⟨tA,tS,eA,eS,k1,k2,k3,k4,k5,k6,k7⟩:=plcT_ok hp
          split at h
          · have hb:=bI_ok (n:=n) (X:=X) (W:=W) h (fun v hv=>by cases hv)
            refine ⟨?_,hb.1⟩
            rcases hb.2 with ⟨rfl,h3⟩ | ⟨rfl,h3⟩<;>rw [h3]
            · exact rv_plceq t t2 tA tS eA eS x y _ _ _ _ _ _ _ _ _ _ _ _ _ _ hop hx hy k1 k2 k3 k4 k5 k6 k7 hg'
            · exact rv_plcne t t2 tA tS eA eS x y _ _ _ _ _ _ _ _ _ _ _ _ _ _ hop hx hy k1 k2 k3 k4 k5 k6 k7 hg'
          · cases h
        · cases h
      · cases h
  · cases h
end
section
variable {P:Program} {o:Oper} {n:Nn} {X:Env} {W V:World} {fr:List SV}
theorem cI_some {c:Cl} {s:SV} (h:cI c=some s):s=.so (.vc c):=by cases h;rfl
theorem xPure_ok {can:Nat→Bool} {bl:List (Nat × List Cl)} {s:SV} (h:xPure P can fr bl o=some s) (hf:okF n X W fr) (hb:∀ (i:Nat) t cs,bl[i]?=some (t,cs)→okL n X W cs)
    (hS:∀ (i:Nat) t cs,can i=true→bl[i]?=some (t,cs)→Lc V (X.E i) (dnL X cs) t) (hK:∀ x ∈ X.K,V.heap[x.1]?=some x.2):RunV P (actOf X fr) o V (s.den X)∧s.ok n X W:=by
  unfold xPure at h
  split at h
  · rename_i x hop
    have:=ev_ok h hf
    exact ⟨by unfold RunV execOp;simp [hop,this.1],this.2⟩
  · rename_i x hop
    have:=ev_ok h hf
    exact ⟨by unfold RunV execOp;simp [hop,this.1],this.2⟩
  · rename_i t x f hop
    unfold xFieldA at h
    split at h
    · rename_i j off h1
      split at h
      · rename_i fs h2
        split at h
        · rename_i fd h3
          rw [nth_eq,Array.getElem?_toList] at h3
          split at h
          · rename_i i h4
            split at h
            · cases h
            · rename_i h5
              have hz:¬ i.size=0:=fun e=>h5 (by rw [e];rfl)
              cases cI_some h
              have he:=ev_ok h1 hf
              refine ⟨rv_of (s:=Instr.fieldAt t ((actOf X fr).eval x) f) (by unfold execOp;simp only [hop]) ?_,he.2⟩
              rw [he.1]
              show (Instr.fieldAt t (.pointer (some ⟨X.E j,off,none⟩)) f).run P V=_
              simp [Instr.fieldAt,run_underlying h2,h3,Instr.sureAddr,fieldPlace,sizeOf,typeInfo,h4,hz,addr_add,SV.den,TV.den,Cl.den]
          · cases h
        · cases h
      · cases h
    · cases h
  · rename_i t x y hop
    unfold xIdxA at h
    split at h
    · rename_i j off k z lo hi h1 h2
      split at h
      · rename_i len e h3
        split at h
        · rename_i q i h4 h5
          cases cI_some h
          have hx:=ev_ok h1 hf
          have hy:=ev_ok h2 hf
          have hl:=lit1_ok h4 hy.2.2
          refine ⟨rv_of (s:=Instr.indexAt t ((actOf X fr).eval x) ((actOf X fr).eval y)) (by unfold execOp;simp only [hop]) ?_,hx.2⟩
          rw [hx.1,hy.1]
          show (Instr.indexAt t (.pointer (some ⟨X.E j,off,none⟩)) (.int k z)).run P V=_
          simp [Instr.indexAt,Instr.sureAddr,asIntOf,run_underlying h3,sizeOf,typeInfo,h5,hl.1,hl.2,addr_add,SV.den,TV.den,Cl.den]
        · cases h
      · cases h
    · rename_i j off len cap k z lo hi h1 h2
      split at h
      · rename_i e h3
        split at h
        · rename_i q i h4 h5
          cases cI_some h
          have hx:=ev_ok h1 hf
          have hy:=ev_ok h2 hf
          have hl:=lit1_ok h4 hy.2.2
          refine ⟨rv_of (s:=Instr.indexAt t ((actOf X fr).eval x) ((actOf X fr).eval y)) (by unfold execOp;simp only [hop]) ?_,hx.2⟩
          rw [hx.1,hy.1]
          show (Instr.indexAt t (.slice (some ⟨X.E j,off,none⟩) len cap) (.int k z)).run P V=_
          simp [Instr.indexAt,Instr.sureAddr,asIntOf,run_underlying h3,sizeOf,typeInfo,h5,hl.1,hl.2,addr_add,SV.den,TV.den,Cl.den]
        · cases h
      · cases h
    · rename_i v len c xs k z lo hi h1 h2
      split at h
      · rename_i e h3
        split at h
        · rename_i q i h4 h5
          split at h
          · rename_i hsz
            simp only [Nat.beq_eq] at hsz
            split at h
            · rename_i cs h6
              rw [nth_eq] at h6
              cases h
              have hx:=ev_ok h1 hf
              have hy:=ev_ok h2 hf
              have hl:=lit1_ok h4 hy.2.2
              obtain ⟨⟨ao,cap,hv⟩,hat⟩:=hx.2
              have ha:=hat q cs h6
              obtain ⟨_,b,_,l,cap',us,tt,_,rfl,_,_⟩:=ha
              cases hv
              refine ⟨rv_of (s:=Instr.indexAt t ((actOf X fr).eval x) ((actOf X fr).eval y)) (by unfold execOp;simp only [hop]) ?_,hat q cs h6⟩
              rw [hx.1,hy.1]
              show (Instr.indexAt t (.slice (some ⟨b,_,none⟩) len cap) (.int k z)).run P V=_
              simp [Instr.indexAt,Instr.sureAddr,asIntOf,run_underlying h3,sizeOf,typeInfo,h5,hl.1,hl.2,addr_add,SV.den,adr,hsz]
            · cases h
          · cases h
        · cases h
      · cases h
    · cases h
  · rename_i t x hop
    unfold xLoad at h
    split at h
    · rename_i j off h1
      split at h
      · rename_i hc
        split at h
        · rename_i tt cs h2
          rw [nth_eq] at h2
          have he:=ev_ok h1 hf
          have hL:=hS j tt cs hc h2
          have hp:=part_ok (V:=V) h (hb j tt cs h2)
          refine ⟨?_,hp.2.1⟩
          rcases hp.2.2 with ⟨m,hm,hle,rfl⟩ | ⟨h3,c,hc',rfl⟩
          · refine rv_load t x (X.E j) off (dnL X cs) tt _ hop he.1 hL ?_ ?_
            · simp only [dnL,List.map_drop,List.map_take,List.length_map,List.length_take,List.length_drop]
              rw [Nat.min_eq_left (by omega)]
            · rw [hm];simp only [List.length_map,List.length_take,List.length_drop];rw [Nat.min_eq_left (by omega)]
          · exact rv_load1 t x (X.E j) off (dnL X cs) tt _ hop he.1 hL (by simp [dnL,hc',SV.den,TV.den]) h3
        · cases h
      · cases h
    · rename_i v j cs h1
      split at h
      · rename_i m hm
        split at h
        · rename_i hsz
          simp only [Nat.beq_eq] at hsz
          cases h
          have he:=ev_ok h1 hf
          obtain ⟨ho,b,off,l,cap,us,tt,fr',rfl,hmem,hus⟩:=he.2
          refine ⟨?_,ho⟩
          refine rv_ldn (cs.map (Cl.den X)) (v:=.slice (some ⟨b,off,none⟩) l cap) (j:=j) ⟨b,off,l,cap,rfl,fun i u hi=>?_⟩ t x hop he.1 (by rw [hm,hsz];simp)
          rw [cells_of (hK _ hmem)]
          exact hus i u hi
        · cases h
      · cases h
    · cases h
  · rename_i t parts hop
    have:=build_ok (V:=V) hf h
    exact ⟨rv_of (s:=Instr.build t (parts.map fun (i,x)=>(i,(actOf X fr).eval x))) (by unfold execOp;simp only [hop]) this.1,this.2⟩
  · rename_i x i hop
    unfold xExtr at h
    split at h
    · rename_i l h1
      split at h
      · rename_i v h2
        rw [nth_eq] at h2
        cases h
        have he:=ev_ok h1 hf
        refine ⟨rv_of (s:=Instr.extract ((actOf X fr).eval x) i) (by unfold execOp;simp only [hop]) ?_,he.2 v (List.mem_of_getElem? h2)⟩
        rw [he.1]
        simp [Instr.extract,SV.den,h2]
      · cases h
    · cases h
  · rename_i t x f hop
    unfold xField at h
    split at h
    · rename_i l h1
      split at h
      · rename_i fs h2
        split at h
        · rename_i fd h3
          rw [nth_eq,Array.getElem?_toList] at h3
          have he:=ev_ok h1 hf
          have hp:=part_ok (V:=V) h he.2
          refine ⟨rv_of (s:=Instr.field t ((actOf X fr).eval x) f) (by unfold execOp;simp only [hop]) ?_,hp.2.1⟩
          rw [he.1]
          show (Instr.field t (.agg (dnL X l)) f).run P V=_
          simp [Instr.field,run_underlying h2,h3,asAgg,hp.1]
        · cases h
      · cases h
    · cases h
  · rename_i t x y hop
    unfold xIdx at h
    split at h
    · rename_i l k z lo hi h1 h2
      split at h
      · rename_i len e h3
        split at h
        · rename_i q i h4 h5
          have hx:=ev_ok h1 hf
          have hy:=ev_ok h2 hf
          have hl:=lit1_ok h4 hy.2.2
          have hp:=part_ok (V:=V) h hx.2
          refine ⟨rv_of (s:=Instr.index t ((actOf X fr).eval x) ((actOf X fr).eval y)) (by unfold execOp;simp only [hop]) ?_,hp.2.1⟩
          rw [hx.1,hy.1]
          show (Instr.index t (.agg (dnL X l)) (.int k z)).run P V=_
          simp [Instr.index,asIntOf,run_underlying h3,sizeOf,typeInfo,h5,hl.1,hl.2,hp.1]
        · cases h
      · cases h
    · cases h
  · rename_i c x y hop
    unfold xPick at h
    split at h
    · rename_i t h1
      have hc:=ev_ok h1 hf
      have hx:=ev_ok h hf
      have:(actOf X fr).eval c=.bool true:=by rw [hc.1];exact congrArg Value.bool (hc.2.2 true rfl)
      exact ⟨by unfold RunV execOp;simp [hop,this,asBool,hx.1],hx.2⟩
    · rename_i t h1
      have hc:=ev_ok h1 hf
      have hx:=ev_ok h hf
      have:(actOf X fr).eval c=.bool false:=by rw [hc.1];exact congrArg Value.bool (hc.2.2 false rfl)
      exact ⟨by unfold RunV execOp;simp [hop,this,asBool,hx.1],hx.2⟩
    · cases h
  · rename_i op t x y t2 hop
    unfold xBin2 at h
    split at h
    · rename_i a b h1 h2
      have hx:=ev_ok h1 hf
      have hy:=ev_ok h2 hf
      exact bin_ok hop hx.1 hy.1 hx.2 hy.2 h
    · cases h
  · rename_i op t x hop
    unfold xUn at h
    split at h
    · rename_i b d h1
      cases cI_some h
      have he:=ev_ok h1 hf
      refine ⟨?_,rfl,notD_ok he.2.2⟩
      have hx:(actOf X fr).eval x=.bool b:=he.1
      unfold RunV execOp
      simp [hop,hx,Op.unary,SV.den,TV.den,Cl.den]
    · rename_i k z lo hi h1
      cases cI_some h
      have he:=ev_ok h1 hf
      have h3:=he.2.2
      have h4:=wr_ok (k:=k) (z:=0 - z) (lo:=0 - hi) (hi:=0 - lo) (by simp only [Cl.good] at h3;omega) (by simp only [Cl.good] at h3;omega) n X W
      refine ⟨?_,h4.2⟩
      have hx:(actOf X fr).eval x=.int k z:=he.1
      unfold RunV execOp
      simp only [hop,hx]
      show ((do pure (.value (← Op.unary .neg (.int k z)))):Sem Next).run P V=.ok (.value ((wr k (0 - z) (0 - hi) (0 - lo)).den X)) V
      rw [h4.1]
      simp [Op.unary,Op.intArith]
    · cases h
  · rename_i t d x hop
    unfold xConv at h
    split at h
    · rename_i k' z lo hi h3
      split at h
      · rename_i td k h1 h2
        cases cI_some h
        have he:=ev_ok h3 hf
        have h4:=wr_ok (k:=k) he.2.2.1 he.2.2.2 n X W
        refine ⟨?_,h4.2⟩
        have hx:(actOf X fr).eval x=.int k' z:=he.1
        refine rv_of (s:=convert t d ((actOf X fr).eval x)) (by unfold execOp;simp only [hop]) ?_
        rw [hx]
        show _=Result.ok ((wr k z lo hi).den X) V
        rw [h4.1]
        simp [convert,run_underlying h1,run_underlying h2,Conv.intToInt]
      · cases h
    · rename_i l e h3
      split at h
      · rename_i td h1 h2
        cases cI_some h
        have he:=ev_ok h3 hf
        refine ⟨?_,he.2⟩
        have hx:(actOf X fr).eval x=.string ⟨l.toArray⟩:=he.1
        refine rv_of (s:=convert t d ((actOf X fr).eval x)) (by unfold execOp;simp only [hop]) ?_
        rw [hx]
        simp [convert,run_underlying h1,run_underlying h2,SV.den,TV.den,Cl.den]
      · cases h
    · rename_i l h3
      split at h
      · rename_i td h1 h2
        cases cI_some h
        have he:=ev_ok h3 hf
        refine ⟨?_,he.2⟩
        have hx:(actOf X fr).eval x=.string ⟨l.toArray⟩:=he.1
        refine rv_of (s:=convert t d ((actOf X fr).eval x)) (by unfold execOp;simp only [hop]) ?_
        rw [hx]
        simp [convert,run_underlying h1,run_underlying h2,SV.den,TV.den,Cl.den]
      · cases h
    · cases h
  · rename_i t x hop
    split at h
    · rename_i j off len cap hv
      unfold xSlc2 at h
      split at h
      · rename_i j off len cap hh
        cases hh
        split at h
        · rename_i e h1
          split at h
          · rename_i hq h2
            split at h
            · rename_i l i h3 h4
              split at h
              · rename_i h5
                cases cI_some h
                have he:=ev_ok hv hf
                have h5:=blt_of h5
                refine ⟨rv_of (s:=Instr.sliceAt t ((actOf X fr).eval x) none none none) (by unfold execOp;simp only [hop];rfl) ?_,he.2⟩
                rw [he.1]
                exact slc2_ok (lo:=none) (hi:=none) hf h1 h4 h2 h3 h5
              · cases h
            · cases h
          · cases h
        · cases h
      · rename_i hn
        exact (hn _ _ _ _ rfl).elim
    unfold xSlc at h
    split at h
    · rename_i j off h1
      split at h
      · rename_i len e h2
        split at h
        · rename_i hi
          obtain ⟨i,hi⟩:=Option.isSome_iff_exists.1 hi
          cases cI_some h
          have he:=ev_ok h1 hf
          refine ⟨?_,he.2⟩
          have hx:(actOf X fr).eval x=.pointer (some ⟨X.E j,off,none⟩):=he.1
          refine rv_of (s:=Instr.sliceAt t ((actOf X fr).eval x) none none none) (by unfold execOp;simp only [hop];rfl) ?_
          rw [hx]
          simp [Instr.sliceAt,Instr.sliceBounds,Instr.sureAddr,run_underlying h2,sizeOf,typeInfo,hi,addr_add,SV.den,TV.den,Cl.den]
        · cases h
      · cases h
    · cases h
  · rename_i t x lo hi _ hop
    unfold xSlc2 at h
    split at h
    · rename_i j off len cap hv
      split at h
      · rename_i e h1
        split at h
        · rename_i hq h2
          split at h
          · rename_i l i h3 h4
            split at h
            · rename_i h5
              cases cI_some h
              have he:=ev_ok hv hf
              have h5:=blt_of h5
              refine ⟨rv_of (s:=Instr.sliceAt t ((actOf X fr).eval x) (lo.map (actOf X fr).eval) (hi.map (actOf X fr).eval) none) (by unfold execOp;simp only [hop];rfl) ?_,he.2⟩
              rw [he.1]
              exact slc2_ok hf h1 h4 h2 h3 h5
            · cases h
          · cases h
        · cases h
      · cases h
    · cases h
  · rename_i t x hop
    unfold xArr at h
    split at h
    · rename_i j off len cap hv
      split at h
      · rename_i m e h1
        split at h
        · rename_i h2
          simp only [Nat.ble_eq] at h2
          cases cI_some h
          have he:=ev_ok hv hf
          refine ⟨rv_of (s:=Instr.arrayAt t ((actOf X fr).eval x)) (by unfold execOp;simp only [hop]) ?_,he.2⟩
          have hx:(actOf X fr).eval x=.slice (some ⟨X.E j,off,none⟩) len cap:=he.1
          have:¬ len<m:=by omega
          rw [hx]
          simp [Instr.arrayAt,run_underlying h1,this,SV.den,TV.den,Cl.den]
        · cases h
      · cases h
    · cases h
  · rename_i fn first captured hop
    unfold xMkF at h
    split at h
    · rename_i h0
      split at h
      · rename_i l h1
        cases cI_some h
        have hc:=caps_ok hf h1
        refine ⟨?_,hc.2,trivial⟩
        have h2:first=#[]:=by simpa using h0
        have h3:(captured.map (actOf X fr).eval)=(l.map X.ptr).toArray:=by
          rw [← hc.1,← Array.toList_map,Array.toArray_toList]
        unfold RunV execOp
        simp [hop,h2,Instr.makeFunc,SV.den,TV.den,Cl.den,h3]
      · cases h
    · cases h
  · rename_i c hop
    have hargs:∀ {l:List Operand},c.args.toList=l→c.args.map (actOf X fr).eval=(l.map (actOf X fr).eval).toArray:=fun {l} e=>by
      rw [← e,← Array.toList_map,Array.toArray_toList]
    split at h
    · rename_i bi hc
      generalize ha:c.args.toList=al at h
      unfold xBi at h
      split at h
      · rename_i x
        have hx0:=hargs ha
        generalize ht:c.argTypes[0]?=ot at h
        generalize hv:ev fr x=ov at h
        unfold xLen at h
        split at h
        · rename_i t v
          have run:∀ {v u:Value},(actOf X fr).eval x=v→(Builtin.len_ c.argTypes o.type #[v]).run P V=.ok u V→RunV P (actOf X fr) o V u:=fun {v u} e hr=>by
            unfold RunV execOp
            simp only [hop,resolve,hc,invoke,builtin,Sem.run_bind,Sem.run_pure,Result.andThen_ok,hx0,List.map_cons,List.map_nil,e]
            simp [hr]
          split at h
          · rename_i e h1
            split at h
            · rename_i j off len cap
              cases cI_some h
              refine ⟨run (ev_ok hv hf).1 ?_,rfl,Int.le_refl _,Int.le_refl _⟩
              simp [Builtin.len_,ht,run_underlying h1,SV.den,TV.den,Cl.den,goInt]
            · cases cI_some h
              refine ⟨run (ev_ok hv hf).1 ?_,rfl,Int.le_refl _,Int.le_refl _⟩
              simp [Builtin.len_,ht,run_underlying h1,SV.den,TV.den,Cl.den,goInt]
            · cases cI_some h
              obtain ⟨⟨ao,cap,rfl⟩,_⟩:=(ev_ok hv hf).2
              refine ⟨run (ev_ok hv hf).1 ?_,rfl,Int.le_refl _,Int.le_refl _⟩
              simp [Builtin.len_,ht,run_underlying h1,SV.den,TV.den,Cl.den,goInt]
            · cases h
          · rename_i len e h1
            cases cI_some h
            refine ⟨run (ev_ok hv hf).1 ?_,rfl,Int.le_refl _,Int.le_refl _⟩
            simp [Builtin.len_,ht,run_underlying h1,SV.den,TV.den,Cl.den,goInt]
          · rename_i h1
            split at h
            · rename_i l k q
              cases cI_some h
              have hq:=(ev_ok hv hf).2.2 k q rfl
              have hn:=ratL_len hq.2.1 hq.2.2
              rw [← hq.1] at hn
              refine ⟨run (ev_ok hv hf).1 ?_,rfl,Int.natCast_nonneg _,Int.ofNat_le.2 hn⟩
              simp [Builtin.len_,ht,run_underlying h1,SV.den,TV.den,Cl.den,goInt]
              rfl
            · cases cI_some h
              refine ⟨run (ev_ok hv hf).1 ?_,rfl,Int.le_refl _,Int.le_refl _⟩
              simp [Builtin.len_,ht,run_underlying h1,SV.den,TV.den,Cl.den,goInt]
              rfl
            · cases cI_some h
              refine ⟨run (ev_ok hv hf).1 ?_,rfl,Int.natCast_nonneg _,(ev_ok hv hf).2.2⟩
              simp [Builtin.len_,ht,run_underlying h1,SV.den,TV.den,Cl.den,goInt]
              rfl
            · cases h
          · cases h
        · cases h
      · rename_i x y
        have hx0:=hargs ha
        unfold xMax at h
        split at h
        · rename_i k a la ha' k2 b lc hc' h1 h2
          cases cI_some h
          have hx:=ev_ok h1 hf
          have hy:=ev_ok h2 hf
          refine ⟨?_,rfl,?_⟩
          · unfold RunV execOp
            simp only [hop,resolve,hc,invoke,builtin,Sem.run_bind,Sem.run_pure,Result.andThen_ok,hx0,List.map_cons,List.map_nil,hx.1,hy.1]
            simp [Builtin.max_,Builtin.max2,SV.den,TV.den,Cl.den]
          · have a1:=hx.2.2
            have a2:=hy.2.2
            simp only [Cl.good] at a1 a2 ⊢
            split<;>omega
        · cases h
      · rename_i x y
        have hx0:=hargs ha
        unfold xMin at h
        split at h
        · rename_i k a la ha' k2 b lc hc' h1 h2
          cases cI_some h
          have hx:=ev_ok h1 hf
          have hy:=ev_ok h2 hf
          refine ⟨?_,rfl,?_⟩
          · unfold RunV execOp
            simp only [hop,resolve,hc,invoke,builtin,Sem.run_bind,Sem.run_pure,Result.andThen_ok,hx0,List.map_cons,List.map_nil,hx.1,hy.1]
            simp [Builtin.min_,Builtin.min2,SV.den,TV.den,Cl.den]
          · have a1:=hx.2.2
            have a2:=hy.2.2
            simp only [Cl.good] at a1 a2 ⊢
            split<;>omega
        · cases h
      · cases h
    · cases h
  · cases h
end
end Go.Proofs.YthhbibpaeonecaaGreatDoor
