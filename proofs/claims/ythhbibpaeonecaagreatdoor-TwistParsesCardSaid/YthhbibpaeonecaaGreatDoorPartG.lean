/- Joined of: Gen11, Gen13, Lit, Gen14. -/
import Derived.Test.YthhbibpaeonecaaGreatDoorPartF
import Derived.Test.YthhbibpaeonecaaGreatDoorPartC
namespace Go.Proofs.YthhbibpaeonecaaGreatDoor
open Go.RowKit

set_option maxRecDepth 100000 in
set_option maxHeartbeats 8000000 in
theorem axis_s {k:Nat} {uaa0 uaa1 uaa2 uaa3 uab0 uab1 uab2 uab3 uac0 uac1 uac2 uac3:Value} {a1 a2 a3:Rat} {uba0 uba1 uba2 uba3 ubb0 ubb1 ubb2 ubb3 ubc0 ubc1 ubc2 ubc3:Value} {d1 d2 d3:Rat} {w:World} (hua1:IsRat w k uaa0 uaa1 uaa2 uaa3 a1) (hua2:IsRat w k uab0 uab1 uab2 uab3 a2) (hua3:IsRat w k uac0 uac1 uac2 uac3 a3) (hub1:IsRat w k uba0 uba1 uba2 uba3 d1) (hub2:IsRat w k ubb0 ubb1 ubb2 ubb3 d2) (hub3:IsRat w k ubc0 ubc1 ubc2 ubc3 d3) (_hk:k≤2000) (ha:¬(a1=0∧a2=0∧a3=0)) (hp:((0+a1*d1+a2*d2+a3*d3)*(((1:Int):Rat)/(0+a1*a1+a2*a2+a3*a3)))≠0):
    Calls Tryz.prog 32 #[(.agg #[uaa0,uaa1,uaa2,uaa3,uab0,uab1,uab2,uab3,uac0,uac1,uac2,uac3,uba0,uba1,uba2,uba3,ubb0,ubb1,ubb2,ubb3,ubc0,ubc1,ubc2,ubc3])] w fun e w'=>(∃ t0 t1 t2 t3 t4 t5 t6 t7 t8 t9 t10 t11 t12 t13 t14 t15 t16 t17 t18 t19 t20 t21 t22 t23 t24 t25 t26 t27,e=.returned (.agg #[.int .i64 3,t0,t1,t2,t3,t4,t5,t6,t7,t8,t9,t10,t11,t12,t13,t14,t15,t16,t17,t18,t19,t20,t21,t22,t23,t24,t25,t26,t27])∧IsRat w' (20*k+1000) t0 t1 t2 t3 (prim a1 a2 a3 a1)∧IsRat w' (20*k+1000) t4 t5 t6 t7 (prim a1 a2 a3 a2)∧IsRat w' (20*k+1000) t8 t9 t10 t11 (prim a1 a2 a3 a3)∧IsRat w' (20*k+1000) t12 t13 t14 t15 ((((1:Int):Rat)/(0+a1*a1+a2*a2+a3*a3))*(a2*d3 - a3*d2))∧IsRat w' (20*k+1000) t16 t17 t18 t19 ((((1:Int):Rat)/(0+a1*a1+a2*a2+a3*a3))*(a3*d1 - a1*d3))∧IsRat w' (20*k+1000) t20 t21 t22 t23 ((((1:Int):Rat)/(0+a1*a1+a2*a2+a3*a3))*(a1*d2 - a2*d1))∧IsRat w' (20*k+1000) t24 t25 t26 t27 (((0+a1*d1+a2*d2+a3*d3)*(((1:Int):Rat)/(0+a1*a1+a2*a2+a3*a3)))))∧Gr w w':=by
 have e1:=vzero_false.2 ha
 have e3:=sgnz_t hp
 have hbig:=hua1.big
 have hdv:=num_pos (dot_pos ha)
 go_enter Tryz.func32,Tryz.ntmps32
 have hB:=Gr.refl w
 refine wp_seq_k (fun K1 k1=>?_)
 refine rg [0,1] ?_
 refine se ?_
 refine eb 42 #[uaa0,uaa1,uaa2,uaa3,uab0,uab1,uab2,uab3,uac0,uac1,uac2,uac3,uba0,uba1,uba2,uba3,ubb0,ubb1,ubb2,ubb3,ubc0,ubc1,ubc2,ubc3] 1 hB fun b2 w2 g2 L2 o2 q2 hB=>?_
 simp only [p3,p4]
 refine se ?_
 refine ea 82 #[(.int .i64 0),(.bool false),(.slice none 0 0),(.bool false),(.slice none 0 0),(.bool false),(.slice none 0 0),(.bool false),(.slice none 0 0),(.bool false),(.slice none 0 0),(.bool false),(.slice none 0 0),(.bool false),(.slice none 0 0),(.bool false),(.slice none 0 0),(.bool false),(.slice none 0 0),(.bool false),(.slice none 0 0),(.bool false),(.slice none 0 0),(.bool false),(.slice none 0 0),(.bool false),(.slice none 0 0),(.bool false),(.slice none 0 0)] 2 hB fun b3 w3 g3 L3 o3 q3 hB=>?_
 simp only [p3,p4]
 refine sq_nil ?_
 refine k1 _ _ ?_
 try clear k1 K1
 refine wp_seq_k (fun K4 k4=>?_)
 refine wp_seq_k (fun K5 k5=>?_)
 refine rg [0,1] ?_
 replace L2:=L2.gr g3
 refine sw 10 (.agg #[uaa0,uaa1,uaa2,uaa3,uab0,uab1,uab2,uab3,uac0,uac1,uac2,uac3,uba0,uba1,uba2,uba3,ubb0,ubb1,ubb2,ubb3,ubc0,ubc1,ubc2,ubc3]) rfl (rl 42 0 [uaa0,uaa1,uaa2,uaa3,uab0,uab1,uab2,uab3,uac0,uac1,uac2,uac3,uba0,uba1,uba2,uba3,ubb0,ubb1,ubb2,ubb3,ubc0,ubc1,ubc2,ubc3] L2) ?_
 refine se ?_
 have kq7:=g2.kp.trans g3.kp
 replace hua1:=hua1.kp kq7
 replace hua2:=hua2.kp kq7
 replace hua3:=hua3.kp kq7
 replace hub1:=hub1.kp kq7
 replace hub2:=hub2.kp kq7
 replace hub3:=hub3.kp kq7
 refine ec 11 (tzero_f hua1 hua2 hua3 hub1 hub2 hub3 (by omega) e1) ?_
 rintro e6 w6 ⟨rfl,g6⟩
 refine ⟨_,rfl,?_⟩
 replace hB:=hB.trans g6
 simp only [p3,p4]
 refine sq_nil ?_
 refine k5 _ _ ?_
 try clear k5 K5
 refine wp_cond_false rfl ?_
 refine wp_skip ?_
 refine k4 _ _ ?_
 try clear k4 K4
 refine wp_seq_k (fun K8 k8=>?_)
 refine wp_seq_k (fun K9 k9=>?_)
 refine rg [0,1,2] ?_
 refine sv 13 (.pointer (some ⟨b2,0,none⟩)) ?_
 replace L2:=L2.gr g6
 refine sw 14 (.agg #[uaa0,uaa1,uaa2,uaa3,uab0,uab1,uab2,uab3,uac0,uac1,uac2,uac3]) rfl (rl 35 0 [uaa0,uaa1,uaa2,uaa3,uab0,uab1,uab2,uab3,uac0,uac1,uac2,uac3] L2) ?_
 refine se ?_
 replace hua1:=hua1.kp g6.kp
 replace hua2:=hua2.kp g6.kp
 replace hua3:=hua3.kp g6.kp
 refine ec 15 (vzero_b hua1 hua2 hua3 (by omega) false e1) ?_
 rintro e10 w10 ⟨rfl,g10⟩
 refine ⟨_,rfl,?_⟩
 replace hB:=hB.trans g10
 simp only [p3,p4]
 refine sq_nil ?_
 refine k9 _ _ ?_
 try clear k9 K9
 refine wp_cond_false rfl ?_
 refine wp_skip ?_
 refine k8 _ _ ?_
 try clear k8 K8
 refine wp_seq_k (fun K11 k11=>?_)
 refine rg [0,1,2,3,4,5,6,7,8] ?_
 refine sv 25 (.pointer (some ⟨b2,0,none⟩)) ?_
 replace L2:=L2.gr g10
 refine sw 26 (.agg #[uaa0,uaa1,uaa2,uaa3,uab0,uab1,uab2,uab3,uac0,uac1,uac2,uac3]) rfl (rl 35 0 [uaa0,uaa1,uaa2,uaa3,uab0,uab1,uab2,uab3,uac0,uac1,uac2,uac3] L2) ?_
 refine se ?_
 replace hua1:=hua1.kp g10.kp
 replace hua2:=hua2.kp g10.kp
 replace hua3:=hua3.kp g10.kp
 refine ec 27 (vprim_ok hua1 hua2 hua3 (by omega) ha) ?_
 rintro e12 w12 ⟨⟨t12_0,t12_1,t12_2,t12_3,t12_4,t12_5,t12_6,t12_7,t12_8,t12_9,t12_10,t12_11,rfl,h12a,h12b,h12c⟩,g12⟩
 refine ⟨_,rfl,?_⟩
 replace hB:=hB.trans g12
 simp only [p3,p4]
 refine sv 24 (.tuple #[(.agg #[t12_0,t12_1,t12_2,t12_3,t12_4,t12_5,t12_6,t12_7,t12_8,t12_9,t12_10,t12_11]),(.int .i64 0)]) ?_
 refine sv 28 (.agg #[t12_0,t12_1,t12_2,t12_3,t12_4,t12_5,t12_6,t12_7,t12_8,t12_9,t12_10,t12_11]) ?_
 refine sv 29 (.int .i64 0) ?_
 refine se ?_
 refine ea 35 #[(.bool false),(.slice none 0 0),(.bool false),(.slice none 0 0),(.bool false),(.slice none 0 0),(.bool false),(.slice none 0 0),(.bool false),(.slice none 0 0),(.bool false),(.slice none 0 0)] 5 hB fun b13 w13 g13 L13 o13 q13 hB=>?_
 replace L2:=L2.gr g12
 have ne2_13:=L2.ne o13
 replace L3:=L3.gr (g6.trans (g10.trans g12))
 have ne3_13:=L3.ne o13
 simp only [p3,p4]
 refine se ?_
 refine es 35 0 (.agg #[t12_0,t12_1,t12_2,t12_3,t12_4,t12_5,t12_6,t12_7,t12_8,t12_9,t12_10,t12_11]) [t12_0,t12_1,t12_2,t12_3,t12_4,t12_5,t12_6,t12_7,t12_8,t12_9,t12_10,t12_11] #[t12_0,t12_1,t12_2,t12_3,t12_4,t12_5,t12_6,t12_7,t12_8,t12_9,t12_10,t12_11] L13 hB q13 ⟨h12a.one0,h12a.one1,h12a.one2,h12a.one3,h12b.one0,h12b.one1,h12b.one2,h12b.one3,h12c.one0,h12c.one1,h12c.one2,h12c.one3,trivial⟩ fun w14 st14 kp14 L13 hB=>?_
 refine sv 6 (.int .i64 0) ?_
 refine sq_nil ?_
 refine k11 _ _ ?_
 try clear k11 K11
 refine wp_seq_k (fun K15 k15=>?_)
 have hz16:=Below.size hB
 replace L2:=st14.lc (L2.gr g13) ne2_13
 have lt2_16:=L2.lt
 replace L3:=st14.lc (L3.gr g13) ne3_13
 have lt3_16:=L3.lt
 have lt13_16:=L13.lt
 have gd16:=Gr.drew w14
 replace hB:=hB.trans gd16
 replace L2:=L2.gr gd16
 refine wp_region_flo (fun w'=>Lc w' b2 #[uaa0,uaa1,uaa2,uaa3,uab0,uab1,uab2,uab3,uac0,uac1,uac2,uac3,uba0,uba1,uba2,uba3,ubb0,ubb1,ubb2,ubb3,ubc0,ubc1,ubc2,ubc3] 42) [(true,1),(true,2),(true,3),(true,4),(false,0),(false,5),(false,6),(true,7),(true,8),(true,9)] [⟨10,7,33,#[(.bool false),(.slice none 0 0),(.bool false),(.slice none 0 0)]⟩] [(false,11),(true,12)] (by kernel_rfl) (by kernel_rfl) (by kernel_rfl) (by kernel_rfl) (by kernel_rfl) (by decide) (fun _ _ _ _ _ h=>h) (fun _ _ _ _ _ h=>h) (fun w' o h=>Lc.gr h (Gr.alloc w' o)) L2 (by intro f hf;simp only [List.mem_cons,List.not_mem_nil,or_false] at hf;rcases hf with rfl<;>first | exact alloc_zero (z:=(.agg #[(.bool false),(.slice none 0 0),(.bool false),(.slice none 0 0)])) (by kernel_rfl) rfl) ?_
 refine fv 32 (.pointer (some ⟨b2,0,none⟩)) ?_
 refine fw 33 (.agg #[uaa0,uaa1,uaa2,uaa3,uab0,uab1,uab2,uab3,uac0,uac1,uac2,uac3]) rfl (fun w' hS=>(rl 35 0 [uaa0,uaa1,uaa2,uaa3,uab0,uab1,uab2,uab3,uac0,uac1,uac2,uac3] hS)) ?_
 refine fv 34 (.pointer (some ⟨b2,0,none⟩)) ?_
 refine fw 35 (.agg #[uaa0,uaa1,uaa2,uaa3,uab0,uab1,uab2,uab3,uac0,uac1,uac2,uac3]) rfl (fun w' hS=>(rl 35 0 [uaa0,uaa1,uaa2,uaa3,uab0,uab1,uab2,uab3,uac0,uac1,uac2,uac3] hS)) ?_
 refine flo_eff rfl rfl (fun w17 g17 _ K17 k17=>?_)
 replace hB:=hB.trans g17
 refine ec 31 (from_r (1) (by omega) (by omega) _) ?_
 rintro e18 w18 ⟨⟨p18,q18,r18,s18,rfl,h18⟩,g18⟩
 refine ⟨_,rfl,?_⟩
 replace hB:=hB.trans g18
 replace L2:=L2.gr (g17.trans g18)
 refine k17 _ _ g18 L2 ?_
 try clear k17 K17
 simp only [p3,p4]
 refine flo_eff rfl rfl (fun w19 g19 _ K19 k19=>?_)
 replace hB:=hB.trans g19
 have kq21:=g12.kp.trans (g13.kp.trans (kp14.trans (gd16.kp.trans (g17.kp.trans (g18.kp.trans g19.kp)))))
 replace hua1:=hua1.kp kq21
 replace hua2:=hua2.kp kq21
 replace hua3:=hua3.kp kq21
 refine ec 36 (dot_v hua1 hua2 hua3 hua1 hua2 hua3 (by omega)) ?_
 rintro e20 w20 ⟨⟨p20,q20,r20,s20,rfl,h20⟩,g20⟩
 refine ⟨_,rfl,?_⟩
 replace hB:=hB.trans g20
 replace L2:=L2.gr (g19.trans g20)
 refine k19 _ _ g20 L2 ?_
 try clear k19 K19
 simp only [p3,p4]
 refine flo_eff rfl rfl (fun w22 g22 _ K22 k22=>?_)
 replace hB:=hB.trans g22
 have kq24:=g19.kp.trans (g20.kp.trans g22.kp)
 replace h18:=h18.kp kq24
 replace h20:=h20.kp g22.kp
 refine ec 37 (div_r h18 h20 (by omega) hdv) ?_
 rintro e23 w23 ⟨⟨p23,q23,r23,s23,rfl,h23⟩,g23⟩
 refine ⟨_,rfl,?_⟩
 replace hB:=hB.trans g23
 replace L2:=L2.gr (g22.trans g23)
 refine k22 _ _ g23 L2 ?_
 try clear k22 K22
 simp only [p3,p4]
 refine fv 30 (.tuple #[(.agg #[p23,q23,r23,s23]),(.int .i64 0)]) ?_
 refine fv 38 (.agg #[p23,q23,r23,s23]) ?_
 refine fv 39 (.int .i64 0) ?_
 refine flo_nil (fun w25 g25 _=>?_)
 replace hB:=hB.trans g25
 refine floFin1 (fun b26 (L26:Lc w25 b26 #[(.bool false),(.slice none 0 0),(.bool false),(.slice none 0 0)] 33) q26=>?_)
 have ne2_26:b2≠b26:=Nat.ne_of_lt (Nat.lt_of_lt_of_le lt2_16 q26)
 have ne3_26:b3≠b26:=Nat.ne_of_lt (Nat.lt_of_lt_of_le lt3_16 q26)
 have ne13_26:b13≠b26:=Nat.ne_of_lt (Nat.lt_of_lt_of_le lt13_16 q26)
 replace q26:=Nat.le_trans hz16 q26
 simp only [putl,p3,p4]
 refine oe ?_
 refine es 33 0 (.agg #[p23,q23,r23,s23]) [p23,q23,r23,s23] #[p23,q23,r23,s23] L26 hB q26 ⟨h23.one0,h23.one1,h23.one2,h23.one3,trivial⟩ fun w28 st28 kp28 L26 hB=>?_
 replace L2:=st28.lc (L2.gr g25) ne2_26
 refine ⟨L2,?_⟩
 refine ov 8 (.int .i64 0) ?_
 refine ord_nil ?_
 refine k15 _ _ ?_
 try clear k15 K15
 refine wp_seq_k (fun K29 k29=>?_)
 have hz30:=Below.size hB
 have lt2_30:=L2.lt
 replace L3:=st28.lc (L3.gr (gd16.trans (g17.trans (g18.trans (g19.trans (g20.trans (g22.trans (g23.trans g25)))))))) ne3_26
 have lt3_30:=L3.lt
 replace L13:=st28.lc (L13.gr (gd16.trans (g17.trans (g18.trans (g19.trans (g20.trans (g22.trans (g23.trans g25)))))))) ne13_26
 have lt13_30:=L13.lt
 have lt26_30:=L26.lt
 have gd30:=Gr.drew w28
 replace hB:=hB.trans gd30
 replace L2:=L2.gr gd30
 replace L13:=L13.gr gd30
 replace L26:=L26.gr gd30
 refine wp_region_flo (fun w'=>Lc w' b2 #[uaa0,uaa1,uaa2,uaa3,uab0,uab1,uab2,uab3,uac0,uac1,uac2,uac3,uba0,uba1,uba2,uba3,ubb0,ubb1,ubb2,ubb3,ubc0,ubc1,ubc2,ubc3] 42∧Lc w' b13 #[t12_0,t12_1,t12_2,t12_3,t12_4,t12_5,t12_6,t12_7,t12_8,t12_9,t12_10,t12_11] 35∧Lc w' b26 #[p23,q23,r23,s23] 33) [(true,0),(true,1),(true,2),(true,3),(true,4),(true,6),(false,5),(false,7),(true,8)] [⟨9,9,82,#[(.int .i64 0),(.bool false),(.slice none 0 0),(.bool false),(.slice none 0 0),(.bool false),(.slice none 0 0),(.bool false),(.slice none 0 0),(.bool false),(.slice none 0 0),(.bool false),(.slice none 0 0),(.bool false),(.slice none 0 0),(.bool false),(.slice none 0 0),(.bool false),(.slice none 0 0),(.bool false),(.slice none 0 0),(.bool false),(.slice none 0 0),(.bool false),(.slice none 0 0),(.bool false),(.slice none 0 0),(.bool false),(.slice none 0 0)]⟩] [(false,10)] (by kernel_rfl) (by kernel_rfl) (by kernel_rfl) (by kernel_rfl) (by kernel_rfl) (by decide) (fun _ _ _ _ _ h=>h) (fun _ _ _ _ _ h=>h) (fun w' o h=>⟨Lc.gr h.1 (Gr.alloc w' o),Lc.gr h.2.1 (Gr.alloc w' o),Lc.gr h.2.2 (Gr.alloc w' o)⟩) ⟨L2,L13,L26⟩ (by intro f hf;simp only [List.mem_cons,List.not_mem_nil,or_false] at hf;rcases hf with rfl<;>first | exact alloc_zero (z:=(.agg #[(.int .i64 0),(.bool false),(.slice none 0 0),(.bool false),(.slice none 0 0),(.bool false),(.slice none 0 0),(.bool false),(.slice none 0 0),(.bool false),(.slice none 0 0),(.bool false),(.slice none 0 0),(.bool false),(.slice none 0 0),(.bool false),(.slice none 0 0),(.bool false),(.slice none 0 0),(.bool false),(.slice none 0 0),(.bool false),(.slice none 0 0),(.bool false),(.slice none 0 0),(.bool false),(.slice none 0 0),(.bool false),(.slice none 0 0)])) (by kernel_rfl) rfl) ?_
 refine fw 40 (.agg #[t12_0,t12_1,t12_2,t12_3,t12_4,t12_5,t12_6,t12_7,t12_8,t12_9,t12_10,t12_11]) rfl (fun w' hS=>(rl 35 0 [t12_0,t12_1,t12_2,t12_3,t12_4,t12_5,t12_6,t12_7,t12_8,t12_9,t12_10,t12_11] hS.2.1)) ?_
 refine fv 41 (.pointer (some ⟨b2,0,none⟩)) ?_
 refine fw 42 (.agg #[uaa0,uaa1,uaa2,uaa3,uab0,uab1,uab2,uab3,uac0,uac1,uac2,uac3]) rfl (fun w' hS=>(rl 35 0 [uaa0,uaa1,uaa2,uaa3,uab0,uab1,uab2,uab3,uac0,uac1,uac2,uac3] hS.1)) ?_
 refine fv 43 (.pointer (some ⟨b2,12,none⟩)) ?_
 refine fw 44 (.agg #[uba0,uba1,uba2,uba3,ubb0,ubb1,ubb2,ubb3,ubc0,ubc1,ubc2,ubc3]) rfl (fun w' hS=>(rl 35 12 [uba0,uba1,uba2,uba3,ubb0,ubb1,ubb2,ubb3,ubc0,ubc1,ubc2,ubc3] hS.1)) ?_
 refine fw 46 (.agg #[p23,q23,r23,s23]) rfl (fun w' hS=>(rl 33 0 [p23,q23,r23,s23] hS.2.2)) ?_
 refine flo_eff rfl rfl (fun w31 g31 _ K31 k31=>?_)
 replace hB:=hB.trans g31
 have kq33:=g20.kp.trans (g22.kp.trans (g23.kp.trans (g25.kp.trans (kp28.trans (gd30.kp.trans g31.kp)))))
 replace hua1:=hua1.kp kq33
 replace hua2:=hua2.kp kq33
 replace hua3:=hua3.kp kq33
 have kq34:=g6.kp.trans (g10.kp.trans (g12.kp.trans (g13.kp.trans (kp14.trans (gd16.kp.trans (g17.kp.trans (g18.kp.trans (g19.kp.trans (g20.kp.trans (g22.kp.trans (g23.kp.trans (g25.kp.trans (kp28.trans (gd30.kp.trans g31.kp))))))))))))))
 replace hub1:=hub1.kp kq34
 replace hub2:=hub2.kp kq34
 replace hub3:=hub3.kp kq34
 refine ec 45 (cross_v hua1 hua2 hua3 hub1 hub2 hub3 (by omega)) ?_
 rintro e32 w32 ⟨⟨t32_0,t32_1,t32_2,t32_3,t32_4,t32_5,t32_6,t32_7,t32_8,t32_9,t32_10,t32_11,rfl,h32a,h32b,h32c⟩,g32⟩
 refine ⟨_,rfl,?_⟩
 replace hB:=hB.trans g32
 replace L2:=L2.gr (g31.trans g32)
 replace L13:=L13.gr (g31.trans g32)
 replace L26:=L26.gr (g31.trans g32)
 refine k31 _ _ g32 ⟨L2,L13,L26⟩ ?_
 try clear k31 K31
 simp only [p3,p4]
 refine flo_eff rfl rfl (fun w35 g35 _ K35 k35=>?_)
 replace hB:=hB.trans g35
 replace h32a:=h32a.kp g35.kp
 replace h32b:=h32b.kp g35.kp
 replace h32c:=h32c.kp g35.kp
 have kq37:=g25.kp.trans (kp28.trans (gd30.kp.trans (g31.kp.trans (g32.kp.trans g35.kp))))
 replace h23:=h23.kp kq37
 refine ec 47 (vscale_v h32a h32b h32c h23 (by omega)) ?_
 rintro e36 w36 ⟨⟨t36_0,t36_1,t36_2,t36_3,t36_4,t36_5,t36_6,t36_7,t36_8,t36_9,t36_10,t36_11,rfl,h36a,h36b,h36c⟩,g36⟩
 refine ⟨_,rfl,?_⟩
 replace hB:=hB.trans g36
 replace L2:=L2.gr (g35.trans g36)
 replace L13:=L13.gr (g35.trans g36)
 replace L26:=L26.gr (g35.trans g36)
 refine k35 _ _ g36 ⟨L2,L13,L26⟩ ?_
 try clear k35 K35
 simp only [p3,p4]
 refine fv 48 (.agg #[(.int .i64 2),t12_0,t12_1,t12_2,t12_3,t12_4,t12_5,t12_6,t12_7,t12_8,t12_9,t12_10,t12_11,t36_0,t36_1,t36_2,t36_3,t36_4,t36_5,t36_6,t36_7,t36_8,t36_9,t36_10,t36_11,(.bool false),(.slice none 0 0),(.bool false),(.slice none 0 0)]) ?_
 refine flo_nil (fun w38 g38 _=>?_)
 replace hB:=hB.trans g38
 refine floFin1 (fun b39 (L39:Lc w38 b39 #[(.int .i64 0),(.bool false),(.slice none 0 0),(.bool false),(.slice none 0 0),(.bool false),(.slice none 0 0),(.bool false),(.slice none 0 0),(.bool false),(.slice none 0 0),(.bool false),(.slice none 0 0),(.bool false),(.slice none 0 0),(.bool false),(.slice none 0 0),(.bool false),(.slice none 0 0),(.bool false),(.slice none 0 0),(.bool false),(.slice none 0 0),(.bool false),(.slice none 0 0),(.bool false),(.slice none 0 0),(.bool false),(.slice none 0 0)] 82) q39=>?_)
 have ne2_39:b2≠b39:=Nat.ne_of_lt (Nat.lt_of_lt_of_le lt2_30 q39)
 have ne3_39:b3≠b39:=Nat.ne_of_lt (Nat.lt_of_lt_of_le lt3_30 q39)
 have ne13_39:b13≠b39:=Nat.ne_of_lt (Nat.lt_of_lt_of_le lt13_30 q39)
 have ne26_39:b26≠b39:=Nat.ne_of_lt (Nat.lt_of_lt_of_le lt26_30 q39)
 replace q39:=Nat.le_trans hz30 q39
 simp only [putl,p3,p4]
 refine oe ?_
 refine es 82 0 (.agg #[(.int .i64 2),t12_0,t12_1,t12_2,t12_3,t12_4,t12_5,t12_6,t12_7,t12_8,t12_9,t12_10,t12_11,t36_0,t36_1,t36_2,t36_3,t36_4,t36_5,t36_6,t36_7,t36_8,t36_9,t36_10,t36_11,(.bool false),(.slice none 0 0),(.bool false),(.slice none 0 0)]) [(.int .i64 2),t12_0,t12_1,t12_2,t12_3,t12_4,t12_5,t12_6,t12_7,t12_8,t12_9,t12_10,t12_11,t36_0,t36_1,t36_2,t36_3,t36_4,t36_5,t36_6,t36_7,t36_8,t36_9,t36_10,t36_11,(.bool false),(.slice none 0 0),(.bool false),(.slice none 0 0)] #[(.int .i64 2),t12_0,t12_1,t12_2,t12_3,t12_4,t12_5,t12_6,t12_7,t12_8,t12_9,t12_10,t12_11,t36_0,t36_1,t36_2,t36_3,t36_4,t36_5,t36_6,t36_7,t36_8,t36_9,t36_10,t36_11,(.bool false),(.slice none 0 0),(.bool false),(.slice none 0 0)] L39 hB q39 ⟨rfl,h12a.one0,h12a.one1,h12a.one2,h12a.one3,h12b.one0,h12b.one1,h12b.one2,h12b.one3,h12c.one0,h12c.one1,h12c.one2,h12c.one3,h36a.one0,h36a.one1,h36a.one2,h36a.one3,h36b.one0,h36b.one1,h36b.one2,h36b.one3,h36c.one0,h36c.one1,h36c.one2,h36c.one3,rfl,rfl,rfl,rfl,trivial⟩ fun w41 st41 kp41 L39 hB=>?_
 replace L2:=st41.lc (L2.gr g38) ne2_39
 replace L13:=st41.lc (L13.gr g38) ne13_39
 replace L26:=st41.lc (L26.gr g38) ne26_39
 refine ⟨⟨L2,L13,L26⟩,?_⟩
 refine ord_nil ?_
 refine k29 _ _ ?_
 try clear k29 K29
 refine wp_seq_k (fun K42 k42=>?_)
 have gd52:=Gr.drew w41
 replace hB:=hB.trans gd52
 replace L2:=L2.gr gd52
 replace L26:=L26.gr gd52
 refine wp_region_ord (fun w'=>Lc w' b2 #[uaa0,uaa1,uaa2,uaa3,uab0,uab1,uab2,uab3,uac0,uac1,uac2,uac3,uba0,uba1,uba2,uba3,ubb0,ubb1,ubb2,ubb3,ubc0,ubc1,ubc2,ubc3] 42∧Lc w' b26 #[p23,q23,r23,s23] 33) [(true,0),(true,1),(true,2),(true,3),(true,5),(false,4),(false,6),(true,7),(false,8)] (by kernel_rfl) (by kernel_rfl) (by kernel_rfl) (by decide) (fun _ _ _ _ _ h=>h) ⟨L2,L26⟩ ?_
 refine ov 49 (.pointer (some ⟨b2,0,none⟩)) ?_
 refine ow 50 (.agg #[uaa0,uaa1,uaa2,uaa3,uab0,uab1,uab2,uab3,uac0,uac1,uac2,uac3]) rfl (fun w' hS=>(rl 35 0 [uaa0,uaa1,uaa2,uaa3,uab0,uab1,uab2,uab3,uac0,uac1,uac2,uac3] hS.1)) ?_
 refine ov 51 (.pointer (some ⟨b2,12,none⟩)) ?_
 refine ow 52 (.agg #[uba0,uba1,uba2,uba3,ubb0,ubb1,ubb2,ubb3,ubc0,ubc1,ubc2,ubc3]) rfl (fun w' hS=>(rl 35 12 [uba0,uba1,uba2,uba3,ubb0,ubb1,ubb2,ubb3,ubc0,ubc1,ubc2,ubc3] hS.1)) ?_
 refine ow 54 (.agg #[p23,q23,r23,s23]) rfl (fun w' hS=>(rl 33 0 [p23,q23,r23,s23] hS.2)) ?_
 refine oe ?_
 have kq55:=g32.kp.trans (g35.kp.trans (g36.kp.trans (g38.kp.trans (kp41.trans gd52.kp))))
 replace hua1:=hua1.kp kq55
 replace hua2:=hua2.kp kq55
 replace hua3:=hua3.kp kq55
 replace hub1:=hub1.kp kq55
 replace hub2:=hub2.kp kq55
 replace hub3:=hub3.kp kq55
 refine ec 53 (dot_v hua1 hua2 hua3 hub1 hub2 hub3 (by omega)) ?_
 rintro e54 w54 ⟨⟨p54,q54,r54,s54,rfl,h54⟩,g54⟩
 refine ⟨_,rfl,?_⟩
 replace hB:=hB.trans g54
 replace L2:=L2.gr g54
 replace L26:=L26.gr g54
 refine ⟨⟨L2,L26⟩,?_⟩
 simp only [p3,p4]
 refine oe ?_
 have kq58:=g36.kp.trans (g38.kp.trans (kp41.trans (gd52.kp.trans g54.kp)))
 replace h23:=h23.kp kq58
 refine ec 55 (mul_r h54 h23 (by omega)) ?_
 rintro e57 w57 ⟨⟨p57,q57,r57,s57,rfl,h57⟩,g57⟩
 refine ⟨_,rfl,?_⟩
 replace hB:=hB.trans g57
 replace L2:=L2.gr g57
 replace L26:=L26.gr g57
 refine ⟨⟨L2,L26⟩,?_⟩
 simp only [p3,p4]
 refine ov 56 (.pointer (some ⟨b39,25,none⟩)) ?_
 refine oe ?_
 replace L39:=L39.gr (gd52.trans (g54.trans g57))
 refine es 33 25 (.agg #[p57,q57,r57,s57]) [p57,q57,r57,s57] #[(.int .i64 2),t12_0,t12_1,t12_2,t12_3,t12_4,t12_5,t12_6,t12_7,t12_8,t12_9,t12_10,t12_11,t36_0,t36_1,t36_2,t36_3,t36_4,t36_5,t36_6,t36_7,t36_8,t36_9,t36_10,t36_11,p57,q57,r57,s57] L39 hB q39 ⟨h57.one0,h57.one1,h57.one2,h57.one3,trivial⟩ fun w60 st60 kp60 L39 hB=>?_
 replace L2:=st60.lc L2 ne2_39
 replace L26:=st60.lc L26 ne26_39
 refine ⟨⟨L2,L26⟩,?_⟩
 refine ord_nil ?_
 refine k42 _ _ ?_
 try clear k42 K42
 refine wp_seq_k (fun K61 k61=>?_)
 refine wp_seq_k (fun K62 k62=>?_)
 refine rg [0,1,2,3] ?_
 refine sv 57 (.pointer (some ⟨b39,25,none⟩)) ?_
 refine sw 58 (.agg #[p57,q57,r57,s57]) rfl (rl 33 25 [p57,q57,r57,s57] L39) ?_
 refine se ?_
 replace h57:=h57.kp kp60
 refine ec 59 (sign_r h57) ?_
 rintro e63 w63 ⟨rfl,g63⟩
 refine ⟨_,rfl,?_⟩
 replace hB:=hB.trans g63
 simp only [p3,p4]
 refine sw 60 (.bool true) rfl (RunV.bool (x:=(sgn (((0+a1*d1+a2*d2+a3*d3)*((((1:Int):Rat))/(0+a1*a1+a2*a2+a3*a3)))).num !=(0:Int))) (rvk (by kernel_rfl)) e3) ?_
 refine sq_nil ?_
 refine k62 _ _ ?_
 try clear k62 K62
 refine wp_cond_true rfl ?_
 refine rg [0,1] ?_
 refine sv 61 (.pointer (some ⟨b39,0,none⟩)) ?_
 refine se ?_
 replace L39:=L39.gr g63
 refine es 3 0 (.int .i64 3) [(.int .i64 3)] #[(.int .i64 3),t12_0,t12_1,t12_2,t12_3,t12_4,t12_5,t12_6,t12_7,t12_8,t12_9,t12_10,t12_11,t36_0,t36_1,t36_2,t36_3,t36_4,t36_5,t36_6,t36_7,t36_8,t36_9,t36_10,t36_11,p57,q57,r57,s57] L39 hB q39 ⟨rfl,trivial⟩ fun w64 st64 kp64 L39 hB=>?_
 refine sq_nil ?_
 refine k61 _ _ ?_
 try clear k61 K61
 refine wp_seq_k (fun K65 k65=>?_)
 refine rg [0,1] ?_
 refine sw 62 (.agg #[(.int .i64 3),t12_0,t12_1,t12_2,t12_3,t12_4,t12_5,t12_6,t12_7,t12_8,t12_9,t12_10,t12_11,t36_0,t36_1,t36_2,t36_3,t36_4,t36_5,t36_6,t36_7,t36_8,t36_9,t36_10,t36_11,p57,q57,r57,s57]) rfl (rl 82 0 [(.int .i64 3),t12_0,t12_1,t12_2,t12_3,t12_4,t12_5,t12_6,t12_7,t12_8,t12_9,t12_10,t12_11,t36_0,t36_1,t36_2,t36_3,t36_4,t36_5,t36_6,t36_7,t36_8,t36_9,t36_10,t36_11,p57,q57,r57,s57] L39) ?_
 refine se ?_
 replace L3:=st64.lc ((st60.lc ((st41.lc (L3.gr (gd30.trans (g31.trans (g32.trans (g35.trans (g36.trans g38)))))) ne3_39).gr (gd52.trans (g54.trans g57))) ne3_39).gr g63) ne3_39
 refine es 82 0 (.agg #[(.int .i64 3),t12_0,t12_1,t12_2,t12_3,t12_4,t12_5,t12_6,t12_7,t12_8,t12_9,t12_10,t12_11,t36_0,t36_1,t36_2,t36_3,t36_4,t36_5,t36_6,t36_7,t36_8,t36_9,t36_10,t36_11,p57,q57,r57,s57]) [(.int .i64 3),t12_0,t12_1,t12_2,t12_3,t12_4,t12_5,t12_6,t12_7,t12_8,t12_9,t12_10,t12_11,t36_0,t36_1,t36_2,t36_3,t36_4,t36_5,t36_6,t36_7,t36_8,t36_9,t36_10,t36_11,p57,q57,r57,s57] #[(.int .i64 3),t12_0,t12_1,t12_2,t12_3,t12_4,t12_5,t12_6,t12_7,t12_8,t12_9,t12_10,t12_11,t36_0,t36_1,t36_2,t36_3,t36_4,t36_5,t36_6,t36_7,t36_8,t36_9,t36_10,t36_11,p57,q57,r57,s57] L3 hB q3 ⟨rfl,h12a.one0,h12a.one1,h12a.one2,h12a.one3,h12b.one0,h12b.one1,h12b.one2,h12b.one3,h12c.one0,h12c.one1,h12c.one2,h12c.one3,h36a.one0,h36a.one1,h36a.one2,h36a.one3,h36b.one0,h36b.one1,h36b.one2,h36b.one3,h36c.one0,h36c.one1,h36c.one2,h36c.one3,h57.one0,h57.one1,h57.one2,h57.one3,trivial⟩ fun w66 st66 kp66 L3 hB=>?_
 refine sq_nil ?_
 refine k65 _ _ ?_
 try clear k65 K65
 refine wp_ret ?_
 refine bodyPost_ret (v:=(.agg #[(.int .i64 3),t12_0,t12_1,t12_2,t12_3,t12_4,t12_5,t12_6,t12_7,t12_8,t12_9,t12_10,t12_11,t36_0,t36_1,t36_2,t36_3,t36_4,t36_5,t36_6,t36_7,t36_8,t36_9,t36_10,t36_11,p57,q57,r57,s57])) (ret_cell _ _ _ rfl rfl L3 (by kernel_rfl)) rfl ⟨?_,hB⟩
 have kq67:=g13.kp.trans (kp14.trans (gd16.kp.trans (g17.kp.trans (g18.kp.trans (g19.kp.trans (g20.kp.trans (g22.kp.trans (g23.kp.trans (g25.kp.trans (kp28.trans (gd30.kp.trans (g31.kp.trans (g32.kp.trans (g35.kp.trans (g36.kp.trans (g38.kp.trans (kp41.trans (gd52.kp.trans (g54.kp.trans (g57.kp.trans (kp60.trans (g63.kp.trans (kp64.trans kp66)))))))))))))))))))))))
 replace h12a:=h12a.kp kq67
 replace h12b:=h12b.kp kq67
 replace h12c:=h12c.kp kq67
 have kq68:=g38.kp.trans (kp41.trans (gd52.kp.trans (g54.kp.trans (g57.kp.trans (kp60.trans (g63.kp.trans (kp64.trans kp66)))))))
 replace h36a:=h36a.kp kq68
 replace h36b:=h36b.kp kq68
 replace h36c:=h36c.kp kq68
 have kq69:=g63.kp.trans (kp64.trans kp66)
 replace h57:=h57.kp kq69
 exact ⟨_,_,_,_,_,_,_,_,_,_,_,_,_,_,_,_,_,_,_,_,_,_,_,_,_,_,_,_,rfl,h12a.mono (by omega),h12b.mono (by omega),h12c.mono (by omega),h36a.mono (by omega),h36b.mono (by omega),h36c.mono (by omega),h57.mono (by omega)⟩

set_option maxRecDepth 100000 in
set_option maxHeartbeats 1000000 in
theorem nb17_w {k:Nat} {u0 u1 u2 u3:Value} {a:Rat} {w:World} (ha:IsRat w k u0 u1 u2 u3 a) (_hk:k≤800000) (ht:Tab w) (hw:a.den=1):
    Calls Tryz.prog 35 #[(.agg #[u0,u1,u2,u3])] w fun e w'=>e=.returned (.string ⟨(ratL a).toArray⟩)∧Gr w w':=by
 go_enter Tryz.func35,Tryz.ntmps35
 have hB:=Gr.refl w
 refine wp_seq_k (fun K1 k1=>?_)
 refine rg [0,1] ?_
 refine se ?_
 refine eb 33 #[u0,u1,u2,u3] 1 hB fun b2 w2 g2 L2 o2 q2 hB=>?_
 simp only [p3,p4]
 refine sv 2 (.string ⟨([]:List UInt8).toArray⟩) ?_
 refine sq_nil ?_
 refine k1 _ _ ?_
 try clear k1 K1
 refine wp_seq_k (fun K3 k3=>?_)
 refine wp_seq_k (fun K4 k4=>?_)
 refine rg [0,1] ?_
 refine sw 3 (.agg #[u0,u1,u2,u3]) rfl (rl 33 0 [u0,u1,u2,u3] L2) ?_
 refine se ?_
 replace ha:=ha.kp g2.kp
 refine ec 4 (whole_t ha (by omega) hw) ?_
 rintro e5 w5 ⟨rfl,g5⟩
 refine ⟨_,rfl,?_⟩
 replace hB:=hB.trans g5
 simp only [p3,p4]
 refine sq_nil ?_
 refine k4 _ _ ?_
 try clear k4 K4
 refine wp_cond_true rfl ?_
 refine wp_seq_k (fun K6 k6=>?_)
 refine rg [0,1,2,3] ?_
 refine sv 5 (.pointer (some ⟨b2,0,none⟩)) ?_
 replace L2:=L2.gr g5
 refine sw 6 (.agg #[u0,u1]) rfl (rl 31 0 [u0,u1] L2) ?_
 refine se ?_
 replace ha:=ha.kp g5.kp
 refine ec 7 (text_i ha.num (by omega) (ht.gr hB)) ?_
 rintro e7 w7 ⟨rfl,g7⟩
 refine ⟨_,rfl,?_⟩
 replace hB:=hB.trans g7
 simp only [p3,p4]
 refine sv 2 (.string ⟨(Lib.itoa (a.num):List UInt8).toArray⟩) ?_
 refine sq_nil ?_
 refine k6 _ _ ?_
 try clear k6 K6
 refine wp_ret ?_
 simp only [Exit.then]
 refine bodyPost_ret (v:=(.string ⟨(Lib.itoa (a.num):List UInt8).toArray⟩)) (ret_tmp rfl rfl) rfl ⟨?_,hB⟩
 exact (by rw [ratL_w hw])

set_option maxRecDepth 100000 in
set_option maxHeartbeats 1000000 in
theorem nb17_d {k:Nat} {u0 u1 u2 u3:Value} {a:Rat} {w:World} (ha:IsRat w k u0 u1 u2 u3 a) (_hk:k≤800000) (ht:Tab w) (hd:IsInt w k u2 u3 (a.den:Int)) (hw:¬ a.den=1):
    Calls Tryz.prog 35 #[(.agg #[u0,u1,u2,u3])] w fun e w'=>e=.returned (.string ⟨(ratL a).toArray⟩)∧Gr w w':=by
 have hl1:=itoa_len ha.num.sz
 have hl2:=itoa_len hd.sz
 go_enter Tryz.func35,Tryz.ntmps35
 have hB:=Gr.refl w
 refine wp_seq_k (fun K1 k1=>?_)
 refine rg [0,1] ?_
 refine se ?_
 refine eb 33 #[u0,u1,u2,u3] 1 hB fun b2 w2 g2 L2 o2 q2 hB=>?_
 simp only [p3,p4]
 refine sv 2 (.string ⟨([]:List UInt8).toArray⟩) ?_
 refine sq_nil ?_
 refine k1 _ _ ?_
 try clear k1 K1
 refine wp_seq_k (fun K3 k3=>?_)
 refine wp_seq_k (fun K4 k4=>?_)
 refine rg [0,1] ?_
 refine sw 3 (.agg #[u0,u1,u2,u3]) rfl (rl 33 0 [u0,u1,u2,u3] L2) ?_
 refine se ?_
 replace ha:=ha.kp g2.kp
 refine ec 4 (whole_f ha (by omega) hw) ?_
 rintro e5 w5 ⟨rfl,g5⟩
 refine ⟨_,rfl,?_⟩
 replace hB:=hB.trans g5
 simp only [p3,p4]
 refine sq_nil ?_
 refine k4 _ _ ?_
 try clear k4 K4
 refine wp_cond_false rfl ?_
 refine wp_skip ?_
 refine k3 _ _ ?_
 try clear k3 K3
 refine wp_seq_k (fun K6 k6=>?_)
 have gd14:=Gr.drew w5
 replace hB:=hB.trans gd14
 replace L2:=L2.gr (g5.trans gd14)
 refine wp_region_ord (fun w'=>Lc w' b2 #[u0,u1,u2,u3] 33) [(true,0),(true,1),(true,4),(true,5),(false,2),(true,3),(false,6),(true,7),(true,8)] (by kernel_rfl) (by kernel_rfl) (by kernel_rfl) (by decide) (fun _ _ _ _ _ h=>h) L2 ?_
 refine ov 8 (.pointer (some ⟨b2,0,none⟩)) ?_
 refine ow 9 (.agg #[u0,u1]) rfl (fun w' hS=>(rl 31 0 [u0,u1] hS)) ?_
 refine ov 12 (.pointer (some ⟨b2,2,none⟩)) ?_
 refine ow 13 (.agg #[u2,u3]) rfl (fun w' hS=>(rl 31 2 [u2,u3] hS)) ?_
 refine oe ?_
 have kq17:=g5.kp.trans gd14.kp
 replace ha:=ha.kp kq17
 refine ec 10 (text_i ha.num (by omega) (ht.gr hB)) ?_
 rintro e16 w16 ⟨rfl,g16⟩
 refine ⟨_,rfl,?_⟩
 replace hB:=hB.trans g16
 replace L2:=L2.gr g16
 refine ⟨L2,?_⟩
 simp only [p3,p4]
 refine ow 11 (.string ⟨((Lib.itoa (a.num))++([47]):List UInt8).toArray⟩) rfl (fun w' hS=>(rv_cat 9 9 _ _ (Lib.itoa (a.num)) ([47]) rfl rfl rfl (by simp only [List.length_cons,List.length_nil];omega))) ?_
 refine oe ?_
 have kq20:=g2.kp.trans (g5.kp.trans (gd14.kp.trans g16.kp))
 replace hd:=hd.kp kq20
 refine ec 14 (text_i hd (by omega) (ht.gr hB)) ?_
 rintro e19 w19 ⟨rfl,g19⟩
 refine ⟨_,rfl,?_⟩
 replace hB:=hB.trans g19
 replace L2:=L2.gr g19
 refine ⟨L2,?_⟩
 simp only [p3,p4]
 refine ow 15 (.string ⟨(((Lib.itoa (a.num))++([47]))++(Lib.itoa ((a.den:Int))):List UInt8).toArray⟩) rfl (fun w' hS=>(rv_cat 9 9 _ _ ((Lib.itoa (a.num))++([47])) (Lib.itoa ((a.den:Int))) rfl rfl rfl (by simp only [List.length_append,List.length_cons,List.length_nil];omega))) ?_
 refine ov 2 (.string ⟨(((Lib.itoa (a.num))++([47]))++(Lib.itoa ((a.den:Int))):List UInt8).toArray⟩) ?_
 refine ord_nil ?_
 refine k6 _ _ ?_
 try clear k6 K6
 refine wp_ret ?_
 refine bodyPost_ret (v:=(.string ⟨(((Lib.itoa (a.num))++([47]))++(Lib.itoa ((a.den:Int))):List UInt8).toArray⟩)) (ret_tmp rfl rfl) rfl ⟨?_,hB⟩
 exact (by rw [ratL_f hw])

theorem nb17_r {k:Nat} {u0 u1 u2 u3:Value} {a:Rat} {w:World} (ha:IsRat w k u0 u1 u2 u3 a) (hk:k≤800000) (ht:Tab w):
    Calls Tryz.prog 35 #[.agg #[u0,u1,u2,u3]] w fun e w'=>e=.returned (.string ⟨(ratL a).toArray⟩)∧Gr w w':=by
  by_cases hw:a.den=1
  · exact nb17_w ha hk ht hw
  · obtain ⟨D,h2,h3⟩:=ha.den
    rcases h3 with h3 | ⟨_,h4⟩
    · subst h3;exact nb17_d ha hk ht h2 hw
    · exact absurd h4 hw

set_option maxRecDepth 100000 in
set_option maxHeartbeats 1000000 in
theorem vpt17_v {k:Nat} {uaa0 uaa1 uaa2 uaa3 uab0 uab1 uab2 uab3 uac0 uac1 uac2 uac3:Value} {a1 a2 a3:Rat} {w:World} (hua1:IsRat w k uaa0 uaa1 uaa2 uaa3 a1) (hua2:IsRat w k uab0 uab1 uab2 uab3 a2) (hua3:IsRat w k uac0 uac1 uac2 uac3 a3) (_hk:k≤25000) (ht:Tab w):
    Calls Tryz.prog 34 #[(.agg #[uaa0,uaa1,uaa2,uaa3,uab0,uab1,uab2,uab3,uac0,uac1,uac2,uac3])] w fun e w'=>e=.returned (.agg #[.string ⟨(ratL (a1)).toArray⟩,.string ⟨(ratL (a2)).toArray⟩,.string ⟨(ratL (a3)).toArray⟩])∧Gr w w':=by
 go_enter Tryz.func34,Tryz.ntmps34
 have hB:=Gr.refl w
 refine wp_seq_k (fun K1 k1=>?_)
 refine rg [0,1] ?_
 refine se ?_
 refine eb 35 #[uaa0,uaa1,uaa2,uaa3,uab0,uab1,uab2,uab3,uac0,uac1,uac2,uac3] 1 hB fun b2 w2 g2 L2 o2 q2 hB=>?_
 simp only [p3,p4]
 refine se ?_
 refine ea 85 #[(.string ⟨([]:List UInt8).toArray⟩),(.string ⟨([]:List UInt8).toArray⟩),(.string ⟨([]:List UInt8).toArray⟩)] 2 hB fun b3 w3 g3 L3 o3 q3 hB=>?_
 simp only [p3,p4]
 refine sq_nil ?_
 refine k1 _ _ ?_
 try clear k1 K1
 refine wp_seq_k (fun K4 k4=>?_)
 refine rg [0] ?_
 refine se ?_
 refine ea 85 #[(.string ⟨([]:List UInt8).toArray⟩),(.string ⟨([]:List UInt8).toArray⟩),(.string ⟨([]:List UInt8).toArray⟩)] 3 hB fun b5 w5 g5 L5 o5 q5 hB=>?_
 replace L2:=L2.gr g3
 have ne3_5:=L3.ne o5
 simp only [p3,p4]
 refine sq_nil ?_
 refine k4 _ _ ?_
 try clear k4 K4
 refine wp_seq_k (fun K6 k6=>?_)
 refine wp_seq_k (fun K7 k7=>?_)
 refine rg [0,1] ?_
 replace L2:=L2.gr g5
 refine sw 6 (.agg #[uaa0,uaa1,uaa2,uaa3,uab0,uab1,uab2,uab3,uac0,uac1,uac2,uac3]) rfl (rl 35 0 [uaa0,uaa1,uaa2,uaa3,uab0,uab1,uab2,uab3,uac0,uac1,uac2,uac3] L2) ?_
 refine sv 7 (.int .i64 0) ?_
 refine sq_nil ?_
 refine k7 _ _ ?_
 try clear k7 K7
 refine wp_block ?_
 refine wp_loop_rounds 4 ?_
 show Code.wp _ _ _ _ _
 refine wp_seq_k (fun K8 k8=>?_)
 refine rg [0] ?_
 refine sv 8 (.bool true) ?_
 refine sq_nil ?_
 refine k8 _ _ ?_
 try clear k8 K8
 refine wp_seq_k (fun K9 k9=>?_)
 refine wp_cond_true rfl ?_
 refine wp_skip ?_
 refine k9 _ _ ?_
 try clear k9 K9
 refine wp_seq_k (fun K10 k10=>?_)
 refine wp_block ?_
 refine wp_seq_k (fun K11 k11=>?_)
 refine rg [0,1,2,3,4] ?_
 refine sv 9 (.int .i64 0) ?_
 refine sv 10 (.agg #[uaa0,uaa1,uaa2,uaa3]) ?_
 refine se ?_
 refine ea 33 #[(.bool false),(.slice none 0 0),(.bool false),(.slice none 0 0)] 5 hB fun b12 w12 g12 L12 o12 q12 hB=>?_
 replace L3:=L3.gr g5
 have ne3_12:=L3.ne o12
 have ne5_12:=L5.ne o12
 simp only [p3,p4]
 refine sv 4 (.int .i64 0) ?_
 refine se ?_
 refine es 33 0 (.agg #[uaa0,uaa1,uaa2,uaa3]) [uaa0,uaa1,uaa2,uaa3] #[uaa0,uaa1,uaa2,uaa3] L12 hB q12 ⟨hua1.one0,hua1.one1,hua1.one2,hua1.one3,trivial⟩ fun w13 st13 kp13 L12 hB=>?_
 refine sq_nil ?_
 refine k11 _ _ ?_
 try clear k11 K11
 refine rg [0,1,2,3,4] ?_
 refine sv 11 (.int .i64 0) ?_
 refine sw 12 (.agg #[uaa0,uaa1,uaa2,uaa3]) rfl (rl 33 0 [uaa0,uaa1,uaa2,uaa3] L12) ?_
 refine se ?_
 have kq15:=g2.kp.trans (g3.kp.trans (g5.kp.trans (g12.kp.trans kp13)))
 replace hua1:=hua1.kp kq15
 refine ec 13 (nb17_r hua1 (by omega) (ht.gr hB)) ?_
 rintro e14 w14 ⟨rfl,g14⟩
 refine ⟨_,rfl,?_⟩
 replace hB:=hB.trans g14
 simp only [p3,p4]
 refine sv 14 (.pointer (some ⟨b5,0,none⟩)) ?_
 refine se ?_
 replace L5:=(st13.lc (L5.gr g12) ne5_12).gr g14
 refine es 61 0 (.string ⟨(ratL (a1):List UInt8).toArray⟩) [(.string ⟨(ratL (a1):List UInt8).toArray⟩)] #[(.string ⟨(ratL (a1):List UInt8).toArray⟩),(.string ⟨([]:List UInt8).toArray⟩),(.string ⟨([]:List UInt8).toArray⟩)] L5 hB q5 ⟨rfl,trivial⟩ fun w16 st16 kp16 L5 hB=>?_
 refine sq_nil ?_
 refine k10 _ _ ?_
 try clear k10 K10
 refine rg [0,1] ?_
 refine sv 15 (.int .i64 1) ?_
 refine sv 7 (.int .i64 1) ?_
 refine sq_nil ?_
 show Code.rounds _ _ _ _ _ _
 show Code.wp _ _ _ _ _
 refine wp_seq_k (fun K17 k17=>?_)
 refine rg [0] ?_
 refine sv 8 (.bool true) ?_
 refine sq_nil ?_
 refine k17 _ _ ?_
 try clear k17 K17
 refine wp_seq_k (fun K18 k18=>?_)
 refine wp_cond_true rfl ?_
 refine wp_skip ?_
 refine k18 _ _ ?_
 try clear k18 K18
 refine wp_seq_k (fun K19 k19=>?_)
 refine wp_block ?_
 refine wp_seq_k (fun K20 k20=>?_)
 refine rg [0,1,2,3,4] ?_
 refine sv 9 (.int .i64 1) ?_
 refine sv 10 (.agg #[uab0,uab1,uab2,uab3]) ?_
 refine se ?_
 refine ea 33 #[(.bool false),(.slice none 0 0),(.bool false),(.slice none 0 0)] 5 hB fun b21 w21 g21 L21 o21 q21 hB=>?_
 replace L3:=st16.lc ((st13.lc (L3.gr g12) ne3_12).gr g14) ne3_5
 have ne3_21:=L3.ne o21
 have ne5_21:=L5.ne o21
 simp only [p3,p4]
 refine sv 4 (.int .i64 1) ?_
 refine se ?_
 refine es 33 0 (.agg #[uab0,uab1,uab2,uab3]) [uab0,uab1,uab2,uab3] #[uab0,uab1,uab2,uab3] L21 hB q21 ⟨hua2.one0,hua2.one1,hua2.one2,hua2.one3,trivial⟩ fun w22 st22 kp22 L21 hB=>?_
 refine sq_nil ?_
 refine k20 _ _ ?_
 try clear k20 K20
 refine rg [0,1,2,3,4] ?_
 refine sv 11 (.int .i64 1) ?_
 refine sw 12 (.agg #[uab0,uab1,uab2,uab3]) rfl (rl 33 0 [uab0,uab1,uab2,uab3] L21) ?_
 refine se ?_
 have kq24:=g2.kp.trans (g3.kp.trans (g5.kp.trans (g12.kp.trans (kp13.trans (g14.kp.trans (kp16.trans (g21.kp.trans kp22)))))))
 replace hua2:=hua2.kp kq24
 refine ec 13 (nb17_r hua2 (by omega) (ht.gr hB)) ?_
 rintro e23 w23 ⟨rfl,g23⟩
 refine ⟨_,rfl,?_⟩
 replace hB:=hB.trans g23
 simp only [p3,p4]
 refine sv 14 (.pointer (some ⟨b5,1,none⟩)) ?_
 refine se ?_
 replace L5:=(st22.lc (L5.gr g21) ne5_21).gr g23
 refine es 61 1 (.string ⟨(ratL (a2):List UInt8).toArray⟩) [(.string ⟨(ratL (a2):List UInt8).toArray⟩)] #[(.string ⟨(ratL (a1):List UInt8).toArray⟩),(.string ⟨(ratL (a2):List UInt8).toArray⟩),(.string ⟨([]:List UInt8).toArray⟩)] L5 hB q5 ⟨rfl,trivial⟩ fun w25 st25 kp25 L5 hB=>?_
 refine sq_nil ?_
 refine k19 _ _ ?_
 try clear k19 K19
 refine rg [0,1] ?_
 refine sv 15 (.int .i64 2) ?_
 refine sv 7 (.int .i64 2) ?_
 refine sq_nil ?_
 show Code.rounds _ _ _ _ _ _
 show Code.wp _ _ _ _ _
 refine wp_seq_k (fun K26 k26=>?_)
 refine rg [0] ?_
 refine sv 8 (.bool true) ?_
 refine sq_nil ?_
 refine k26 _ _ ?_
 try clear k26 K26
 refine wp_seq_k (fun K27 k27=>?_)
 refine wp_cond_true rfl ?_
 refine wp_skip ?_
 refine k27 _ _ ?_
 try clear k27 K27
 refine wp_seq_k (fun K28 k28=>?_)
 refine wp_block ?_
 refine wp_seq_k (fun K29 k29=>?_)
 refine rg [0,1,2,3,4] ?_
 refine sv 9 (.int .i64 2) ?_
 refine sv 10 (.agg #[uac0,uac1,uac2,uac3]) ?_
 refine se ?_
 refine ea 33 #[(.bool false),(.slice none 0 0),(.bool false),(.slice none 0 0)] 5 hB fun b30 w30 g30 L30 o30 q30 hB=>?_
 replace L3:=st25.lc ((st22.lc (L3.gr g21) ne3_21).gr g23) ne3_5
 have ne3_30:=L3.ne o30
 have ne5_30:=L5.ne o30
 simp only [p3,p4]
 refine sv 4 (.int .i64 2) ?_
 refine se ?_
 refine es 33 0 (.agg #[uac0,uac1,uac2,uac3]) [uac0,uac1,uac2,uac3] #[uac0,uac1,uac2,uac3] L30 hB q30 ⟨hua3.one0,hua3.one1,hua3.one2,hua3.one3,trivial⟩ fun w31 st31 kp31 L30 hB=>?_
 refine sq_nil ?_
 refine k29 _ _ ?_
 try clear k29 K29
 refine rg [0,1,2,3,4] ?_
 refine sv 11 (.int .i64 2) ?_
 refine sw 12 (.agg #[uac0,uac1,uac2,uac3]) rfl (rl 33 0 [uac0,uac1,uac2,uac3] L30) ?_
 refine se ?_
 have kq33:=g2.kp.trans (g3.kp.trans (g5.kp.trans (g12.kp.trans (kp13.trans (g14.kp.trans (kp16.trans (g21.kp.trans (kp22.trans (g23.kp.trans (kp25.trans (g30.kp.trans kp31)))))))))))
 replace hua3:=hua3.kp kq33
 refine ec 13 (nb17_r hua3 (by omega) (ht.gr hB)) ?_
 rintro e32 w32 ⟨rfl,g32⟩
 refine ⟨_,rfl,?_⟩
 replace hB:=hB.trans g32
 simp only [p3,p4]
 refine sv 14 (.pointer (some ⟨b5,2,none⟩)) ?_
 refine se ?_
 replace L5:=(st31.lc (L5.gr g30) ne5_30).gr g32
 refine es 61 2 (.string ⟨(ratL (a3):List UInt8).toArray⟩) [(.string ⟨(ratL (a3):List UInt8).toArray⟩)] #[(.string ⟨(ratL (a1):List UInt8).toArray⟩),(.string ⟨(ratL (a2):List UInt8).toArray⟩),(.string ⟨(ratL (a3):List UInt8).toArray⟩)] L5 hB q5 ⟨rfl,trivial⟩ fun w34 st34 kp34 L5 hB=>?_
 refine sq_nil ?_
 refine k28 _ _ ?_
 try clear k28 K28
 refine rg [0,1] ?_
 refine sv 15 (.int .i64 3) ?_
 refine sv 7 (.int .i64 3) ?_
 refine sq_nil ?_
 show Code.rounds _ _ _ _ _ _
 show Code.wp _ _ _ _ _
 refine wp_seq_k (fun K35 k35=>?_)
 refine rg [0] ?_
 refine sv 8 (.bool false) ?_
 refine sq_nil ?_
 refine k35 _ _ ?_
 try clear k35 K35
 refine wp_seq_k (fun K36 k36=>?_)
 refine wp_cond_false rfl ?_
 refine wp_exit ?_
 simp only [Exit.then,Exit.inBlock,↓reduceIte]
 refine k6 _ _ ?_
 try clear k6 K6
 refine wp_seq_k (fun K37 k37=>?_)
 refine rg [0,1] ?_
 refine sw 16 (.agg #[(.string ⟨(ratL (a1):List UInt8).toArray⟩),(.string ⟨(ratL (a2):List UInt8).toArray⟩),(.string ⟨(ratL (a3):List UInt8).toArray⟩)]) rfl (rl 85 0 [(.string ⟨(ratL (a1):List UInt8).toArray⟩),(.string ⟨(ratL (a2):List UInt8).toArray⟩),(.string ⟨(ratL (a3):List UInt8).toArray⟩)] L5) ?_
 refine se ?_
 replace L3:=st34.lc ((st31.lc (L3.gr g30) ne3_30).gr g32) ne3_5
 refine es 85 0 (.agg #[(.string ⟨(ratL (a1):List UInt8).toArray⟩),(.string ⟨(ratL (a2):List UInt8).toArray⟩),(.string ⟨(ratL (a3):List UInt8).toArray⟩)]) [(.string ⟨(ratL (a1):List UInt8).toArray⟩),(.string ⟨(ratL (a2):List UInt8).toArray⟩),(.string ⟨(ratL (a3):List UInt8).toArray⟩)] #[(.string ⟨(ratL (a1):List UInt8).toArray⟩),(.string ⟨(ratL (a2):List UInt8).toArray⟩),(.string ⟨(ratL (a3):List UInt8).toArray⟩)] L3 hB q3 ⟨rfl,rfl,rfl,trivial⟩ fun w38 st38 kp38 L3 hB=>?_
 refine sq_nil ?_
 refine k37 _ _ ?_
 try clear k37 K37
 refine wp_ret ?_
 refine bodyPost_ret (v:=(.agg #[(.string ⟨(ratL (a1):List UInt8).toArray⟩),(.string ⟨(ratL (a2):List UInt8).toArray⟩),(.string ⟨(ratL (a3):List UInt8).toArray⟩)])) (ret_cell _ _ _ rfl rfl L3 (by kernel_rfl)) rfl ⟨?_,hB⟩
 exact rfl

set_option maxRecDepth 100000 in
set_option maxHeartbeats 4000000 in
theorem numbers6_r {k m ab:Nat} {uaa0 uaa1 uaa2 uaa3 uab0 uab1 uab2 uab3 uac0 uac1 uac2 uac3:Value} {a1 a2 a3:Rat} {vaa0 vaa1 vaa2 vaa3 vab0 vab1 vab2 vab3 vac0 vac1 vac2 vac3:Value} {c1 c2 c3:Rat} {w:World} (hua1:IsRat w k uaa0 uaa1 uaa2 uaa3 a1) (hua2:IsRat w k uab0 uab1 uab2 uab3 a2) (hua3:IsRat w k uac0 uac1 uac2 uac3 a3) (hva1:IsRat w m vaa0 vaa1 vaa2 vaa3 c1) (hva2:IsRat w m vab0 vab1 vab2 vab3 c2) (hva3:IsRat w m vac0 vac1 vac2 vac3 c3) (_hk:k+m≤25000) (hL:Lc w ab #[uaa0,uaa1,uaa2,uaa3,uab0,uab1,uab2,uab3,uac0,uac1,uac2,uac3,vaa0,vaa1,vaa2,vaa3,vab0,vab1,vab2,vab3,vac0,vac1,vac2,vac3] 33) (ht:Tab w):
    Calls Tryz.prog 49 #[(.slice (some ⟨ab,0,none⟩) 6 6)] w fun e w'=>(∃ b,e=.returned (.slice (some ⟨b,0,none⟩) 6 6)∧Lc w' b #[.string ⟨(ratL (a1)).toArray⟩,.string ⟨(ratL (a2)).toArray⟩,.string ⟨(ratL (a3)).toArray⟩,.string ⟨(ratL (c1)).toArray⟩,.string ⟨(ratL (c2)).toArray⟩,.string ⟨(ratL (c3)).toArray⟩] 61∧w.heap.size≤b)∧Gr w w':=by
 go_enter Tryz.func49,Tryz.ntmps49
 have hB:=Gr.refl w
 refine wp_seq_k (fun K1 k1=>?_)
 refine rg [0] ?_
 refine sv 2 (.slice none 0 0) ?_
 refine sq_nil ?_
 refine k1 _ _ ?_
 try clear k1 K1
 refine wp_seq_k (fun K2 k2=>?_)
 refine rg [0,1,2,3] ?_
 refine sv 6 (.slice (some ⟨ab,0,none⟩) 6 6) ?_
 refine sv 7 (.int .i64 6) ?_
 refine se ?_
 refine eff_make 100 61 (.string ⟨([]:List UInt8).toArray⟩) 6 6 1 #[(.string ⟨([]:List UInt8).toArray⟩),(.string ⟨([]:List UInt8).toArray⟩),(.string ⟨([]:List UInt8).toArray⟩),(.string ⟨([]:List UInt8).toArray⟩),(.string ⟨([]:List UInt8).toArray⟩),(.string ⟨([]:List UInt8).toArray⟩)] (some 8) rfl rfl rfl rfl (by kernel_rfl) (by kernel_rfl) (by kernel_rfl) (by kernel_rfl) (fun b3 w3 g3 L3 q3=>?_)
 have ne0_3:=hL.ne q3
 replace q3:=Nat.le_trans (Below.size hB) q3
 replace hB:=hB.trans g3
 simp only [putl,p3,p4]
 refine sv 3 (.slice (some ⟨b3,0,none⟩) 6 6) ?_
 refine sq_nil ?_
 refine k2 _ _ ?_
 try clear k2 K2
 refine wp_seq_k (fun K4 k4=>?_)
 refine wp_seq_k (fun K5 k5=>?_)
 refine rg [0,1,2] ?_
 refine sv 9 (.slice (some ⟨ab,0,none⟩) 6 6) ?_
 refine sv 10 (.int .i64 6) ?_
 refine sv 11 (.int .i64 0) ?_
 refine sq_nil ?_
 refine k5 _ _ ?_
 try clear k5 K5
 refine wp_block ?_
 refine wp_loop_rounds 8 ?_
 show Code.wp _ _ _ _ _
 refine wp_seq_k (fun K6 k6=>?_)
 refine rg [0] ?_
 refine sv 12 (.bool true) ?_
 refine sq_nil ?_
 refine k6 _ _ ?_
 try clear k6 K6
 refine wp_seq_k (fun K7 k7=>?_)
 refine wp_cond_true rfl ?_
 refine wp_skip ?_
 refine k7 _ _ ?_
 try clear k7 K7
 refine wp_seq_k (fun K8 k8=>?_)
 refine wp_block ?_
 refine wp_seq_k (fun K9 k9=>?_)
 refine rg [0,1,2,3,4,5] ?_
 refine sv 13 (.int .i64 0) ?_
 refine sv 14 (.pointer (some ⟨ab,0,none⟩)) ?_
 replace hL:=hL.gr g3
 refine sw 15 (.agg #[uaa0,uaa1,uaa2,uaa3]) rfl (rl 33 0 [uaa0,uaa1,uaa2,uaa3] hL) ?_
 refine se ?_
 refine ea 33 #[(.bool false),(.slice none 0 0),(.bool false),(.slice none 0 0)] 5 hB fun b10 w10 g10 L10 o10 q10 hB=>?_
 have ne0_10:=hL.ne o10
 have ne3_10:=L3.ne o10
 simp only [p3,p4]
 refine sv 4 (.int .i64 0) ?_
 refine se ?_
 refine es 33 0 (.agg #[uaa0,uaa1,uaa2,uaa3]) [uaa0,uaa1,uaa2,uaa3] #[uaa0,uaa1,uaa2,uaa3] L10 hB q10 ⟨hua1.one0,hua1.one1,hua1.one2,hua1.one3,trivial⟩ fun w11 st11 kp11 L10 hB=>?_
 refine sq_nil ?_
 refine k9 _ _ ?_
 try clear k9 K9
 refine rg [0,1,2,3,4,5] ?_
 refine sv 16 (.slice (some ⟨b3,0,none⟩) 6 6) ?_
 refine sv 17 (.int .i64 0) ?_
 refine sw 18 (.agg #[uaa0,uaa1,uaa2,uaa3]) rfl (rl 33 0 [uaa0,uaa1,uaa2,uaa3] L10) ?_
 refine se ?_
 have kq13:=g3.kp.trans (g10.kp.trans kp11)
 replace hua1:=hua1.kp kq13
 refine ec 19 (nb17_r hua1 (by omega) (ht.gr hB)) ?_
 rintro e12 w12 ⟨rfl,g12⟩
 refine ⟨_,rfl,?_⟩
 replace hB:=hB.trans g12
 simp only [p3,p4]
 refine sv 20 (.pointer (some ⟨b3,0,none⟩)) ?_
 refine se ?_
 replace L3:=(st11.lc (L3.gr g10) ne3_10).gr g12
 refine es 61 0 (.string ⟨(ratL (a1):List UInt8).toArray⟩) [(.string ⟨(ratL (a1):List UInt8).toArray⟩)] #[(.string ⟨(ratL (a1):List UInt8).toArray⟩),(.string ⟨([]:List UInt8).toArray⟩),(.string ⟨([]:List UInt8).toArray⟩),(.string ⟨([]:List UInt8).toArray⟩),(.string ⟨([]:List UInt8).toArray⟩),(.string ⟨([]:List UInt8).toArray⟩)] L3 hB q3 ⟨rfl,trivial⟩ fun w14 st14 kp14 L3 hB=>?_
 refine sq_nil ?_
 refine k8 _ _ ?_
 try clear k8 K8
 refine rg [0,1] ?_
 refine sv 21 (.int .i64 1) ?_
 refine sv 11 (.int .i64 1) ?_
 refine sq_nil ?_
 show Code.rounds _ _ _ _ _ _
 show Code.wp _ _ _ _ _
 refine wp_seq_k (fun K15 k15=>?_)
 refine rg [0] ?_
 refine sv 12 (.bool true) ?_
 refine sq_nil ?_
 refine k15 _ _ ?_
 try clear k15 K15
 refine wp_seq_k (fun K16 k16=>?_)
 refine wp_cond_true rfl ?_
 refine wp_skip ?_
 refine k16 _ _ ?_
 try clear k16 K16
 refine wp_seq_k (fun K17 k17=>?_)
 refine wp_block ?_
 refine wp_seq_k (fun K18 k18=>?_)
 refine rg [0,1,2,3,4,5] ?_
 refine sv 13 (.int .i64 1) ?_
 refine sv 14 (.pointer (some ⟨ab,4,none⟩)) ?_
 replace hL:=st14.lc ((st11.lc (hL.gr g10) ne0_10).gr g12) ne0_3
 refine sw 15 (.agg #[uab0,uab1,uab2,uab3]) rfl (rl 33 4 [uab0,uab1,uab2,uab3] hL) ?_
 refine se ?_
 refine ea 33 #[(.bool false),(.slice none 0 0),(.bool false),(.slice none 0 0)] 5 hB fun b19 w19 g19 L19 o19 q19 hB=>?_
 have ne0_19:=hL.ne o19
 have ne3_19:=L3.ne o19
 simp only [p3,p4]
 refine sv 4 (.int .i64 1) ?_
 refine se ?_
 refine es 33 0 (.agg #[uab0,uab1,uab2,uab3]) [uab0,uab1,uab2,uab3] #[uab0,uab1,uab2,uab3] L19 hB q19 ⟨hua2.one0,hua2.one1,hua2.one2,hua2.one3,trivial⟩ fun w20 st20 kp20 L19 hB=>?_
 refine sq_nil ?_
 refine k18 _ _ ?_
 try clear k18 K18
 refine rg [0,1,2,3,4,5] ?_
 refine sv 16 (.slice (some ⟨b3,0,none⟩) 6 6) ?_
 refine sv 17 (.int .i64 1) ?_
 refine sw 18 (.agg #[uab0,uab1,uab2,uab3]) rfl (rl 33 0 [uab0,uab1,uab2,uab3] L19) ?_
 refine se ?_
 have kq22:=g3.kp.trans (g10.kp.trans (kp11.trans (g12.kp.trans (kp14.trans (g19.kp.trans kp20)))))
 replace hua2:=hua2.kp kq22
 refine ec 19 (nb17_r hua2 (by omega) (ht.gr hB)) ?_
 rintro e21 w21 ⟨rfl,g21⟩
 refine ⟨_,rfl,?_⟩
 replace hB:=hB.trans g21
 simp only [p3,p4]
 refine sv 20 (.pointer (some ⟨b3,1,none⟩)) ?_
 refine se ?_
 replace L3:=(st20.lc (L3.gr g19) ne3_19).gr g21
 refine es 61 1 (.string ⟨(ratL (a2):List UInt8).toArray⟩) [(.string ⟨(ratL (a2):List UInt8).toArray⟩)] #[(.string ⟨(ratL (a1):List UInt8).toArray⟩),(.string ⟨(ratL (a2):List UInt8).toArray⟩),(.string ⟨([]:List UInt8).toArray⟩),(.string ⟨([]:List UInt8).toArray⟩),(.string ⟨([]:List UInt8).toArray⟩),(.string ⟨([]:List UInt8).toArray⟩)] L3 hB q3 ⟨rfl,trivial⟩ fun w23 st23 kp23 L3 hB=>?_
 refine sq_nil ?_
 refine k17 _ _ ?_
 try clear k17 K17
 refine rg [0,1] ?_
 refine sv 21 (.int .i64 2) ?_
 refine sv 11 (.int .i64 2) ?_
 refine sq_nil ?_
 show Code.rounds _ _ _ _ _ _
 show Code.wp _ _ _ _ _
 refine wp_seq_k (fun K24 k24=>?_)
 refine rg [0] ?_
 refine sv 12 (.bool true) ?_
 refine sq_nil ?_
 refine k24 _ _ ?_
 try clear k24 K24
 refine wp_seq_k (fun K25 k25=>?_)
 refine wp_cond_true rfl ?_
 refine wp_skip ?_
 refine k25 _ _ ?_
 try clear k25 K25
 refine wp_seq_k (fun K26 k26=>?_)
 refine wp_block ?_
 refine wp_seq_k (fun K27 k27=>?_)
 refine rg [0,1,2,3,4,5] ?_
 refine sv 13 (.int .i64 2) ?_
 refine sv 14 (.pointer (some ⟨ab,8,none⟩)) ?_
 replace hL:=st23.lc ((st20.lc (hL.gr g19) ne0_19).gr g21) ne0_3
 refine sw 15 (.agg #[uac0,uac1,uac2,uac3]) rfl (rl 33 8 [uac0,uac1,uac2,uac3] hL) ?_
 refine se ?_
 refine ea 33 #[(.bool false),(.slice none 0 0),(.bool false),(.slice none 0 0)] 5 hB fun b28 w28 g28 L28 o28 q28 hB=>?_
 have ne0_28:=hL.ne o28
 have ne3_28:=L3.ne o28
 simp only [p3,p4]
 refine sv 4 (.int .i64 2) ?_
 refine se ?_
 refine es 33 0 (.agg #[uac0,uac1,uac2,uac3]) [uac0,uac1,uac2,uac3] #[uac0,uac1,uac2,uac3] L28 hB q28 ⟨hua3.one0,hua3.one1,hua3.one2,hua3.one3,trivial⟩ fun w29 st29 kp29 L28 hB=>?_
 refine sq_nil ?_
 refine k27 _ _ ?_
 try clear k27 K27
 refine rg [0,1,2,3,4,5] ?_
 refine sv 16 (.slice (some ⟨b3,0,none⟩) 6 6) ?_
 refine sv 17 (.int .i64 2) ?_
 refine sw 18 (.agg #[uac0,uac1,uac2,uac3]) rfl (rl 33 0 [uac0,uac1,uac2,uac3] L28) ?_
 refine se ?_
 have kq31:=g3.kp.trans (g10.kp.trans (kp11.trans (g12.kp.trans (kp14.trans (g19.kp.trans (kp20.trans (g21.kp.trans (kp23.trans (g28.kp.trans kp29)))))))))
 replace hua3:=hua3.kp kq31
 refine ec 19 (nb17_r hua3 (by omega) (ht.gr hB)) ?_
 rintro e30 w30 ⟨rfl,g30⟩
 refine ⟨_,rfl,?_⟩
 replace hB:=hB.trans g30
 simp only [p3,p4]
 refine sv 20 (.pointer (some ⟨b3,2,none⟩)) ?_
 refine se ?_
 replace L3:=(st29.lc (L3.gr g28) ne3_28).gr g30
 refine es 61 2 (.string ⟨(ratL (a3):List UInt8).toArray⟩) [(.string ⟨(ratL (a3):List UInt8).toArray⟩)] #[(.string ⟨(ratL (a1):List UInt8).toArray⟩),(.string ⟨(ratL (a2):List UInt8).toArray⟩),(.string ⟨(ratL (a3):List UInt8).toArray⟩),(.string ⟨([]:List UInt8).toArray⟩),(.string ⟨([]:List UInt8).toArray⟩),(.string ⟨([]:List UInt8).toArray⟩)] L3 hB q3 ⟨rfl,trivial⟩ fun w32 st32 kp32 L3 hB=>?_
 refine sq_nil ?_
 refine k26 _ _ ?_
 try clear k26 K26
 refine rg [0,1] ?_
 refine sv 21 (.int .i64 3) ?_
 refine sv 11 (.int .i64 3) ?_
 refine sq_nil ?_
 show Code.rounds _ _ _ _ _ _
 show Code.wp _ _ _ _ _
 refine wp_seq_k (fun K33 k33=>?_)
 refine rg [0] ?_
 refine sv 12 (.bool true) ?_
 refine sq_nil ?_
 refine k33 _ _ ?_
 try clear k33 K33
 refine wp_seq_k (fun K34 k34=>?_)
 refine wp_cond_true rfl ?_
 refine wp_skip ?_
 refine k34 _ _ ?_
 try clear k34 K34
 refine wp_seq_k (fun K35 k35=>?_)
 refine wp_block ?_
 refine wp_seq_k (fun K36 k36=>?_)
 refine rg [0,1,2,3,4,5] ?_
 refine sv 13 (.int .i64 3) ?_
 refine sv 14 (.pointer (some ⟨ab,12,none⟩)) ?_
 replace hL:=st32.lc ((st29.lc (hL.gr g28) ne0_28).gr g30) ne0_3
 refine sw 15 (.agg #[vaa0,vaa1,vaa2,vaa3]) rfl (rl 33 12 [vaa0,vaa1,vaa2,vaa3] hL) ?_
 refine se ?_
 refine ea 33 #[(.bool false),(.slice none 0 0),(.bool false),(.slice none 0 0)] 5 hB fun b37 w37 g37 L37 o37 q37 hB=>?_
 have ne0_37:=hL.ne o37
 have ne3_37:=L3.ne o37
 simp only [p3,p4]
 refine sv 4 (.int .i64 3) ?_
 refine se ?_
 refine es 33 0 (.agg #[vaa0,vaa1,vaa2,vaa3]) [vaa0,vaa1,vaa2,vaa3] #[vaa0,vaa1,vaa2,vaa3] L37 hB q37 ⟨hva1.one0,hva1.one1,hva1.one2,hva1.one3,trivial⟩ fun w38 st38 kp38 L37 hB=>?_
 refine sq_nil ?_
 refine k36 _ _ ?_
 try clear k36 K36
 refine rg [0,1,2,3,4,5] ?_
 refine sv 16 (.slice (some ⟨b3,0,none⟩) 6 6) ?_
 refine sv 17 (.int .i64 3) ?_
 refine sw 18 (.agg #[vaa0,vaa1,vaa2,vaa3]) rfl (rl 33 0 [vaa0,vaa1,vaa2,vaa3] L37) ?_
 refine se ?_
 have kq40:=g3.kp.trans (g10.kp.trans (kp11.trans (g12.kp.trans (kp14.trans (g19.kp.trans (kp20.trans (g21.kp.trans (kp23.trans (g28.kp.trans (kp29.trans (g30.kp.trans (kp32.trans (g37.kp.trans kp38)))))))))))))
 replace hva1:=hva1.kp kq40
 refine ec 19 (nb17_r hva1 (by omega) (ht.gr hB)) ?_
 rintro e39 w39 ⟨rfl,g39⟩
 refine ⟨_,rfl,?_⟩
 replace hB:=hB.trans g39
 simp only [p3,p4]
 refine sv 20 (.pointer (some ⟨b3,3,none⟩)) ?_
 refine se ?_
 replace L3:=(st38.lc (L3.gr g37) ne3_37).gr g39
 refine es 61 3 (.string ⟨(ratL (c1):List UInt8).toArray⟩) [(.string ⟨(ratL (c1):List UInt8).toArray⟩)] #[(.string ⟨(ratL (a1):List UInt8).toArray⟩),(.string ⟨(ratL (a2):List UInt8).toArray⟩),(.string ⟨(ratL (a3):List UInt8).toArray⟩),(.string ⟨(ratL (c1):List UInt8).toArray⟩),(.string ⟨([]:List UInt8).toArray⟩),(.string ⟨([]:List UInt8).toArray⟩)] L3 hB q3 ⟨rfl,trivial⟩ fun w41 st41 kp41 L3 hB=>?_
 refine sq_nil ?_
 refine k35 _ _ ?_
 try clear k35 K35
 refine rg [0,1] ?_
 refine sv 21 (.int .i64 4) ?_
 refine sv 11 (.int .i64 4) ?_
 refine sq_nil ?_
 show Code.rounds _ _ _ _ _ _
 show Code.wp _ _ _ _ _
 refine wp_seq_k (fun K42 k42=>?_)
 refine rg [0] ?_
 refine sv 12 (.bool true) ?_
 refine sq_nil ?_
 refine k42 _ _ ?_
 try clear k42 K42
 refine wp_seq_k (fun K43 k43=>?_)
 refine wp_cond_true rfl ?_
 refine wp_skip ?_
 refine k43 _ _ ?_
 try clear k43 K43
 refine wp_seq_k (fun K44 k44=>?_)
 refine wp_block ?_
 refine wp_seq_k (fun K45 k45=>?_)
 refine rg [0,1,2,3,4,5] ?_
 refine sv 13 (.int .i64 4) ?_
 refine sv 14 (.pointer (some ⟨ab,16,none⟩)) ?_
 replace hL:=st41.lc ((st38.lc (hL.gr g37) ne0_37).gr g39) ne0_3
 refine sw 15 (.agg #[vab0,vab1,vab2,vab3]) rfl (rl 33 16 [vab0,vab1,vab2,vab3] hL) ?_
 refine se ?_
 refine ea 33 #[(.bool false),(.slice none 0 0),(.bool false),(.slice none 0 0)] 5 hB fun b46 w46 g46 L46 o46 q46 hB=>?_
 have ne0_46:=hL.ne o46
 have ne3_46:=L3.ne o46
 simp only [p3,p4]
 refine sv 4 (.int .i64 4) ?_
 refine se ?_
 refine es 33 0 (.agg #[vab0,vab1,vab2,vab3]) [vab0,vab1,vab2,vab3] #[vab0,vab1,vab2,vab3] L46 hB q46 ⟨hva2.one0,hva2.one1,hva2.one2,hva2.one3,trivial⟩ fun w47 st47 kp47 L46 hB=>?_
 refine sq_nil ?_
 refine k45 _ _ ?_
 try clear k45 K45
 refine rg [0,1,2,3,4,5] ?_
 refine sv 16 (.slice (some ⟨b3,0,none⟩) 6 6) ?_
 refine sv 17 (.int .i64 4) ?_
 refine sw 18 (.agg #[vab0,vab1,vab2,vab3]) rfl (rl 33 0 [vab0,vab1,vab2,vab3] L46) ?_
 refine se ?_
 have kq49:=g3.kp.trans (g10.kp.trans (kp11.trans (g12.kp.trans (kp14.trans (g19.kp.trans (kp20.trans (g21.kp.trans (kp23.trans (g28.kp.trans (kp29.trans (g30.kp.trans (kp32.trans (g37.kp.trans (kp38.trans (g39.kp.trans (kp41.trans (g46.kp.trans kp47)))))))))))))))))
 replace hva2:=hva2.kp kq49
 refine ec 19 (nb17_r hva2 (by omega) (ht.gr hB)) ?_
 rintro e48 w48 ⟨rfl,g48⟩
 refine ⟨_,rfl,?_⟩
 replace hB:=hB.trans g48
 simp only [p3,p4]
 refine sv 20 (.pointer (some ⟨b3,4,none⟩)) ?_
 refine se ?_
 replace L3:=(st47.lc (L3.gr g46) ne3_46).gr g48
 refine es 61 4 (.string ⟨(ratL (c2):List UInt8).toArray⟩) [(.string ⟨(ratL (c2):List UInt8).toArray⟩)] #[(.string ⟨(ratL (a1):List UInt8).toArray⟩),(.string ⟨(ratL (a2):List UInt8).toArray⟩),(.string ⟨(ratL (a3):List UInt8).toArray⟩),(.string ⟨(ratL (c1):List UInt8).toArray⟩),(.string ⟨(ratL (c2):List UInt8).toArray⟩),(.string ⟨([]:List UInt8).toArray⟩)] L3 hB q3 ⟨rfl,trivial⟩ fun w50 st50 kp50 L3 hB=>?_
 refine sq_nil ?_
 refine k44 _ _ ?_
 try clear k44 K44
 refine rg [0,1] ?_
 refine sv 21 (.int .i64 5) ?_
 refine sv 11 (.int .i64 5) ?_
 refine sq_nil ?_
 show Code.rounds _ _ _ _ _ _
 show Code.wp _ _ _ _ _
 refine wp_seq_k (fun K51 k51=>?_)
 refine rg [0] ?_
 refine sv 12 (.bool true) ?_
 refine sq_nil ?_
 refine k51 _ _ ?_
 try clear k51 K51
 refine wp_seq_k (fun K52 k52=>?_)
 refine wp_cond_true rfl ?_
 refine wp_skip ?_
 refine k52 _ _ ?_
 try clear k52 K52
 refine wp_seq_k (fun K53 k53=>?_)
 refine wp_block ?_
 refine wp_seq_k (fun K54 k54=>?_)
 refine rg [0,1,2,3,4,5] ?_
 refine sv 13 (.int .i64 5) ?_
 refine sv 14 (.pointer (some ⟨ab,20,none⟩)) ?_
 replace hL:=st50.lc ((st47.lc (hL.gr g46) ne0_46).gr g48) ne0_3
 refine sw 15 (.agg #[vac0,vac1,vac2,vac3]) rfl (rl 33 20 [vac0,vac1,vac2,vac3] hL) ?_
 refine se ?_
 refine ea 33 #[(.bool false),(.slice none 0 0),(.bool false),(.slice none 0 0)] 5 hB fun b55 w55 g55 L55 o55 q55 hB=>?_
 have ne3_55:=L3.ne o55
 simp only [p3,p4]
 refine sv 4 (.int .i64 5) ?_
 refine se ?_
 refine es 33 0 (.agg #[vac0,vac1,vac2,vac3]) [vac0,vac1,vac2,vac3] #[vac0,vac1,vac2,vac3] L55 hB q55 ⟨hva3.one0,hva3.one1,hva3.one2,hva3.one3,trivial⟩ fun w56 st56 kp56 L55 hB=>?_
 refine sq_nil ?_
 refine k54 _ _ ?_
 try clear k54 K54
 refine rg [0,1,2,3,4,5] ?_
 refine sv 16 (.slice (some ⟨b3,0,none⟩) 6 6) ?_
 refine sv 17 (.int .i64 5) ?_
 refine sw 18 (.agg #[vac0,vac1,vac2,vac3]) rfl (rl 33 0 [vac0,vac1,vac2,vac3] L55) ?_
 refine se ?_
 have kq58:=g3.kp.trans (g10.kp.trans (kp11.trans (g12.kp.trans (kp14.trans (g19.kp.trans (kp20.trans (g21.kp.trans (kp23.trans (g28.kp.trans (kp29.trans (g30.kp.trans (kp32.trans (g37.kp.trans (kp38.trans (g39.kp.trans (kp41.trans (g46.kp.trans (kp47.trans (g48.kp.trans (kp50.trans (g55.kp.trans kp56)))))))))))))))))))))
 replace hva3:=hva3.kp kq58
 refine ec 19 (nb17_r hva3 (by omega) (ht.gr hB)) ?_
 rintro e57 w57 ⟨rfl,g57⟩
 refine ⟨_,rfl,?_⟩
 replace hB:=hB.trans g57
 simp only [p3,p4]
 refine sv 20 (.pointer (some ⟨b3,5,none⟩)) ?_
 refine se ?_
 replace L3:=(st56.lc (L3.gr g55) ne3_55).gr g57
 refine es 61 5 (.string ⟨(ratL (c3):List UInt8).toArray⟩) [(.string ⟨(ratL (c3):List UInt8).toArray⟩)] #[(.string ⟨(ratL (a1):List UInt8).toArray⟩),(.string ⟨(ratL (a2):List UInt8).toArray⟩),(.string ⟨(ratL (a3):List UInt8).toArray⟩),(.string ⟨(ratL (c1):List UInt8).toArray⟩),(.string ⟨(ratL (c2):List UInt8).toArray⟩),(.string ⟨(ratL (c3):List UInt8).toArray⟩)] L3 hB q3 ⟨rfl,trivial⟩ fun w59 st59 kp59 L3 hB=>?_
 refine sq_nil ?_
 refine k53 _ _ ?_
 try clear k53 K53
 refine rg [0,1] ?_
 refine sv 21 (.int .i64 6) ?_
 refine sv 11 (.int .i64 6) ?_
 refine sq_nil ?_
 show Code.rounds _ _ _ _ _ _
 show Code.wp _ _ _ _ _
 refine wp_seq_k (fun K60 k60=>?_)
 refine rg [0] ?_
 refine sv 12 (.bool false) ?_
 refine sq_nil ?_
 refine k60 _ _ ?_
 try clear k60 K60
 refine wp_seq_k (fun K61 k61=>?_)
 refine wp_cond_false rfl ?_
 refine wp_exit ?_
 simp only [Exit.then,Exit.inBlock,↓reduceIte]
 refine k4 _ _ ?_
 try clear k4 K4
 refine wp_seq_k (fun K62 k62=>?_)
 refine rg [0,1] ?_
 refine sv 22 (.slice (some ⟨b3,0,none⟩) 6 6) ?_
 refine sv 2 (.slice (some ⟨b3,0,none⟩) 6 6) ?_
 refine sq_nil ?_
 refine k62 _ _ ?_
 try clear k62 K62
 refine wp_ret ?_
 refine bodyPost_ret (v:=(.slice (some ⟨b3,0,none⟩) 6 6)) (ret_tmp rfl rfl) rfl ⟨?_,hB⟩
 exact ⟨_,rfl,L3,q3⟩

set_option maxRecDepth 100000 in
set_option maxHeartbeats 1000000 in
theorem tnumbers_v {k m:Nat} {uaa0 uaa1 uaa2 uaa3 uab0 uab1 uab2 uab3 uac0 uac1 uac2 uac3:Value} {a1 a2 a3:Rat} {vaa0 vaa1 vaa2 vaa3 vab0 vab1 vab2 vab3 vac0 vac1 vac2 vac3:Value} {c1 c2 c3:Rat} {w:World} (hua1:IsRat w k uaa0 uaa1 uaa2 uaa3 a1) (hua2:IsRat w k uab0 uab1 uab2 uab3 a2) (hua3:IsRat w k uac0 uac1 uac2 uac3 a3) (hva1:IsRat w m vaa0 vaa1 vaa2 vaa3 c1) (hva2:IsRat w m vab0 vab1 vab2 vab3 c2) (hva3:IsRat w m vac0 vac1 vac2 vac3 c3) (_hk:k+m≤25000) (ht:Tab w):
    Calls Tryz.prog 28 #[(.agg #[uaa0,uaa1,uaa2,uaa3,uab0,uab1,uab2,uab3,uac0,uac1,uac2,uac3,vaa0,vaa1,vaa2,vaa3,vab0,vab1,vab2,vab3,vac0,vac1,vac2,vac3])] w fun e w'=>e=.returned (.agg #[.string ⟨(ratL (a1)).toArray⟩,.string ⟨(ratL (a2)).toArray⟩,.string ⟨(ratL (a3)).toArray⟩,.string ⟨(ratL (c1)).toArray⟩,.string ⟨(ratL (c2)).toArray⟩,.string ⟨(ratL (c3)).toArray⟩])∧Gr w w':=by
 go_enter Tryz.func28,Tryz.ntmps28
 have hB:=Gr.refl w
 refine wp_seq_k (fun K1 k1=>?_)
 refine rg [0,1] ?_
 refine se ?_
 refine eb 42 #[uaa0,uaa1,uaa2,uaa3,uab0,uab1,uab2,uab3,uac0,uac1,uac2,uac3,vaa0,vaa1,vaa2,vaa3,vab0,vab1,vab2,vab3,vac0,vac1,vac2,vac3] 1 hB fun b2 w2 g2 L2 o2 q2 hB=>?_
 simp only [p3,p4]
 refine se ?_
 refine ea 63 #[(.string ⟨([]:List UInt8).toArray⟩),(.string ⟨([]:List UInt8).toArray⟩),(.string ⟨([]:List UInt8).toArray⟩),(.string ⟨([]:List UInt8).toArray⟩),(.string ⟨([]:List UInt8).toArray⟩),(.string ⟨([]:List UInt8).toArray⟩)] 2 hB fun b3 w3 g3 L3 o3 q3 hB=>?_
 simp only [p3,p4]
 refine sq_nil ?_
 refine k1 _ _ ?_
 try clear k1 K1
 refine wp_seq_k (fun K4 k4=>?_)
 refine rg [0,1,2,3,4,5,6,7,8] ?_
 refine sv 3 (.pointer (some ⟨b2,0,none⟩)) ?_
 replace L2:=L2.gr g3
 refine sw 4 (.agg #[uaa0,uaa1,uaa2,uaa3,uab0,uab1,uab2,uab3,uac0,uac1,uac2,uac3]) rfl (rl 35 0 [uaa0,uaa1,uaa2,uaa3,uab0,uab1,uab2,uab3,uac0,uac1,uac2,uac3] L2) ?_
 refine sv 5 (.pointer (some ⟨b2,12,none⟩)) ?_
 refine sw 6 (.agg #[vaa0,vaa1,vaa2,vaa3,vab0,vab1,vab2,vab3,vac0,vac1,vac2,vac3]) rfl (rl 35 12 [vaa0,vaa1,vaa2,vaa3,vab0,vab1,vab2,vab3,vac0,vac1,vac2,vac3] L2) ?_
 refine se ?_
 have kq6:=g2.kp.trans g3.kp
 replace hua1:=hua1.kp kq6
 replace hua2:=hua2.kp kq6
 replace hua3:=hua3.kp kq6
 replace hva1:=hva1.kp kq6
 replace hva2:=hva2.kp kq6
 replace hva3:=hva3.kp kq6
 refine ec 7 (joined_v hua1 hua2 hua3 hva1 hva2 hva3 (by omega)) ?_
 rintro e5 w5 ⟨⟨b5,t5_0,t5_1,t5_2,t5_3,t5_4,t5_5,t5_6,t5_7,t5_8,t5_9,t5_10,t5_11,t5_12,t5_13,t5_14,t5_15,t5_16,t5_17,t5_18,t5_19,t5_20,t5_21,t5_22,t5_23,rfl,L5,q5,h5a,h5b,h5c,h5d,h5e,h5f⟩,g5⟩
 refine ⟨_,rfl,?_⟩
 replace hB:=hB.trans g5
 simp only [p3,p4]
 refine se ?_
 refine ec 8 (numbers6_r h5a h5b h5c h5d h5e h5f (by omega) L5 (ht.gr hB)) ?_
 rintro e7 w7 ⟨⟨b7,rfl,L7,q7⟩,g7⟩
 refine ⟨_,rfl,?_⟩
 replace L3:=L3.gr g5
 replace hB:=hB.trans g7
 simp only [p3,p4]
 refine sv 9 (.pointer (some ⟨b7,0,none⟩)) ?_
 refine sw 10 (.agg #[(.string ⟨(ratL (a1):List UInt8).toArray⟩),(.string ⟨(ratL (a2):List UInt8).toArray⟩),(.string ⟨(ratL (a3):List UInt8).toArray⟩),(.string ⟨(ratL (c1):List UInt8).toArray⟩),(.string ⟨(ratL (c2):List UInt8).toArray⟩),(.string ⟨(ratL (c3):List UInt8).toArray⟩)]) rfl (rl 63 0 [(.string ⟨(ratL (a1):List UInt8).toArray⟩),(.string ⟨(ratL (a2):List UInt8).toArray⟩),(.string ⟨(ratL (a3):List UInt8).toArray⟩),(.string ⟨(ratL (c1):List UInt8).toArray⟩),(.string ⟨(ratL (c2):List UInt8).toArray⟩),(.string ⟨(ratL (c3):List UInt8).toArray⟩)] L7) ?_
 refine se ?_
 replace L3:=L3.gr g7
 refine es 63 0 (.agg #[(.string ⟨(ratL (a1):List UInt8).toArray⟩),(.string ⟨(ratL (a2):List UInt8).toArray⟩),(.string ⟨(ratL (a3):List UInt8).toArray⟩),(.string ⟨(ratL (c1):List UInt8).toArray⟩),(.string ⟨(ratL (c2):List UInt8).toArray⟩),(.string ⟨(ratL (c3):List UInt8).toArray⟩)]) [(.string ⟨(ratL (a1):List UInt8).toArray⟩),(.string ⟨(ratL (a2):List UInt8).toArray⟩),(.string ⟨(ratL (a3):List UInt8).toArray⟩),(.string ⟨(ratL (c1):List UInt8).toArray⟩),(.string ⟨(ratL (c2):List UInt8).toArray⟩),(.string ⟨(ratL (c3):List UInt8).toArray⟩)] #[(.string ⟨(ratL (a1):List UInt8).toArray⟩),(.string ⟨(ratL (a2):List UInt8).toArray⟩),(.string ⟨(ratL (a3):List UInt8).toArray⟩),(.string ⟨(ratL (c1):List UInt8).toArray⟩),(.string ⟨(ratL (c2):List UInt8).toArray⟩),(.string ⟨(ratL (c3):List UInt8).toArray⟩)] L3 hB q3 ⟨rfl,rfl,rfl,rfl,rfl,rfl,trivial⟩ fun w8 st8 kp8 L3 hB=>?_
 refine sq_nil ?_
 refine k4 _ _ ?_
 try clear k4 K4
 refine wp_ret ?_
 refine bodyPost_ret (v:=(.agg #[(.string ⟨(ratL (a1):List UInt8).toArray⟩),(.string ⟨(ratL (a2):List UInt8).toArray⟩),(.string ⟨(ratL (a3):List UInt8).toArray⟩),(.string ⟨(ratL (c1):List UInt8).toArray⟩),(.string ⟨(ratL (c2):List UInt8).toArray⟩),(.string ⟨(ratL (c3):List UInt8).toArray⟩)])) (ret_cell _ _ _ rfl rfl L3 (by kernel_rfl)) rfl ⟨?_,hB⟩
 exact rfl

theorem ratL_int (z:Int):ratL (z:Rat)=Lib.itoa z:=by rw [ratL_w (Rat.den_intCast _),Rat.num_intCast]
theorem ratL_lit {q:Rat} {L:List UInt8} (z:Nat) (e:q=((z:Int):Rat)) (h1:z<10) (hL:[UInt8.ofNat (48+z)]=L):ratL q=L:=by
  rw [e,ratL_int,← hL]
  unfold Lib.itoa
  rw [if_neg (by omega),Int.toNat_natCast,dec_small h1]
theorem ratL_neg {q:Rat} {L:List UInt8} (z:Nat) (e:q=((-(z:Int):Int):Rat)) (h0:0<z) (h1:z<10) (hL:[45,UInt8.ofNat (48+z)]=L):ratL q=L:=by
  rw [e,ratL_int,← hL]
  unfold Lib.itoa
  rw [if_pos (by omega)]
  have:(-(z:Int)).natAbs=z:=by omega
  rw [this,dec_small h1]
theorem litx1 {P:Program} {f:FuncId} {args:Array Value} {w:World} {a0:Rat} {X0:List UInt8} (h:Calls P f args w fun e w'=>e=.returned (.string ⟨(ratL a0:List UInt8).toArray⟩)∧Gr w w') (e0:ratL a0=X0):
    Calls P f args w fun e w'=>e=.returned (.string ⟨(X0:List UInt8).toArray⟩)∧Gr w w':=by
  rw [e0] at h
  exact h

theorem litx3 {P:Program} {f:FuncId} {args:Array Value} {w:World} {a0 a1 a2:Rat} {X0 X1 X2:List UInt8} (h:Calls P f args w fun e w'=>e=.returned (.agg #[.string ⟨(ratL a0:List UInt8).toArray⟩,.string ⟨(ratL a1:List UInt8).toArray⟩,.string ⟨(ratL a2:List UInt8).toArray⟩])∧Gr w w') (e0:ratL a0=X0) (e1:ratL a1=X1) (e2:ratL a2=X2):
    Calls P f args w fun e w'=>e=.returned (.agg #[.string ⟨(X0:List UInt8).toArray⟩,.string ⟨(X1:List UInt8).toArray⟩,.string ⟨(X2:List UInt8).toArray⟩])∧Gr w w':=by
  rw [e0,e1,e2] at h
  exact h

theorem litx6 {P:Program} {f:FuncId} {args:Array Value} {w:World} {a0 a1 a2 a3 a4 a5:Rat} {X0 X1 X2 X3 X4 X5:List UInt8} (h:Calls P f args w fun e w'=>e=.returned (.agg #[.string ⟨(ratL a0:List UInt8).toArray⟩,.string ⟨(ratL a1:List UInt8).toArray⟩,.string ⟨(ratL a2:List UInt8).toArray⟩,.string ⟨(ratL a3:List UInt8).toArray⟩,.string ⟨(ratL a4:List UInt8).toArray⟩,.string ⟨(ratL a5:List UInt8).toArray⟩])∧Gr w w') (e0:ratL a0=X0) (e1:ratL a1=X1) (e2:ratL a2=X2) (e3:ratL a3=X3) (e4:ratL a4=X4) (e5:ratL a5=X5):
    Calls P f args w fun e w'=>e=.returned (.agg #[.string ⟨(X0:List UInt8).toArray⟩,.string ⟨(X1:List UInt8).toArray⟩,.string ⟨(X2:List UInt8).toArray⟩,.string ⟨(X3:List UInt8).toArray⟩,.string ⟨(X4:List UInt8).toArray⟩,.string ⟨(X5:List UInt8).toArray⟩])∧Gr w w':=by
  rw [e0,e1,e2,e3,e4,e5] at h
  exact h

set_option maxRecDepth 100000 in
set_option maxHeartbeats 4000000 in
theorem known_t (w:World) (ht:Tab w):
    Calls Tryz.prog 6 #[] w fun e w'=>e=.returned (.bool true)∧Gr w w':=by
 go_enter Tryz.func6,Tryz.ntmps6
 have hB:=Gr.refl w
 refine wp_seq_k (fun K1 k1=>?_)
 refine rg [0] ?_
 refine sv 0 (.bool false) ?_
 refine sq_nil ?_
 refine k1 _ _ ?_
 try clear k1 K1
 refine wp_seq_k (fun K2 k2=>?_)
 refine rg [0,1,2,3,4,5,6] ?_
 refine sv 3 (.agg #[(.int .i64 0),(.int .i64 0),(.int .i64 1)]) ?_
 refine se ?_
 refine ec 4 (vof_v (0) (0) (1) (by omega) (by omega) (by omega) _) ?_
 rintro e3 w3 ⟨⟨t3_0,t3_1,t3_2,t3_3,t3_4,t3_5,t3_6,t3_7,t3_8,t3_9,t3_10,t3_11,rfl,h3a,h3b,h3c⟩,g3⟩
 refine ⟨_,rfl,?_⟩
 replace hB:=hB.trans g3
 rw [show ((((0:Int):Rat)):Rat)=(0:Rat) from by kernel_rfl] at h3a
 rw [show ((((0:Int):Rat)):Rat)=(0:Rat) from by kernel_rfl] at h3b
 rw [show ((((1:Int):Rat)):Rat)=(1:Rat) from by kernel_rfl] at h3c
 simp only [p3,p4]
 refine sv 5 (.agg #[(.int .i64 1),(.int .i64 0),(.int .i64 0)]) ?_
 refine se ?_
 refine ec 6 (vof_v (1) (0) (0) (by omega) (by omega) (by omega) _) ?_
 rintro e4 w4 ⟨⟨t4_0,t4_1,t4_2,t4_3,t4_4,t4_5,t4_6,t4_7,t4_8,t4_9,t4_10,t4_11,rfl,h4a,h4b,h4c⟩,g4⟩
 refine ⟨_,rfl,?_⟩
 replace hB:=hB.trans g4
 rw [show ((((1:Int):Rat)):Rat)=(1:Rat) from by kernel_rfl] at h4a
 rw [show ((((0:Int):Rat)):Rat)=(0:Rat) from by kernel_rfl] at h4b
 rw [show ((((0:Int):Rat)):Rat)=(0:Rat) from by kernel_rfl] at h4c
 simp only [p3,p4]
 refine se ?_
 replace h3a:=h3a.kp g4.kp
 replace h3b:=h3b.kp g4.kp
 replace h3c:=h3c.kp g4.kp
 refine ec 7 (trot_v h3a h3b h3c h4a h4b h4c (by omega)) ?_
 rintro e5 w5 ⟨⟨t5_0,t5_1,t5_2,t5_3,t5_4,t5_5,t5_6,t5_7,t5_8,t5_9,t5_10,t5_11,t5_12,t5_13,t5_14,t5_15,t5_16,t5_17,t5_18,t5_19,t5_20,t5_21,t5_22,t5_23,rfl,h5a,h5b,h5c,h5d,h5e,h5f⟩,g5⟩
 refine ⟨_,rfl,?_⟩
 replace hB:=hB.trans g5
 rw [show (((0:Rat)*(1:Rat) - (0:Rat)*(0:Rat)):Rat)=(0:Rat) from by kernel_rfl] at h5d
 rw [show (((0:Rat)*(0:Rat) - (1:Rat)*(1:Rat)):Rat)=(-1:Rat) from by kernel_rfl] at h5e
 rw [show (((1:Rat)*(0:Rat) - (0:Rat)*(0:Rat)):Rat)=(0:Rat) from by kernel_rfl] at h5f
 simp only [p3,p4]
 refine se ?_
 refine ea 42 #[(.bool false),(.slice none 0 0),(.bool false),(.slice none 0 0),(.bool false),(.slice none 0 0),(.bool false),(.slice none 0 0),(.bool false),(.slice none 0 0),(.bool false),(.slice none 0 0),(.bool false),(.slice none 0 0),(.bool false),(.slice none 0 0),(.bool false),(.slice none 0 0),(.bool false),(.slice none 0 0),(.bool false),(.slice none 0 0),(.bool false),(.slice none 0 0)] 1 hB fun b6 w6 g6 L6 o6 q6 hB=>?_
 simp only [p3,p4]
 refine se ?_
 refine es 42 0 (.agg #[t5_0,t5_1,t5_2,t5_3,t5_4,t5_5,t5_6,t5_7,t5_8,t5_9,t5_10,t5_11,t5_12,t5_13,t5_14,t5_15,t5_16,t5_17,t5_18,t5_19,t5_20,t5_21,t5_22,t5_23]) [t5_0,t5_1,t5_2,t5_3,t5_4,t5_5,t5_6,t5_7,t5_8,t5_9,t5_10,t5_11,t5_12,t5_13,t5_14,t5_15,t5_16,t5_17,t5_18,t5_19,t5_20,t5_21,t5_22,t5_23] #[t5_0,t5_1,t5_2,t5_3,t5_4,t5_5,t5_6,t5_7,t5_8,t5_9,t5_10,t5_11,t5_12,t5_13,t5_14,t5_15,t5_16,t5_17,t5_18,t5_19,t5_20,t5_21,t5_22,t5_23] L6 hB q6 ⟨h5a.one0,h5a.one1,h5a.one2,h5a.one3,h5b.one0,h5b.one1,h5b.one2,h5b.one3,h5c.one0,h5c.one1,h5c.one2,h5c.one3,h5d.one0,h5d.one1,h5d.one2,h5d.one3,h5e.one0,h5e.one1,h5e.one2,h5e.one3,h5f.one0,h5f.one1,h5f.one2,h5f.one3,trivial⟩ fun w7 st7 kp7 L6 hB=>?_
 refine sq_nil ?_
 refine k2 _ _ ?_
 try clear k2 K2
 refine wp_seq_k (fun K8 k8=>?_)
 refine rg [0,1,2,3,4,5,6,7] ?_
 refine sv 8 (.agg #[(.int .i64 0),(.int .i64 0),(.int .i64 2)]) ?_
 refine se ?_
 refine ec 9 (vof_v (0) (0) (2) (by omega) (by omega) (by omega) _) ?_
 rintro e9 w9 ⟨⟨t9_0,t9_1,t9_2,t9_3,t9_4,t9_5,t9_6,t9_7,t9_8,t9_9,t9_10,t9_11,rfl,h9a,h9b,h9c⟩,g9⟩
 refine ⟨_,rfl,?_⟩
 replace hB:=hB.trans g9
 rw [show ((((0:Int):Rat)):Rat)=(0:Rat) from by kernel_rfl] at h9a
 rw [show ((((0:Int):Rat)):Rat)=(0:Rat) from by kernel_rfl] at h9b
 rw [show ((((2:Int):Rat)):Rat)=(2:Rat) from by kernel_rfl] at h9c
 simp only [p3,p4]
 refine sv 10 (.agg #[(.int .i64 0),(.int .i64 (-2)),(.int .i64 4)]) ?_
 refine se ?_
 refine ec 11 (vof_v (0) (-2) (4) (by omega) (by omega) (by omega) _) ?_
 rintro e10 w10 ⟨⟨t10_0,t10_1,t10_2,t10_3,t10_4,t10_5,t10_6,t10_7,t10_8,t10_9,t10_10,t10_11,rfl,h10a,h10b,h10c⟩,g10⟩
 refine ⟨_,rfl,?_⟩
 replace hB:=hB.trans g10
 rw [show ((((0:Int):Rat)):Rat)=(0:Rat) from by kernel_rfl] at h10a
 rw [show ((((-2:Int):Rat)):Rat)=(-2:Rat) from by kernel_rfl] at h10b
 rw [show ((((4:Int):Rat)):Rat)=(4:Rat) from by kernel_rfl] at h10c
 simp only [p3,p4]
 refine sv 12 (.agg #[t9_0,t9_1,t9_2,t9_3,t9_4,t9_5,t9_6,t9_7,t9_8,t9_9,t9_10,t9_11,t10_0,t10_1,t10_2,t10_3,t10_4,t10_5,t10_6,t10_7,t10_8,t10_9,t10_10,t10_11]) ?_
 refine se ?_
 replace h9a:=h9a.kp g10.kp
 replace h9b:=h9b.kp g10.kp
 replace h9c:=h9c.kp g10.kp
 refine ec 13 (axis_s h9a h9b h9c h10a h10b h10c (by omega) (by decide+kernel) (by decide+kernel)) ?_
 rintro e11 w11 ⟨⟨t11_0,t11_1,t11_2,t11_3,t11_4,t11_5,t11_6,t11_7,t11_8,t11_9,t11_10,t11_11,t11_12,t11_13,t11_14,t11_15,t11_16,t11_17,t11_18,t11_19,t11_20,t11_21,t11_22,t11_23,t11_24,t11_25,t11_26,t11_27,rfl,h11a,h11b,h11c,h11d,h11e,h11f,h11g⟩,g11⟩
 refine ⟨_,rfl,?_⟩
 replace hB:=hB.trans g11
 rw [show ((prim ((0:Rat)) ((0:Rat)) ((2:Rat)) ((0:Rat))):Rat)=(0:Rat) from by kernel_rfl] at h11a
 rw [show ((prim ((0:Rat)) ((0:Rat)) ((2:Rat)) ((0:Rat))):Rat)=(0:Rat) from by kernel_rfl] at h11b
 rw [show ((prim ((0:Rat)) ((0:Rat)) ((2:Rat)) ((2:Rat))):Rat)=(1:Rat) from by kernel_rfl] at h11c
 rw [show (((((1:Int):Rat)/(0+(0:Rat)*(0:Rat)+(0:Rat)*(0:Rat)+(2:Rat)*(2:Rat)))*((0:Rat)*(4:Rat) - (2:Rat)*(-2:Rat))):Rat)=(1:Rat) from by kernel_rfl] at h11d
 rw [show (((((1:Int):Rat)/(0+(0:Rat)*(0:Rat)+(0:Rat)*(0:Rat)+(2:Rat)*(2:Rat)))*((2:Rat)*(0:Rat) - (0:Rat)*(4:Rat))):Rat)=(0:Rat) from by kernel_rfl] at h11e
 rw [show (((((1:Int):Rat)/(0+(0:Rat)*(0:Rat)+(0:Rat)*(0:Rat)+(2:Rat)*(2:Rat)))*((0:Rat)*(-2:Rat) - (0:Rat)*(0:Rat))):Rat)=(0:Rat) from by kernel_rfl] at h11f
 rw [show (((0+(0:Rat)*(0:Rat)+(0:Rat)*(-2:Rat)+(2:Rat)*(4:Rat))*(((1:Int):Rat)/(0+(0:Rat)*(0:Rat)+(0:Rat)*(0:Rat)+(2:Rat)*(2:Rat)))):Rat)=(2:Rat) from by kernel_rfl] at h11g
 simp only [p3,p4]
 refine se ?_
 refine ea 82 #[(.int .i64 0),(.bool false),(.slice none 0 0),(.bool false),(.slice none 0 0),(.bool false),(.slice none 0 0),(.bool false),(.slice none 0 0),(.bool false),(.slice none 0 0),(.bool false),(.slice none 0 0),(.bool false),(.slice none 0 0),(.bool false),(.slice none 0 0),(.bool false),(.slice none 0 0),(.bool false),(.slice none 0 0),(.bool false),(.slice none 0 0),(.bool false),(.slice none 0 0),(.bool false),(.slice none 0 0),(.bool false),(.slice none 0 0)] 2 hB fun b12 w12 g12 L12 o12 q12 hB=>?_
 replace L6:=L6.gr (g9.trans (g10.trans g11))
 have ne6_12:=L6.ne o12
 simp only [p3,p4]
 refine se ?_
 refine es 82 0 (.agg #[(.int .i64 3),t11_0,t11_1,t11_2,t11_3,t11_4,t11_5,t11_6,t11_7,t11_8,t11_9,t11_10,t11_11,t11_12,t11_13,t11_14,t11_15,t11_16,t11_17,t11_18,t11_19,t11_20,t11_21,t11_22,t11_23,t11_24,t11_25,t11_26,t11_27]) [(.int .i64 3),t11_0,t11_1,t11_2,t11_3,t11_4,t11_5,t11_6,t11_7,t11_8,t11_9,t11_10,t11_11,t11_12,t11_13,t11_14,t11_15,t11_16,t11_17,t11_18,t11_19,t11_20,t11_21,t11_22,t11_23,t11_24,t11_25,t11_26,t11_27] #[(.int .i64 3),t11_0,t11_1,t11_2,t11_3,t11_4,t11_5,t11_6,t11_7,t11_8,t11_9,t11_10,t11_11,t11_12,t11_13,t11_14,t11_15,t11_16,t11_17,t11_18,t11_19,t11_20,t11_21,t11_22,t11_23,t11_24,t11_25,t11_26,t11_27] L12 hB q12 ⟨rfl,h11a.one0,h11a.one1,h11a.one2,h11a.one3,h11b.one0,h11b.one1,h11b.one2,h11b.one3,h11c.one0,h11c.one1,h11c.one2,h11c.one3,h11d.one0,h11d.one1,h11d.one2,h11d.one3,h11e.one0,h11e.one1,h11e.one2,h11e.one3,h11f.one0,h11f.one1,h11f.one2,h11f.one3,h11g.one0,h11g.one1,h11g.one2,h11g.one3,trivial⟩ fun w13 st13 kp13 L12 hB=>?_
 refine sq_nil ?_
 refine k8 _ _ ?_
 try clear k8 K8
 refine wp_seq_k (fun K14 k14=>?_)
 have gd35:=Gr.drew w13
 replace hB:=hB.trans gd35
 replace L6:=(st13.lc (L6.gr g12) ne6_12).gr gd35
 replace L12:=L12.gr gd35
 refine wp_region_ord (fun w'=>Lc w' b6 #[t5_0,t5_1,t5_2,t5_3,t5_4,t5_5,t5_6,t5_7,t5_8,t5_9,t5_10,t5_11,t5_12,t5_13,t5_14,t5_15,t5_16,t5_17,t5_18,t5_19,t5_20,t5_21,t5_22,t5_23] 42∧Lc w' b12 #[(.int .i64 3),t11_0,t11_1,t11_2,t11_3,t11_4,t11_5,t11_6,t11_7,t11_8,t11_9,t11_10,t11_11,t11_12,t11_13,t11_14,t11_15,t11_16,t11_17,t11_18,t11_19,t11_20,t11_21,t11_22,t11_23,t11_24,t11_25,t11_26,t11_27] 82) [(true,0),(true,2),(false,1),(true,3),(true,4),(true,5),(true,6),(true,10),(false,7),(false,8),(false,9),(true,11),(true,12),(true,13),(true,14),(true,15),(true,16),(true,17),(true,18),(true,19),(true,20),(true,22),(false,21),(true,23),(true,24),(true,25),(true,26),(true,27),(true,29),(false,28),(true,30),(true,31),(true,32),(true,33),(true,34),(false,35),(true,36),(true,37),(true,38)] (by kernel_rfl) (by kernel_rfl) (by kernel_rfl) (by decide) (fun _ _ _ _ _ h=>h) ⟨L6,L12⟩ ?_
 refine ow 14 (.agg #[t5_0,t5_1,t5_2,t5_3,t5_4,t5_5,t5_6,t5_7,t5_8,t5_9,t5_10,t5_11,t5_12,t5_13,t5_14,t5_15,t5_16,t5_17,t5_18,t5_19,t5_20,t5_21,t5_22,t5_23]) rfl (fun w' hS=>(rl 42 0 [t5_0,t5_1,t5_2,t5_3,t5_4,t5_5,t5_6,t5_7,t5_8,t5_9,t5_10,t5_11,t5_12,t5_13,t5_14,t5_15,t5_16,t5_17,t5_18,t5_19,t5_20,t5_21,t5_22,t5_23] hS.1)) ?_
 refine ov 16 (.agg #[(.string ⟨([48]:List UInt8).toArray⟩),(.string ⟨([48]:List UInt8).toArray⟩),(.string ⟨([49]:List UInt8).toArray⟩),(.string ⟨([48]:List UInt8).toArray⟩),(.string ⟨([45,49]:List UInt8).toArray⟩),(.string ⟨([48]:List UInt8).toArray⟩)]) ?_
 refine oe ?_
 have kq38:=g6.kp.trans (kp7.trans (g9.kp.trans (g10.kp.trans (g11.kp.trans (g12.kp.trans (kp13.trans gd35.kp))))))
 replace h5a:=h5a.kp kq38
 replace h5b:=h5b.kp kq38
 replace h5c:=h5c.kp kq38
 replace h5d:=h5d.kp kq38
 replace h5e:=h5e.kp kq38
 replace h5f:=h5f.kp kq38
 refine ec 15 (litx6 (tnumbers_v h5a h5b h5c h5d h5e h5f (by omega) (ht.gr hB)) (ratL_lit 0 (by kernel_rfl) (by decide) rfl) (ratL_lit 0 (by kernel_rfl) (by decide) rfl) (ratL_lit 1 (by kernel_rfl) (by decide) rfl) (ratL_lit 0 (by kernel_rfl) (by decide) rfl) (ratL_neg 1 (by kernel_rfl) (by decide) (by decide) rfl) (ratL_lit 0 (by kernel_rfl) (by decide) rfl)) ?_
 rintro e37 w37 ⟨rfl,g37⟩
 refine ⟨_,rfl,?_⟩
 replace hB:=hB.trans g37
 replace L6:=L6.gr g37
 replace L12:=L12.gr g37
 refine ⟨⟨L6,L12⟩,?_⟩
 simp only [p3,p4]
 refine ov 17 (.bool true) ?_
 refine ov 18 (.bool true) ?_
 refine ow 19 (.agg #[t5_0,t5_1,t5_2,t5_3,t5_4,t5_5,t5_6,t5_7,t5_8,t5_9,t5_10,t5_11,t5_12,t5_13,t5_14,t5_15,t5_16,t5_17,t5_18,t5_19,t5_20,t5_21,t5_22,t5_23]) rfl (fun w' hS=>(rl 42 0 [t5_0,t5_1,t5_2,t5_3,t5_4,t5_5,t5_6,t5_7,t5_8,t5_9,t5_10,t5_11,t5_12,t5_13,t5_14,t5_15,t5_16,t5_17,t5_18,t5_19,t5_20,t5_21,t5_22,t5_23] hS.1)) ?_
 refine ov 20 (.agg #[(.int .i64 2),(.int .i64 0),(.int .i64 0)]) ?_
 refine ov 24 (.agg #[(.string ⟨([48]:List UInt8).toArray⟩),(.string ⟨([49]:List UInt8).toArray⟩),(.string ⟨([48]:List UInt8).toArray⟩)]) ?_
 refine oe ?_
 refine ec 21 (vof_v (2) (0) (0) (by omega) (by omega) (by omega) _) ?_
 rintro e40 w40 ⟨⟨t40_0,t40_1,t40_2,t40_3,t40_4,t40_5,t40_6,t40_7,t40_8,t40_9,t40_10,t40_11,rfl,h40a,h40b,h40c⟩,g40⟩
 refine ⟨_,rfl,?_⟩
 replace hB:=hB.trans g40
 rw [show ((((2:Int):Rat)):Rat)=(2:Rat) from by kernel_rfl] at h40a
 rw [show ((((0:Int):Rat)):Rat)=(0:Rat) from by kernel_rfl] at h40b
 rw [show ((((0:Int):Rat)):Rat)=(0:Rat) from by kernel_rfl] at h40c
 replace L6:=L6.gr g40
 replace L12:=L12.gr g40
 refine ⟨⟨L6,L12⟩,?_⟩
 simp only [p3,p4]
 refine oe ?_
 have kq43:=g37.kp.trans g40.kp
 replace h5a:=h5a.kp kq43
 replace h5b:=h5b.kp kq43
 replace h5c:=h5c.kp kq43
 replace h5d:=h5d.kp kq43
 replace h5e:=h5e.kp kq43
 replace h5f:=h5f.kp kq43
 refine ec 22 (tvel_v (h5a.mono (show _≤257 by omega)) (h5b.mono (show _≤257 by omega)) (h5c.mono (show _≤257 by omega)) h5d h5e h5f h40a h40b h40c (by omega)) ?_
 rintro e42 w42 ⟨⟨t42_0,t42_1,t42_2,t42_3,t42_4,t42_5,t42_6,t42_7,t42_8,t42_9,t42_10,t42_11,rfl,h42a,h42b,h42c⟩,g42⟩
 refine ⟨_,rfl,?_⟩
 replace hB:=hB.trans g42
 rw [show (((0:Rat)+((0:Rat)*(0:Rat) - (1:Rat)*(0:Rat))):Rat)=(0:Rat) from by kernel_rfl] at h42a
 rw [show (((-1:Rat)+((1:Rat)*(2:Rat) - (0:Rat)*(0:Rat))):Rat)=(1:Rat) from by kernel_rfl] at h42b
 rw [show (((0:Rat)+((0:Rat)*(0:Rat) - (0:Rat)*(2:Rat))):Rat)=(0:Rat) from by kernel_rfl] at h42c
 replace L6:=L6.gr g42
 replace L12:=L12.gr g42
 refine ⟨⟨L6,L12⟩,?_⟩
 simp only [p3,p4]
 refine oe ?_
 refine ec 23 (litx3 (vpt17_v h42a h42b h42c (by omega) (ht.gr hB)) (ratL_lit 0 (by kernel_rfl) (by decide) rfl) (ratL_lit 1 (by kernel_rfl) (by decide) rfl) (ratL_lit 0 (by kernel_rfl) (by decide) rfl)) ?_
 rintro e45 w45 ⟨rfl,g45⟩
 refine ⟨_,rfl,?_⟩
 replace hB:=hB.trans g45
 replace L6:=L6.gr g45
 replace L12:=L12.gr g45
 refine ⟨⟨L6,L12⟩,?_⟩
 simp only [p3,p4]
 refine ov 25 (.bool true) ?_
 refine ov 26 (.bool true) ?_
 refine ov 27 (.bool true) ?_
 refine ov 28 (.pointer (some ⟨b12,0,none⟩)) ?_
 refine ow 29 (.int .i64 3) rfl (fun w' hS=>(rk 3 0 hS.2)) ?_
 refine ov 30 (.bool true) ?_
 refine ov 31 (.bool true) ?_
 refine ov 32 (.bool true) ?_
 refine ov 33 (.pointer (some ⟨b12,1,none⟩)) ?_
 refine ow 34 (.agg #[t11_0,t11_1,t11_2,t11_3,t11_4,t11_5,t11_6,t11_7,t11_8,t11_9,t11_10,t11_11]) rfl (fun w' hS=>(rl 35 1 [t11_0,t11_1,t11_2,t11_3,t11_4,t11_5,t11_6,t11_7,t11_8,t11_9,t11_10,t11_11] hS.2)) ?_
 refine ov 36 (.agg #[(.string ⟨([48]:List UInt8).toArray⟩),(.string ⟨([48]:List UInt8).toArray⟩),(.string ⟨([49]:List UInt8).toArray⟩)]) ?_
 refine oe ?_
 have kq48:=g12.kp.trans (kp13.trans (gd35.kp.trans (g37.kp.trans (g40.kp.trans (g42.kp.trans g45.kp)))))
 replace h11a:=h11a.kp kq48
 replace h11b:=h11b.kp kq48
 replace h11c:=h11c.kp kq48
 refine ec 35 (litx3 (vpt17_v h11a h11b h11c (by omega) (ht.gr hB)) (ratL_lit 0 (by kernel_rfl) (by decide) rfl) (ratL_lit 0 (by kernel_rfl) (by decide) rfl) (ratL_lit 1 (by kernel_rfl) (by decide) rfl)) ?_
 rintro e47 w47 ⟨rfl,g47⟩
 refine ⟨_,rfl,?_⟩
 replace hB:=hB.trans g47
 replace L6:=L6.gr g47
 replace L12:=L12.gr g47
 refine ⟨⟨L6,L12⟩,?_⟩
 simp only [p3,p4]
 refine ov 37 (.bool true) ?_
 refine ov 38 (.bool true) ?_
 refine ov 39 (.bool true) ?_
 refine ov 40 (.pointer (some ⟨b12,13,none⟩)) ?_
 refine ow 41 (.agg #[t11_12,t11_13,t11_14,t11_15,t11_16,t11_17,t11_18,t11_19,t11_20,t11_21,t11_22,t11_23]) rfl (fun w' hS=>(rl 35 13 [t11_12,t11_13,t11_14,t11_15,t11_16,t11_17,t11_18,t11_19,t11_20,t11_21,t11_22,t11_23] hS.2)) ?_
 refine ov 43 (.agg #[(.string ⟨([49]:List UInt8).toArray⟩),(.string ⟨([48]:List UInt8).toArray⟩),(.string ⟨([48]:List UInt8).toArray⟩)]) ?_
 refine oe ?_
 have kq51:=g12.kp.trans (kp13.trans (gd35.kp.trans (g37.kp.trans (g40.kp.trans (g42.kp.trans (g45.kp.trans g47.kp))))))
 replace h11d:=h11d.kp kq51
 replace h11e:=h11e.kp kq51
 replace h11f:=h11f.kp kq51
 refine ec 42 (litx3 (vpt17_v h11d h11e h11f (by omega) (ht.gr hB)) (ratL_lit 1 (by kernel_rfl) (by decide) rfl) (ratL_lit 0 (by kernel_rfl) (by decide) rfl) (ratL_lit 0 (by kernel_rfl) (by decide) rfl)) ?_
 rintro e50 w50 ⟨rfl,g50⟩
 refine ⟨_,rfl,?_⟩
 replace hB:=hB.trans g50
 replace L6:=L6.gr g50
 replace L12:=L12.gr g50
 refine ⟨⟨L6,L12⟩,?_⟩
 simp only [p3,p4]
 refine ov 44 (.bool true) ?_
 refine ov 45 (.bool true) ?_
 refine ov 46 (.bool true) ?_
 refine ov 47 (.pointer (some ⟨b12,25,none⟩)) ?_
 refine ow 48 (.agg #[t11_24,t11_25,t11_26,t11_27]) rfl (fun w' hS=>(rl 33 25 [t11_24,t11_25,t11_26,t11_27] hS.2)) ?_
 refine oe ?_
 have kq54:=g12.kp.trans (kp13.trans (gd35.kp.trans (g37.kp.trans (g40.kp.trans (g42.kp.trans (g45.kp.trans (g47.kp.trans g50.kp)))))))
 replace h11g:=h11g.kp kq54
 refine ec 49 (litx1 (nb17_r h11g (by omega) (ht.gr hB)) (ratL_lit 2 (by kernel_rfl) (by decide) rfl)) ?_
 rintro e53 w53 ⟨rfl,g53⟩
 refine ⟨_,rfl,?_⟩
 replace hB:=hB.trans g53
 replace L6:=L6.gr g53
 replace L12:=L12.gr g53
 refine ⟨⟨L6,L12⟩,?_⟩
 simp only [p3,p4]
 refine ov 50 (.bool true) ?_
 refine ov 51 (.bool true) ?_
 refine ov 0 (.bool true) ?_
 refine ord_nil ?_
 refine k14 _ _ ?_
 try clear k14 K14
 refine wp_ret ?_
 refine bodyPost_ret (v:=(.bool true)) (ret_tmp rfl rfl) rfl ⟨?_,hB⟩
 exact rfl

end Go.Proofs.YthhbibpaeonecaaGreatDoor
