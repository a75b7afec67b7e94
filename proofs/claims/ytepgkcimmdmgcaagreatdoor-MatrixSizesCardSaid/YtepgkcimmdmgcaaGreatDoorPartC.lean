/- Joined of: Gen4, Sm, La, Gen162, Sn, Lb, Lc, Ld, Le, Lf, Gen163, Lg, Lh, Ten, TenM, TenT, R1a, R1b, R1c, R1d, R1e, R1f, Gen30, R1g, R1h, Ck, R1i, Ck2, Txt, Gen12, Nbr, R2a, Lj, Gen32, Rat2. -/
import Derived.Test.YtepgkcimmdmgcaaGreatDoorPartB
import Init.Data.Rat.Lemmas
import Derived.Lib.AppendZeros
import Derived.Test.YtepgkcimmdmgcaaGreatDoorPartA
import Derived.Laws.IdiomStrings
namespace Go.Proofs.YtepgkcimmdmgcaaGreatDoor
open Go.RowKit

set_option maxRecDepth 100000 in
set_option maxHeartbeats 1000000 in
theorem add_tt {k m:Nat} {u0 u1 u2 u3 v0 v1 v2 v3:Value} {a b:Rat} {w:World} (ha:IsRat w k u0 u1 u2 u3 a) (hb:IsRat w m v0 v1 v2 v3 b) (_hk:k+m≤100000) (wa:a.den=1) (wb:b.den=1):
    Calls Tryz.prog 98 #[(.agg #[u0,u1,u2,u3]),(.agg #[v0,v1,v2,v3])] w fun e w'=>(∃ c0 c1 c2 c3,e=.returned (.agg #[c0,c1,c2,c3])∧IsRat w' (k+m+1) c0 c1 c2 c3 (a+b))∧Gr w w':=by
 have hka:=ha.big
 have hkb:=hb.big
 go_enter Tryz.func98,Tryz.ntmps98
 have hB:=Gr.refl w
 refine wp_seq_k (fun K1 k1=>?_)
 refine rg [0,1,2] ?_
 refine se ?_
 refine eb 71 #[u0,u1,u2,u3] 2 hB fun b2 w2 g2 L2 o2 q2 hB=>?_
 simp only [p3,p4]
 refine se ?_
 refine eb 71 #[v0,v1,v2,v3] 3 hB fun b3 w3 g3 L3 o3 q3 hB=>?_
 simp only [p3,p4]
 refine se ?_
 refine ea 71 #[(.bool false),(.slice none 0 0),(.bool false),(.slice none 0 0)] 4 hB fun b4 w4 g4 L4 o4 q4 hB=>?_
 replace L2:=L2.gr g3
 simp only [p3,p4]
 refine sq_nil ?_
 refine k1 _ _ ?_
 try clear k1 K1
 refine wp_seq_k (fun K5 k5=>?_)
 refine wp_seq_k (fun K6 k6=>?_)
 refine rg [0,1,2,3,4,5] ?_
 replace L2:=L2.gr g4
 refine sw 5 (.agg #[u0,u1,u2,u3]) rfl (rl 71 0 [u0,u1,u2,u3] L2) ?_
 refine se ?_
 have kq8:=g2.kp.trans (g3.kp.trans g4.kp)
 replace ha:=ha.kp kq8
 refine ec 6 (whole_t ha (by omega) wa) ?_
 rintro e7 w7 ⟨rfl,g7⟩
 refine ⟨_,rfl,?_⟩
 replace hB:=hB.trans g7
 simp only [p3,p4]
 refine sv 7 (.bool true) ?_
 replace L3:=L3.gr (g4.trans g7)
 refine sw 8 (.agg #[v0,v1,v2,v3]) rfl (rl 71 0 [v0,v1,v2,v3] L3) ?_
 refine se ?_
 have kq10:=g2.kp.trans (g3.kp.trans (g4.kp.trans g7.kp))
 replace hb:=hb.kp kq10
 refine ec 9 (whole_t hb (by omega) wb) ?_
 rintro e9 w9 ⟨rfl,g9⟩
 refine ⟨_,rfl,?_⟩
 replace hB:=hB.trans g9
 simp only [p3,p4]
 refine sv 10 (.bool true) ?_
 refine sq_nil ?_
 refine k6 _ _ ?_
 try clear k6 K6
 refine wp_cond_true rfl ?_
 refine wp_seq_k (fun K11 k11=>?_)
 refine rg [0,1,2,3,4,5,6] ?_
 refine sv 11 (.pointer (some ⟨b2,0,none⟩)) ?_
 replace L2:=L2.gr (g7.trans g9)
 refine sw 12 (.agg #[u0,u1]) rfl (rl 69 0 [u0,u1] L2) ?_
 refine sv 13 (.pointer (some ⟨b3,0,none⟩)) ?_
 replace L3:=L3.gr g9
 refine sw 14 (.agg #[v0,v1]) rfl (rl 69 0 [v0,v1] L3) ?_
 refine se ?_
 have kq13:=g7.kp.trans g9.kp
 replace ha:=ha.kp kq13
 replace hb:=hb.kp g9.kp
 refine ec 15 (add_e (k+m) ha.num hb.num (by omega) (by omega) (by omega)) ?_
 rintro e12 w12 ⟨⟨x12,y12,rfl,h12⟩,g12⟩
 refine ⟨_,rfl,?_⟩
 replace hB:=hB.trans g12
 simp only [p3,p4]
 refine sv 16 (.agg #[x12,y12,(.bool false),(.slice none 0 0)]) ?_
 refine se ?_
 replace L4:=L4.gr (g7.trans (g9.trans g12))
 refine es 71 0 (.agg #[x12,y12,(.bool false),(.slice none 0 0)]) [x12,y12,(.bool false),(.slice none 0 0)] #[x12,y12,(.bool false),(.slice none 0 0)] L4 hB q4 ⟨h12.one0,h12.one1,rfl,rfl,trivial⟩ fun w14 st14 kp14 L4 hB=>?_
 refine sq_nil ?_
 refine k11 _ _ ?_
 try clear k11 K11
 refine wp_ret ?_
 simp only [Exit.then]
 refine bodyPost_ret (v:=(.agg #[x12,y12,(.bool false),(.slice none 0 0)])) (ret_cell _ _ _ rfl rfl L4 (by kernel_rfl)) rfl ⟨?_,hB⟩
 replace h12:=h12.kp kp14
 exact ⟨_,_,_,_,rfl,by rw [← rat_int wa,← rat_int wb,← Rat.intCast_add];exact IsRat.int h12 (by omega)⟩

set_option maxRecDepth 100000 in
set_option maxHeartbeats 1000000 in
theorem add_tf {k m:Nat} {u0 u1 u2 u3 v0 v1 v2 v3:Value} {a b:Rat} {w:World} (ha:IsRat w k u0 u1 u2 u3 a) (hb:IsRat w m v0 v1 v2 v3 b) (_hk:k+m≤100000) (wa:a.den=1) (wb:b.den≠1):
    Calls Tryz.prog 98 #[(.agg #[u0,u1,u2,u3]),(.agg #[v0,v1,v2,v3])] w fun e w'=>(∃ c0 c1 c2 c3,e=.returned (.agg #[c0,c1,c2,c3])∧IsRat w' (k+m+1) c0 c1 c2 c3 (a+b))∧Gr w w':=by
 have hka:=ha.big
 have hkb:=hb.big
 go_enter Tryz.func98,Tryz.ntmps98
 have hB:=Gr.refl w
 refine wp_seq_k (fun K1 k1=>?_)
 refine rg [0,1,2] ?_
 refine se ?_
 refine eb 71 #[u0,u1,u2,u3] 2 hB fun b2 w2 g2 L2 o2 q2 hB=>?_
 simp only [p3,p4]
 refine se ?_
 refine eb 71 #[v0,v1,v2,v3] 3 hB fun b3 w3 g3 L3 o3 q3 hB=>?_
 simp only [p3,p4]
 refine se ?_
 refine ea 71 #[(.bool false),(.slice none 0 0),(.bool false),(.slice none 0 0)] 4 hB fun b4 w4 g4 L4 o4 q4 hB=>?_
 replace L2:=L2.gr g3
 have ne2_4:=L2.ne o4
 have ne3_4:=L3.ne o4
 simp only [p3,p4]
 refine sq_nil ?_
 refine k1 _ _ ?_
 try clear k1 K1
 refine wp_seq_k (fun K5 k5=>?_)
 refine wp_seq_k (fun K6 k6=>?_)
 refine rg [0,1,2,3,4,5] ?_
 replace L2:=L2.gr g4
 refine sw 5 (.agg #[u0,u1,u2,u3]) rfl (rl 71 0 [u0,u1,u2,u3] L2) ?_
 refine se ?_
 have kq8:=g2.kp.trans (g3.kp.trans g4.kp)
 replace ha:=ha.kp kq8
 refine ec 6 (whole_t ha (by omega) wa) ?_
 rintro e7 w7 ⟨rfl,g7⟩
 refine ⟨_,rfl,?_⟩
 replace hB:=hB.trans g7
 simp only [p3,p4]
 refine sv 7 (.bool true) ?_
 replace L3:=L3.gr (g4.trans g7)
 refine sw 8 (.agg #[v0,v1,v2,v3]) rfl (rl 71 0 [v0,v1,v2,v3] L3) ?_
 refine se ?_
 have kq10:=g2.kp.trans (g3.kp.trans (g4.kp.trans g7.kp))
 replace hb:=hb.kp kq10
 refine ec 9 (whole_f hb (by omega) wb) ?_
 rintro e9 w9 ⟨rfl,g9⟩
 refine ⟨_,rfl,?_⟩
 replace hB:=hB.trans g9
 simp only [p3,p4]
 refine sv 10 (.bool false) ?_
 refine sq_nil ?_
 refine k6 _ _ ?_
 try clear k6 K6
 refine wp_cond_false rfl ?_
 refine wp_skip ?_
 refine k5 _ _ ?_
 try clear k5 K5
 refine wp_seq_k (fun K11 k11=>?_)
 have gd40:=Gr.drew w9
 replace hB:=hB.trans gd40
 replace L2:=L2.gr (g7.trans (g9.trans gd40))
 replace L3:=L3.gr (g9.trans gd40)
 refine wp_region_ord (fun w'=>Lc w' b2 #[u0,u1,u2,u3] 71∧Lc w' b3 #[v0,v1,v2,v3] 71) [(true,0),(true,1),(true,2),(true,5),(true,6),(true,7),(true,11),(true,13),(false,3),(false,4),(false,8),(false,9),(false,10),(false,12),(false,14),(false,15),(false,16),(false,17)] (by kernel_rfl) (by kernel_rfl) (by kernel_rfl) (by decide) (fun _ _ _ _ _ h=>h) ⟨L2,L3⟩ ?_
 refine ov 17 (.pointer (some ⟨b2,0,none⟩)) ?_
 refine ow 18 (.agg #[u0,u1]) rfl (fun w' hS=>(rl 69 0 [u0,u1] hS.1)) ?_
 refine ow 19 (.agg #[v0,v1,v2,v3]) rfl (fun w' hS=>(rl 71 0 [v0,v1,v2,v3] hS.2)) ?_
 refine ov 22 (.pointer (some ⟨b3,0,none⟩)) ?_
 refine ow 23 (.agg #[v0,v1]) rfl (fun w' hS=>(rl 69 0 [v0,v1] hS.2)) ?_
 refine ow 24 (.agg #[u0,u1,u2,u3]) rfl (fun w' hS=>(rl 71 0 [u0,u1,u2,u3] hS.1)) ?_
 refine ow 28 (.agg #[u0,u1,u2,u3]) rfl (fun w' hS=>(rl 71 0 [u0,u1,u2,u3] hS.1)) ?_
 refine ow 30 (.agg #[v0,v1,v2,v3]) rfl (fun w' hS=>(rl 71 0 [v0,v1,v2,v3] hS.2)) ?_
 refine oe ?_
 have kq43:=g9.kp.trans gd40.kp
 replace hb:=hb.kp kq43
 refine ec 20 (den_i hb) ?_
 rintro e42 w42 ⟨⟨x42,y42,rfl,h42⟩,g42⟩
 refine ⟨_,rfl,?_⟩
 replace hB:=hB.trans g42
 replace L2:=L2.gr g42
 replace L3:=L3.gr g42
 refine ⟨⟨L2,L3⟩,?_⟩
 simp only [p3,p4]
 refine oe ?_
 have kq46:=g7.kp.trans (g9.kp.trans (gd40.kp.trans g42.kp))
 replace ha:=ha.kp kq46
 refine ec 21 (mul_i ha.num h42 (by omega)) ?_
 rintro e45 w45 ⟨⟨x45,y45,rfl,h45⟩,g45⟩
 refine ⟨_,rfl,?_⟩
 replace hB:=hB.trans g45
 replace L2:=L2.gr g45
 replace L3:=L3.gr g45
 refine ⟨⟨L2,L3⟩,?_⟩
 simp only [p3,p4]
 refine oe ?_
 replace ha:=ha.kp g45.kp
 refine ec 25 (den_i ha) ?_
 rintro e48 w48 ⟨⟨x48,y48,rfl,h48⟩,g48⟩
 refine ⟨_,rfl,?_⟩
 replace hB:=hB.trans g48
 replace L2:=L2.gr g48
 replace L3:=L3.gr g48
 refine ⟨⟨L2,L3⟩,?_⟩
 simp only [p3,p4]
 refine oe ?_
 have kq51:=g42.kp.trans (g45.kp.trans g48.kp)
 replace hb:=hb.kp kq51
 refine ec 26 (mul_i hb.num h48 (by omega)) ?_
 rintro e50 w50 ⟨⟨x50,y50,rfl,h50⟩,g50⟩
 refine ⟨_,rfl,?_⟩
 replace hB:=hB.trans g50
 replace L2:=L2.gr g50
 replace L3:=L3.gr g50
 refine ⟨⟨L2,L3⟩,?_⟩
 simp only [p3,p4]
 refine oe ?_
 have kq54:=g48.kp.trans g50.kp
 replace h45:=h45.kp kq54
 refine ec 27 (add_e (k+m) h45 h50 (by omega) (by omega) (by omega)) ?_
 rintro e53 w53 ⟨⟨x53,y53,rfl,h53⟩,g53⟩
 refine ⟨_,rfl,?_⟩
 replace hB:=hB.trans g53
 replace L2:=L2.gr g53
 replace L3:=L3.gr g53
 refine ⟨⟨L2,L3⟩,?_⟩
 simp only [p3,p4]
 refine oe ?_
 have kq57:=g48.kp.trans (g50.kp.trans g53.kp)
 replace ha:=ha.kp kq57
 refine ec 29 (den_i ha) ?_
 rintro e56 w56 ⟨⟨x56,y56,rfl,h56⟩,g56⟩
 refine ⟨_,rfl,?_⟩
 replace hB:=hB.trans g56
 replace L2:=L2.gr g56
 replace L3:=L3.gr g56
 refine ⟨⟨L2,L3⟩,?_⟩
 simp only [p3,p4]
 refine oe ?_
 have kq60:=g50.kp.trans (g53.kp.trans g56.kp)
 replace hb:=hb.kp kq60
 refine ec 31 (den_i hb) ?_
 rintro e59 w59 ⟨⟨x59,y59,rfl,h59⟩,g59⟩
 refine ⟨_,rfl,?_⟩
 replace hB:=hB.trans g59
 replace L2:=L2.gr g59
 replace L3:=L3.gr g59
 refine ⟨⟨L2,L3⟩,?_⟩
 simp only [p3,p4]
 refine oe ?_
 replace h56:=h56.kp g59.kp
 refine ec 32 (mul_i h56 h59 (by omega)) ?_
 rintro e62 w62 ⟨⟨x62,y62,rfl,h62⟩,g62⟩
 refine ⟨_,rfl,?_⟩
 replace hB:=hB.trans g62
 replace L2:=L2.gr g62
 replace L3:=L3.gr g62
 refine ⟨⟨L2,L3⟩,?_⟩
 simp only [p3,p4]
 refine oe ?_
 have kq65:=g56.kp.trans (g59.kp.trans g62.kp)
 replace h53:=h53.kp kq65
 refine ec 33 (reduced_i ((k+m+1)) h53 h62 (Int.mul_pos (Int.natCast_pos.2 a.den_pos) (Int.natCast_pos.2 b.den_pos)) (by omega) (by omega) (by omega) (by omega)) ?_
 rintro e64 w64 ⟨⟨p64,q64,r64,s64,rfl,h64⟩,g64⟩
 refine ⟨_,rfl,?_⟩
 replace hB:=hB.trans g64
 replace L2:=L2.gr g64
 replace L3:=L3.gr g64
 refine ⟨⟨L2,L3⟩,?_⟩
 simp only [p3,p4]
 refine oe ?_
 replace L4:=L4.gr (g7.trans (g9.trans (gd40.trans (g42.trans (g45.trans (g48.trans (g50.trans (g53.trans (g56.trans (g59.trans (g62.trans g64)))))))))))
 refine es 71 0 (.agg #[p64,q64,r64,s64]) [p64,q64,r64,s64] #[p64,q64,r64,s64] L4 hB q4 ⟨h64.one0,h64.one1,h64.one2,h64.one3,trivial⟩ fun w67 st67 kp67 L4 hB=>?_
 replace L2:=st67.lc L2 ne2_4
 replace L3:=st67.lc L3 ne3_4
 refine ⟨⟨L2,L3⟩,?_⟩
 refine ord_nil ?_
 refine k11 _ _ ?_
 try clear k11 K11
 refine wp_ret ?_
 refine bodyPost_ret (v:=(.agg #[p64,q64,r64,s64])) (ret_cell _ _ _ rfl rfl L4 (by kernel_rfl)) rfl ⟨?_,hB⟩
 replace h64:=h64.kp kp67
 exact ⟨_,_,_,_,rfl,by rw [← rat_add];exact h64⟩

set_option maxRecDepth 100000 in
set_option maxHeartbeats 1000000 in
theorem add_f {k m:Nat} {u0 u1 u2 u3 v0 v1 v2 v3:Value} {a b:Rat} {w:World} (ha:IsRat w k u0 u1 u2 u3 a) (hb:IsRat w m v0 v1 v2 v3 b) (_hk:k+m≤100000) (wa:a.den≠1):
    Calls Tryz.prog 98 #[(.agg #[u0,u1,u2,u3]),(.agg #[v0,v1,v2,v3])] w fun e w'=>(∃ c0 c1 c2 c3,e=.returned (.agg #[c0,c1,c2,c3])∧IsRat w' (k+m+1) c0 c1 c2 c3 (a+b))∧Gr w w':=by
 have hka:=ha.big
 have hkb:=hb.big
 go_enter Tryz.func98,Tryz.ntmps98
 have hB:=Gr.refl w
 refine wp_seq_k (fun K1 k1=>?_)
 refine rg [0,1,2] ?_
 refine se ?_
 refine eb 71 #[u0,u1,u2,u3] 2 hB fun b2 w2 g2 L2 o2 q2 hB=>?_
 simp only [p3,p4]
 refine se ?_
 refine eb 71 #[v0,v1,v2,v3] 3 hB fun b3 w3 g3 L3 o3 q3 hB=>?_
 simp only [p3,p4]
 refine se ?_
 refine ea 71 #[(.bool false),(.slice none 0 0),(.bool false),(.slice none 0 0)] 4 hB fun b4 w4 g4 L4 o4 q4 hB=>?_
 replace L2:=L2.gr g3
 have ne2_4:=L2.ne o4
 have ne3_4:=L3.ne o4
 simp only [p3,p4]
 refine sq_nil ?_
 refine k1 _ _ ?_
 try clear k1 K1
 refine wp_seq_k (fun K5 k5=>?_)
 refine wp_seq_k (fun K6 k6=>?_)
 refine rg [0,1,2,3,4,5] ?_
 replace L2:=L2.gr g4
 refine sw 5 (.agg #[u0,u1,u2,u3]) rfl (rl 71 0 [u0,u1,u2,u3] L2) ?_
 refine se ?_
 have kq8:=g2.kp.trans (g3.kp.trans g4.kp)
 replace ha:=ha.kp kq8
 refine ec 6 (whole_f ha (by omega) wa) ?_
 rintro e7 w7 ⟨rfl,g7⟩
 refine ⟨_,rfl,?_⟩
 replace hB:=hB.trans g7
 simp only [p3,p4]
 refine sv 7 (.bool false) ?_
 refine ss 8 ?_
 refine ss 9 ?_
 refine sv 10 (.bool false) ?_
 refine sq_nil ?_
 refine k6 _ _ ?_
 try clear k6 K6
 refine wp_cond_false rfl ?_
 refine wp_skip ?_
 refine k5 _ _ ?_
 try clear k5 K5
 refine wp_seq_k (fun K9 k9=>?_)
 have gd38:=Gr.drew w7
 replace hB:=hB.trans gd38
 replace L2:=L2.gr (g7.trans gd38)
 replace L3:=L3.gr (g4.trans (g7.trans gd38))
 refine wp_region_ord (fun w'=>Lc w' b2 #[u0,u1,u2,u3] 71∧Lc w' b3 #[v0,v1,v2,v3] 71) [(true,0),(true,1),(true,2),(true,5),(true,6),(true,7),(true,11),(true,13),(false,3),(false,4),(false,8),(false,9),(false,10),(false,12),(false,14),(false,15),(false,16),(false,17)] (by kernel_rfl) (by kernel_rfl) (by kernel_rfl) (by decide) (fun _ _ _ _ _ h=>h) ⟨L2,L3⟩ ?_
 refine ov 17 (.pointer (some ⟨b2,0,none⟩)) ?_
 refine ow 18 (.agg #[u0,u1]) rfl (fun w' hS=>(rl 69 0 [u0,u1] hS.1)) ?_
 refine ow 19 (.agg #[v0,v1,v2,v3]) rfl (fun w' hS=>(rl 71 0 [v0,v1,v2,v3] hS.2)) ?_
 refine ov 22 (.pointer (some ⟨b3,0,none⟩)) ?_
 refine ow 23 (.agg #[v0,v1]) rfl (fun w' hS=>(rl 69 0 [v0,v1] hS.2)) ?_
 refine ow 24 (.agg #[u0,u1,u2,u3]) rfl (fun w' hS=>(rl 71 0 [u0,u1,u2,u3] hS.1)) ?_
 refine ow 28 (.agg #[u0,u1,u2,u3]) rfl (fun w' hS=>(rl 71 0 [u0,u1,u2,u3] hS.1)) ?_
 refine ow 30 (.agg #[v0,v1,v2,v3]) rfl (fun w' hS=>(rl 71 0 [v0,v1,v2,v3] hS.2)) ?_
 refine oe ?_
 have kq41:=g2.kp.trans (g3.kp.trans (g4.kp.trans (g7.kp.trans gd38.kp)))
 replace hb:=hb.kp kq41
 refine ec 20 (den_i hb) ?_
 rintro e40 w40 ⟨⟨x40,y40,rfl,h40⟩,g40⟩
 refine ⟨_,rfl,?_⟩
 replace hB:=hB.trans g40
 replace L2:=L2.gr g40
 replace L3:=L3.gr g40
 refine ⟨⟨L2,L3⟩,?_⟩
 simp only [p3,p4]
 refine oe ?_
 have kq44:=g7.kp.trans (gd38.kp.trans g40.kp)
 replace ha:=ha.kp kq44
 refine ec 21 (mul_i ha.num h40 (by omega)) ?_
 rintro e43 w43 ⟨⟨x43,y43,rfl,h43⟩,g43⟩
 refine ⟨_,rfl,?_⟩
 replace hB:=hB.trans g43
 replace L2:=L2.gr g43
 replace L3:=L3.gr g43
 refine ⟨⟨L2,L3⟩,?_⟩
 simp only [p3,p4]
 refine oe ?_
 replace ha:=ha.kp g43.kp
 refine ec 25 (den_i ha) ?_
 rintro e46 w46 ⟨⟨x46,y46,rfl,h46⟩,g46⟩
 refine ⟨_,rfl,?_⟩
 replace hB:=hB.trans g46
 replace L2:=L2.gr g46
 replace L3:=L3.gr g46
 refine ⟨⟨L2,L3⟩,?_⟩
 simp only [p3,p4]
 refine oe ?_
 have kq49:=g40.kp.trans (g43.kp.trans g46.kp)
 replace hb:=hb.kp kq49
 refine ec 26 (mul_i hb.num h46 (by omega)) ?_
 rintro e48 w48 ⟨⟨x48,y48,rfl,h48⟩,g48⟩
 refine ⟨_,rfl,?_⟩
 replace hB:=hB.trans g48
 replace L2:=L2.gr g48
 replace L3:=L3.gr g48
 refine ⟨⟨L2,L3⟩,?_⟩
 simp only [p3,p4]
 refine oe ?_
 have kq52:=g46.kp.trans g48.kp
 replace h43:=h43.kp kq52
 refine ec 27 (add_e (k+m) h43 h48 (by omega) (by omega) (by omega)) ?_
 rintro e51 w51 ⟨⟨x51,y51,rfl,h51⟩,g51⟩
 refine ⟨_,rfl,?_⟩
 replace hB:=hB.trans g51
 replace L2:=L2.gr g51
 replace L3:=L3.gr g51
 refine ⟨⟨L2,L3⟩,?_⟩
 simp only [p3,p4]
 refine oe ?_
 have kq55:=g46.kp.trans (g48.kp.trans g51.kp)
 replace ha:=ha.kp kq55
 refine ec 29 (den_i ha) ?_
 rintro e54 w54 ⟨⟨x54,y54,rfl,h54⟩,g54⟩
 refine ⟨_,rfl,?_⟩
 replace hB:=hB.trans g54
 replace L2:=L2.gr g54
 replace L3:=L3.gr g54
 refine ⟨⟨L2,L3⟩,?_⟩
 simp only [p3,p4]
 refine oe ?_
 have kq58:=g48.kp.trans (g51.kp.trans g54.kp)
 replace hb:=hb.kp kq58
 refine ec 31 (den_i hb) ?_
 rintro e57 w57 ⟨⟨x57,y57,rfl,h57⟩,g57⟩
 refine ⟨_,rfl,?_⟩
 replace hB:=hB.trans g57
 replace L2:=L2.gr g57
 replace L3:=L3.gr g57
 refine ⟨⟨L2,L3⟩,?_⟩
 simp only [p3,p4]
 refine oe ?_
 replace h54:=h54.kp g57.kp
 refine ec 32 (mul_i h54 h57 (by omega)) ?_
 rintro e60 w60 ⟨⟨x60,y60,rfl,h60⟩,g60⟩
 refine ⟨_,rfl,?_⟩
 replace hB:=hB.trans g60
 replace L2:=L2.gr g60
 replace L3:=L3.gr g60
 refine ⟨⟨L2,L3⟩,?_⟩
 simp only [p3,p4]
 refine oe ?_
 have kq63:=g54.kp.trans (g57.kp.trans g60.kp)
 replace h51:=h51.kp kq63
 refine ec 33 (reduced_i ((k+m+1)) h51 h60 (Int.mul_pos (Int.natCast_pos.2 a.den_pos) (Int.natCast_pos.2 b.den_pos)) (by omega) (by omega) (by omega) (by omega)) ?_
 rintro e62 w62 ⟨⟨p62,q62,r62,s62,rfl,h62⟩,g62⟩
 refine ⟨_,rfl,?_⟩
 replace hB:=hB.trans g62
 replace L2:=L2.gr g62
 replace L3:=L3.gr g62
 refine ⟨⟨L2,L3⟩,?_⟩
 simp only [p3,p4]
 refine oe ?_
 replace L4:=L4.gr (g7.trans (gd38.trans (g40.trans (g43.trans (g46.trans (g48.trans (g51.trans (g54.trans (g57.trans (g60.trans g62))))))))))
 refine es 71 0 (.agg #[p62,q62,r62,s62]) [p62,q62,r62,s62] #[p62,q62,r62,s62] L4 hB q4 ⟨h62.one0,h62.one1,h62.one2,h62.one3,trivial⟩ fun w65 st65 kp65 L4 hB=>?_
 replace L2:=st65.lc L2 ne2_4
 replace L3:=st65.lc L3 ne3_4
 refine ⟨⟨L2,L3⟩,?_⟩
 refine ord_nil ?_
 refine k9 _ _ ?_
 try clear k9 K9
 refine wp_ret ?_
 refine bodyPost_ret (v:=(.agg #[p62,q62,r62,s62])) (ret_cell _ _ _ rfl rfl L4 (by kernel_rfl)) rfl ⟨?_,hB⟩
 replace h62:=h62.kp kp65
 exact ⟨_,_,_,_,rfl,by rw [← rat_add];exact h62⟩

theorem add_r {k m:Nat} {u0 u1 u2 u3 v0 v1 v2 v3:Value} {a b:Rat} {w:World} (ha:IsRat w k u0 u1 u2 u3 a) (hb:IsRat w m v0 v1 v2 v3 b) (hk:k+m≤100000):
    Calls Tryz.prog 98 #[.agg #[u0,u1,u2,u3],.agg #[v0,v1,v2,v3]] w fun e w'=>(∃ c0 c1 c2 c3,e=.returned (.agg #[c0,c1,c2,c3])∧IsRat w' (k+m+1) c0 c1 c2 c3 (a+b))∧Gr w w':=by
  by_cases wa:a.den=1
  · by_cases wb:b.den=1
    · exact add_tt ha hb hk wa wb
    · exact add_tf ha hb hk wa wb
  · exact add_f ha hb hk wa

set_option maxRecDepth 100000 in
set_option maxHeartbeats 1000000 in
theorem mul_tt {k m:Nat} {u0 u1 u2 u3 v0 v1 v2 v3:Value} {a b:Rat} {w:World} (ha:IsRat w k u0 u1 u2 u3 a) (hb:IsRat w m v0 v1 v2 v3 b) (_hk:k+m≤100000) (wa:a.den=1) (wb:b.den=1):
    Calls Tryz.prog 48 #[(.agg #[u0,u1,u2,u3]),(.agg #[v0,v1,v2,v3])] w fun e w'=>(∃ c0 c1 c2 c3,e=.returned (.agg #[c0,c1,c2,c3])∧IsRat w' (k+m) c0 c1 c2 c3 (a*b))∧Gr w w':=by
 have hka:=ha.big
 have hkb:=hb.big
 go_enter Tryz.func48,Tryz.ntmps48
 have hB:=Gr.refl w
 refine wp_seq_k (fun K1 k1=>?_)
 refine rg [0,1,2] ?_
 refine se ?_
 refine eb 71 #[u0,u1,u2,u3] 2 hB fun b2 w2 g2 L2 o2 q2 hB=>?_
 simp only [p3,p4]
 refine se ?_
 refine eb 71 #[v0,v1,v2,v3] 3 hB fun b3 w3 g3 L3 o3 q3 hB=>?_
 simp only [p3,p4]
 refine se ?_
 refine ea 71 #[(.bool false),(.slice none 0 0),(.bool false),(.slice none 0 0)] 4 hB fun b4 w4 g4 L4 o4 q4 hB=>?_
 replace L2:=L2.gr g3
 simp only [p3,p4]
 refine sq_nil ?_
 refine k1 _ _ ?_
 try clear k1 K1
 refine wp_seq_k (fun K5 k5=>?_)
 refine wp_seq_k (fun K6 k6=>?_)
 refine rg [0,1,2,3,4,5] ?_
 replace L2:=L2.gr g4
 refine sw 5 (.agg #[u0,u1,u2,u3]) rfl (rl 71 0 [u0,u1,u2,u3] L2) ?_
 refine se ?_
 have kq8:=g2.kp.trans (g3.kp.trans g4.kp)
 replace ha:=ha.kp kq8
 refine ec 6 (whole_t ha (by omega) wa) ?_
 rintro e7 w7 ⟨rfl,g7⟩
 refine ⟨_,rfl,?_⟩
 replace hB:=hB.trans g7
 simp only [p3,p4]
 refine sv 7 (.bool true) ?_
 replace L3:=L3.gr (g4.trans g7)
 refine sw 8 (.agg #[v0,v1,v2,v3]) rfl (rl 71 0 [v0,v1,v2,v3] L3) ?_
 refine se ?_
 have kq10:=g2.kp.trans (g3.kp.trans (g4.kp.trans g7.kp))
 replace hb:=hb.kp kq10
 refine ec 9 (whole_t hb (by omega) wb) ?_
 rintro e9 w9 ⟨rfl,g9⟩
 refine ⟨_,rfl,?_⟩
 replace hB:=hB.trans g9
 simp only [p3,p4]
 refine sv 10 (.bool true) ?_
 refine sq_nil ?_
 refine k6 _ _ ?_
 try clear k6 K6
 refine wp_cond_true rfl ?_
 refine wp_seq_k (fun K11 k11=>?_)
 refine rg [0,1,2,3,4,5,6] ?_
 refine sv 11 (.pointer (some ⟨b2,0,none⟩)) ?_
 replace L2:=L2.gr (g7.trans g9)
 refine sw 12 (.agg #[u0,u1]) rfl (rl 69 0 [u0,u1] L2) ?_
 refine sv 13 (.pointer (some ⟨b3,0,none⟩)) ?_
 replace L3:=L3.gr g9
 refine sw 14 (.agg #[v0,v1]) rfl (rl 69 0 [v0,v1] L3) ?_
 refine se ?_
 have kq13:=g7.kp.trans g9.kp
 replace ha:=ha.kp kq13
 replace hb:=hb.kp g9.kp
 refine ec 15 (mul_i ha.num hb.num (by omega)) ?_
 rintro e12 w12 ⟨⟨x12,y12,rfl,h12⟩,g12⟩
 refine ⟨_,rfl,?_⟩
 replace hB:=hB.trans g12
 simp only [p3,p4]
 refine sv 16 (.agg #[x12,y12,(.bool false),(.slice none 0 0)]) ?_
 refine se ?_
 replace L4:=L4.gr (g7.trans (g9.trans g12))
 refine es 71 0 (.agg #[x12,y12,(.bool false),(.slice none 0 0)]) [x12,y12,(.bool false),(.slice none 0 0)] #[x12,y12,(.bool false),(.slice none 0 0)] L4 hB q4 ⟨h12.one0,h12.one1,rfl,rfl,trivial⟩ fun w14 st14 kp14 L4 hB=>?_
 refine sq_nil ?_
 refine k11 _ _ ?_
 try clear k11 K11
 refine wp_ret ?_
 simp only [Exit.then]
 refine bodyPost_ret (v:=(.agg #[x12,y12,(.bool false),(.slice none 0 0)])) (ret_cell _ _ _ rfl rfl L4 (by kernel_rfl)) rfl ⟨?_,hB⟩
 replace h12:=h12.kp kp14
 exact ⟨_,_,_,_,rfl,by rw [← rat_int wa,← rat_int wb,← Rat.intCast_mul];exact IsRat.int h12 (by omega)⟩

set_option maxRecDepth 100000 in
set_option maxHeartbeats 1000000 in
theorem mul_tf {k m:Nat} {u0 u1 u2 u3 v0 v1 v2 v3:Value} {a b:Rat} {w:World} (ha:IsRat w k u0 u1 u2 u3 a) (hb:IsRat w m v0 v1 v2 v3 b) (_hk:k+m≤100000) (wa:a.den=1) (wb:b.den≠1):
    Calls Tryz.prog 48 #[(.agg #[u0,u1,u2,u3]),(.agg #[v0,v1,v2,v3])] w fun e w'=>(∃ c0 c1 c2 c3,e=.returned (.agg #[c0,c1,c2,c3])∧IsRat w' (k+m) c0 c1 c2 c3 (a*b))∧Gr w w':=by
 have hka:=ha.big
 have hkb:=hb.big
 go_enter Tryz.func48,Tryz.ntmps48
 have hB:=Gr.refl w
 refine wp_seq_k (fun K1 k1=>?_)
 refine rg [0,1,2] ?_
 refine se ?_
 refine eb 71 #[u0,u1,u2,u3] 2 hB fun b2 w2 g2 L2 o2 q2 hB=>?_
 simp only [p3,p4]
 refine se ?_
 refine eb 71 #[v0,v1,v2,v3] 3 hB fun b3 w3 g3 L3 o3 q3 hB=>?_
 simp only [p3,p4]
 refine se ?_
 refine ea 71 #[(.bool false),(.slice none 0 0),(.bool false),(.slice none 0 0)] 4 hB fun b4 w4 g4 L4 o4 q4 hB=>?_
 replace L2:=L2.gr g3
 have ne2_4:=L2.ne o4
 have ne3_4:=L3.ne o4
 simp only [p3,p4]
 refine sq_nil ?_
 refine k1 _ _ ?_
 try clear k1 K1
 refine wp_seq_k (fun K5 k5=>?_)
 refine wp_seq_k (fun K6 k6=>?_)
 refine rg [0,1,2,3,4,5] ?_
 replace L2:=L2.gr g4
 refine sw 5 (.agg #[u0,u1,u2,u3]) rfl (rl 71 0 [u0,u1,u2,u3] L2) ?_
 refine se ?_
 have kq8:=g2.kp.trans (g3.kp.trans g4.kp)
 replace ha:=ha.kp kq8
 refine ec 6 (whole_t ha (by omega) wa) ?_
 rintro e7 w7 ⟨rfl,g7⟩
 refine ⟨_,rfl,?_⟩
 replace hB:=hB.trans g7
 simp only [p3,p4]
 refine sv 7 (.bool true) ?_
 replace L3:=L3.gr (g4.trans g7)
 refine sw 8 (.agg #[v0,v1,v2,v3]) rfl (rl 71 0 [v0,v1,v2,v3] L3) ?_
 refine se ?_
 have kq10:=g2.kp.trans (g3.kp.trans (g4.kp.trans g7.kp))
 replace hb:=hb.kp kq10
 refine ec 9 (whole_f hb (by omega) wb) ?_
 rintro e9 w9 ⟨rfl,g9⟩
 refine ⟨_,rfl,?_⟩
 replace hB:=hB.trans g9
 simp only [p3,p4]
 refine sv 10 (.bool false) ?_
 refine sq_nil ?_
 refine k6 _ _ ?_
 try clear k6 K6
 refine wp_cond_false rfl ?_
 refine wp_skip ?_
 refine k5 _ _ ?_
 try clear k5 K5
 refine wp_seq_k (fun K11 k11=>?_)
 have gd29:=Gr.drew w9
 replace hB:=hB.trans gd29
 replace L2:=L2.gr (g7.trans (g9.trans gd29))
 replace L3:=L3.gr (g9.trans gd29)
 refine wp_region_ord (fun w'=>Lc w' b2 #[u0,u1,u2,u3] 71∧Lc w' b3 #[v0,v1,v2,v3] 71) [(true,0),(true,1),(true,2),(true,3),(true,5),(true,7),(false,4),(false,6),(false,8),(false,9),(false,10),(false,11)] (by kernel_rfl) (by kernel_rfl) (by kernel_rfl) (by decide) (fun _ _ _ _ _ h=>h) ⟨L2,L3⟩ ?_
 refine ov 17 (.pointer (some ⟨b2,0,none⟩)) ?_
 refine ow 18 (.agg #[u0,u1]) rfl (fun w' hS=>(rl 69 0 [u0,u1] hS.1)) ?_
 refine ov 19 (.pointer (some ⟨b3,0,none⟩)) ?_
 refine ow 20 (.agg #[v0,v1]) rfl (fun w' hS=>(rl 69 0 [v0,v1] hS.2)) ?_
 refine ow 22 (.agg #[u0,u1,u2,u3]) rfl (fun w' hS=>(rl 71 0 [u0,u1,u2,u3] hS.1)) ?_
 refine ow 24 (.agg #[v0,v1,v2,v3]) rfl (fun w' hS=>(rl 71 0 [v0,v1,v2,v3] hS.2)) ?_
 refine oe ?_
 have kq32:=g7.kp.trans (g9.kp.trans gd29.kp)
 replace ha:=ha.kp kq32
 have kq33:=g9.kp.trans gd29.kp
 replace hb:=hb.kp kq33
 refine ec 21 (mul_i ha.num hb.num (by omega)) ?_
 rintro e31 w31 ⟨⟨x31,y31,rfl,h31⟩,g31⟩
 refine ⟨_,rfl,?_⟩
 replace hB:=hB.trans g31
 replace L2:=L2.gr g31
 replace L3:=L3.gr g31
 refine ⟨⟨L2,L3⟩,?_⟩
 simp only [p3,p4]
 refine oe ?_
 replace ha:=ha.kp g31.kp
 refine ec 23 (den_i ha) ?_
 rintro e35 w35 ⟨⟨x35,y35,rfl,h35⟩,g35⟩
 refine ⟨_,rfl,?_⟩
 replace hB:=hB.trans g35
 replace L2:=L2.gr g35
 replace L3:=L3.gr g35
 refine ⟨⟨L2,L3⟩,?_⟩
 simp only [p3,p4]
 refine oe ?_
 have kq38:=g31.kp.trans g35.kp
 replace hb:=hb.kp kq38
 refine ec 25 (den_i hb) ?_
 rintro e37 w37 ⟨⟨x37,y37,rfl,h37⟩,g37⟩
 refine ⟨_,rfl,?_⟩
 replace hB:=hB.trans g37
 replace L2:=L2.gr g37
 replace L3:=L3.gr g37
 refine ⟨⟨L2,L3⟩,?_⟩
 simp only [p3,p4]
 refine oe ?_
 replace h35:=h35.kp g37.kp
 refine ec 26 (mul_i h35 h37 (by omega)) ?_
 rintro e40 w40 ⟨⟨x40,y40,rfl,h40⟩,g40⟩
 refine ⟨_,rfl,?_⟩
 replace hB:=hB.trans g40
 replace L2:=L2.gr g40
 replace L3:=L3.gr g40
 refine ⟨⟨L2,L3⟩,?_⟩
 simp only [p3,p4]
 refine oe ?_
 have kq43:=g35.kp.trans (g37.kp.trans g40.kp)
 replace h31:=h31.kp kq43
 refine ec 27 (reduced_i ((k+m)) h31 h40 (Int.mul_pos (Int.natCast_pos.2 a.den_pos) (Int.natCast_pos.2 b.den_pos)) (by omega) (by omega) (by omega) (by omega)) ?_
 rintro e42 w42 ⟨⟨p42,q42,r42,s42,rfl,h42⟩,g42⟩
 refine ⟨_,rfl,?_⟩
 replace hB:=hB.trans g42
 replace L2:=L2.gr g42
 replace L3:=L3.gr g42
 refine ⟨⟨L2,L3⟩,?_⟩
 simp only [p3,p4]
 refine oe ?_
 replace L4:=L4.gr (g7.trans (g9.trans (gd29.trans (g31.trans (g35.trans (g37.trans (g40.trans g42)))))))
 refine es 71 0 (.agg #[p42,q42,r42,s42]) [p42,q42,r42,s42] #[p42,q42,r42,s42] L4 hB q4 ⟨h42.one0,h42.one1,h42.one2,h42.one3,trivial⟩ fun w45 st45 kp45 L4 hB=>?_
 replace L2:=st45.lc L2 ne2_4
 replace L3:=st45.lc L3 ne3_4
 refine ⟨⟨L2,L3⟩,?_⟩
 refine ord_nil ?_
 refine k11 _ _ ?_
 try clear k11 K11
 refine wp_ret ?_
 refine bodyPost_ret (v:=(.agg #[p42,q42,r42,s42])) (ret_cell _ _ _ rfl rfl L4 (by kernel_rfl)) rfl ⟨?_,hB⟩
 replace h42:=h42.kp kp45
 exact ⟨_,_,_,_,rfl,by rw [← rat_mul];exact h42⟩

set_option maxRecDepth 100000 in
set_option maxHeartbeats 1000000 in
theorem mul_f {k m:Nat} {u0 u1 u2 u3 v0 v1 v2 v3:Value} {a b:Rat} {w:World} (ha:IsRat w k u0 u1 u2 u3 a) (hb:IsRat w m v0 v1 v2 v3 b) (_hk:k+m≤100000) (wa:a.den≠1):
    Calls Tryz.prog 48 #[(.agg #[u0,u1,u2,u3]),(.agg #[v0,v1,v2,v3])] w fun e w'=>(∃ c0 c1 c2 c3,e=.returned (.agg #[c0,c1,c2,c3])∧IsRat w' (k+m) c0 c1 c2 c3 (a*b))∧Gr w w':=by
 have hka:=ha.big
 have hkb:=hb.big
 go_enter Tryz.func48,Tryz.ntmps48
 have hB:=Gr.refl w
 refine wp_seq_k (fun K1 k1=>?_)
 refine rg [0,1,2] ?_
 refine se ?_
 refine eb 71 #[u0,u1,u2,u3] 2 hB fun b2 w2 g2 L2 o2 q2 hB=>?_
 simp only [p3,p4]
 refine se ?_
 refine eb 71 #[v0,v1,v2,v3] 3 hB fun b3 w3 g3 L3 o3 q3 hB=>?_
 simp only [p3,p4]
 refine se ?_
 refine ea 71 #[(.bool false),(.slice none 0 0),(.bool false),(.slice none 0 0)] 4 hB fun b4 w4 g4 L4 o4 q4 hB=>?_
 replace L2:=L2.gr g3
 have ne2_4:=L2.ne o4
 have ne3_4:=L3.ne o4
 simp only [p3,p4]
 refine sq_nil ?_
 refine k1 _ _ ?_
 try clear k1 K1
 refine wp_seq_k (fun K5 k5=>?_)
 refine wp_seq_k (fun K6 k6=>?_)
 refine rg [0,1,2,3,4,5] ?_
 replace L2:=L2.gr g4
 refine sw 5 (.agg #[u0,u1,u2,u3]) rfl (rl 71 0 [u0,u1,u2,u3] L2) ?_
 refine se ?_
 have kq8:=g2.kp.trans (g3.kp.trans g4.kp)
 replace ha:=ha.kp kq8
 refine ec 6 (whole_f ha (by omega) wa) ?_
 rintro e7 w7 ⟨rfl,g7⟩
 refine ⟨_,rfl,?_⟩
 replace hB:=hB.trans g7
 simp only [p3,p4]
 refine sv 7 (.bool false) ?_
 refine ss 8 ?_
 refine ss 9 ?_
 refine sv 10 (.bool false) ?_
 refine sq_nil ?_
 refine k6 _ _ ?_
 try clear k6 K6
 refine wp_cond_false rfl ?_
 refine wp_skip ?_
 refine k5 _ _ ?_
 try clear k5 K5
 refine wp_seq_k (fun K9 k9=>?_)
 have gd27:=Gr.drew w7
 replace hB:=hB.trans gd27
 replace L2:=L2.gr (g7.trans gd27)
 replace L3:=L3.gr (g4.trans (g7.trans gd27))
 refine wp_region_ord (fun w'=>Lc w' b2 #[u0,u1,u2,u3] 71∧Lc w' b3 #[v0,v1,v2,v3] 71) [(true,0),(true,1),(true,2),(true,3),(true,5),(true,7),(false,4),(false,6),(false,8),(false,9),(false,10),(false,11)] (by kernel_rfl) (by kernel_rfl) (by kernel_rfl) (by decide) (fun _ _ _ _ _ h=>h) ⟨L2,L3⟩ ?_
 refine ov 17 (.pointer (some ⟨b2,0,none⟩)) ?_
 refine ow 18 (.agg #[u0,u1]) rfl (fun w' hS=>(rl 69 0 [u0,u1] hS.1)) ?_
 refine ov 19 (.pointer (some ⟨b3,0,none⟩)) ?_
 refine ow 20 (.agg #[v0,v1]) rfl (fun w' hS=>(rl 69 0 [v0,v1] hS.2)) ?_
 refine ow 22 (.agg #[u0,u1,u2,u3]) rfl (fun w' hS=>(rl 71 0 [u0,u1,u2,u3] hS.1)) ?_
 refine ow 24 (.agg #[v0,v1,v2,v3]) rfl (fun w' hS=>(rl 71 0 [v0,v1,v2,v3] hS.2)) ?_
 refine oe ?_
 have kq30:=g7.kp.trans gd27.kp
 replace ha:=ha.kp kq30
 have kq31:=g2.kp.trans (g3.kp.trans (g4.kp.trans (g7.kp.trans gd27.kp)))
 replace hb:=hb.kp kq31
 refine ec 21 (mul_i ha.num hb.num (by omega)) ?_
 rintro e29 w29 ⟨⟨x29,y29,rfl,h29⟩,g29⟩
 refine ⟨_,rfl,?_⟩
 replace hB:=hB.trans g29
 replace L2:=L2.gr g29
 replace L3:=L3.gr g29
 refine ⟨⟨L2,L3⟩,?_⟩
 simp only [p3,p4]
 refine oe ?_
 replace ha:=ha.kp g29.kp
 refine ec 23 (den_i ha) ?_
 rintro e33 w33 ⟨⟨x33,y33,rfl,h33⟩,g33⟩
 refine ⟨_,rfl,?_⟩
 replace hB:=hB.trans g33
 replace L2:=L2.gr g33
 replace L3:=L3.gr g33
 refine ⟨⟨L2,L3⟩,?_⟩
 simp only [p3,p4]
 refine oe ?_
 have kq36:=g29.kp.trans g33.kp
 replace hb:=hb.kp kq36
 refine ec 25 (den_i hb) ?_
 rintro e35 w35 ⟨⟨x35,y35,rfl,h35⟩,g35⟩
 refine ⟨_,rfl,?_⟩
 replace hB:=hB.trans g35
 replace L2:=L2.gr g35
 replace L3:=L3.gr g35
 refine ⟨⟨L2,L3⟩,?_⟩
 simp only [p3,p4]
 refine oe ?_
 replace h33:=h33.kp g35.kp
 refine ec 26 (mul_i h33 h35 (by omega)) ?_
 rintro e38 w38 ⟨⟨x38,y38,rfl,h38⟩,g38⟩
 refine ⟨_,rfl,?_⟩
 replace hB:=hB.trans g38
 replace L2:=L2.gr g38
 replace L3:=L3.gr g38
 refine ⟨⟨L2,L3⟩,?_⟩
 simp only [p3,p4]
 refine oe ?_
 have kq41:=g33.kp.trans (g35.kp.trans g38.kp)
 replace h29:=h29.kp kq41
 refine ec 27 (reduced_i ((k+m)) h29 h38 (Int.mul_pos (Int.natCast_pos.2 a.den_pos) (Int.natCast_pos.2 b.den_pos)) (by omega) (by omega) (by omega) (by omega)) ?_
 rintro e40 w40 ⟨⟨p40,q40,r40,s40,rfl,h40⟩,g40⟩
 refine ⟨_,rfl,?_⟩
 replace hB:=hB.trans g40
 replace L2:=L2.gr g40
 replace L3:=L3.gr g40
 refine ⟨⟨L2,L3⟩,?_⟩
 simp only [p3,p4]
 refine oe ?_
 replace L4:=L4.gr (g7.trans (gd27.trans (g29.trans (g33.trans (g35.trans (g38.trans g40))))))
 refine es 71 0 (.agg #[p40,q40,r40,s40]) [p40,q40,r40,s40] #[p40,q40,r40,s40] L4 hB q4 ⟨h40.one0,h40.one1,h40.one2,h40.one3,trivial⟩ fun w43 st43 kp43 L4 hB=>?_
 replace L2:=st43.lc L2 ne2_4
 replace L3:=st43.lc L3 ne3_4
 refine ⟨⟨L2,L3⟩,?_⟩
 refine ord_nil ?_
 refine k9 _ _ ?_
 try clear k9 K9
 refine wp_ret ?_
 refine bodyPost_ret (v:=(.agg #[p40,q40,r40,s40])) (ret_cell _ _ _ rfl rfl L4 (by kernel_rfl)) rfl ⟨?_,hB⟩
 replace h40:=h40.kp kp43
 exact ⟨_,_,_,_,rfl,by rw [← rat_mul];exact h40⟩

theorem mul_r {k m:Nat} {u0 u1 u2 u3 v0 v1 v2 v3:Value} {a b:Rat} {w:World} (ha:IsRat w k u0 u1 u2 u3 a) (hb:IsRat w m v0 v1 v2 v3 b) (hk:k+m≤100000):
    Calls Tryz.prog 48 #[.agg #[u0,u1,u2,u3],.agg #[v0,v1,v2,v3]] w fun e w'=>(∃ c0 c1 c2 c3,e=.returned (.agg #[c0,c1,c2,c3])∧IsRat w' (k+m) c0 c1 c2 c3 (a*b))∧Gr w w':=by
  by_cases wa:a.den=1
  · by_cases wb:b.den=1
    · exact mul_tt ha hb hk wa wb
    · exact mul_tf ha hb hk wa wb
  · exact mul_f ha hb hk wa

set_option maxRecDepth 100000 in
set_option maxHeartbeats 1000000 in
theorem neg_r {k:Nat} {u0 u1 u2 u3:Value} {a:Rat} {w:World} (ha:IsRat w k u0 u1 u2 u3 a):
    Calls Tryz.prog 49 #[(.agg #[u0,u1,u2,u3])] w fun e w'=>(∃ c0 c1 c2 c3,e=.returned (.agg #[c0,c1,c2,c3])∧IsRat w' k c0 c1 c2 c3 (-a))∧Gr w w':=by
 go_enter Tryz.func49,Tryz.ntmps49
 have hB:=Gr.refl w
 refine wp_seq_k (fun K1 k1=>?_)
 refine rg [0,1] ?_
 refine se ?_
 refine eb 71 #[u0,u1,u2,u3] 1 hB fun b2 w2 g2 L2 o2 q2 hB=>?_
 simp only [p3,p4]
 refine se ?_
 refine ea 71 #[(.bool false),(.slice none 0 0),(.bool false),(.slice none 0 0)] 2 hB fun b3 w3 g3 L3 o3 q3 hB=>?_
 have ne2_3:=L2.ne o3
 simp only [p3,p4]
 refine sq_nil ?_
 refine k1 _ _ ?_
 try clear k1 K1
 refine wp_seq_k (fun K4 k4=>?_)
 have gd11:=Gr.drew w3
 replace hB:=hB.trans gd11
 replace L2:=L2.gr (g3.trans gd11)
 refine wp_region_ord (fun w'=>Lc w' b2 #[u0,u1,u2,u3] 71) [(true,0),(true,1),(true,3),(true,4),(false,2),(true,5),(false,6)] (by kernel_rfl) (by kernel_rfl) (by kernel_rfl) (by decide) (fun _ _ _ _ _ h=>h) L2 ?_
 refine ov 3 (.pointer (some ⟨b2,0,none⟩)) ?_
 refine ow 4 (.agg #[u0,u1]) rfl (fun w' hS=>(rl 69 0 [u0,u1] hS)) ?_
 refine ov 6 (.pointer (some ⟨b2,2,none⟩)) ?_
 refine ow 7 (.agg #[u2,u3]) rfl (fun w' hS=>(rl 69 2 [u2,u3] hS)) ?_
 refine oe ?_
 have kq14:=g2.kp.trans (g3.kp.trans gd11.kp)
 replace ha:=ha.kp kq14
 refine ec 5 (neg_i ha.num) ?_
 rintro e13 w13 ⟨⟨x13,y13,rfl,h13⟩,g13⟩
 refine ⟨_,rfl,?_⟩
 replace hB:=hB.trans g13
 replace L2:=L2.gr g13
 refine ⟨L2,?_⟩
 simp only [p3,p4]
 refine ov 8 (.agg #[x13,y13,u2,u3]) ?_
 refine oe ?_
 replace L3:=L3.gr (gd11.trans g13)
 refine es 71 0 (.agg #[x13,y13,u2,u3]) [x13,y13,u2,u3] #[x13,y13,u2,u3] L3 hB q3 ⟨h13.one0,h13.one1,ha.one2,ha.one3,trivial⟩ fun w16 st16 kp16 L3 hB=>?_
 replace L2:=st16.lc L2 ne2_3
 refine ⟨L2,?_⟩
 refine ord_nil ?_
 refine k4 _ _ ?_
 try clear k4 K4
 refine wp_ret ?_
 refine bodyPost_ret (v:=(.agg #[x13,y13,u2,u3])) (ret_cell _ _ _ rfl rfl L3 (by kernel_rfl)) rfl ⟨?_,hB⟩
 have kq17:=g13.kp.trans kp16
 replace ha:=ha.kp kq17
 replace h13:=h13.kp kp16
 exact ⟨_,_,_,_,rfl,IsRat.neg ha h13⟩

set_option maxRecDepth 100000 in
set_option maxHeartbeats 1000000 in
theorem sub_r {k m:Nat} {u0 u1 u2 u3 v0 v1 v2 v3:Value} {a b:Rat} {w:World} (ha:IsRat w k u0 u1 u2 u3 a) (hb:IsRat w m v0 v1 v2 v3 b) (_hk:k+m≤100000):
    Calls Tryz.prog 115 #[(.agg #[u0,u1,u2,u3]),(.agg #[v0,v1,v2,v3])] w fun e w'=>(∃ c0 c1 c2 c3,e=.returned (.agg #[c0,c1,c2,c3])∧IsRat w' (k+m+1) c0 c1 c2 c3 (a - b))∧Gr w w':=by
 go_enter Tryz.func115,Tryz.ntmps115
 have hB:=Gr.refl w
 refine wp_seq_k (fun K1 k1=>?_)
 refine rg [0,1,2] ?_
 refine se ?_
 refine eb 71 #[u0,u1,u2,u3] 2 hB fun b2 w2 g2 L2 o2 q2 hB=>?_
 simp only [p3,p4]
 refine se ?_
 refine eb 71 #[v0,v1,v2,v3] 3 hB fun b3 w3 g3 L3 o3 q3 hB=>?_
 simp only [p3,p4]
 refine se ?_
 refine ea 71 #[(.bool false),(.slice none 0 0),(.bool false),(.slice none 0 0)] 4 hB fun b4 w4 g4 L4 o4 q4 hB=>?_
 replace L2:=L2.gr g3
 have ne2_4:=L2.ne o4
 have ne3_4:=L3.ne o4
 simp only [p3,p4]
 refine sq_nil ?_
 refine k1 _ _ ?_
 try clear k1 K1
 refine wp_seq_k (fun K5 k5=>?_)
 have gd15:=Gr.drew w4
 replace hB:=hB.trans gd15
 replace L2:=L2.gr (g4.trans gd15)
 replace L3:=L3.gr (g4.trans gd15)
 refine wp_region_ord (fun w'=>Lc w' b2 #[u0,u1,u2,u3] 71∧Lc w' b3 #[v0,v1,v2,v3] 71) [(true,0),(true,1),(false,2),(false,3),(false,4)] (by kernel_rfl) (by kernel_rfl) (by kernel_rfl) (by decide) (fun _ _ _ _ _ h=>h) ⟨L2,L3⟩ ?_
 refine ow 5 (.agg #[u0,u1,u2,u3]) rfl (fun w' hS=>(rl 71 0 [u0,u1,u2,u3] hS.1)) ?_
 refine ow 6 (.agg #[v0,v1,v2,v3]) rfl (fun w' hS=>(rl 71 0 [v0,v1,v2,v3] hS.2)) ?_
 refine oe ?_
 have kq18:=g2.kp.trans (g3.kp.trans (g4.kp.trans gd15.kp))
 replace hb:=hb.kp kq18
 refine ec 7 (neg_r hb) ?_
 rintro e17 w17 ⟨⟨p17,q17,r17,s17,rfl,h17⟩,g17⟩
 refine ⟨_,rfl,?_⟩
 replace hB:=hB.trans g17
 replace L2:=L2.gr g17
 replace L3:=L3.gr g17
 refine ⟨⟨L2,L3⟩,?_⟩
 simp only [p3,p4]
 refine oe ?_
 have kq21:=g2.kp.trans (g3.kp.trans (g4.kp.trans (gd15.kp.trans g17.kp)))
 replace ha:=ha.kp kq21
 refine ec 8 (add_r ha h17 (by omega)) ?_
 rintro e20 w20 ⟨⟨p20,q20,r20,s20,rfl,h20⟩,g20⟩
 refine ⟨_,rfl,?_⟩
 replace hB:=hB.trans g20
 replace L2:=L2.gr g20
 replace L3:=L3.gr g20
 refine ⟨⟨L2,L3⟩,?_⟩
 simp only [p3,p4]
 refine oe ?_
 replace L4:=L4.gr (gd15.trans (g17.trans g20))
 refine es 71 0 (.agg #[p20,q20,r20,s20]) [p20,q20,r20,s20] #[p20,q20,r20,s20] L4 hB q4 ⟨h20.one0,h20.one1,h20.one2,h20.one3,trivial⟩ fun w23 st23 kp23 L4 hB=>?_
 replace L2:=st23.lc L2 ne2_4
 replace L3:=st23.lc L3 ne3_4
 refine ⟨⟨L2,L3⟩,?_⟩
 refine ord_nil ?_
 refine k5 _ _ ?_
 try clear k5 K5
 refine wp_ret ?_
 refine bodyPost_ret (v:=(.agg #[p20,q20,r20,s20])) (ret_cell _ _ _ rfl rfl L4 (by kernel_rfl)) rfl ⟨?_,hB⟩
 replace h20:=h20.kp kp23
 exact ⟨_,_,_,_,rfl,by rw [Rat.sub_eq_add_neg];exact h20⟩

set_option maxRecDepth 100000 in
set_option maxHeartbeats 1000000 in
theorem sign_r {k:Nat} {u0 u1 u2 u3:Value} {a:Rat} {w:World} (ha:IsRat w k u0 u1 u2 u3 a):
    Calls Tryz.prog 32 #[(.agg #[u0,u1,u2,u3])] w fun e w'=>e=.returned (.int .i64 (sgn a.num))∧Gr w w':=by
 go_enter Tryz.func32,Tryz.ntmps32
 have hB:=Gr.refl w
 refine wp_seq_k (fun K1 k1=>?_)
 refine rg [0,1] ?_
 refine se ?_
 refine eb 71 #[u0,u1,u2,u3] 1 hB fun b2 w2 g2 L2 o2 q2 hB=>?_
 simp only [p3,p4]
 refine sv 2 (.int .i64 0) ?_
 refine sq_nil ?_
 refine k1 _ _ ?_
 try clear k1 K1
 refine wp_seq_k (fun K3 k3=>?_)
 refine rg [0,1,2,3] ?_
 refine sv 3 (.pointer (some ⟨b2,0,none⟩)) ?_
 refine sw 4 (.agg #[u0,u1]) rfl (rl 69 0 [u0,u1] L2) ?_
 refine se ?_
 replace ha:=ha.kp g2.kp
 refine ec 5 (sign_i ha.num) ?_
 rintro e4 w4 ⟨rfl,g4⟩
 refine ⟨_,rfl,?_⟩
 replace hB:=hB.trans g4
 simp only [p3,p4]
 refine sv 2 (.int .i64 (sgn (a.num))) ?_
 refine sq_nil ?_
 refine k3 _ _ ?_
 try clear k3 K3
 refine wp_ret ?_
 refine bodyPost_ret (v:=(.int .i64 (sgn (a.num)))) (ret_tmp rfl rfl) rfl ⟨?_,hB⟩
 exact rfl

set_option maxRecDepth 100000 in
set_option maxHeartbeats 1000000 in
theorem from_r (z:Int) (_h0:-9223372036854775808≤z) (_h1:z≤9223372036854775807) (w:World):
    Calls Tryz.prog 61 #[(.int .i64 (z))] w fun e w'=>(∃ c0 c1 c2 c3,e=.returned (.agg #[c0,c1,c2,c3])∧IsRat w' 64 c0 c1 c2 c3 ((z:Rat)))∧Gr w w':=by
 go_enter Tryz.func61,Tryz.ntmps61
 have hB:=Gr.refl w
 refine wp_seq_k (fun K1 k1=>?_)
 refine rg [0] ?_
 refine se ?_
 refine ea 71 #[(.bool false),(.slice none 0 0),(.bool false),(.slice none 0 0)] 2 hB fun b2 w2 g2 L2 o2 q2 hB=>?_
 simp only [p3,p4]
 refine sq_nil ?_
 refine k1 _ _ ?_
 try clear k1 K1
 refine wp_seq_k (fun K3 k3=>?_)
 refine rg [0,1,2,3] ?_
 refine sv 3 (.int .i64 (z)) ?_
 refine se ?_
 refine ec 4 (from_i (z) (by omega) (by omega) _) ?_
 rintro e4 w4 ⟨⟨x4,y4,rfl,h4⟩,g4⟩
 refine ⟨_,rfl,?_⟩
 replace hB:=hB.trans g4
 simp only [p3,p4]
 refine sv 5 (.agg #[x4,y4,(.bool false),(.slice none 0 0)]) ?_
 refine se ?_
 replace L2:=L2.gr g4
 refine es 71 0 (.agg #[x4,y4,(.bool false),(.slice none 0 0)]) [x4,y4,(.bool false),(.slice none 0 0)] #[x4,y4,(.bool false),(.slice none 0 0)] L2 hB q2 ⟨h4.one0,h4.one1,rfl,rfl,trivial⟩ fun w5 st5 kp5 L2 hB=>?_
 refine sq_nil ?_
 refine k3 _ _ ?_
 try clear k3 K3
 refine wp_ret ?_
 refine bodyPost_ret (v:=(.agg #[x4,y4,(.bool false),(.slice none 0 0)])) (ret_cell _ _ _ rfl rfl L2 (by kernel_rfl)) rfl ⟨?_,hB⟩
 replace h4:=h4.kp kp5
 exact ⟨_,_,_,_,rfl,IsRat.int h4 (by omega)⟩

set_option maxRecDepth 100000 in
set_option maxHeartbeats 1000000 in
theorem rcomp_tt {k m:Nat} {u0 u1 u2 u3 v0 v1 v2 v3:Value} {a b:Rat} {w:World} (ha:IsRat w k u0 u1 u2 u3 a) (hb:IsRat w m v0 v1 v2 v3 b) (_hk:k+m≤100000) (wa:a.den=1) (wb:b.den=1):
    Calls Tryz.prog 47 #[(.agg #[u0,u1,u2,u3]),(.agg #[v0,v1,v2,v3])] w fun e w'=>e=.returned (.int .i64 (rcmp a b))∧Gr w w':=by
 have hka:=ha.big
 have hkb:=hb.big
 go_enter Tryz.func47,Tryz.ntmps47
 have hB:=Gr.refl w
 refine wp_seq_k (fun K1 k1=>?_)
 refine rg [0,1,2] ?_
 refine se ?_
 refine eb 71 #[u0,u1,u2,u3] 2 hB fun b2 w2 g2 L2 o2 q2 hB=>?_
 simp only [p3,p4]
 refine se ?_
 refine eb 71 #[v0,v1,v2,v3] 3 hB fun b3 w3 g3 L3 o3 q3 hB=>?_
 simp only [p3,p4]
 refine sv 4 (.int .i64 0) ?_
 refine sq_nil ?_
 refine k1 _ _ ?_
 try clear k1 K1
 refine wp_seq_k (fun K4 k4=>?_)
 refine wp_seq_k (fun K5 k5=>?_)
 refine rg [0,1,2,3,4,5] ?_
 replace L2:=L2.gr g3
 refine sw 5 (.agg #[u0,u1,u2,u3]) rfl (rl 71 0 [u0,u1,u2,u3] L2) ?_
 refine se ?_
 have kq7:=g2.kp.trans g3.kp
 replace ha:=ha.kp kq7
 refine ec 6 (whole_t ha (by omega) wa) ?_
 rintro e6 w6 ⟨rfl,g6⟩
 refine ⟨_,rfl,?_⟩
 replace hB:=hB.trans g6
 simp only [p3,p4]
 refine sv 7 (.bool true) ?_
 replace L3:=L3.gr g6
 refine sw 8 (.agg #[v0,v1,v2,v3]) rfl (rl 71 0 [v0,v1,v2,v3] L3) ?_
 refine se ?_
 have kq9:=g2.kp.trans (g3.kp.trans g6.kp)
 replace hb:=hb.kp kq9
 refine ec 9 (whole_t hb (by omega) wb) ?_
 rintro e8 w8 ⟨rfl,g8⟩
 refine ⟨_,rfl,?_⟩
 replace hB:=hB.trans g8
 simp only [p3,p4]
 refine sv 10 (.bool true) ?_
 refine sq_nil ?_
 refine k5 _ _ ?_
 try clear k5 K5
 refine wp_cond_true rfl ?_
 refine wp_seq_k (fun K10 k10=>?_)
 refine rg [0,1,2,3,4,5] ?_
 refine sv 11 (.pointer (some ⟨b2,0,none⟩)) ?_
 replace L2:=L2.gr (g6.trans g8)
 refine sw 12 (.agg #[u0,u1]) rfl (rl 69 0 [u0,u1] L2) ?_
 refine sv 13 (.pointer (some ⟨b3,0,none⟩)) ?_
 replace L3:=L3.gr g8
 refine sw 14 (.agg #[v0,v1]) rfl (rl 69 0 [v0,v1] L3) ?_
 refine se ?_
 have kq12:=g6.kp.trans g8.kp
 replace ha:=ha.kp kq12
 replace hb:=hb.kp g8.kp
 refine ec 15 (compare_i ha.num hb.num (by omega) (by omega)) ?_
 rintro e11 w11 ⟨rfl,g11⟩
 refine ⟨_,rfl,?_⟩
 replace hB:=hB.trans g11
 simp only [p3,p4]
 refine sv 4 (.int .i64 (sgn (a.num - b.num))) ?_
 refine sq_nil ?_
 refine k10 _ _ ?_
 try clear k10 K10
 refine wp_ret ?_
 simp only [Exit.then]
 refine bodyPost_ret (v:=(.int .i64 (sgn (a.num - b.num)))) (ret_tmp rfl rfl) rfl ⟨?_,hB⟩
 exact by rw [rcmp_int wa wb]

set_option maxRecDepth 100000 in
set_option maxHeartbeats 1000000 in
theorem rcomp_tf {k m:Nat} {u0 u1 u2 u3 v0 v1 v2 v3:Value} {a b:Rat} {w:World} (ha:IsRat w k u0 u1 u2 u3 a) (hb:IsRat w m v0 v1 v2 v3 b) (_hk:k+m≤100000) (wa:a.den=1) (wb:b.den≠1):
    Calls Tryz.prog 47 #[(.agg #[u0,u1,u2,u3]),(.agg #[v0,v1,v2,v3])] w fun e w'=>e=.returned (.int .i64 (rcmp a b))∧Gr w w':=by
 have hka:=ha.big
 have hkb:=hb.big
 go_enter Tryz.func47,Tryz.ntmps47
 have hB:=Gr.refl w
 refine wp_seq_k (fun K1 k1=>?_)
 refine rg [0,1,2] ?_
 refine se ?_
 refine eb 71 #[u0,u1,u2,u3] 2 hB fun b2 w2 g2 L2 o2 q2 hB=>?_
 simp only [p3,p4]
 refine se ?_
 refine eb 71 #[v0,v1,v2,v3] 3 hB fun b3 w3 g3 L3 o3 q3 hB=>?_
 simp only [p3,p4]
 refine sv 4 (.int .i64 0) ?_
 refine sq_nil ?_
 refine k1 _ _ ?_
 try clear k1 K1
 refine wp_seq_k (fun K4 k4=>?_)
 refine wp_seq_k (fun K5 k5=>?_)
 refine rg [0,1,2,3,4,5] ?_
 replace L2:=L2.gr g3
 refine sw 5 (.agg #[u0,u1,u2,u3]) rfl (rl 71 0 [u0,u1,u2,u3] L2) ?_
 refine se ?_
 have kq7:=g2.kp.trans g3.kp
 replace ha:=ha.kp kq7
 refine ec 6 (whole_t ha (by omega) wa) ?_
 rintro e6 w6 ⟨rfl,g6⟩
 refine ⟨_,rfl,?_⟩
 replace hB:=hB.trans g6
 simp only [p3,p4]
 refine sv 7 (.bool true) ?_
 replace L3:=L3.gr g6
 refine sw 8 (.agg #[v0,v1,v2,v3]) rfl (rl 71 0 [v0,v1,v2,v3] L3) ?_
 refine se ?_
 have kq9:=g2.kp.trans (g3.kp.trans g6.kp)
 replace hb:=hb.kp kq9
 refine ec 9 (whole_f hb (by omega) wb) ?_
 rintro e8 w8 ⟨rfl,g8⟩
 refine ⟨_,rfl,?_⟩
 replace hB:=hB.trans g8
 simp only [p3,p4]
 refine sv 10 (.bool false) ?_
 refine sq_nil ?_
 refine k5 _ _ ?_
 try clear k5 K5
 refine wp_cond_false rfl ?_
 refine wp_skip ?_
 refine k4 _ _ ?_
 try clear k4 K4
 refine wp_seq_k (fun K10 k10=>?_)
 have gd26:=Gr.drew w8
 replace hB:=hB.trans gd26
 replace L2:=L2.gr (g6.trans (g8.trans gd26))
 replace L3:=L3.gr (g8.trans gd26)
 refine wp_region_ord (fun w'=>Lc w' b2 #[u0,u1,u2,u3] 71∧Lc w' b3 #[v0,v1,v2,v3] 71) [(true,0),(true,1),(true,2),(true,5),(true,6),(true,7),(false,3),(false,4),(false,8),(false,9),(false,10),(true,11)] (by kernel_rfl) (by kernel_rfl) (by kernel_rfl) (by decide) (fun _ _ _ _ _ h=>h) ⟨L2,L3⟩ ?_
 refine ov 16 (.pointer (some ⟨b2,0,none⟩)) ?_
 refine ow 17 (.agg #[u0,u1]) rfl (fun w' hS=>(rl 69 0 [u0,u1] hS.1)) ?_
 refine ow 18 (.agg #[v0,v1,v2,v3]) rfl (fun w' hS=>(rl 71 0 [v0,v1,v2,v3] hS.2)) ?_
 refine ov 21 (.pointer (some ⟨b3,0,none⟩)) ?_
 refine ow 22 (.agg #[v0,v1]) rfl (fun w' hS=>(rl 69 0 [v0,v1] hS.2)) ?_
 refine ow 23 (.agg #[u0,u1,u2,u3]) rfl (fun w' hS=>(rl 71 0 [u0,u1,u2,u3] hS.1)) ?_
 refine oe ?_
 have kq29:=g8.kp.trans gd26.kp
 replace hb:=hb.kp kq29
 refine ec 19 (den_i hb) ?_
 rintro e28 w28 ⟨⟨x28,y28,rfl,h28⟩,g28⟩
 refine ⟨_,rfl,?_⟩
 replace hB:=hB.trans g28
 replace L2:=L2.gr g28
 replace L3:=L3.gr g28
 refine ⟨⟨L2,L3⟩,?_⟩
 simp only [p3,p4]
 refine oe ?_
 have kq32:=g6.kp.trans (g8.kp.trans (gd26.kp.trans g28.kp))
 replace ha:=ha.kp kq32
 refine ec 20 (mul_i ha.num h28 (by omega)) ?_
 rintro e31 w31 ⟨⟨x31,y31,rfl,h31⟩,g31⟩
 refine ⟨_,rfl,?_⟩
 replace hB:=hB.trans g31
 replace L2:=L2.gr g31
 replace L3:=L3.gr g31
 refine ⟨⟨L2,L3⟩,?_⟩
 simp only [p3,p4]
 refine oe ?_
 replace ha:=ha.kp g31.kp
 refine ec 24 (den_i ha) ?_
 rintro e34 w34 ⟨⟨x34,y34,rfl,h34⟩,g34⟩
 refine ⟨_,rfl,?_⟩
 replace hB:=hB.trans g34
 replace L2:=L2.gr g34
 replace L3:=L3.gr g34
 refine ⟨⟨L2,L3⟩,?_⟩
 simp only [p3,p4]
 refine oe ?_
 have kq37:=g28.kp.trans (g31.kp.trans g34.kp)
 replace hb:=hb.kp kq37
 refine ec 25 (mul_i hb.num h34 (by omega)) ?_
 rintro e36 w36 ⟨⟨x36,y36,rfl,h36⟩,g36⟩
 refine ⟨_,rfl,?_⟩
 replace hB:=hB.trans g36
 replace L2:=L2.gr g36
 replace L3:=L3.gr g36
 refine ⟨⟨L2,L3⟩,?_⟩
 simp only [p3,p4]
 refine oe ?_
 have kq40:=g34.kp.trans g36.kp
 replace h31:=h31.kp kq40
 refine ec 26 (compare_i h31 h36 (by omega) (by omega)) ?_
 rintro e39 w39 ⟨rfl,g39⟩
 refine ⟨_,rfl,?_⟩
 replace hB:=hB.trans g39
 replace L2:=L2.gr g39
 replace L3:=L3.gr g39
 refine ⟨⟨L2,L3⟩,?_⟩
 simp only [p3,p4]
 refine ov 4 (.int .i64 (sgn ((a.num*(b.den:Int)) - (b.num*(a.den:Int))))) ?_
 refine ord_nil ?_
 refine k10 _ _ ?_
 try clear k10 K10
 refine wp_ret ?_
 refine bodyPost_ret (v:=(.int .i64 (sgn ((a.num*(b.den:Int)) - (b.num*(a.den:Int)))))) (ret_tmp rfl rfl) rfl ⟨?_,hB⟩
 exact rfl

set_option maxRecDepth 100000 in
set_option maxHeartbeats 1000000 in
theorem rcomp_f {k m:Nat} {u0 u1 u2 u3 v0 v1 v2 v3:Value} {a b:Rat} {w:World} (ha:IsRat w k u0 u1 u2 u3 a) (hb:IsRat w m v0 v1 v2 v3 b) (_hk:k+m≤100000) (wa:a.den≠1):
    Calls Tryz.prog 47 #[(.agg #[u0,u1,u2,u3]),(.agg #[v0,v1,v2,v3])] w fun e w'=>e=.returned (.int .i64 (rcmp a b))∧Gr w w':=by
 have hka:=ha.big
 have hkb:=hb.big
 go_enter Tryz.func47,Tryz.ntmps47
 have hB:=Gr.refl w
 refine wp_seq_k (fun K1 k1=>?_)
 refine rg [0,1,2] ?_
 refine se ?_
 refine eb 71 #[u0,u1,u2,u3] 2 hB fun b2 w2 g2 L2 o2 q2 hB=>?_
 simp only [p3,p4]
 refine se ?_
 refine eb 71 #[v0,v1,v2,v3] 3 hB fun b3 w3 g3 L3 o3 q3 hB=>?_
 simp only [p3,p4]
 refine sv 4 (.int .i64 0) ?_
 refine sq_nil ?_
 refine k1 _ _ ?_
 try clear k1 K1
 refine wp_seq_k (fun K4 k4=>?_)
 refine wp_seq_k (fun K5 k5=>?_)
 refine rg [0,1,2,3,4,5] ?_
 replace L2:=L2.gr g3
 refine sw 5 (.agg #[u0,u1,u2,u3]) rfl (rl 71 0 [u0,u1,u2,u3] L2) ?_
 refine se ?_
 have kq7:=g2.kp.trans g3.kp
 replace ha:=ha.kp kq7
 refine ec 6 (whole_f ha (by omega) wa) ?_
 rintro e6 w6 ⟨rfl,g6⟩
 refine ⟨_,rfl,?_⟩
 replace hB:=hB.trans g6
 simp only [p3,p4]
 refine sv 7 (.bool false) ?_
 refine ss 8 ?_
 refine ss 9 ?_
 refine sv 10 (.bool false) ?_
 refine sq_nil ?_
 refine k5 _ _ ?_
 try clear k5 K5
 refine wp_cond_false rfl ?_
 refine wp_skip ?_
 refine k4 _ _ ?_
 try clear k4 K4
 refine wp_seq_k (fun K8 k8=>?_)
 have gd24:=Gr.drew w6
 replace hB:=hB.trans gd24
 replace L2:=L2.gr (g6.trans gd24)
 replace L3:=L3.gr (g6.trans gd24)
 refine wp_region_ord (fun w'=>Lc w' b2 #[u0,u1,u2,u3] 71∧Lc w' b3 #[v0,v1,v2,v3] 71) [(true,0),(true,1),(true,2),(true,5),(true,6),(true,7),(false,3),(false,4),(false,8),(false,9),(false,10),(true,11)] (by kernel_rfl) (by kernel_rfl) (by kernel_rfl) (by decide) (fun _ _ _ _ _ h=>h) ⟨L2,L3⟩ ?_
 refine ov 16 (.pointer (some ⟨b2,0,none⟩)) ?_
 refine ow 17 (.agg #[u0,u1]) rfl (fun w' hS=>(rl 69 0 [u0,u1] hS.1)) ?_
 refine ow 18 (.agg #[v0,v1,v2,v3]) rfl (fun w' hS=>(rl 71 0 [v0,v1,v2,v3] hS.2)) ?_
 refine ov 21 (.pointer (some ⟨b3,0,none⟩)) ?_
 refine ow 22 (.agg #[v0,v1]) rfl (fun w' hS=>(rl 69 0 [v0,v1] hS.2)) ?_
 refine ow 23 (.agg #[u0,u1,u2,u3]) rfl (fun w' hS=>(rl 71 0 [u0,u1,u2,u3] hS.1)) ?_
 refine oe ?_
 have kq27:=g2.kp.trans (g3.kp.trans (g6.kp.trans gd24.kp))
 replace hb:=hb.kp kq27
 refine ec 19 (den_i hb) ?_
 rintro e26 w26 ⟨⟨x26,y26,rfl,h26⟩,g26⟩
 refine ⟨_,rfl,?_⟩
 replace hB:=hB.trans g26
 replace L2:=L2.gr g26
 replace L3:=L3.gr g26
 refine ⟨⟨L2,L3⟩,?_⟩
 simp only [p3,p4]
 refine oe ?_
 have kq30:=g6.kp.trans (gd24.kp.trans g26.kp)
 replace ha:=ha.kp kq30
 refine ec 20 (mul_i ha.num h26 (by omega)) ?_
 rintro e29 w29 ⟨⟨x29,y29,rfl,h29⟩,g29⟩
 refine ⟨_,rfl,?_⟩
 replace hB:=hB.trans g29
 replace L2:=L2.gr g29
 replace L3:=L3.gr g29
 refine ⟨⟨L2,L3⟩,?_⟩
 simp only [p3,p4]
 refine oe ?_
 replace ha:=ha.kp g29.kp
 refine ec 24 (den_i ha) ?_
 rintro e32 w32 ⟨⟨x32,y32,rfl,h32⟩,g32⟩
 refine ⟨_,rfl,?_⟩
 replace hB:=hB.trans g32
 replace L2:=L2.gr g32
 replace L3:=L3.gr g32
 refine ⟨⟨L2,L3⟩,?_⟩
 simp only [p3,p4]
 refine oe ?_
 have kq35:=g26.kp.trans (g29.kp.trans g32.kp)
 replace hb:=hb.kp kq35
 refine ec 25 (mul_i hb.num h32 (by omega)) ?_
 rintro e34 w34 ⟨⟨x34,y34,rfl,h34⟩,g34⟩
 refine ⟨_,rfl,?_⟩
 replace hB:=hB.trans g34
 replace L2:=L2.gr g34
 replace L3:=L3.gr g34
 refine ⟨⟨L2,L3⟩,?_⟩
 simp only [p3,p4]
 refine oe ?_
 have kq38:=g32.kp.trans g34.kp
 replace h29:=h29.kp kq38
 refine ec 26 (compare_i h29 h34 (by omega) (by omega)) ?_
 rintro e37 w37 ⟨rfl,g37⟩
 refine ⟨_,rfl,?_⟩
 replace hB:=hB.trans g37
 replace L2:=L2.gr g37
 replace L3:=L3.gr g37
 refine ⟨⟨L2,L3⟩,?_⟩
 simp only [p3,p4]
 refine ov 4 (.int .i64 (sgn ((a.num*(b.den:Int)) - (b.num*(a.den:Int))))) ?_
 refine ord_nil ?_
 refine k8 _ _ ?_
 try clear k8 K8
 refine wp_ret ?_
 refine bodyPost_ret (v:=(.int .i64 (sgn ((a.num*(b.den:Int)) - (b.num*(a.den:Int)))))) (ret_tmp rfl rfl) rfl ⟨?_,hB⟩
 exact rfl

theorem compare_r {k m:Nat} {u0 u1 u2 u3 v0 v1 v2 v3:Value} {a b:Rat} {w:World} (ha:IsRat w k u0 u1 u2 u3 a) (hb:IsRat w m v0 v1 v2 v3 b) (hk:k+m≤100000):
    Calls Tryz.prog 47 #[.agg #[u0,u1,u2,u3],.agg #[v0,v1,v2,v3]] w fun e w'=>e=.returned (.int .i64 (rcmp a b))∧Gr w w':=by
  by_cases wa:a.den=1
  · by_cases wb:b.den=1
    · exact rcomp_tt ha hb hk wa wb
    · exact rcomp_tf ha hb hk wa wb
  · exact rcomp_f ha hb hk wa

section
variable {α:Type}
/-- the values of a function at 0 .. n - 1 -/
def tb (f:Nat→α) (n:Nat):List α:=(List.range n).map f
theorem tb_len {f:Nat→α} {n:Nat}:(tb f n).length=n:=by simp [tb]
theorem tb_lenz {f:Nat→α} {n:Nat} {z:Int} (h:(n:Int)=z):((tb f n).length:Int)=z:=by rw [tb_len];exact h
theorem tb_get {f:Nat→α} {n i:Nat} (h:i<n):(tb f n)[i]?=some (f i):=by simp [tb,h]
theorem tb_snoc {f:Nat→α} {n:Nat} {x:α} (h:x=f n):tb f n++[x]=tb f (n+1):=by subst h;simp [tb,List.range_succ]
theorem tb_congr {f g:Nat→α} {n:Nat} (h:∀ i,i<n→f i=g i):tb f n=tb g n:=by
  unfold tb
  exact List.map_congr_left fun i hi=>h i (List.mem_range.1 hi)
/-- the first k elements done,the others as they were made -/
def fil (f:Nat→α) (d:α) (n k:Nat):List α:=tb f k++List.replicate (n - k) d
theorem fil_zero {f:Nat→α} {d:α} {n:Nat}:List.replicate n d=fil f d n 0:=by simp [fil,tb]
theorem fil_len {f:Nat→α} {d:α} {n k:Nat} (hk:k≤n):(fil f d n k).length=n:=by
  unfold fil;rw [List.length_append,tb_len,List.length_replicate];omega
theorem fil_lt {f:Nat→α} {d:α} {n k i:Nat} (hk:k≤n) (h:i<n):i<(fil f d n k).length:=by rw [fil_len hk];exact h
theorem fil_set {f:Nat→α} {d:α} {n k:Nat} {x:α} (h:k<n) (hx:x=f k):(fil f d n k).set k x=fil f d n (k+1):=by
  unfold fil
  have h2:List.replicate (n - k) d=d::List.replicate (n - (k+1)) d:=by
    rw [show n - k=(n - (k+1))+1 by omega,List.replicate_succ]
  rw [List.set_append_right _ _ (by rw [tb_len];omega),tb_len,Nat.sub_self,h2,List.set_cons_zero,← tb_snoc hx,List.append_assoc]
  rfl
theorem fil_all {f:Nat→α} {d:α} {n:Nat}:fil f d n n=tb f n:=by simp [fil]
theorem set_tb {f:Nat→α} {n i:Nat} {x:α}:(tb f n).set i x=tb (fun j=>if j=i then x else f j) n:=by
  apply List.ext_getElem?
  intro j
  rw [List.getElem?_set]
  by_cases hj:j<n
  · rw [tb_get hj,tb_get hj,tb_len]
    by_cases e:i=j
    · subst e;simp [hj]
    · rw [if_neg e,if_neg (Ne.symm e)]
  · rw [List.getElem?_eq_none (by rw [tb_len];omega),List.getElem?_eq_none (by rw [tb_len];omega),tb_len]
    simp;omega
theorem rep_tb {d:α} {n:Nat}:List.replicate n d=tb (fun _=>d) n:=by
  apply List.ext_getElem?
  intro j
  by_cases hj:j<n
  · rw [tb_get hj];simp [hj]
  · rw [List.getElem?_eq_none (by rw [List.length_replicate];omega),List.getElem?_eq_none (by rw [tb_len];omega)]

theorem Sl.cast {E:World→α→List Value→Prop} {T:TypeId} {c:Nat} {w:World} {v:Value} {xs ys:List α} (h:Sl E T c w v xs) (e:xs=ys):Sl E T c w v ys:=e ▸ h
theorem Mk.cast {E:World→α→List Value→Prop} {T:TypeId} {c:Nat} {w:World} {b:Nat} {xs ys:List α} (h:Mk E T c w b xs) (e:xs=ys):Mk E T c w b ys:=e ▸ h
theorem Ow.cast {E:World→α→List Value→Prop} {T:TypeId} {c B:Nat} {w:World} {v:Value} {xs ys:List α} (h:Ow E T c w B v xs) (e:xs=ys):Ow E T c w B v ys:=e ▸ h
variable {P:Program} {a:Act} {o:Oper} {w:World} {Q:Exit→Act→World→Prop} {K:Act→World→Prop} {ops:Array Oper}
theorem rv_lenn {E:World→α→List Value→Prop} {T:TypeId} {c:Nat} {v:Value} {xs:List α} {w0:World} {z:Int} (h:Sl E T c w0 v xs) (hz:(xs.length:Int)=z) (x:Operand) (t:TypeId) (hop:o.op=.call {callee:=.builtin .len,args:=#[x],argTypes:=#[t]}) (hx:a.eval x=v) {e:TypeId} (hu:P.underlying t=some (.slice e)):
    RunV P a o w (.int .i64 z):=by subst hz;exact rv_len h x t hop hx hu
theorem rv_idxn {E:World→α→List Value→Prop} {T:TypeId} {c:Nat} {v:Value} {xs:List α} {w0:World} {n:Nat} (h:Sl E T c w0 v xs) (hn:xs.length=n) (hc:0<c) (i:Nat) (hi:i<n) (t:TypeId) (x y:Operand) (hop:o.op=.indexAddr t x y) (hx:a.eval x=v) (hy:a.eval y=.int .i64 (i:Int))
    {e:TypeId} (hu:P.underlying t=some (.slice e)) (hs:(P.info? e).map (·.size)=some c):RunV P a o w (adr v (i*c)):=rv_idx h hc i (by omega) t x y hop hx hy hu hs
/-- append of one element:every world from which the slice is new has grown -/
theorem eff_apg {E:World→α→List Value→Prop} {ts:List TypeId} (hS:Stab E ts) (s x:Operand) (t:TypeId) (T B:Nat) (z:Value) (v:Value) (xs:List α) (b:Nat) (us:List Value) (x0:α) (c cx:Nat) (d:Option Tmp) (bytes:Nat) (hd:o.dst=d)
    (ho:o.op=.call {callee:=.builtin .append,args:=#[s,x],argTypes:=#[t,t]}) (hs:a.eval s=v) (hx:a.eval x=.slice (some ⟨b,0,none⟩) 1 cx)
    (hown:Ow E T c w B v xs) (hL:Lc w b us.toArray T) (hu:One1 us) (hl:us.length=c) (hE:E w x0 us) (hBw:B≤w.heap.size) (hn:xs.length≤1000000) (hbytes:bytes≤1000)
    (ht:P.underlying t=some (.slice T)) (hi:(P.info? T).map (fun i=>(i.zero,i.size,i.bytes))=some (some z,c,bytes)) (hzs:z.cells.size=c∧0<c) (hT:(ts.all fun t=>t !=T)=true)
    (h:∀ v' w',Ow E T c w' B v' (xs++[x0])→Wt T w w'→(∀ w0,Gr w0 w→w0.heap.size≤B→Gr w0 w')→K (a.put d v') w'):o.wp P a w K Q:=by
  subst hd
  obtain ⟨ys,hown,hEl⟩:=hown
  obtain ⟨i,hi,hz,hsize,hby⟩:=info_parts hi
  have hb1:(xs.length+1)*bytes≤1000001*1000:=Nat.mul_le_mul (by omega) hbytes
  refine wp_append_own w s x t ho B T i z c bytes ht hi hz hsize hby hzs.1 hzs.2 v xs.length ys hs hown ⟨b,0,none⟩ 1 cx us hx (by omega) (fun j y hj=>?_) hu.all (by unfold maxLen;omega) (by omega) hBw ?_
  · have e:(⟨b,0,none⟩:Addr).add j=⟨b,j,none⟩:=by by_cases h0:j=0<;>simp [Addr.add,h0]
    rw [e,cells_of hL];simpa using hj
  · intro v' w' h2 hg _
    have hown':=hown
    have hnew:∀ k,v.ownBlock=some k→B≤k∧∃ cur,w.heap[k]?=some (.cells cur T (0,0)):=by
      intro k hk
      rcases hown'.2 with ⟨rfl,_⟩ | ⟨g,cap,cur,rfl,hb,hgg,_⟩
      · simp [Value.ownBlock] at hk
      · simp [Value.ownBlock] at hk
        subst hk;exact ⟨hb,cur,hgg⟩
    have hwt:Wt T w w':=⟨hg.os,hg.tape,hg.output,hg.size,fun k cs t fr ht hk=>by
      rw [hg.block k (heap_lt hk) (fun e=>?_)]
      · exact hk
      · obtain ⟨_,cur,hc⟩:=hnew k e.symm
        rw [hk] at hc
        simp only [Option.some.injEq,Obj.cells.injEq] at hc
        exact ht hc.2.1⟩
    refine h v' w' ⟨_,by simpa using h2,(hEl.snoc hl hE).kts hS (hwt.kts hT)⟩ hwt fun w0 hB hB0=>?_
    refine Below.trans hB ⟨hg.os,hg.tape,hg.output,hg.size,fun k hk=>hg.block k (Nat.lt_of_lt_of_le hk hB.size) (fun e=>?_)⟩
    have:=(hnew k e.symm).1
    omega
end
theorem IsRat.resz {w:World} {k m:Nat} {c0 c1 c2 c3:Value} {q:Rat} (h:IsRat w k c0 c1 c2 c3 q) (hs:Sz m q.num∧Sz m (q.den:Int)) (hm:64≤m):IsRat w m c0 c1 c2 c3 q:=by
  obtain ⟨h1,⟨D,h2,h3⟩,h4⟩:=h
  refine ⟨h1.resz hs.1,⟨D,h2.resz ?_,h3⟩,hm⟩
  rcases h3 with rfl | ⟨rfl,_⟩
  · exact hs.2
  · unfold Sz;simp;exact Nat.pow_pos (by omega)
end Go.Proofs.YtepgkcimmdmgcaaGreatDoor
namespace Go.Proofs.YtepgkcimmdmgcaaGreatDoor
/-- the sum of the first n values -/
def sm:Nat→(Nat→Rat)→Rat
  | 0,_=>0
  | n+1,f=>sm n f+f n
theorem sm_congr:∀ {n:Nat} {f g:Nat→Rat},(∀ i,i<n→f i=g i)→sm n f=sm n g
  | 0,_,_,_=>rfl
  | n+1,f,g,h=>by unfold sm;rw [sm_congr fun i hi=>h i (by omega),h n (by omega)]
theorem sm_zero:∀ {n:Nat} {f:Nat→Rat},(∀ i,i<n→f i=0)→sm n f=0
  | 0,_,_=>rfl
  | n+1,f,h=>by unfold sm;rw [sm_zero fun i hi=>h i (by omega),h n (by omega)];grind
theorem sm_add:∀ (n:Nat) (f g:Nat→Rat),sm n (fun i=>f i+g i)=sm n f+sm n g
  | 0,_,_=>by unfold sm;grind
  | n+1,f,g=>by unfold sm;rw [sm_add n f g];grind
theorem sm_mul:∀ (n:Nat) (c:Rat) (f:Nat→Rat),sm n (fun i=>c*f i)=c*sm n f
  | 0,_,_=>by unfold sm;grind
  | n+1,c,f=>by unfold sm;rw [sm_mul n c f];grind
theorem sm_mul' (n:Nat) (c:Rat) (f:Nat→Rat):sm n (fun i=>f i*c)=sm n f*c:=by
  rw [sm_congr (g:=fun i=>c*f i) fun i _=>Rat.mul_comm _ _,sm_mul,Rat.mul_comm]
theorem sm_comm:∀ (n m:Nat) (f:Nat→Nat→Rat),sm n (fun i=>sm m (f i))=sm m (fun j=>sm n (fun i=>f i j))
  | 0,m,f=>(sm_zero fun _ _=>rfl).symm
  | n+1,m,f=>by
    show sm n (fun i=>sm m (f i))+sm m (f n)=_
    rw [sm_comm n m f,← sm_add];rfl
theorem sm_one:∀ {n:Nat} {i:Nat} {f:Nat→Rat},i<n→(∀ j,j<n→j≠i→f j=0)→sm n f=f i
  | 0,_,_,h,_=>absurd h (Nat.not_lt_zero _)
  | n+1,i,f,hi,h=>by
    unfold sm
    by_cases e:i=n
    · subst e;rw [sm_zero fun j hj=>h j (by omega) (by omega)];grind
    · rw [sm_one (i:=i) (by omega) fun j hj=>h j (by omega),h n (by omega) (Ne.symm e)];grind
abbrev Mx_:=Nat→Nat→Rat
/-- the rows of b are combinations of the first R rows of a -/
def Comb (R S:Nat) (a b:Mx_):Prop:=∃ P:Mx_,∀ i,i<S→∀ k,b i k=sm R (fun j=>P i j*a j k)
theorem Comb.refl (R:Nat) (a:Mx_):Comb R R a a:=⟨fun i j=>if j=i then 1 else 0,fun i hi k=>by
  rw [sm_one (i:=i) hi fun j _ hj=>by dsimp only;rw [if_neg hj];grind];dsimp only;rw [if_pos rfl];grind⟩
theorem Comb.trans {R S T:Nat} {a b c:Mx_} (h:Comb R S a b) (g:Comb S T b c):Comb R T a c:=by
  obtain ⟨P,hP⟩:=h
  obtain ⟨Q,hQ⟩:=g
  refine ⟨fun i j=>sm S (fun t=>Q i t*P t j),fun i hi k=>?_⟩
  rw [hQ i hi k]
  have e1:sm S (fun j=>Q i j*b j k)=sm S (fun t=>sm R (fun j=>Q i t*P t j*a j k)):=sm_congr fun t ht=>by
    rw [hP t ht k,← sm_mul]
    exact sm_congr fun j _=>by rw [Rat.mul_assoc]
  rw [e1,sm_comm]
  exact sm_congr fun j _=>sm_mul' S (a j k) _
/-- both ways -/
structure Eqv (R:Nat) (a b:Mx_):Prop where
  lr:Comb R R a b
  rl:Comb R R b a
theorem Eqv.refl (R:Nat) (a:Mx_):Eqv R a a:=⟨.refl R a,.refl R a⟩
theorem Eqv.trans {R:Nat} {a b c:Mx_} (h:Eqv R a b) (g:Eqv R b c):Eqv R a c:=⟨h.lr.trans g.lr,g.rl.trans h.rl⟩
theorem Eqv.symm {R:Nat} {a b:Mx_} (h:Eqv R a b):Eqv R b a:=⟨h.rl,h.lr⟩
/-- two rows exchanged -/
def swp (a:Mx_) (i r:Nat):Mx_:=fun j k=>if j=i then a r k else if j=r then a i k else a j k
theorem swp_comb {R:Nat} (a:Mx_) {i r:Nat} (hi:i<R) (hr:r<R):Comb R R a (swp a i r):=
  ⟨fun j t=>if t=(if j=i then r else if j=r then i else j) then 1 else 0,fun j hj k=>by
    have hlt:(if j=i then r else if j=r then i else j)<R:=by split<;>(try split)<;>omega
    rw [sm_one hlt fun t _ ht=>by dsimp only;rw [if_neg ht];grind]
    dsimp only
    rw [if_pos rfl]
    unfold swp
    split
    · grind
    · split<;>grind⟩
theorem swp_swp (a:Mx_) (i r:Nat):swp (swp a i r) i r=a:=by
  funext j k
  unfold swp
  grind
theorem swp_eqv {R:Nat} (a:Mx_) {i r:Nat} (hi:i<R) (hr:r<R):Eqv R a (swp a i r):=
  ⟨swp_comb a hi hr,by have:=swp_comb (swp a i r) hi hr;rwa [swp_swp] at this⟩
/-- a row times a number -/
def scl (a:Mx_) (r:Nat) (c:Rat):Mx_:=fun j k=>if j=r then a r k*c else a j k
theorem scl_comb {R:Nat} (a:Mx_) (r:Nat) (c:Rat):Comb R R a (scl a r c):=
  ⟨fun j t=>if t=j then (if j=r then c else 1) else 0,fun j hj k=>by
    rw [sm_one hj fun t _ ht=>by dsimp only;rw [if_neg ht];grind]
    dsimp only
    rw [if_pos rfl]
    unfold scl
    split
    · next e=>subst e;grind
    · grind⟩
theorem scl_eqv {R:Nat} (a:Mx_) (r:Nat) {c:Rat} (hc:c≠0):Eqv R a (scl a r c):=
  ⟨scl_comb a r c,by
    have:=scl_comb (R:=R) (scl a r c) r (1/c)
    have e:scl (scl a r c) r (1/c)=a:=by
      funext j k
      unfold scl
      split
      · next e=>subst e;rw [if_pos rfl];grind
      · rfl
    rwa [e] at this⟩
/-- multiples of row r added to the other rows -/
def clr (a:Mx_) (r:Nat) (c:Nat→Rat):Mx_:=fun j k=>if j=r then a r k else a j k - c j*a r k
theorem sm_two {n i r:Nat} {f:Nat→Rat} (hi:i<n) (hr:r<n) (hne:i≠r) (h:∀ j,j<n→j≠i→j≠r→f j=0):sm n f=f i+f r:=by
  have e:=sm_add n (fun j=>if j=i then f i else 0) (fun j=>if j=r then f r else 0)
  rw [sm_one (i:=i) hi fun j _ hj=>if_neg hj,sm_one (i:=r) hr fun j _ hj=>if_neg hj] at e
  rw [if_pos rfl,if_pos rfl] at e
  rw [← e]
  refine sm_congr fun j hj=>?_
  by_cases h1:j=i
  · subst h1;rw [if_pos rfl,if_neg hne];grind
  · by_cases h2:j=r
    · subst h2;rw [if_pos rfl,if_neg h1];grind
    · rw [if_neg h1,if_neg h2,h j hj h1 h2];grind
theorem clr_comb {R:Nat} (a:Mx_) {r:Nat} (hr:r<R) (c:Nat→Rat):Comb R R a (clr a r c):=
  ⟨fun j t=>if t=j then 1 else if t=r then - c j else 0,fun j hj k=>by
    unfold clr
    by_cases e:j=r
    · subst e
      rw [sm_one hj fun t _ ht=>by dsimp only;rw [if_neg ht,if_neg ht];grind];dsimp only;rw [if_pos rfl,if_pos rfl];grind
    · rw [sm_two hj hr e fun t _ h1 h2=>by dsimp only;rw [if_neg h1,if_neg h2];grind];dsimp only;rw [if_pos rfl,if_neg (Ne.symm e),if_pos rfl,if_neg e];grind⟩
theorem clr_eqv {R:Nat} (a:Mx_) {r:Nat} (hr:r<R) (c:Nat→Rat):Eqv R a (clr a r c):=
  ⟨clr_comb a hr c,by
    have:=clr_comb (clr a r c) hr (fun j=>- c j)
    have e:clr (clr a r c) r (fun j=>- c j)=a:=by
      funext j k
      unfold clr
      split
      · next e=>rw [if_pos rfl,e]
      · rw [if_pos rfl];grind
    rwa [e] at this⟩
end Go.Proofs.YtepgkcimmdmgcaaGreatDoor
namespace Go.Proofs.YtepgkcimmdmgcaaGreatDoor
open Go.RowKit

theorem IsRat.castq {w:World} {k:Nat} {c0 c1 c2 c3:Value} {q r:Rat} (h:IsRat w k c0 c1 c2 c3 q) (e:q=r):IsRat w k c0 c1 c2 c3 r:=e ▸ h
set_option maxRecDepth 100000 in
set_option maxHeartbeats 1000000 in
theorem mx_columns {K R N:Nat} {v:Value} {m:Nat→Nat→Rat} {w:World} (hs:Sl (ERw (ERat K) 71 4) 49 1 w v (tb (fun z0=>tb (fun z1=>(m z0 z1)) N) R)):
    Calls Tryz.prog 53 #[v] w fun e w'=>e=.returned (.int .i64 (if R=0 then 0 else (N:Int)))∧Gr w w':=by
 go_enter Tryz.func53,Tryz.ntmps53
 have hB:=Gr.refl w
 refine wp_seq_k (fun K10 k10=>?_)
 refine rg [0] ?_
 refine sv 2 (.int .i64 0) ?_
 refine sq_nil ?_
 refine k10 _ _ ?_
 try clear k10 K10
 refine wp_seq_k (fun K11 k11=>?_)
 refine wp_seq_k (fun K12 k12=>?_)
 refine rg [0,1,2] ?_
 refine sv 3 v ?_
 refine sw 4 (.int .i64 ((R:Int))) rfl (rv_lenn (e:=49) hs (tb_lenz rfl) _ _ rfl rfl (by kernel_rfl)) ?_
 refine sv 5 (.bool (((R:Int)==(0:Int)))) ?_
 refine sq_nil ?_
 refine k12 _ _ ?_
 try clear k12 K12
 refine wp_cond_split (t:=((R:Int)==(0:Int))) rfl (fun hb13=>?_) (fun hb13=>?_)
 ·have hq14:(R:Int)=(0:Int):=by have:=hb13;simp at this;omega
  refine wp_seq_k (fun K15 k15=>?_)
  refine rg [0] ?_
  refine sv 2 (.int .i64 0) ?_
  refine sq_nil ?_
  refine k15 _ _ ?_
  try clear k15 K15
  refine wp_ret ?_
  simp only [Exit.then]
  refine bodyPost_ret (v:=(.int .i64 0)) (ret_tmp rfl rfl) rfl ⟨?_,hB⟩
  exact (by rw [if_pos (show R=0 by omega)])
 ·have hq16:¬ (R:Int)=(0:Int):=by have:=hb13;simp at this;omega
  refine wp_skip ?_
  refine k11 _ _ ?_
  try clear k11 K11
  refine wp_seq_k (fun K17 k17=>?_)
  refine rg [0,1,2,3,4] ?_
  refine sv 6 v ?_
  refine sw 7 (adr v (0*1)) rfl (rv_idxn (e:=49) hs tb_len (by decide) 0 (by omega) _ _ _ rfl rfl rfl (by kernel_rfl) (by kernel_rfl)) ?_
  obtain ⟨_,_,⟨u18,rfl,hr18⟩,at18⟩:=Sl.get hs (by decide) (tb_get (f:=(fun z0=>tb (fun z1=>(m z0 z1)) N)) (n:=R) (i:=0) (by omega))
  refine sw 8 u18 rfl (rv_ld1 u18 (at18.gr hB) _ _ rfl rfl (by kernel_rfl)) ?_
  refine sw 9 (.int .i64 ((N:Int))) rfl (rv_lenn (e:=71) hr18 (tb_lenz rfl) _ _ rfl rfl (by kernel_rfl)) ?_
  refine sv 2 (.int .i64 ((N:Int))) ?_
  refine sq_nil ?_
  refine k17 _ _ ?_
  try clear k17 K17
  refine wp_ret ?_
  refine bodyPost_ret (v:=(.int .i64 ((N:Int)))) (ret_tmp rfl rfl) rfl ⟨?_,hB⟩
  exact (by rw [if_neg (show ¬ R=0 by omega)])

theorem mx_columnsR {K R N:Nat} {v:Value} {m:Nat→Nat→Rat} {w:World} (hs:Sl (ERw (ERat K) 71 4) 49 1 w v (tb (fun z0=>tb (fun z1=>(m z0 z1)) N) R)) (hR:0<R):Calls Tryz.prog 53 #[v] w fun e w'=>e=.returned (.int .i64 (N:Int))∧Gr w w':=by
  have:=mx_columns hs
  rw [if_neg (show ¬ R=0 by omega)] at this;exact this
theorem mx_columnsp {K R N:Nat} {v:Value} {m:Nat→Nat→Rat} {w:World} (hs:Sl (ERw (ERat K) 71 4) 49 1 w v (tb (fun z0=>tb (fun z1=>(m z0 z1)) N) R)) (hR:R=0→N=0):Calls Tryz.prog 53 #[v] w fun e w'=>e=.returned (.int .i64 (N:Int))∧Gr w w':=by
  have:=mx_columns hs
  by_cases h:R=0
  · rw [if_pos h] at this;rw [hR h];exact this
  · rw [if_neg h] at this;exact this
section
variable {α:Type} {P:Program} {a:Act} {o:Oper} {w:World} {Q:Exit→Act→World→Prop} {K:Act→World→Prop}
theorem take_put {ys vs cur:List Value} {n off:Nat} (h:cur.take n=ys) (hl:ys.length=n) (ho:off+vs.length≤n):(cur.take off++vs++cur.drop (off+vs.length)).take n=ys.take off++vs++ys.drop (off+vs.length):=by
  subst h
  have hn:n≤cur.length:=by rw [List.length_take] at hl;omega
  rw [List.take_append,List.take_of_length_le (by rw [List.length_append,List.length_take];omega),List.length_append,List.length_take,Nat.min_eq_left (by omega),List.take_take,Nat.min_eq_left (by omega),List.drop_take]
/-- a store at an element of a slice of the call's own -/
theorem eff_sto {E:World→α→List Value→Prop} {ts:List TypeId} (hS:Stab E ts) {T:TypeId} {c B:Nat} {v:Value} {xs:List α} (hM:Ow E T c w B v xs) (i:Nat) (hi:i<xs.length) (x0:α) (u:Value) (vs:List Value) (t:TypeId) (x y:Operand)
    (hop:o.op=.store t x y) (hd:o.dst=none) (hx:a.eval x=adr v (i*c)) (hy:a.eval y=u) (hv:u.cells=vs.toArray) (hs:(P.info? t).map (·.size)=some c) (hc:vs.length=c) (h1:One1 vs) (hE:E w x0 vs) (hT:(ts.all fun t=>t !=T)=true)
    (h:∀ w',Ow E T c w' B v (xs.set i x0)→Wt T w w'→(∀ w0,Gr w0 w→w0.heap.size≤B→Gr w0 w')→K a w'):o.wp P a w K Q:=by
  obtain ⟨ys,hown,hEl⟩:=hM
  subst hc
  have hle:i*vs.length+vs.length≤ys.length:=by
    rw [hEl.1]
    have:=Nat.mul_le_mul_right vs.length (show i+1≤xs.length by omega)
    rw [Nat.add_mul] at this;omega
  rcases hown.2 with ⟨_,h0⟩ | ⟨g,cap,cur,rfl,hb,hg,h3,h4,h5,h6⟩
  · omega
  have hx':a.eval x=.pointer (some ⟨g,i*vs.length,none⟩):=by rw [hx];simp [adr]
  have hyl:ys.length=xs.length*vs.length:=hown.1
  have hcl:xs.length*vs.length≤cur.size:=by rw [h5];exact Nat.mul_le_mul_right _ h3
  refine eff_store t x y g (i*vs.length) u vs cur _ T hop hd hx' hy hv hg hs (by omega) h1 rfl (fun w' st L'=>?_)
  have e:writeAt cur (i*vs.length) vs=(cur.toList.take (i*vs.length)++vs++cur.toList.drop (i*vs.length+vs.length)).toArray:=by
    have:=writeAt_list vs (i*vs.length) cur.toList (by simp;omega)
    rwa [Array.toArray_toList] at this
  rw [e] at L'
  have hwt:Wt T w w':=⟨st.os,st.tape,st.output,Nat.le_of_eq st.size.symm,fun k cs t fr ht hk=>by
    rw [st.block k (fun e=>?_)]
    · exact hk
    · subst e
      rw [show w.heap[k]?=_ from hg] at hk
      simp only [Option.some.injEq,Obj.cells.injEq] at hk
      exact ht hk.2.1.symm⟩
  have hEl2:=(hEl.set hi rfl hE).kts hS (hwt.kts hT)
  refine h w' ⟨_,⟨?_,.inr ⟨g,cap,_,?_,hb,L',?_,h4,?_,?_⟩⟩,hEl2⟩ hwt fun w0 hB hB0=>st.gr hB (Nat.le_trans hB0 hb)
  · have:=hEl2.1;rw [this]
  · rw [List.length_set]
  · rw [List.length_set];exact h3
  · rw [← h5];simp only [List.size_toArray,List.length_append,List.length_take,List.length_drop,Array.length_toList];omega
  · rw [List.length_set]
    exact take_put h6 hyl (by omega)

/-- a part of a slice -/
def subv (v:Value) (l h c:Nat):Value:=
  match v with
  | .slice ao _ cap=>sliced ao l h cap c
  | _=>undef
theorem Sl.sub {E:World→α→List Value→Prop} {T:TypeId} {c:Nat} {v:Value} {xs:List α} (h:Sl E T c w v xs) {l k:Nat} (h1:l≤k) (h2:k≤xs.length):Sl E T c w (subv v l k c) ((xs.drop l).take (k - l)):=by
  obtain ⟨ys,⟨ao,cap,rfl,hn,hc⟩,hE⟩:=h
  have hl:((xs.drop l).take (k - l)).length=k - l:=by rw [List.length_take,List.length_drop];omega
  have hm1:l*c≤k*c:=Nat.mul_le_mul_right c h1
  have hm2:k*c≤xs.length*c:=Nat.mul_le_mul_right c h2
  have hsub:(k - l)*c=k*c - l*c:=Nat.sub_mul k l c
  have hyl:((ys.drop (l*c)).take ((k - l)*c)).length=(k - l)*c:=by rw [List.length_take,List.length_drop,hE.1,Nat.sub_mul];omega
  refine ⟨(ys.drop (l*c)).take ((k - l)*c),⟨if cap=l then ao else ao.map (·.add (l*c)),cap - l,?_,?_,fun hp=>?_⟩,?_,fun i x hx=>?_⟩
  · rw [hl];rfl
  · rw [hl];omega
  · rw [hyl] at hp
    have hkl:l<k:=by
      rcases Nat.lt_or_ge l k with h | h
      · exact h
      · rw [show k - l=0 by omega,Nat.zero_mul] at hp;exact absurd hp (Nat.lt_irrefl 0)
    obtain ⟨b,off,cs,fr,rfl,h4,h5⟩:=hc (by rw [hE.1];omega)
    refine ⟨b,off+l*c,cs,fr,?_,h4,fun j hj=>?_⟩
    · rw [if_neg (show ¬ cap=l by omega)]
      by_cases h0:l*c=0<;>simp [Addr.add,h0]
    · rw [hyl] at hj
      rw [Nat.add_assoc,h5 (l*c+j) (by rw [hE.1];omega),List.getElem?_take_of_lt hj,List.getElem?_drop]
  · rw [hyl,hl]
  · have hi:i<k - l:=by have:=(List.getElem?_eq_some_iff.1 hx).1;omega
    rw [List.getElem?_take_of_lt hi,List.getElem?_drop] at hx
    have h3:=hE.2 (l+i) x hx
    have hm3:i*c+c≤(k - l)*c:=by have:=Nat.mul_le_mul_right c (show i+1≤k - l by omega);rw [Nat.add_mul] at this;omega
    rw [List.drop_take,List.drop_drop,List.take_take,Nat.min_eq_left (by omega),← Nat.add_mul]
    exact h3
theorem tb_sub {f:Nat→α} {n l k:Nat} (h:k≤n):((tb f n).drop l).take (k - l)=tb (fun i=>f (l+i)) (k - l):=by
  apply List.ext_getElem?
  intro j
  by_cases hj:j<k - l
  · rw [List.getElem?_take_of_lt hj,List.getElem?_drop,tb_get (by omega),tb_get hj]
  · rw [List.getElem?_eq_none (by rw [List.length_take];omega),List.getElem?_eq_none (by rw [tb_len];omega)]
theorem tb_sub0 {f:Nat→α} {n:Nat}:tb (fun i=>f (0+i)) (n - 0)=tb f n:=by rw [Nat.sub_zero];exact tb_congr fun i _=>by rw [Nat.zero_add]
theorem Sl.subt {E:World→α→List Value→Prop} {T:TypeId} {c:Nat} {v:Value} {f:Nat→α} {n:Nat} (h:Sl E T c w v (tb f n)) {l k:Nat} (h1:l≤k) (h2:k≤n):Sl E T c w (subv v l k c) (tb (fun i=>f (l+i)) (k - l)):=
  (h.sub h1 (by rw [tb_len];exact h2)).cast (tb_sub h2)
theorem rv_sub {E:World→α→List Value→Prop} {T:TypeId} {c:Nat} {v:Value} {xs:List α} {w0:World} (h:Sl E T c w0 v xs) (l k:Nat) (h1:l≤k) (h2:k≤xs.length) (t:TypeId) (x:Operand) (lo hi:Option Operand) (hop:o.op=.slice t x lo hi none) (hx:a.eval x=v)
    (hlo:(lo.map a.eval=none∧l=0)∨lo.map a.eval=some (.int .i64 (l:Int))) (hhi:(hi.map a.eval=none∧k=xs.length)∨hi.map a.eval=some (.int .i64 (k:Int))) {e:TypeId} (hu:P.underlying t=some (.slice e)) (hs:(P.info? e).map (·.size)=some c):
    RunV P a o w (subv v l k c):=by
  obtain ⟨ao,cap,rfl,hcap⟩:=h.form
  obtain ⟨i,hi',hsz⟩:=Option.map_eq_some_iff.1 hs
  unfold RunV execOp
  simp only [hop,hx]
  have b1:∀ y:Nat,k≤y→(Instr.sliceBound (.int .i64 (k:Int)) y .sliceAcap).run P w=.ok k w:=fun y hy=>by simp [Instr.sliceBound,asIntOf];omega
  have b2:(Instr.sliceBound (.int .i64 (l:Int)) k .sliceB).run P w=.ok l w:=by simp [Instr.sliceBound,asIntOf];omega
  rcases hlo with ⟨e1,rfl⟩ | e1<;>rcases hhi with ⟨e2,rfl⟩ | e2<;>rw [e1,e2]<;>
    simp [Instr.sliceAt,Instr.slice,run_underlying hu,Instr.sliceBounds,sizeOf,typeInfo,hi',hsz,subv,sliced,b1 cap (by omega),b2]
theorem rv_subt {E:World→α→List Value→Prop} {T:TypeId} {c:Nat} {v:Value} {f:Nat→α} {n:Nat} {w0:World} (h:Sl E T c w0 v (tb f n)) (l k:Nat) (h1:l≤k) (h2:k≤n) (t:TypeId) (x:Operand) (lo hi:Option Operand) (hop:o.op=.slice t x lo hi none) (hx:a.eval x=v)
    (hlo:(lo.map a.eval=none∧l=0)∨lo.map a.eval=some (.int .i64 (l:Int))) (hhi:(hi.map a.eval=none∧k=n)∨hi.map a.eval=some (.int .i64 (k:Int))) {e:TypeId} (hu:P.underlying t=some (.slice e)) (hs:(P.info? e).map (·.size)=some c):
    RunV P a o w (subv v l k c):=rv_sub h l k h1 (by rw [tb_len];exact h2) t x lo hi hop hx hlo (by rwa [tb_len]) hu hs
/-- nothing is appended -/
theorem run_app0 (w:World) (t ty e:TypeId) (i:TypeInfo) (ht:P.underlying t=some (.slice e)) (hi:P.info? e=some i) (base ao:Option Addr) (n cap c:Nat) (hle:n≤cap):
    (Builtin.append_ #[t,t] ty #[.slice base n cap,.slice ao 0 c]).run P w=.ok (.slice base n cap) w:=by
  cases base<;>cases ao<;>simp [Builtin.append_,run_underlying ht,sizeOf,typeInfo,hi,Builtin.lenOf,Builtin.firstCells,loadCells,loadCellsFrom,hle,storeCells]
/-- append of all elements of a slice of any length -/
theorem eff_aps {E:World→α→List Value→Prop} {ts:List TypeId} (hS:Stab E ts) (s x:Operand) (t:TypeId) (T B T2:Nat) (z:Value) (v:Value) (xs:List α) (u:Value) (xs2:List α) (c:Nat) (d:Option Tmp) (bytes:Nat) (hd:o.dst=d)
    (ho:o.op=.call {callee:=.builtin .append,args:=#[s,x],argTypes:=#[t,t]}) (hs:a.eval s=v) (hx:a.eval x=u)
    (hown:Ow E T c w B v xs) (hu:Sl E T2 c w u xs2) (h1:∀ x vs,E w x vs→∀ y ∈ vs,y.oneCell'=true) (hBw:B≤w.heap.size) (hn:xs.length+xs2.length≤1000000) (hbytes:bytes≤1000)
    (ht:P.underlying t=some (.slice T)) (hi:(P.info? T).map (fun i=>(i.zero,i.size,i.bytes))=some (some z,c,bytes)) (hzs:z.cells.size=c∧0<c) (hT:(ts.all fun t=>t !=T)=true)
    (h:∀ v' w',Ow E T c w' B v' (xs++xs2)→Wt T w w'→(∀ w0,Gr w0 w→w0.heap.size≤B→Gr w0 w')→(∀ k cs t,(∀ g n cap,v=.slice (some ⟨g,0,none⟩) n cap→k≠g)→Lc w k cs t→Lc w' k cs t)→K (a.put d v') w'):o.wp P a w K Q:=by
  rcases hu.cases hzs.2 with rfl | ⟨hpos,bx,ox,cx,hux⟩
  · obtain ⟨ao,cap,rfl,_⟩:=hu.form
    obtain ⟨i,hi,hz,hsize,hby⟩:=info_parts hi
    have hv:∃ base n cap,v=.slice base n cap∧n≤cap:=by
      obtain ⟨ys,h1,_⟩:=hown
      rcases h1.2 with ⟨rfl,_⟩ | ⟨g,cap,cur,rfl,_,_,h3,_⟩
      · exact ⟨_,_,_,rfl,Nat.le_refl _⟩
      · exact ⟨_,_,_,rfl,h3⟩
    obtain ⟨base,n,cp,rfl,hle⟩:=hv
    subst hd
    unfold Oper.wp execOp
    simp only [ho,resolve,invoke,builtin,Sem.run_bind,Sem.run_pure,Result.andThen_ok,List.map_toArray,List.map_cons,List.map_nil,hs,hx,List.length_nil,run_app0 w t _ T i ht hi base ao n cp cap hle]
    exact h _ _ (by rw [List.append_nil];exact hown) ⟨rfl,rfl,rfl,Nat.le_refl _,fun _ _ _ _ _ h=>h⟩ (fun _ h _=>h) fun _ _ _ _ h=>h
  subst hd
  obtain ⟨ys,hown,hEl⟩:=hown
  obtain ⟨i,hi,hz,hsize,hby⟩:=info_parts hi
  have hb1:(xs.length+xs2.length)*bytes≤1000000*1000:=Nat.mul_le_mul (by omega) hbytes
  subst hux
  obtain ⟨us,⟨ao,cap,hsl,hcap,hraw⟩,hE2⟩:=hu
  simp only [Value.slice.injEq] at hsl
  obtain ⟨rfl,_,rfl⟩:=hsl
  refine wp_append_own w s x t ho B T i z c bytes ht hi hz hsize hby hzs.1 hzs.2 v xs.length ys hs hown ⟨bx,ox,none⟩ xs2.length cx us hx hE2.1 (fun j y hj=>?_) (fun y hy=>?_) (by unfold maxLen;omega) (by omega) hBw ?_
  · have hj':=(List.getElem?_eq_some_iff.1 hj).1
    obtain ⟨b,off,cs,fr,had,hbk,hcells⟩:=hraw (by omega)
    simp only [Option.some.injEq,Addr.mk.injEq,and_true] at had
    obtain ⟨rfl,rfl⟩:=had
    have e:(⟨bx,ox,none⟩:Addr).add j=⟨bx,ox+j,none⟩:=by by_cases h0:j=0<;>simp [Addr.add,h0]
    rw [e,cells_of hbk,hcells j hj'];exact hj
  · obtain ⟨j,hj,rfl⟩:=List.mem_iff_getElem.1 hy
    have hjc:j/c<xs2.length:=by rw [hE2.1] at hj;exact Nat.div_lt_of_lt_mul (by rw [Nat.mul_comm];exact hj)
    have:=hE2.2 (j/c) xs2[j/c] (List.getElem?_eq_getElem hjc)
    refine h1 _ _ this _ ?_
    have hm:j % c<c:=Nat.mod_lt _ hzs.2
    have hd:j/c*c+j % c=j:=by rw [Nat.mul_comm];exact Nat.div_add_mod j c
    refine List.mem_iff_getElem?.2 ⟨j % c,?_⟩
    rw [List.getElem?_take_of_lt hm,List.getElem?_drop,hd,List.getElem?_eq_getElem hj]
  · intro v' w' h2 hg _
    have hown':=hown
    have hnew:∀ k,v.ownBlock=some k→B≤k∧∃ cur,w.heap[k]?=some (.cells cur T (0,0)):=by
      intro k hk
      rcases hown'.2 with ⟨rfl,_⟩ | ⟨g,cap,cur,rfl,hb,hgg,_⟩
      · simp [Value.ownBlock] at hk
      · simp [Value.ownBlock] at hk
        subst hk;exact ⟨hb,cur,hgg⟩
    have hwt:Wt T w w':=⟨hg.os,hg.tape,hg.output,hg.size,fun k cs t fr ht hk=>by
      rw [hg.block k (heap_lt hk) (fun e=>?_)]
      · exact hk
      · obtain ⟨_,cur,hc⟩:=hnew k e.symm
        rw [hk] at hc
        simp only [Option.some.injEq,Obj.cells.injEq] at hc
        exact ht hc.2.1⟩
    have hboth:Els E c w (ys++us) (xs++xs2):=by
      refine ⟨by rw [List.length_append,List.length_append,hEl.1,hE2.1,Nat.add_mul],fun k y hy=>?_⟩
      rcases Nat.lt_or_ge k xs.length with hk | hk
      · rw [List.getElem?_append_left hk] at hy
        have h3:k*c+c≤ys.length:=by
          rw [hEl.1]
          have:=Nat.mul_le_mul_right c (show k+1≤xs.length by omega)
          rw [Nat.add_mul] at this;omega
        rw [List.drop_append_of_le_length (by omega),List.take_append_of_le_length (by rw [List.length_drop];omega)]
        exact hEl.2 k y hy
      · rw [List.getElem?_append_right hk] at hy
        have h3:xs.length*c≤k*c:=Nat.mul_le_mul_right c hk
        rw [List.drop_append,hEl.1,List.drop_eq_nil_of_le (by rw [hEl.1];exact h3),List.nil_append,← Nat.sub_mul]
        exact hE2.2 _ y hy
    refine h v' w' ⟨_,by simpa using h2,hboth.kts hS (hwt.kts hT)⟩ hwt (fun w0 hB hB0=>?_) fun k cs t hk hL=>(hg.block k (heap_lt hL) (fun e2=>by
      rcases hown'.2 with ⟨rfl,_⟩ | ⟨g,cap,cur,rfl,_⟩
      · simp [Value.ownBlock] at e2
      · simp [Value.ownBlock] at e2
        exact hk g _ _ rfl e2)).trans hL
    refine Below.trans hB ⟨hg.os,hg.tape,hg.output,hg.size,fun k hk=>hg.block k (Nat.lt_of_lt_of_le hk hB.size) (fun e=>?_)⟩
    have:=(hnew k e.symm).1
    omega
theorem one_rat {k:Nat} (w:World):∀ x vs,ERat k w x vs→∀ y ∈ vs,y.oneCell'=true:=fun x vs h y hy=>by
  obtain ⟨c0,c1,c2,c3,rfl,hq⟩:=h
  simp only [List.mem_cons,List.not_mem_nil,or_false] at hy
  rcases hy with rfl | rfl | rfl | rfl
  · exact hq.one0
  · exact hq.one1
  · exact hq.one2
  · exact hq.one3
theorem ret_tmp3 {P:Program} {w:World} {fn:Func} {tmps:Array Value} {t u s:Tmp} {v x y:Value} (h:fn.results=#[.tmp t,.tmp u,.tmp s]) (hv:tmps.getD t undef=v) (hx:tmps.getD u undef=x) (hy:tmps.getD s undef=y):(results fn tmps).run P w=.ok (.tuple #[v,x,y]) w:=by
  subst hv hx hy;simp [results,h]
theorem ret_tmp2_cell {P:Program} {w:World} {fn:Func} {tmps:Array Value} {p u s:Tmp} {t:TypeId} {v x:Value} (b:Nat) (cs:Array Value) (tt:TypeId) (h:fn.results=#[.tmp u,.tmp s,.cell p t]) (hv:tmps.getD u undef=v) (hx:tmps.getD s undef=x) (hp:tmps.getD p undef=.pointer (some ⟨b,0,none⟩)) (hL:Lc w b cs tt) (hs:aggSize P t=some cs.size):
    (results fn tmps).run P w=.ok (.tuple #[v,x,.agg cs]) w:=by
  subst hv hx
  have:=run_load_lc hL hs
  simp only [Array.getD_eq_getD_getElem?] at hp ⊢
  simp [results,h,asAddr,hp,this]
theorem clone_none {α:Type} {E:World→α→List Value→Prop} {T:TypeId} {c B n cx:Nat} {w:World} {F:Nat→α} (h:Sl E T c w (.slice none n cx) (tb F n)) (hc:0<c:=by decide):Ow E T c w B (.slice none 0 0) (tb F n):=by
  rcases h.cases hc with h0 | ⟨_,b,off,cap,hv⟩
  · rw [h0];exact Ow.nil _ _ _ _ _
  · cases hv
/-- whether an int is one of a list -/
def hasI (P:Nat→Int) (n:Nat) (z:Int):Bool:=(List.range n).any fun i=>P i==z
theorem hasI_true {P:Nat→Int} {n i:Nat} {z:Int} (hi:i<n) (h:P i=z):hasI P n z=true:=by
  unfold hasI;rw [List.any_eq_true];exact ⟨i,List.mem_range.2 hi,by simpa using h⟩
theorem hasI_false {P:Nat→Int} {n:Nat} {z:Int} (h:∀ j,j<n→¬ P j=z):hasI P n z=false:=by
  unfold hasI;rw [List.any_eq_false];intro i hi;have:=h i (List.mem_range.1 hi);simpa using this
theorem hasI_yes {P:Nat→Int} {n k:Nat} {z:Int} (hk:k<n) (h:z=P k):decide ((0:Int)≤(k:Int))=hasI P n z:=by
  rw [hasI_true hk h.symm];simp
theorem hasI_no {P:Nat→Int} {n:Nat} {z:Int} (h:∀ j,j<n→¬ P j=z):decide ((0:Int)≤-1)=hasI P n z:=by
  rw [hasI_false h];decide
theorem hall_succ2 {P:Nat→Int} {k:Nat} {z:Int} (h:∀ j,j<k→¬ P j=z) (hk:¬ P k=z):∀ j,j<k+1→¬ P j=z:=fun j hj=>by
  rcases Nat.lt_or_eq_of_le (Nat.le_of_lt_succ hj) with h1 | rfl
  · exact h j h1
  · exact hk
theorem hall_succ {P:Nat→Int} {k:Nat} {z:Int} (h:∀ j,j<k→¬ P j=z) (hk:¬ z=P k):∀ j,j<k+1→¬ P j=z:=hall_succ2 h fun e=>hk e.symm
/-- what holds of the block of a slice that has elements -/
def Avp (p:Nat→Prop) (u:Value) (x:List α):Prop:=x≠[]→∀ g off o n cap,u=.slice (some ⟨g,off,o⟩) n cap→p g
/-- an element that is a slice in such a block -/
def ERp (p:Nat→Prop) (E:World→α→List Value→Prop) (T:TypeId) (c:Nat) (w:World) (x:List α) (vs:List Value):Prop:=∃ u,vs=[u]∧Sl E T c w u x∧Avp p u x
theorem stab_rp {p:Nat→Prop} {E:World→α→List Value→Prop} {ts:List TypeId} (hS:Stab E ts) (T:TypeId) (c:Nat):Stab (ERp p E T c) (T::ts):=fun _ _ _ _ hk h=>by
  obtain ⟨u,hu,hs,ha⟩:=h
  exact ⟨u,hu,hs.kts hS hk,ha⟩
theorem one_rp {p:Nat→Prop} {E:World→α→List Value→Prop} {T:TypeId} {c:Nat} (w:World):∀ x vs,ERp p E T c w x vs→∀ y ∈ vs,y.oneCell'=true:=fun x vs h y hy=>by
  obtain ⟨u,rfl,hs,_⟩:=h
  rw [List.mem_singleton.1 hy]
  exact hs.one
theorem ERp.rw {p:Nat→Prop} {E:World→α→List Value→Prop} {T:TypeId} {c:Nat} {w:World} {x:List α} {vs:List Value} (h:ERp p E T c w x vs):ERw E T c w x vs:=by
  obtain ⟨u,hu,hs,_⟩:=h
  exact ⟨u,hu,hs⟩
theorem Sl.lt_rows {E:World→α→List Value→Prop} {T TW:TypeId} {c cw:Nat} {v:Value} {xs:List (List α)} (h:Sl (ERw E T c) TW cw w v xs) (hc:0<c):Sl (ERp (fun g=>g<w.heap.size) E T c) TW cw w v xs:=h.mono fun x vs hx=>by
  obtain ⟨u,hu,hs⟩:=hx
  refine ⟨u,hu,hs,fun hne g off o n cap e=>?_⟩
  obtain ⟨ys,⟨ao,cp,h1,h2,h3⟩,h4⟩:=hs
  have hl:0<x.length:=List.length_pos_iff.2 hne
  obtain ⟨b,of,cs,fr,e1,e2,_⟩:=h3 (by rw [h4.1];exact Nat.mul_pos hl hc)
  rw [h1,e1] at e
  simp only [Value.slice.injEq,Option.some.injEq,Addr.mk.injEq] at e
  rw [← e.1.1];exact heap_lt e2
theorem Ow.mono_e {E F:World→α→List Value→Prop} {T:TypeId} {c B:Nat} {v:Value} {xs:List α} (h:Ow E T c w B v xs) (hf:∀ x vs,E w x vs→F w x vs):Ow F T c w B v xs:=by
  obtain ⟨ys,h1,h2⟩:=h
  exact ⟨ys,h1,h2.mono hf⟩
theorem ERp.mono {p q:Nat→Prop} {E:World→α→List Value→Prop} {T:TypeId} {c:Nat} {w:World} (hpq:∀ g,p g→q g):∀ x vs,ERp p E T c w x vs→ERp q E T c w x vs:=fun x vs h=>by
  obtain ⟨u,hu,hs,ha⟩:=h
  exact ⟨u,hu,hs,fun hne g off o n cap e=>hpq g (ha hne g off o n cap e)⟩
/-- a store into a block that bears none of the rows -/
theorem Ow.stav {b:Nat} {p:Nat→Prop} {E:World→α→List Value→Prop} {ts:List TypeId} {T TW:TypeId} {c cw B:Nat} {w w':World} {v:Value} {xs:List (List α)} {cs:Array Value} (h:Ow (ERp p E T c) TW cw w B v xs) (hp:∀ g,p g→g≠b) (hS:Stab E ts) (st:St w w' b) (hL:Lc w b cs T)
    (hT:(TW !=T)=true) (hts:(ts.all fun t=>t !=T)=true):Ow (ERp p E T c) TW cw w' B v xs:=by
  obtain ⟨ys,h1,h2⟩:=h
  have hk:Kts ts w w':=st.kts hL hts
  refine ⟨ys,ownsRow_gr h1 (st.kt hL (by simpa using hT)),h2.1,fun i x hx=>?_⟩
  obtain ⟨u,hu,⟨zs,⟨ao,cp,e1,e2,e3⟩,e4⟩,ha⟩:=h2.2 i x hx
  refine ⟨u,hu,⟨zs,⟨ao,cp,e1,e2,fun hq=>?_⟩,e4.kts hS hk⟩,ha⟩
  obtain ⟨g,off,ds,fr,a1,a2,a3⟩:=e3 hq
  have hne:x≠[]:=fun e=>by subst e;rw [e4.1] at hq;simp at hq
  have:=hp g (ha hne g off none _ _ (by rw [e1,a1]))
  exact ⟨g,off,ds,fr,a1,(st.block g this).trans a2,a3⟩
/-- the slice lies in a block that is new -/
def Nw (B:Nat) (u:Value):Prop:=∀ g off o n cap,u=.slice (some ⟨g,off,o⟩) n cap→B≤g
theorem Nw.av {B:Nat} {p:Nat→Prop} {u:Value} {x:List α} (h:Nw B u) (hb:∀ g,B≤g→p g):Avp p u x:=fun _ g off o n cap e=>hb g (h g off o n cap e)
theorem Nw.mk {B b n cap:Nat} (h:B≤b):Nw B (.slice (some ⟨b,0,none⟩) n cap):=fun g off o n' cap' e=>by cases e;exact h
section
variable {P:Program} {Q:Exit→Act→World→Prop} {a:Act} {w:World}
theorem wp_seq_cut {x y:Code} (J:Act→World→Prop) (h1:∀ K:Act→World→Prop,(∀ a w,J a w→K a w)→x.wp P (Exit.then K Q) a w) (h2:∀ a w,J a w→y.wp P Q a w):(x.seq y).wp P Q a w:=
  wp_seq_k fun K hK=>h1 K (fun a w hj=>hK a w (h2 a w hj))
end
end
theorem cells_one {u:Value} (h:u.oneCell'=true):u.cells=[u].toArray:=by
  cases u<;>first | rfl | cases h
section
variable {P:Program} {Q:Exit→Act→World→Prop} {ops:Array Oper} {w:World} {ds:List Deferred} {l:List Value} {o:Oper}
/-- operations that are passed over -/
def setA:List Value→List (Nat × Nat)→List Value
  | l,[]=>l
  | l,(_,d)::r=>setA (l.set d undef) r
theorem setA_nil (l:List Value):setA l []=l:=rfl
theorem setA_cons (l:List Value) (i d:Nat) (r:List (Nat × Nat)):setA l ((i,d)::r)=setA (l.set d undef) r:=rfl
def skipOK (ops:Array Oper):List Value→List (Nat × Nat)→Bool
  | _,[]=>true
  | l,(i,d)::r=>(match ops[i]? with
    | some o=>o.dst==some d&&!Region.wanted o (yielded ops l.toArray)
    | none=>false)&&skipOK ops (l.set d undef) r
theorem sks:∀ (sk:List (Nat × Nat)) {l:List Value} {rest:List Nat},skipOK ops l sk=true→wpOps P ops Q rest ⟨(setA l sk).toArray,ds⟩ w→wpOps P ops Q (sk.map Prod.fst++rest) ⟨l.toArray,ds⟩ w
  | [],_,_,_,h=>h
  | (i,d)::r,l,rest,hk,h=>by
    simp only [skipOK,Bool.and_eq_true] at hk
    obtain ⟨h1,h2⟩:=hk
    split at h1
    · next o ho=>
      simp only [Bool.and_eq_true,beq_iff_eq,Bool.not_eq_true'] at h1
      exact ss (P:=P) d (sks r h2 h) rfl ho h1.1 h1.2
    · cases h1
theorem swk {i:Nat} {rest:List Nat} (d:Nat) (v:Value) (sk:List (Nat × Nat)) {l':List Value} (ho:ops[i]?=some o) (hv:RunV P ⟨l.toArray,ds⟩ o w v) (h:wpOps P ops Q rest ⟨l'.toArray,ds⟩ w) (hl:setA (l.set d v) sk=l':=by simp only [setA_cons,setA_nil,p3,p4]<;>rfl) (hd:o.dst=some d:=by rfl)
    (hw:Region.wanted o (yielded ops (⟨l.toArray,ds⟩:Act).tmps)=true:=by kernel_rfl) (hk:skipOK ops (l.set d v) sk=true:=by kernel_rfl):wpOps P ops Q (i::(sk.map Prod.fst++rest)) ⟨l.toArray,ds⟩ w:=
  sw d v ho hv (sks sk hk (by rw [hl];exact h)) rfl hd hw
end
section
variable {P:Program} {ops:Array Oper} {Q:Exit→Act→World→Prop} {S:World→Prop}
end
section
variable {α:Type} {P:Program} {a:Act} {o:Oper} {w:World} {Q:Exit→Act→World→Prop} {K:Act→World→Prop}
/-- a slice that is made of one slice,of two slices -/
theorem eff_bs1 (t e:TypeId) {x:Operand} (u:Value) (d:Option Tmp) (hd:o.dst=d) (hop:o.op=.buildSlice t 1 #[(0,x)]) (hx:a.eval x=u) (hu:∃ ao n cap,u=.slice ao n cap)
    (hrun:∀ ao n cap (w:World),(Instr.buildSlice t 1 #[(0,.slice ao n cap)]).run P w=.ok (.slice (some ⟨w.heap.size,0,none⟩) 1 1) (w.alloc (.cells #[.slice ao n cap] e)))
    (h:∀ b w',Gr w w'→Lc w' b #[u] e→w.heap.size≤b→K (a.put d (.slice (some ⟨b,0,none⟩) 1 1)) w'):o.wp P a w K Q:=by
  obtain ⟨ao,n,cap,rfl⟩:=hu
  refine eff_bs e 1 _ d hd (fun w=>?_) h
  unfold execOp
  simp [hop,hx,hrun]
theorem Sl.forms {E:World→α→List Value→Prop} {T:TypeId} {c:Nat} {v:Value} {xs:List α} (h:Sl E T c w v xs):∃ ao n cap,v=.slice ao n cap:=by
  obtain ⟨ao,cap,e,_⟩:=h.form
  exact ⟨ao,_,cap,e⟩
end
section
variable {α:Type} {P:Program} {a:Act} {o:Oper} {w:World} {Q:Exit→Act→World→Prop} {K:Act→World→Prop}
end
theorem rcmp_self (x:Rat):rcmp x x=0:=rcmp_zero.2 rfl
section
variable {P:Program} {ops:Array Oper} {Q:Exit→Act→World→Prop} {S:World→Prop}
end
section
variable {α:Type} {E:World→α→List Value→Prop} {T:TypeId} {c B:Nat} {w:World}
/-- the block of an own slice is there -/
theorem Ow.blk {v:Value} {xs:List α} (h:Ow E T c w B v xs) {g n cap:Nat} (e:v=.slice (some ⟨g,0,none⟩) n cap):B≤g∧g<w.heap.size:=by
  obtain ⟨ys,h1,_⟩:=h
  rcases h1.2 with ⟨hn,_⟩ | ⟨g',cap',cur,he,hb,hg,_⟩
  · rw [hn] at e;cases e
  · rw [he] at e;cases e
    exact ⟨hb,heap_lt hg⟩
end
end Go.Proofs.YtepgkcimmdmgcaaGreatDoor
namespace Go.Proofs.YtepgkcimmdmgcaaGreatDoor
/-- the first row from i on,of n,whose number in column k is not 0 -/
def fnd (m:Mx_) (k:Nat):Nat→Nat→Option Nat
  | 0,_=>none
  | n+1,i=>if m i k=0 then fnd m k n (i+1) else some i
theorem fnd_some {m:Mx_} {k:Nat}:∀ {n i j:Nat},fnd m k n i=some j→i≤j∧j<i+n∧m j k≠0∧∀ t,i≤t→t<j→m t k=0
  | 0,_,_,h=>by cases h
  | n+1,i,j,h=>by
    unfold fnd at h
    split at h
    · next e=>
      obtain ⟨h1,h2,h3,h4⟩:=fnd_some h
      refine ⟨by omega,by omega,h3,fun t ht hj=>?_⟩
      rcases Nat.eq_or_lt_of_le ht with rfl | h5
      · exact e
      · exact h4 t h5 hj
    · next e=>cases h;exact ⟨Nat.le_refl _,by omega,e,fun _ h1 h2=>absurd h2 (by omega)⟩
theorem fnd_none {m:Mx_} {k:Nat}:∀ {n i:Nat},fnd m k n i=none→∀ t,i≤t→t<i+n→m t k=0
  | 0,_,_,_,h1,h2=>absurd h2 (by omega)
  | n+1,i,h,t,h1,h2=>by
    unfold fnd at h
    split at h
    · next e=>
      rcases Nat.eq_or_lt_of_le h1 with rfl | h5
      · exact e
      · exact fnd_none h t h5 (by omega)
    · cases h
/-- rows,pivots,the determinant of the steps -/
structure Rd where
  m:Mx_
  p:List Nat
  d:Rat
def stepR (R k:Nat) (s:Rd):Rd:=match fnd s.m k (R - s.p.length) s.p.length with
  | none=>s
  | some i=>
    let a:=swp s.m i s.p.length
    ⟨clr (scl a s.p.length (1/a s.p.length k)) s.p.length (fun j=>a j k),s.p++[k],(if i=s.p.length then s.d else - s.d)*a s.p.length k⟩
def redR (R:Nat):Nat→Rd→Rd
  | 0,s=>s
  | k+1,s=>stepR R k (redR R k s)
def pv (s:Rd) (t:Nat):Nat:=s.p.getD t 0
structure Inv (R:Nat) (m0:Mx_) (K:Nat) (s:Rd):Prop where
  eqv:Eqv R m0 s.m
  len:s.p.length≤R
  lt:∀ t,t<s.p.length→pv s t<K
  inc:∀ t u,t<u→u<s.p.length→pv s t<pv s u
  unit:∀ t,t<s.p.length→∀ i,i<R→s.m i (pv s t)=if i=t then 1 else 0
  zero:∀ i,s.p.length≤i→i<R→∀ k,k<K→s.m i k=0
  ech:∀ t,t<s.p.length→∀ k,k<pv s t→s.m t k=0
theorem Inv.start (R:Nat) (m:Mx_) (d:Rat):Inv R m 0 ⟨m,[],d⟩:=
  ⟨.refl R m,Nat.zero_le _,fun t h=>absurd h (Nat.not_lt_zero t),fun _ u _ h=>absurd h (Nat.not_lt_zero u),fun t h=>absurd h (Nat.not_lt_zero t),fun _ _ _ k h=>absurd h (Nat.not_lt_zero k),fun t h=>absurd h (Nat.not_lt_zero t)⟩
theorem pv_old {s:Rd} {k t:Nat} {m:Mx_} {d:Rat} (h:t<s.p.length):pv ⟨m,s.p++[k],d⟩ t=pv s t:=by
  unfold pv
  simp only [List.getD_eq_getElem?_getD]
  rw [List.getElem?_append_left h]
theorem pv_new {s:Rd} {k:Nat} {m:Mx_} {d:Rat}:pv ⟨m,s.p++[k],d⟩ s.p.length=k:=by
  unfold pv
  simp
theorem Inv.step {R:Nat} {m0:Mx_} {K:Nat} {s:Rd} (h:Inv R m0 K s):Inv R m0 (K+1) (stepR R K s):=by
  unfold stepR
  split
  · next e=>
    refine ⟨h.eqv,h.len,fun t ht=>Nat.lt_succ_of_lt (h.lt t ht),h.inc,h.unit,fun i h1 h2 k hk=>?_,h.ech⟩
    rcases Nat.eq_or_lt_of_le (Nat.le_of_lt_succ hk) with rfl | hk
    · exact fnd_none e i h1 (by omega)
    · exact h.zero i h1 h2 k hk
  · next i e=>
    obtain ⟨h1,h2,h3,_⟩:=fnd_some e
    have hr:s.p.length<R:=by omega
    have hi:i<R:=by omega
    generalize hq:s.p.length=r at*
    have ha:swp s.m i r r K≠0:=by
      unfold swp
      by_cases e1:r=i
      · rw [if_pos e1];rw [e1];exact h3
      · rw [if_neg e1,if_pos rfl];exact h3
    have hrow:∀ j k,j<r→swp s.m i r j k=s.m j k:=fun j k hj=>by
      unfold swp
      rw [if_neg (by omega),if_neg (by omega)]
    have hlow:∀ j k,r≤j→j<R→k<K→swp s.m i r j k=0:=fun j k hj hR hk=>by
      unfold swp
      split
      · exact h.zero r (by omega) hr k hk
      · split
        · exact h.zero i (by omega) hi k hk
        · exact h.zero j (by omega) hR k hk
    generalize hA:swp s.m i r=a at*
    have hval:∀ j k,clr (scl a r (1/a r K)) r (fun j=>a j K) j k=if j=r then a r k*(1/a r K) else a j k - a j K*(a r k*(1/a r K)):=fun j k=>by
      unfold clr scl
      split
      · rw [if_pos rfl]
      · rw [if_pos rfl]
    have hK:∀ j,clr (scl a r (1/a r K)) r (fun j=>a j K) j K=if j=r then 1 else 0:=fun j=>by
      rw [hval]
      split<;>grind
    have hold:∀ j k,k<K→j<R→clr (scl a r (1/a r K)) r (fun j=>a j K) j k=if j<r then s.m j k else 0:=fun j k hk hj=>by
      rw [hval,hlow r k (Nat.le_refl _) hr hk]
      by_cases e1:j=r
      · rw [if_pos e1,if_neg (by omega)];grind
      · rw [if_neg e1]
        by_cases e2:j<r
        · rw [if_pos e2,hrow j k e2];grind
        · rw [if_neg e2,hlow j k (by omega) hj hk];grind
    have hlen:(s.p++[K]).length=r+1:=by simp [hq]
    refine ⟨?_,by rw [hlen];omega,fun t ht=>?_,fun t u htu hu=>?_,fun t ht j hj=>?_,fun j h4 hj k hk=>?_,fun t ht k hk=>?_⟩
    · refine h.eqv.trans ?_
      have e1:Eqv R s.m a:=by rw [← hA];exact swp_eqv s.m hi hr
      exact (e1.trans (scl_eqv a r (by grind))).trans (clr_eqv _ hr _)
    · rw [hlen] at ht
      rcases Nat.eq_or_lt_of_le (Nat.le_of_lt_succ ht) with rfl | ht
      · rw [← hq,pv_new];omega
      · rw [pv_old (by omega)];exact Nat.lt_succ_of_lt (h.lt t (by omega))
    · rw [hlen] at hu
      rw [pv_old (s:=s) (t:=t) (by omega)]
      rcases Nat.eq_or_lt_of_le (Nat.le_of_lt_succ hu) with rfl | hu
      · have:=h.lt t (by omega)
        rw [← hq,pv_new];exact this
      · rw [pv_old (s:=s) (t:=u) (by omega)];exact h.inc t u htu (by omega)
    · rw [hlen] at ht
      rcases Nat.eq_or_lt_of_le (Nat.le_of_lt_succ ht) with rfl | ht
      · have e2:pv ⟨clr (scl a t (1/a t K)) t (fun j=>a j K),s.p++[K],(if i=t then s.d else - s.d)*a t K⟩ t=K:=by
          have:=pv_new (s:=s) (k:=K) (m:=clr (scl a t (1/a t K)) t (fun j=>a j K)) (d:=(if i=t then s.d else - s.d)*a t K)
          rwa [hq] at this
        rw [e2];exact hK j
      · rw [pv_old (by omega)]
        have hl:=h.lt t (by omega)
        show clr (scl a r (1/a r K)) r (fun j=>a j K) j (pv s t)=_
        rw [hold j _ hl hj]
        by_cases e2:j<r
        · rw [if_pos e2];exact h.unit t (by omega) j hj
        · rw [if_neg e2,if_neg (by omega)]
    · rw [hlen] at h4
      show clr (scl a r (1/a r K)) r (fun j=>a j K) j k=0
      rcases Nat.eq_or_lt_of_le (Nat.le_of_lt_succ hk) with rfl | hk
      · rw [hK,if_neg (by omega)]
      · rw [hold j k hk hj,if_neg (by omega)]
    · rw [hlen] at ht
      show clr (scl a r (1/a r K)) r (fun j=>a j K) t k=0
      rcases Nat.eq_or_lt_of_le (Nat.le_of_lt_succ ht) with rfl | ht
      · have e2:pv ⟨clr (scl a t (1/a t K)) t (fun j=>a j K),s.p++[K],(if i=t then s.d else - s.d)*a t K⟩ t=K:=by
          have:=pv_new (s:=s) (k:=K) (m:=clr (scl a t (1/a t K)) t (fun j=>a j K)) (d:=(if i=t then s.d else - s.d)*a t K)
          rwa [hq] at this
        rw [e2] at hk
        rw [hold t k hk hr,if_neg (by omega)]
      · rw [pv_old (by omega)] at hk
        have hl:=h.lt t (by omega)
        rw [hold t k (by omega) (by omega),if_pos ht]
        exact h.ech t (by omega) k hk
theorem red_inv (R:Nat) (m:Mx_) (d:Rat):∀ K,Inv R m K (redR R K ⟨m,[],d⟩)
  | 0=>.start R m d
  | K+1=>(red_inv R m d K).step
end Go.Proofs.YtepgkcimmdmgcaaGreatDoor
namespace Go.Proofs.YtepgkcimmdmgcaaGreatDoor
/-- what the kernel's vector of column f holds -/
def kv (s:Rd) (f k:Nat):Rat:=if k=f then 1 else sm s.p.length fun t=>if pv s t=k then - s.m t f else 0
end Go.Proofs.YtepgkcimmdmgcaaGreatDoor
namespace Go.Proofs.YtepgkcimmdmgcaaGreatDoor
theorem stepR_p (R K:Nat) (s:Rd):(stepR R K s).p=s.p∨(stepR R K s).p=s.p++[K]:=by
  unfold stepR
  split
  · exact .inl rfl
  · exact .inr rfl
end Go.Proofs.YtepgkcimmdmgcaaGreatDoor
namespace Go.Proofs.YtepgkcimmdmgcaaGreatDoor
def updm (m:Mx_) (i:Nat) (u:Nat→Rat):Mx_:=fun a b=>if a=i then u b else m a b
theorem updm_self (m:Mx_) (i:Nat):updm m i (m i)=m:=by
  funext a b
  unfold updm
  split
  · next e=>rw [e]
  · rfl
theorem updm_comm (m:Mx_) {i j:Nat} (h:i≠j) (u v:Nat→Rat):updm (updm m i u) j v=updm (updm m j v) i u:=by
  funext a b
  unfold updm
  grind
/-- linear in each row,0 where two neighbours are equal -/
structure Alt (R:Nat) (G:Mx_→Rat):Prop where
  lin:∀ (m:Mx_) (i:Nat),i<R→∀ (u v:Nat→Rat) (c:Rat),G (updm m i (fun k=>u k+c*v k))=G (updm m i u)+c*G (updm m i v)
  adj:∀ (m:Mx_) (i:Nat),i+1<R→(∀ k,m i k=m (i+1) k)→G m=0
  ext:∀ m m':Mx_,(∀ i,i<R→∀ k,m i k=m' i k)→G m=G m'
section
variable {R:Nat} {G:Mx_→Rat} (h:Alt R G)
include h
theorem Alt.zero {m:Mx_} {i:Nat} (hi:i<R) (hz:∀ k,m i k=0):G m=0:=by
  have:=h.lin m i hi (m i) (m i) (-1)
  rw [updm_self] at this
  have e:updm m i (fun k=>m i k+-1*m i k)=m:=by
    funext a b
    unfold updm
    split
    · next e=>rw [e,hz b];grind
    · rfl
  rw [e] at this
  grind
theorem Alt.nswp (m:Mx_) {i:Nat} (hi:i+1<R):G (swp m i (i+1))=- G m:=by
  let u:=m i;let v:=m (i+1)
  have key:∀ x y:Nat→Rat,(∀ k,x k=y k)→G (updm (updm m i x) (i+1) y)=0:=fun x y hxy=>h.adj _ i hi fun k=>by
    unfold updm
    rw [if_neg (by omega),if_pos rfl,if_pos rfl,hxy k]
  have l1:∀ x:Nat→Rat,G (updm (updm m i x) (i+1) (fun k=>u k+1*v k))=G (updm (updm m i x) (i+1) u)+1*G (updm (updm m i x) (i+1) v):=fun x=>h.lin _ _ hi u v 1
  have l2:∀ y:Nat→Rat,G (updm (updm m i (fun k=>u k+1*v k)) (i+1) y)=G (updm (updm m i u) (i+1) y)+1*G (updm (updm m i v) (i+1) y):=fun y=>by
    rw [updm_comm _ (show i≠i+1 by omega),updm_comm _ (show i≠i+1 by omega) u,updm_comm _ (show i≠i+1 by omega) v]
    exact h.lin _ _ (by omega) u v 1
  have k0:=key (fun k=>u k+1*v k) (fun k=>u k+1*v k) fun _=>rfl
  have k1:=key u u fun _=>rfl
  have k2:=key v v fun _=>rfl
  rw [l1,l2,l2,k1,k2] at k0
  have e1:updm (updm m i u) (i+1) v=m:=by rw [updm_self,updm_self]
  have e2:updm (updm m i v) (i+1) u=swp m i (i+1):=by
    funext a b
    unfold updm swp
    grind
  rw [e1,e2] at k0
  grind
theorem Alt.same:∀ (n:Nat) {m:Mx_} {i:Nat},i+1+n<R→(∀ k,m i k=m (i+1+n) k)→G m=0
  | 0,m,i,hi,he=>h.adj m i hi he
  | n+1,m,i,hi,he=>by
    have e:=Alt.same n (m:=swp m (i+1+n) (i+1+n+1)) (i:=i) (by omega) fun k=>by
      unfold swp
      rw [if_neg (by omega),if_neg (by omega),if_pos rfl];exact he k
    rw [h.nswp m (by omega)] at e
    grind
theorem Alt.eq {m:Mx_} {i j:Nat} (hi:i<R) (hj:j<R) (hne:i≠j) (he:∀ k,m i k=m j k):G m=0:=by
  rcases Nat.lt_or_gt_of_ne hne with hl | hl
  · obtain ⟨n,rfl⟩:∃ n,j=i+1+n:=⟨j - i - 1,by omega⟩
    exact h.same n hj he
  · obtain ⟨n,rfl⟩:∃ n,i=j+1+n:=⟨i - j - 1,by omega⟩
    exact h.same n hi fun k=>(he k).symm
theorem Alt.swp (m:Mx_) {i j:Nat} (hi:i<R) (hj:j<R) (hne:i≠j):G (swp m i j)=- G m:=by
  let u:=m i;let v:=m j
  have key:∀ x:Nat→Rat,G (updm (updm m i x) j x)=0:=fun x=>h.eq hi hj hne fun k=>by
    unfold updm
    rw [if_neg hne,if_pos rfl,if_pos rfl]
  have l1:∀ x:Nat→Rat,G (updm (updm m i x) j (fun k=>u k+1*v k))=G (updm (updm m i x) j u)+1*G (updm (updm m i x) j v):=fun x=>h.lin _ _ hj u v 1
  have l2:∀ y:Nat→Rat,G (updm (updm m i (fun k=>u k+1*v k)) j y)=G (updm (updm m i u) j y)+1*G (updm (updm m i v) j y):=fun y=>by
    rw [updm_comm _ hne,updm_comm _ hne u,updm_comm _ hne v]
    exact h.lin _ _ hi u v 1
  have k0:=key (fun k=>u k+1*v k)
  have k1:=key u
  have k2:=key v
  rw [l1,l2,l2,k1,k2] at k0
  have e1:updm (updm m i u) j v=m:=by rw [updm_self,updm_self]
  have e2:updm (updm m i v) j u=Go.Proofs.YtepgkcimmdmgcaaGreatDoor.swp m i j:=by
    funext a b
    unfold updm Go.Proofs.YtepgkcimmdmgcaaGreatDoor.swp
    grind
  rw [e1,e2] at k0
  grind
theorem Alt.scl (m:Mx_) {r:Nat} (hr:r<R) (c:Rat):G (scl m r c)=c*G m:=by
  have l:=h.lin m r hr (fun _=>0) (m r) c
  rw [updm_self,h.zero hr (m:=updm m r fun _=>0) fun k=>by unfold updm;rw [if_pos rfl]] at l
  have e:updm m r (fun k=>0+c*m r k)=Go.Proofs.YtepgkcimmdmgcaaGreatDoor.scl m r c:=by
    funext a b
    unfold updm Go.Proofs.YtepgkcimmdmgcaaGreatDoor.scl
    split<;>grind
  rw [e] at l
  rw [l];grind
theorem Alt.add (m:Mx_) {j r:Nat} (hj:j<R) (hr:r<R) (hne:j≠r) (c:Rat):G (updm m j (fun k=>m j k+c*m r k))=G m:=by
  rw [h.lin m j hj,updm_self,h.eq (m:=updm m j (m r)) hj hr hne fun k=>by unfold updm;rw [if_pos rfl,if_neg (Ne.symm hne)]]
  grind
theorem Alt.clr (m:Mx_) {r:Nat} (hr:r<R) (c:Nat→Rat):G (clr m r c)=G m:=by
  have go:∀ n,n≤R→G (fun j k=>if j<n then Go.Proofs.YtepgkcimmdmgcaaGreatDoor.clr m r c j k else m j k)=G m:=by
    intro n
    induction n with
    | zero=>exact fun _=>h.ext _ _ fun i _ k=>if_neg (Nat.not_lt_zero i)
    | succ n ih=>
      intro hn
      rw [← ih (by omega)]
      by_cases e:n=r
      · refine h.ext _ _ fun i _ k=>?_
        by_cases h1:i<n
        · rw [if_pos h1,if_pos (by omega)]
        · rw [if_neg h1]
          by_cases h2:i<n+1
          · rw [if_pos h2]
            have:i=r:=by omega
            unfold Go.Proofs.YtepgkcimmdmgcaaGreatDoor.clr
            rw [if_pos this,this]
          · rw [if_neg h2]
      · have:=h.add (fun j k=>if j<n then Go.Proofs.YtepgkcimmdmgcaaGreatDoor.clr m r c j k else m j k) (j:=n) (r:=r) (by omega) hr e (- c n)
        rw [← this]
        refine h.ext _ _ fun i _ k=>?_
        have er:(if r<n then Go.Proofs.YtepgkcimmdmgcaaGreatDoor.clr m r c r k else m r k)=m r k:=by
          split
          · unfold Go.Proofs.YtepgkcimmdmgcaaGreatDoor.clr;rw [if_pos rfl]
          · rfl
        unfold updm
        dsimp only
        rw [er,if_neg (Nat.lt_irrefl n)]
        by_cases h1:i=n
        · subst h1
          rw [if_pos (Nat.lt_succ_self i),if_pos rfl]
          unfold Go.Proofs.YtepgkcimmdmgcaaGreatDoor.clr
          rw [if_neg e];grind
        · rw [if_neg h1]
          by_cases h2:i<n
          · rw [if_pos (by omega),if_pos h2]
          · rw [if_neg (by omega),if_neg h2]
  rw [← go R (Nat.le_refl _)]
  exact h.ext _ _ fun i hi k=>(if_pos hi).symm
/-- the determinant of the steps -/
theorem Alt.step (K:Nat) {s:Rd} (hs:s.p.length≤R) {g:Rat} (hg:g=s.d*G s.m):g=(stepR R K s).d*G (stepR R K s).m:=by
  unfold stepR
  split
  · exact hg
  · next i e=>
    obtain ⟨h1,h2,h3,_⟩:=fnd_some e
    have hr:s.p.length<R:=by omega
    have hi:i<R:=by omega
    dsimp only
    have ha:Go.Proofs.YtepgkcimmdmgcaaGreatDoor.swp s.m i s.p.length s.p.length K≠0:=by
      unfold Go.Proofs.YtepgkcimmdmgcaaGreatDoor.swp
      by_cases e1:s.p.length=i
      · rw [if_pos e1,e1];exact h3
      · rw [if_neg e1,if_pos rfl];exact h3
    rw [h.clr _ hr,h.scl _ hr]
    generalize Go.Proofs.YtepgkcimmdmgcaaGreatDoor.swp s.m i s.p.length s.p.length K=x at ha
    by_cases e2:i=s.p.length
    · have e3:Go.Proofs.YtepgkcimmdmgcaaGreatDoor.swp s.m i s.p.length=s.m:=by
        rw [e2];funext a b;unfold Go.Proofs.YtepgkcimmdmgcaaGreatDoor.swp;grind
      rw [if_pos e2,e3,hg];grind
    · rw [if_neg e2,h.swp _ hi hr e2,hg];grind
theorem Alt.red (m:Mx_) (d:Rat):∀ K,d*G m=(redR R K ⟨m,[],d⟩).d*G (redR R K ⟨m,[],d⟩).m
  | 0=>rfl
  | K+1=>h.step K (red_inv R m d K).len (Alt.red m d K)
end
end Go.Proofs.YtepgkcimmdmgcaaGreatDoor
namespace Go.Proofs.YtepgkcimmdmgcaaGreatDoor
/-- all indices but k -/
def skp (k b:Nat):Nat:=if b<k then b else b+1
/-- the first row and column k left out -/
def mnr (m:Mx_) (k:Nat):Mx_:=fun a b=>m (a+1) (skp k b)
def sgk (k:Nat):Rat:=if k % 2=1 then -1 else 1
/-- the expansion by the first row -/
def Dr:Nat→Mx_→Rat
  | 0,_=>1
  | n+1,m=>sm (n+1) fun k=>sgk k*(m 0 k*Dr n (mnr m k))
def one_:Mx_:=fun i k=>if i=k then 1 else 0
end Go.Proofs.YtepgkcimmdmgcaaGreatDoor
namespace Go.Proofs.YtepgkcimmdmgcaaGreatDoor
open Go.RowKit

set_option maxRecDepth 100000 in
set_option maxHeartbeats 1000000 in
theorem mx_size {K R N:Nat} {v:Value} {m:Nat→Nat→Rat} {w:World} (_hR2:R≤256) (_hN2:N≤96) (hs:Sl (ERw (ERat K) 71 4) 49 1 w v (tb (fun z0=>tb (fun z1=>(m z0 z1)) N) R)):
    Calls Tryz.prog 51 #[v] w fun e w'=>e=.returned (.int .i64 0)∧Gr w w':=by
 go_enter Tryz.func51,Tryz.ntmps51
 have hB:=Gr.refl w
 refine wp_seq_k (fun K10 k10=>?_)
 refine rg [0] ?_
 refine sv 2 (.int .i64 0) ?_
 refine sq_nil ?_
 refine k10 _ _ ?_
 try clear k10 K10
 refine wp_seq_k (fun K11 k11=>?_)
 refine wp_seq_k (fun K12 k12=>?_)
 refine rg [0,1,2] ?_
 refine sv 5 v ?_
 refine sw 6 (.int .i64 ((R:Int))) rfl (rv_lenn (e:=49) hs (tb_lenz rfl) _ _ rfl rfl (by kernel_rfl)) ?_
 have hb13:(decide ((256:Int)<(R:Int)))=false:=(by simp only [decide_eq_false_iff_not];omega)
 refine sw 7 (.bool false) rfl (RunV.bool (x:=decide ((256:Int)<(R:Int))) (rvk (by kernel_rfl)) hb13) ?_
 refine sq_nil ?_
 refine k12 _ _ ?_
 try clear k12 K12
 refine wp_cond_false rfl ?_
 refine wp_skip ?_
 refine k11 _ _ ?_
 try clear k11 K11
 refine wp_seq_k (fun K14 k14=>?_)
 refine wp_seq_k (fun K15 k15=>?_)
 refine rg [0,1,2] ?_
 refine sv 8 v ?_
 refine sw 9 (.int .i64 ((R:Int))) rfl (rv_lenn (e:=49) hs (tb_lenz rfl) _ _ rfl rfl (by kernel_rfl)) ?_
 refine sv 10 (.int .i64 0) ?_
 refine sq_nil ?_
 refine k15 _ _ ?_
 try clear k15 K15
 refine wp_block ?_
 refine wp_loop_inv (a:=⟨List.toArray ?l16,[]⟩) (fun n a w'=>∃ (k:Nat) (u16:Nat→Value),R - k=n∧a=⟨[v,undef,(u16 2),undef,(u16 4),(u16 5),(u16 6),(.bool false),v,(.int .i64 ((R:Int))),(.int .i64 ((k:Int))),(u16 11),(u16 12),(u16 13),(u16 14),(u16 15),(u16 16),(u16 17),(u16 18),(u16 19),(u16 20),(u16 21),(u16 22),(u16 23),(u16 24)].toArray,[]⟩∧k≤R∧Gr w w') (R - 0) ?_ ?_
 ·exact ⟨0,(fun i=>List.getD ?l16 i undef),rfl,rfl,(Nat.zero_le _),hB⟩
 rintro n16 a16 w16 ⟨k,u16,rfl,rfl,hkk,hB⟩ K16 k16
 refine wp_seq_k (fun K17 k17=>?_)
 refine rg [0] ?_
 refine sv 11 (.bool (decide ((k:Int)<(R:Int)))) ?_
 refine sq_nil ?_
 refine k17 _ _ ?_
 try clear k17 K17
 refine wp_seq_k (fun K18 k18=>?_)
 refine wp_cond_split (t:=decide ((k:Int)<(R:Int))) rfl (fun hb19=>?_) (fun hb19=>?_)
 ·have hlk:k<R:=by have:=of_decide_eq_true hb19;omega
  refine wp_skip ?_
  refine k18 _ _ ?_
  try clear k18 K18
  refine wp_seq_k (fun K20 k20=>?_)
  refine wp_block ?_
  refine wp_seq_k (fun K21 k21=>?_)
  refine rg [0,1,2] ?_
  refine sw 12 (adr v (k*1)) rfl (rv_idxn (e:=49) hs tb_len (by decide) k (by omega) _ _ _ rfl rfl rfl (by kernel_rfl) (by kernel_rfl)) ?_
  obtain ⟨_,_,⟨u22,rfl,hr22⟩,at22⟩:=Sl.get hs (by decide) (tb_get (f:=(fun z0=>tb (fun z1=>(m z0 z1)) N)) (n:=R) (i:=k) (by omega))
  refine sw 13 u22 rfl (rv_ld1 u22 (at22.gr hB) _ _ rfl rfl (by kernel_rfl)) ?_
  refine sv 4 u22 ?_
  refine sq_nil ?_
  refine k21 _ _ ?_
  try clear k21 K21
  refine wp_seq_k (fun K23 k23=>?_)
  refine wp_seq_k (fun K24 k24=>?_)
  refine rg [0,1,2] ?_
  refine sv 14 u22 ?_
  refine sw 15 (.int .i64 ((N:Int))) rfl (rv_lenn (e:=71) hr22 (tb_lenz rfl) _ _ rfl rfl (by kernel_rfl)) ?_
  have hb25:(decide ((96:Int)<(N:Int)))=false:=(by simp only [decide_eq_false_iff_not];omega)
  refine sw 16 (.bool false) rfl (RunV.bool (x:=decide ((96:Int)<(N:Int))) (rvk (by kernel_rfl)) hb25) ?_
  refine sq_nil ?_
  refine k24 _ _ ?_
  try clear k24 K24
  refine wp_cond_false rfl ?_
  refine wp_skip ?_
  refine k23 _ _ ?_
  try clear k23 K23
  refine wp_seq_k (fun K26 k26=>?_)
  refine rg [0,1,2,3,4,5,6] ?_
  refine sv 17 u22 ?_
  refine sw 18 (.int .i64 ((N:Int))) rfl (rv_lenn (e:=71) hr22 (tb_lenz rfl) _ _ rfl rfl (by kernel_rfl)) ?_
  refine sv 19 v ?_
  refine sw 20 (adr v (0*1)) rfl (rv_idxn (e:=49) hs tb_len (by decide) 0 (by omega) _ _ _ rfl rfl rfl (by kernel_rfl) (by kernel_rfl)) ?_
  obtain ⟨_,_,⟨u27,rfl,hr27⟩,at27⟩:=Sl.get hs (by decide) (tb_get (f:=(fun z0=>tb (fun z1=>(m z0 z1)) N)) (n:=R) (i:=0) (by omega))
  refine sw 21 u27 rfl (rv_ld1 u27 (at27.gr hB) _ _ rfl rfl (by kernel_rfl)) ?_
  refine sw 22 (.int .i64 ((N:Int))) rfl (rv_lenn (e:=71) hr27 (tb_lenz rfl) _ _ rfl rfl (by kernel_rfl)) ?_
  refine sw 23 (.bool false) rfl (RunV.bool (x:=((N:Int) !=(N:Int))) (rvk (by kernel_rfl)) (by simp)) ?_
  refine sq_nil ?_
  refine k26 _ _ ?_
  try clear k26 K26
  refine wp_cond_false rfl ?_
  refine wp_skip ?_
  refine k20 _ _ ?_
  try clear k20 K20
  refine rg [0,1] ?_
  refine sw 24 (.int .i64 (((k:Int)+1))) rfl (RunV.int (x:=IntKind.i64.wrap (((k:Int)+1))) (y:=((k:Int)+1)) (rvk (by kernel_rfl)) (by first | rfl | (rw [IntKind.wrap_i64];omega))) ?_
  refine sv 10 (.int .i64 (((k:Int)+1))) ?_
  refine sq_nil ?_
  refine k16 (R - (k+1)) ⟨List.toArray ?l28,[]⟩ _ (by omega) ?_
  exact ⟨k+1,(fun i=>List.getD ?l28 i undef),rfl,rfl,(by omega),hB⟩
 ·have hek:R=k:=by have:=of_decide_eq_false hb19;omega
  subst hek
  refine wp_exit ?_
  simp only [Exit.then,Exit.inBlock,↓reduceIte]
  refine k14 _ _ ?_
  try clear k14 K14
  refine wp_seq_k (fun K29 k29=>?_)
  refine rg [0] ?_
  refine sv 2 (.int .i64 0) ?_
  refine sq_nil ?_
  refine k29 _ _ ?_
  try clear k29 K29
  refine wp_ret ?_
  refine bodyPost_ret (v:=(.int .i64 0)) (ret_tmp rfl rfl) rfl ⟨?_,hB⟩
  exact rfl

set_option maxRecDepth 100000 in
set_option maxHeartbeats 1000000 in
theorem mx_Size {K R N:Nat} {v:Value} {m:Nat→Nat→Rat} (hR:R=0→N=0) (_hR2:R≤256) (_hN2:N≤96) {w:World} (hs:Sl (ERw (ERat K) 71 4) 49 1 w v (tb (fun z0=>tb (fun z1=>(m z0 z1)) N) R)):
    Calls Tryz.prog 23 #[v] w fun e w'=>e=.returned (.tuple #[.int .i64 (R:Int),.int .i64 (N:Int),.int .i64 0])∧Gr w w':=by
 go_enter Tryz.func23,Tryz.ntmps23
 have hB:=Gr.refl w
 refine wp_seq_k (fun K10 k10=>?_)
 refine rg [0,1,2] ?_
 refine sv 2 (.int .i64 0) ?_
 refine sv 3 (.int .i64 0) ?_
 refine sv 4 (.int .i64 0) ?_
 refine sq_nil ?_
 refine k10 _ _ ?_
 try clear k10 K10
 refine wp_seq_k (fun K11 k11=>?_)
 refine wp_seq_k (fun K12 k12=>?_)
 refine rg [0,1,2] ?_
 refine sv 6 v ?_
 refine se ?_
 refine ec 7 (mx_size (by omega) (by omega) (hs.gr (stab_rw (stab_rat K) 71 4) hB)) ?_
 rintro e13 w13 ⟨rfl,g13⟩
 refine ⟨_,rfl,?_⟩
 replace hB:=hB.trans g13
 simp only [p3,p4]
 refine sv 5 (.int .i64 0) ?_
 refine sq_nil ?_
 refine k12 _ _ ?_
 try clear k12 K12
 refine wp_seq_k (fun K14 k14=>?_)
 refine rg [0,1] ?_
 refine sv 8 (.int .i64 0) ?_
 refine sv 9 (.bool false) ?_
 refine sq_nil ?_
 refine k14 _ _ ?_
 try clear k14 K14
 refine wp_cond_false rfl ?_
 refine wp_skip ?_
 refine k11 _ _ ?_
 try clear k11 K11
 refine wp_seq_k (fun K15 k15=>?_)
 refine rg [0,1,2,3,4,5,6] ?_
 refine sv 11 v ?_
 refine sw 12 (.int .i64 ((R:Int))) rfl (rv_lenn (e:=49) hs (tb_lenz rfl) _ _ rfl rfl (by kernel_rfl)) ?_
 refine sv 13 v ?_
 refine se ?_
 refine ec 14 (mx_columnsp (hs.gr (stab_rw (stab_rat K) 71 4) hB) hR) ?_
 rintro e16 w16 ⟨rfl,g16⟩
 refine ⟨_,rfl,?_⟩
 replace hB:=hB.trans g16
 simp only [p3,p4]
 refine sv 2 (.int .i64 ((R:Int))) ?_
 refine sv 3 (.int .i64 ((N:Int))) ?_
 refine sv 4 (.int .i64 0) ?_
 refine sq_nil ?_
 refine k15 _ _ ?_
 try clear k15 K15
 refine wp_ret ?_
 refine bodyPost_ret (v:=(.tuple #[(.int .i64 ((R:Int))),(.int .i64 ((N:Int))),(.int .i64 0)])) (ret_tmp3 rfl rfl rfl rfl) rfl ⟨?_,hB⟩
 exact rfl

end Go.Proofs.YtepgkcimmdmgcaaGreatDoor
namespace Go.Proofs.YtepgkcimmdmgcaaGreatDoor
/-- the determinant by elimination -/
def dtE (R:Nat) (m:Mx_):Rat:=if (redR R R ⟨m,[],1⟩).p.length<R then 0 else (redR R R ⟨m,[],1⟩).d
end Go.Proofs.YtepgkcimmdmgcaaGreatDoor
namespace Go.Proofs.YtepgkcimmdmgcaaGreatDoor
theorem step_no {R K:Nat} {s:Rd} (h:∀ i,s.p.length≤i→i<R→s.m i K=0):stepR R K s=s:=by
  have hf:fnd s.m K (R - s.p.length) s.p.length=none:=by
    cases e:fnd s.m K (R - s.p.length) s.p.length with
    | none=>rfl
    | some i=>
      obtain ⟨e1,e2,e3,_⟩:=fnd_some e
      exact absurd (h i e1 (by omega)) e3
  unfold stepR
  rw [hf]
theorem red_full {R:Nat} {s:Rd} {K:Nat} (h:(redR R K s).p.length=R):∀ j,redR R (K+j) s=redR R K s
  | 0=>rfl
  | j+1=>by
    show stepR R (K+j) (redR R (K+j) s)=_
    rw [red_full h j]
    exact step_no fun i h1 h2=>absurd h1 (by omega)
end Go.Proofs.YtepgkcimmdmgcaaGreatDoor
namespace Go.Proofs.YtepgkcimmdmgcaaGreatDoor

/-- What is left of n behind its lowest i digits. -/
def tn (n:Int):Nat→Int
  | 0=>n
  | i+1=>tn n i/10
/-- Digit number i of n. -/
def td (n:Int) (i:Nat):Int:=tn n i % 10
theorem tn_zero (n:Int):tn n 0=n:=rfl
theorem tn_succ (n:Int) (i:Nat):tn n (i+1)=tn n i/10:=rfl
theorem td_nonneg (n:Int) (i:Nat):0≤td n i:=by unfold td;omega
theorem td_lt (n:Int) (i:Nat):td n i<10:=by unfold td;omega
theorem tn_split (n:Int) (i:Nat):tn n i=10*tn n (i+1)+td n i:=by unfold td;rw [tn_succ];omega
theorem tn_nonneg {n:Int} (h:0≤n):∀ i,0≤tn n i
  | 0=>h
  | i+1=>by have:=tn_nonneg h i;rw [tn_succ];omega
theorem tn_mono {a b:Int} (h:a≤b):∀ i,tn a i≤tn b i
  | 0=>h
  | i+1=>by have:=tn_mono h i;rw [tn_succ,tn_succ];omega
theorem tn_add (n:Int) (i:Nat):∀ k,tn n (i+k)=tn (tn n i) k
  | 0=>rfl
  | k+1=>by rw [← Nat.add_assoc,tn_succ,tn_add n i k,tn_succ]
theorem tn_zero_n:∀ i,tn 0 i=0
  | 0=>rfl
  | i+1=>by rw [tn_succ,tn_zero_n i];rfl
theorem tn_ge {n:Int} {i k:Nat} (h:tn n i=0) (hk:i≤k):tn n k=0:=by
  obtain ⟨j,rfl⟩:=Nat.le.dest hk
  rw [tn_add,h,tn_zero_n]
/-- n has len digits,and no zeros at the end. -/
structure NX (n:Int) (len:Nat):Prop where
  nonneg:0≤n
  top:tn n len=0
  full:0<len→tn n (len - 1)≠0
theorem NX.zero:NX 0 0:=⟨Int.le_refl _,rfl,by omega⟩
theorem NX.len_zero {n:Int} {len:Nat} (h:NX n len):len=0↔n=0:=by
  constructor
  · rintro rfl;exact h.top
  · rintro rfl
    have:=h.full
    rw [tn_zero_n] at this
    omega
theorem NX.topdig {n:Int} {len:Nat} (h:NX n len) (hl:0<len):td n (len - 1)=tn n (len - 1)∧0<td n (len - 1):=by
  have h1:=h.top
  have h2:=tn_split n (len - 1)
  rw [show len - 1+1=len by omega,h1] at h2
  have h3:=h.full hl
  have h4:=tn_nonneg h.nonneg (len - 1)
  omega
/-- From digits whose highest one is not 0. -/
theorem NX.mk' {n:Int} {len:Nat} (h0:0≤n) (h1:tn n len=0) (h2:0<len→td n (len - 1)≠0):NX n len:=by
  refine ⟨h0,h1,fun hl h3=>h2 hl ?_⟩
  unfold td;rw [h3];rfl
/-- The number of digits orders. -/
theorem NX.lt_of_len {a b:Int} {la lb:Nat} (ha:NX a la) (hb:NX b lb) (h:la<lb):a<b:=by
  refine Int.lt_of_not_ge fun hge=>?_
  have h1:=tn_mono hge (lb - 1)
  have h2:=tn_ge ha.top (show la≤lb - 1 by omega)
  have h3:=hb.full (by omega)
  have h4:=tn_nonneg hb.nonneg (lb - 1)
  omega
theorem NX.len_unique {a:Int} {la lb:Nat} (ha:NX a la) (hb:NX a lb):la=lb:=by
  rcases Nat.lt_trichotomy la lb with h | h | h
  · have:=ha.lt_of_len hb h;omega
  · exact h
  · have:=hb.lt_of_len ha h;omega
theorem NX.len_le {a b:Int} {la lb:Nat} (ha:NX a la) (hb:NX b lb) (h:a≤b):la≤lb:=by
  rcases Nat.lt_or_ge lb la with h1 | h1
  · have:=hb.lt_of_len ha h1;omega
  · exact h1
end Go.Proofs.YtepgkcimmdmgcaaGreatDoor
namespace Go.Proofs.YtepgkcimmdmgcaaGreatDoor
open Go.RowKit

/-- the cells of a slice of ints -/
structure DRow (w:World) (ao:Option Addr) (len:Nat) (d:Nat→Int):Prop where
  raw:0<len→∃ (b off:Nat) (cs:Array Value) (fr:Nat × Nat),ao=some ⟨b,off,none⟩∧w.heap[b]?=some (.cells cs 3 fr)∧∀ i,i<len→cs[off+i]?=some (.int .i64 (d i))
theorem DRow.at_ {w:World} {ao:Option Addr} {len:Nat} {d:Nat→Int} (h:DRow w ao len d) (hp:0<len):
    ∃ b off,ao=some ⟨b,off,none⟩∧∀ i,i<len→w.cell? ⟨b,off+i,none⟩=some (.int .i64 (d i)):=by
  obtain ⟨b,off,cs,fr,e,hb,hc⟩:=h.raw hp
  exact ⟨b,off,e,fun i hi=>by simp only [World.cell?,hb,Option.isSome_none];exact hc i hi⟩
theorem DRow.nil (w:World) (ao:Option Addr) (d:Nat→Int):DRow w ao 0 d:=⟨fun h=>by omega⟩
theorem DRow.shorter {w:World} {ao:Option Addr} {len k:Nat} {d:Nat→Int} (h:DRow w ao len d) (hk:k≤len):DRow w ao k d:=
  ⟨fun hp=>by
    obtain ⟨b,off,cs,fr,e,hb,hc⟩:=h.raw (by omega)
    exact ⟨b,off,cs,fr,e,hb,fun i hi=>hc i (by omega)⟩⟩
theorem DRow.congr {w:World} {ao:Option Addr} {len:Nat} {d d':Nat→Int} (h:DRow w ao len d) (e:∀ i,i<len→d i=d' i):DRow w ao len d':=
  ⟨fun hp=>by
    obtain ⟨b,off,cs,fr,e',hb,hc⟩:=h.raw hp
    exact ⟨b,off,cs,fr,e',hb,fun i hi=>by rw [hc i hi,e i hi]⟩⟩
theorem DRow.gr {w w':World} {ao:Option Addr} {len:Nat} {d:Nat→Int} (h:DRow w ao len d) (hk:Gr w w'):DRow w' ao len d:=
  ⟨fun hp=>by
    obtain ⟨b,off,cs,fr,e,hb,hc⟩:=h.raw hp
    exact ⟨b,off,cs,fr,e,hk.heap hb,hc⟩⟩
theorem DRow.below {w w':World} {ao:Option Addr} {len:Nat} {d:Nat→Int} (h:DRow w ao len d) (hb:Below w.heap.size w w'):DRow w' ao len d:=h.gr hb

/-- a slice of the decimal digits of n,none of them 0 at the end -/
def TenS (w:World) (v:Value) (n:Int):Prop:=∃ ao len cap,v=.slice ao len cap∧len≤cap∧NX n len∧DRow w ao len (td n)
/-- a slice of decimal digits of n,with zeros perhaps -/
def TenZ (w:World) (v:Value) (n:Int):Prop:=∃ ao len cap,v=.slice ao len cap∧len≤cap∧len≤900001∧tn n len=0∧DRow w ao len (td n)
theorem TenS.gr {w w':World} {v:Value} {n:Int} (h:TenS w v n) (g:Gr w w'):TenS w' v n:=by
  obtain ⟨ao,len,cap,h1,h2,h3,h4⟩:=h
  exact ⟨ao,len,cap,h1,h2,h3,h4.gr g⟩
theorem TenZ.gr {w w':World} {v:Value} {n:Int} (h:TenZ w v n) (g:Gr w w'):TenZ w' v n:=by
  obtain ⟨ao,len,cap,h1,h2,h3,h4,h5⟩:=h
  exact ⟨ao,len,cap,h1,h2,h3,h4,h5.gr g⟩
theorem OwnS.cells {w:World} {T B:Nat} {v:Value} {ys:List Value} (h:OwnS w T B v ys) (hp:0<ys.length):
    ∃ g cap cur,v=.slice (some ⟨g,0,none⟩) ys.length cap∧B≤g∧w.heap[g]?=some (.cells cur T (0,0))∧ys.length≤cap∧cap≤maxLen∧∀ i,i<ys.length→cur[i]?=ys[i]?:=by
  obtain ⟨g,cap,cur,e,hb,hg,h1,h2,h3,h4⟩:=h.block hp
  refine ⟨g,cap,cur,e,hb,hg,h1,h2,fun i hi=>?_⟩
  rw [← h4,List.getElem?_take_of_lt hi];simp
/-- the same,in a block of its own at least as new as B -/
def TenF (w:World) (B:Nat) (v:Value) (n:Int):Prop:=∃ ao len cap,v=.slice ao len cap∧len≤cap∧NX n len∧DRow w ao len (td n)∧∀ ad,ao=some ad→B≤ad.block
theorem TenF.s {w:World} {B:Nat} {v:Value} {n:Int} (h:TenF w B v n):TenS w v n:=by
  obtain ⟨ao,len,cap,h1,h2,h3,h4,_⟩:=h
  exact ⟨ao,len,cap,h1,h2,h3,h4⟩
theorem TenF.gr {w w':World} {B:Nat} {v:Value} {n:Int} (h:TenF w B v n) (g:Gr w w'):TenF w' B v n:=by
  obtain ⟨ao,len,cap,h1,h2,h3,h4,h5⟩:=h
  exact ⟨ao,len,cap,h1,h2,h3,h4.gr g,h5⟩
theorem TenF.mono {w:World} {B C:Nat} {v:Value} {n:Int} (h:TenF w B v n) (hC:C≤B):TenF w C v n:=by
  obtain ⟨ao,len,cap,h1,h2,h3,h4,h5⟩:=h
  exact ⟨ao,len,cap,h1,h2,h3,h4,fun ad e=>Nat.le_trans hC (h5 ad e)⟩
theorem TenF.set {w:World} {B g:Nat} {v:Value} {n:Int} (h:TenF w B v n) (hg:g<B) (i:Nat) (u:Value):TenF (w.setCell ⟨g,i,none⟩ u) B v n:=by
  obtain ⟨ao,len,cap,h1,h2,h3,h4,h5⟩:=h
  refine ⟨ao,len,cap,h1,h2,h3,⟨fun hp=>?_⟩,h5⟩
  obtain ⟨b,off,cs,fr,e,hb,hc⟩:=h4.raw hp
  have:=h5 _ e
  exact ⟨b,off,cs,fr,e,(Below.heap_setCell _ _ _ _ (by show b≠g;simp at this;omega)).trans hb,hc⟩
/-- block b is a row of n digits that may be written -/
structure DOwn (w:World) (b n:Nat) (d:Nat→Int):Prop where
  raw:∃ cs,w.heap[b]?=some (.cells cs 3)∧∀ i,i<n→cs[i]?=some (.int .i64 (d i))
theorem DOwn.lt {w:World} {b n:Nat} {d:Nat→Int} (h:DOwn w b n d):b<w.heap.size:=by
  obtain ⟨cs,hb,hc⟩:=h.raw;exact heap_lt hb
theorem DOwn.cell {w:World} {b n:Nat} {d:Nat→Int} (h:DOwn w b n d):∀ i,i<n→w.cell? ⟨b,i,none⟩=some (.int .i64 (d i)):=by
  obtain ⟨cs,hb,hc⟩:=h.raw
  exact fun i hi=>by simp only [World.cell?,hb,Option.isSome_none];exact hc i hi
theorem DOwn.free {w:World} {b n:Nat} {d:Nat→Int} (h:DOwn w b n d):∀ i,w.frozen? ⟨b,i,none⟩=false:=by
  obtain ⟨cs,hb,hc⟩:=h.raw
  exact fun i=>by simp [World.frozen?,hb]
theorem DOwn.set {w:World} {b n:Nat} {d:Nat→Int} (h:DOwn w b n d) {i:Nat} (_hi:i<n) (v:Int):DOwn (w.setCell ⟨b,i,none⟩ (.int .i64 v)) b n (upd d i v):=by
  obtain ⟨cs,hb,hc⟩:=h.raw
  refine ⟨_,heap_setCell_at _ hb,fun j hj=>?_⟩
  by_cases e:i=j
  · subst e
    have:=(Array.getElem?_eq_some_iff.1 (hc i hj)).1
    rw [upd_same];simp [this]
  · rw [upd_other d v (Ne.symm e),Array.getElem?_setIfInBounds_ne e];exact hc j hj
theorem DOwn.gr {w w':World} {b n:Nat} {d:Nat→Int} (h:DOwn w b n d) (hb:Gr w w'):DOwn w' b n d:=by
  obtain ⟨cs,hb',hc⟩:=h.raw
  exact ⟨cs,hb.heap hb',hc⟩
theorem DOwn.below {w w':World} {b n:Nat} {d:Nat→Int} (h:DOwn w b n d) (hb:Below w.heap.size w w'):DOwn w' b n d:=h.gr hb
theorem DOwn.congr {w:World} {b n:Nat} {d d':Nat→Int} (h:DOwn w b n d) (e:∀ i,i<n→d i=d' i):DOwn w b n d':=by
  obtain ⟨cs,hb',hc⟩:=h.raw
  exact ⟨cs,hb',fun i hi=>by rw [hc i hi,e i hi]⟩
theorem DOwn.row {w:World} {b n:Nat} {d:Nat→Int} (h:DOwn w b n d):DRow w (some ⟨b,0,none⟩) n d:=by
  obtain ⟨cs,hb',hc⟩:=h.raw
  exact ⟨fun _=>⟨b,0,cs,(0,0),rfl,hb',fun i hi=>by rw [Nat.zero_add];exact hc i hi⟩⟩
theorem DOwn.shorter {w:World} {b n k:Nat} {d:Nat→Int} (h:DOwn w b n d) (hk:k≤n):DOwn w b k d:=by
  obtain ⟨cs,hb',hc⟩:=h.raw
  exact ⟨cs,hb',fun i hi=>hc i (by omega)⟩
end Go.Proofs.YtepgkcimmdmgcaaGreatDoor
namespace Go.Proofs.YtepgkcimmdmgcaaGreatDoor
open Go

theorem tn_tenth (n:Int) (i:Nat):tn (n/10) i=tn n (i+1):=by
  rw [Nat.add_comm i 1,tn_add];rfl
theorem td_tenth (n:Int) (i:Nat):td (n/10) i=td n (i+1):=by unfold td;rw [tn_tenth]
theorem NX.small {n:Int} (h0:0<n) (h1:n<10):NX n 1:=⟨by omega,by rw [tn_succ,tn_zero];omega,fun _=>by show tn n 0≠0;rw [tn_zero];omega⟩
theorem NX.div {n:Int} {len:Nat} (h:NX n (len+1)):NX (n/10) len:=by
  refine ⟨by have:=h.nonneg;omega,by rw [tn_tenth];exact h.top,fun hl=>?_⟩
  rw [tn_tenth]
  have:=h.full (by omega)
  rwa [show len+1 - 1=len - 1+1 by omega] at this
theorem NX.exists (n:Nat):∃ len,NX (n:Int) len:=by
  induction n using Nat.strongRecOn with
  | _ n ih=>
    rcases Nat.eq_zero_or_pos n with e | hp
    · exact ⟨0,by subst e;exact NX.zero⟩
    · obtain ⟨k,hk⟩:=ih (n/10) (by omega)
      refine ⟨k+1,by omega,by rw [← tn_tenth];exact_mod_cast hk.top,fun _=>?_⟩
      rw [Nat.add_sub_cancel]
      rcases Nat.eq_zero_or_pos k with e | hk0
      · subst e;rw [tn_zero];omega
      · have:=hk.full hk0
        rw [Int.natCast_ediv,show ((10:Nat):Int)=10 from rfl,tn_tenth] at this
        rwa [show k - 1+1=k by omega] at this
/-- the digits of a text -/
theorem dec_td:∀ (len n:Nat),NX (n:Int) len→0<n→(Lib.decDigits n).length=len∧∀ i,i<len→(Lib.decDigits n)[len - 1 - i]?=some (UInt8.ofNat (48+(td (n:Int) i).toNat))
  | 0,n,h,hp=>by have:=h.len_zero.1 rfl;omega
  | len+1,n,h,hp=>by
    by_cases h1:n<10
    · have e:len+1=1:=h.len_unique (NX.small (by omega) (by omega))
      have e0:len=0:=by omega
      subst e0
      rw [dec_small h1]
      refine ⟨rfl,fun i hi=>?_⟩
      have e2:i=0:=by omega
      subst e2
      have:(td (n:Int) 0).toNat=n:=by unfold td;rw [tn_zero];omega
      rw [this];rfl
    · have hd:NX ((n/10:Nat):Int) len:=by
        have:=h.div
        rwa [show ((n:Int)/10)=((n/10:Nat):Int) by omega] at this
      obtain ⟨l1,l2⟩:=dec_td len (n/10) hd (by omega)
      rw [dec_step (by omega)]
      refine ⟨by simp [l1],fun i hi=>?_⟩
      cases i with
      | zero=>
        rw [Nat.sub_zero,Nat.add_sub_cancel,← l1,List.getElem?_append_right (Nat.le_refl _),Nat.sub_self]
        have:(td (n:Int) 0).toNat=n % 10:=by unfold td;rw [tn_zero];omega
        rw [this];rfl
      | succ i=>
        have hi':i<len:=by omega
        have e:len+1 - 1 - (i+1)=len - 1 - i:=by omega
        rw [e,List.getElem?_append_left (by omega),l2 i hi',← td_tenth]
        rw [show ((n/10:Nat):Int)=(n:Int)/10 by omega]
theorem dec_get {n len:Nat} (h:NX (n:Int) len) (hp:0<n) {k:Nat} (hk:k<len):(Lib.decDigits n)[k]?=some (UInt8.ofNat (48+(td (n:Int) (len - 1 - k)).toNat)):=by
  have:=(dec_td len n h hp).2 (len - 1 - k) (by omega)
  rwa [show len - 1 - (len - 1 - k)=k by omega] at this
theorem td_char (n:Int) (i:Nat):((UInt8.ofNat (48+(td n i).toNat)).toNat:Int)=48+td n i:=by
  have h0:=td_nonneg n i
  have h1:=td_lt n i
  rw [UInt8.toNat_ofNat']
  omega
theorem itoa_nonneg {z:Int} (h:0≤z):Lib.itoa z=Lib.decDigits z.natAbs:=by
  unfold Lib.itoa
  rw [if_neg (by omega)]
  congr 1
  omega
theorem itoa_neg {z:Int} (h:z<0):Lib.itoa z=45::Lib.decDigits z.natAbs:=by unfold Lib.itoa;rw [if_pos h]
theorem itoa_one:Lib.itoa 1=[49]:=by rw [itoa_nonneg (by omega)];exact dec_small (by decide)
theorem dec_head {n:Nat} (hp:0<n):∃ c,(Lib.decDigits n)[0]?=some c∧49≤c.toNat∧c.toNat≤57:=by
  obtain ⟨len,h⟩:=NX.exists n
  have hl:0<len:=by
    rcases Nat.eq_zero_or_pos len with e | e
    · have:=h.len_zero.1 e;omega
    · exact e
  refine ⟨_,dec_get h hp hl,?_⟩
  have h1:=h.topdig hl
  have h2:=td_char (n:Int) (len - 1)
  have h3:=td_lt (n:Int) (len - 1)
  rw [Nat.sub_zero]
  omega
theorem dec_zero:Lib.decDigits 0=[48]:=dec_small (by omega)
/-- every byte of the digits is a digit -/
theorem dec_all (n:Nat):∀ c ∈ Lib.decDigits n,48≤c.toNat∧c.toNat≤57:=by
  induction n using Nat.strongRecOn with
  | _ n ih=>
    by_cases h1:n<10
    · rw [dec_small h1]
      intro c hc
      simp only [List.mem_singleton] at hc
      subst hc
      rw [UInt8.toNat_ofNat'];omega
    · rw [dec_step (by omega)]
      intro c hc
      rcases List.mem_append.1 hc with hc | hc
      · exact ih _ (by omega) c hc
      · simp only [List.mem_singleton] at hc
        subst hc
        rw [UInt8.toNat_ofNat'];omega
/-- the value of digits -/
def valL (l:List UInt8):Nat:=l.foldl (fun a c=>a*10+(c.toNat - 48)) 0
theorem valL_snoc (l:List UInt8) (c:UInt8):valL (l++[c])=valL l*10+(c.toNat - 48):=by simp [valL,List.foldl_append]
theorem valL_dec (n:Nat):valL (Lib.decDigits n)=n:=by
  induction n using Nat.strongRecOn with
  | _ n ih=>
    by_cases h1:n<10
    · rw [dec_small h1]
      show 0*10+((UInt8.ofNat (48+n)).toNat - 48)=n
      rw [UInt8.toNat_ofNat'];omega
    · rw [dec_step (by omega),valL_snoc,ih _ (by omega),UInt8.toNat_ofNat'];omega
/-- digits without a zero in front are the text of their value -/
theorem dec_valL':∀ (n:Nat) (l:List UInt8),l.length=n→(∀ c ∈ l,48≤c.toNat∧c.toNat≤57)→l≠[]→(∀ c,l[0]?=some c→c.toNat≠48)→Lib.decDigits (valL l)=l∧0<valL l
  | 0,l,hl,_,hne,_=>absurd (List.length_eq_zero_iff.1 hl) hne
  | n+1,l,hl,hd,hne,h0=>by
    rcases List.eq_nil_or_concat l with e | ⟨l',c,e⟩
    · exact absurd e hne
    · rw [List.concat_eq_append] at e
      subst e
      have hc:=hd c (by simp)
      rw [valL_snoc]
      rcases List.eq_nil_or_concat l' with e | ⟨l2,c',e⟩
      · subst e
        have:=h0 c rfl
        have e1:valL []*10+(c.toNat - 48)=c.toNat - 48:=by simp [valL]
        rw [e1]
        refine ⟨?_,by omega⟩
        rw [dec_small (by omega),show 48+(c.toNat - 48)=c.toNat by omega]
        simp
      · have hne':l'≠[]:=by rw [e];simp
        obtain ⟨h1,h2⟩:=dec_valL' n l' (by simpa using hl) (fun x hx=>hd x (by simp [hx])) hne' (fun x hx=>h0 x (by
          rw [List.getElem?_append_left (List.length_pos_iff.2 hne')];exact hx))
        refine ⟨?_,by omega⟩
        rw [dec_step (by omega),show (valL l'*10+(c.toNat - 48))/10=valL l' by omega,h1,show 48+(valL l'*10+(c.toNat - 48)) % 10=c.toNat by omega]
        simp
theorem dec_valL (l:List UInt8) (h1:∀ c ∈ l,48≤c.toNat∧c.toNat≤57) (h2:l≠[]) (h3:∀ c,l[0]?=some c→c.toNat≠48):Lib.decDigits (valL l)=l∧0<valL l:=dec_valL' _ l rfl h1 h2 h3
theorem decDigits_inj {a b:Nat} (h:Lib.decDigits a=Lib.decDigits b):a=b:=by rw [← valL_dec a,← valL_dec b,h]
theorem itoa_inj {a b:Int} (h:Lib.itoa a=Lib.itoa b):a=b:=by
  have key:∀ n:Nat,∀ l,45::l≠Lib.decDigits n:=fun n l e=>by
    have:=dec_all n 45 (by rw [← e];simp)
    simp at this
  by_cases h1:a<0<;>by_cases h2:b<0
  · rw [itoa_neg h1,itoa_neg h2] at h
    have:=decDigits_inj (List.cons.inj h).2
    omega
  · rw [itoa_neg h1,itoa_nonneg (by omega)] at h
    exact absurd h (key _ _)
  · rw [itoa_nonneg (by omega),itoa_neg h2] at h
    exact absurd h.symm (key _ _)
  · rw [itoa_nonneg (by omega),itoa_nonneg (by omega)] at h
    have:=decDigits_inj h
    omega
end Go.Proofs.YtepgkcimmdmgcaaGreatDoor
namespace Go.Proofs.YtepgkcimmdmgcaaGreatDoor
open Go.RowKit

theorem getElem_toList {s:ByteArray} {l:List UInt8} (h:s.data.toList=l) {q:Nat} (hq:q<s.size) {c:UInt8} (hc:l[q]?=some c):s[q]=c:=by
  have h1:s.data.toList[q]?=some c:=by rw [h];exact hc
  rw [Array.getElem?_toList] at h1
  obtain ⟨h2,h3⟩:=Array.getElem?_eq_some_iff.1 h1
  exact h3
def bvals (l:List UInt8):List Value:=l.map fun c=>.int .u8 (c.toNat:Int)
theorem bvals_length (l:List UInt8):(bvals l).length=l.length:=by simp [bvals]
theorem OwnS.conv {w:World} {B:Nat} {v:Value} {l:List UInt8} (h:OwnS w 5 B v (bvals l)) (hp:l≠[]):
    ∃ g cap,v=.slice (some ⟨g,0,none⟩) l.length cap∧(convert 176 9 (.slice (some ⟨g,0,none⟩) l.length cap)).run Tryz.prog w=.ok (.string ⟨l.toArray⟩) w:=by
  obtain ⟨g,cap,cur,e,hb,hg,h1,h2,hc⟩:=h.cells (by rw [bvals_length];exact List.length_pos_iff.2 hp)
  rw [bvals_length] at e h1 hc
  refine ⟨g,cap,e,run_convert_bytes_back w _ _ 5 ⟨g,0,none⟩ cap l (by kernel_rfl) (by kernel_rfl) (by kernel_rfl) (fun j hj=>?_)⟩
  have e0:(⟨g,0,none⟩:Addr).add j=⟨g,j,none⟩:=by
    unfold Addr.add
    by_cases h0:j=0<;>simp [h0]
  rw [e0,cells_of hg,hc j hj]
  simp [bvals,hj]
theorem dec_ne' (n:Nat):Lib.decDigits n≠[]:=fun e=>by have:=dec_pos n;rw [e] at this;simp at this
theorem dec_len_sz {k:Nat} {z:Int} (h:Sz k z):(Lib.decDigits z.natAbs).length≤k+1:=dec_len_bits k _ h
theorem NX.len_bits {n len k:Nat} (h:NX (n:Int) len) (hn:n<2 ^ k):len≤k+1:=by
  rcases Nat.eq_zero_or_pos n with e | hp
  · have:=h.len_zero.2 (by omega);omega
  · have h1:=(dec_td len n h hp).1
    have h2:=dec_len_bits k n hn
    omega
theorem itoa_pos (z:Int):0<(Lib.itoa z).length:=by
  by_cases h:z<0
  · rw [itoa_neg h];simp
  · rw [itoa_nonneg (by omega)];exact dec_pos _
theorem TenS.len {w:World} {v:Value} {n k:Nat} (h:TenS w v (n:Int)) (hn:n<2 ^ k):∃ ao len cap,v=.slice ao len cap∧len≤cap∧NX (n:Int) len∧DRow w ao len (td (n:Int))∧len≤k+1:=by
  obtain ⟨ao,len,cap,h1,h2,h3,h4⟩:=h
  exact ⟨ao,len,cap,h1,h2,h3,h4,h3.len_bits hn⟩
theorem rv_seq {P:Program} {a:Act} {o:Oper} {w:World} (t t2:TypeId) (x y:Operand) (A B:List UInt8) (hop:o.op=.binOp .eql t x y t2) (hx:a.eval x=.string ⟨A.toArray⟩) (hy:a.eval y=.string ⟨B.toArray⟩):RunV P a o w (.bool (A==B)):=by
  unfold RunV execOp
  simp only [hop,hx,hy]
  simp [go_sem,eqGuard,ByteArray.toList_eq]
theorem rv_sne {P:Program} {a:Act} {o:Oper} {w:World} (t t2:TypeId) (x y:Operand) (A B:List UInt8) (hop:o.op=.binOp .neq t x y t2) (hx:a.eval x=.string ⟨A.toArray⟩) (hy:a.eval y=.string ⟨B.toArray⟩):RunV P a o w (.bool (A !=B)):=by
  unfold RunV execOp
  simp only [hop,hx,hy]
  simp [go_sem,eqGuard,ByteArray.toList_eq,bne]
end Go.Proofs.YtepgkcimmdmgcaaGreatDoor
namespace Go.Proofs.YtepgkcimmdmgcaaGreatDoor
open Go

def isD (c:UInt8):Bool:=decide (48≤c.toNat)&&decide (c.toNat≤57)
theorem isD_iff {c:UInt8}:isD c=true↔48≤c.toNat∧c.toNat≤57:=by simp [isD]
/-- a text without its sign -/
def strip:List UInt8→List UInt8
  | []=>[]
  | c::l=>if c=45 then l else c::l
theorem strip_cons (c:UInt8) (l:List UInt8):strip (c::l)=if c=45 then l else c::l:=rfl
/-- some bytes,all of them digits -/
def allD (l:List UInt8):Bool:=decide (0<l.length)&&l.all isD
/-- digits without a zero in front of others,or behind a sign -/
def badZ (s:List UInt8):Bool:=(strip s)[0]?==some 48&&(decide (1<(strip s).length)||decide (1<s.length))
theorem strip_cases (s:List UInt8):(s=45::strip s)∨(s=strip s∧s.head?≠some 45):=by
  cases s with
  | nil=>exact .inr ⟨rfl,by simp⟩
  | cons c l=>
    rw [strip_cons]
    by_cases h:c=45
    · rw [if_pos h,h];exact .inl rfl
    · rw [if_neg h];exact .inr ⟨rfl,by simpa using h⟩
theorem allD_all {l:List UInt8} (h:allD l=true):l≠[]∧∀ c ∈ l,48≤c.toNat∧c.toNat≤57:=by
  simp only [allD,Bool.and_eq_true,decide_eq_true_eq,List.all_eq_true] at h
  exact ⟨List.length_pos_iff.1 h.1,fun c hc=>isD_iff.1 (h.2 c hc)⟩
/-- an integer's text,out of its form -/
theorem form_itoa {s:List UInt8} (h1:allD (strip s)=true) (h2:badZ s=false):∃ z:Int,s=Lib.itoa z:=by
  obtain ⟨hne,hall⟩:=allD_all h1
  rcases strip_cases s with h | ⟨h,_⟩
  · -- a sign
    have h0:∀ c,(strip s)[0]?=some c→c.toNat≠48:=fun c hc e=>by
      have hc48:c=48:=by rw [← UInt8.toNat_inj];exact e
      unfold badZ at h2
      rw [hc,hc48] at h2
      have:1<s.length:=by rw [h];simp [List.length_pos_iff.2 hne]
      simp [this] at h2
    obtain ⟨e1,e2⟩:=dec_valL _ hall hne h0
    refine ⟨-(valL (strip s):Int),?_⟩
    rw [itoa_neg (by omega),show (-(valL (strip s):Int)).natAbs=valL (strip s) by omega,e1]
    exact h
  · by_cases h0:(strip s)[0]?=some 48
    · unfold badZ at h2
      rw [h0,← h] at h2
      have hl:s.length=1:=by
        have:0<s.length:=by rw [h];exact List.length_pos_iff.2 hne
        simp at h2;omega
      refine ⟨0,?_⟩
      rw [itoa_nonneg (by omega),show (0:Int).natAbs=0 from rfl,dec_zero]
      rw [← h] at h0
      match s,hl,h0 with
      | [c],_,h0=>simp at h0;rw [h0]
    · obtain ⟨e1,e2⟩:=dec_valL _ hall hne (fun c hc e=>h0 (by rw [hc];congr 1;rw [← UInt8.toNat_inj];exact e))
      refine ⟨(valL (strip s):Int),?_⟩
      rw [itoa_nonneg (by omega),Int.natAbs_natCast,e1]
      exact h
theorem dec_ne (n:Nat):Lib.decDigits n≠[]:=fun e=>by have:=dec_pos n;rw [e] at this;simp at this
theorem strip_itoa (z:Int):strip (Lib.itoa z)=Lib.decDigits z.natAbs:=by
  by_cases h:z<0
  · rw [itoa_neg h];simp [strip]
  · rw [itoa_nonneg (by omega)]
    rcases hd:Lib.decDigits z.natAbs with _ | ⟨c,l⟩
    · exact absurd hd (dec_ne _)
    · have:=dec_all z.natAbs c (by rw [hd];simp)
      rw [strip_cons,if_neg (fun e=>by rw [e] at this;simp at this)]
theorem allD_dec (n:Nat):allD (Lib.decDigits n)=true:=by
  simp only [allD,Bool.and_eq_true,decide_eq_true_eq,List.all_eq_true]
  exact ⟨dec_pos n,fun c hc=>isD_iff.2 (dec_all n c hc)⟩
/-- the text's value has fewer digits than the text bytes -/
theorem itoa_bits (z:Int) {m:Nat} (h:(Lib.itoa z).length≤m):z.natAbs<10 ^ m:=by
  have key:∀ n:Nat,n<10 ^ (Lib.decDigits n).length:=by
    intro n
    induction n using Nat.strongRecOn with
    | _ n ih=>
      by_cases h1:n<10
      · rw [dec_small h1];simpa using h1
      · rw [dec_step (by omega),List.length_append,List.length_singleton,Nat.pow_succ]
        have:=ih (n/10) (by omega)
        omega
  have h1:=key z.natAbs
  have h2:(Lib.decDigits z.natAbs).length≤m:=by
    by_cases hz:z<0
    · rw [itoa_neg hz] at h;simp at h;omega
    · rw [itoa_nonneg (by omega)] at h;exact h
  exact Nat.lt_of_lt_of_le h1 (Nat.pow_le_pow_right (by omega) h2)
theorem itoa_sz (z:Int) {m:Nat} (h:(Lib.itoa z).length≤m):z.natAbs<2 ^ (4*m):=by
  have:=itoa_bits z h
  rw [Nat.pow_mul]
  exact Nat.lt_of_lt_of_le this (Nat.pow_le_pow_left (by decide) m)
end Go.Proofs.YtepgkcimmdmgcaaGreatDoor
namespace Go.Proofs.YtepgkcimmdmgcaaGreatDoor
open Go.RowKit

theorem toList_get {D:ByteArray} {k:Nat} (h:k<D.size):D.data.toList[k]?=some D[k]:=by
  rw [Array.getElem?_toList,Array.getElem?_eq_getElem h];rfl
end Go.Proofs.YtepgkcimmdmgcaaGreatDoor
namespace Go.Proofs.YtepgkcimmdmgcaaGreatDoor
open Go

/-- what lies before the first slash,and behind it -/
def cutL:List UInt8→List UInt8 × Option (List UInt8)
  | []=>([],none)
  | c::l=>if c=47 then ([],some l) else (c::(cutL l).1,(cutL l).2)
def numL (s:List UInt8):List UInt8:=(cutL s).1
def denL (s:List UInt8):List UInt8:=(cutL s).2.getD [49]
theorem cutL_eq:∀ s,s=(match (cutL s).2 with | none=>(cutL s).1 | some d=>(cutL s).1++47::d)
  | []=>rfl
  | c::l=>by
    have ih:=cutL_eq l
    unfold cutL
    by_cases h:c=47
    · rw [if_pos h,h];rfl
    · rw [if_neg h]
      dsimp only
      cases hd:(cutL l).2 with
      | none=>rw [hd] at ih;dsimp only at ih ⊢;rw [← ih]
      | some d=>rw [hd] at ih;dsimp only at ih ⊢;rw [List.cons_append,← ih]
theorem cutL_none:∀ {s:List UInt8},(∀ c ∈ s,c≠47)→cutL s=(s,none)
  | [],_=>rfl
  | c::l,h=>by
    unfold cutL
    rw [if_neg (h c (by simp)),cutL_none (fun x hx=>h x (by simp [hx]))]
theorem cutL_some:∀ {a b:List UInt8},(∀ c ∈ a,c≠47)→cutL (a++47::b)=(a,some b)
  | [],b,_=>by simp [cutL]
  | c::l,b,h=>by
    rw [List.cons_append]
    unfold cutL
    rw [if_neg (h c (by simp)),cutL_some (fun x hx=>h x (by simp [hx]))]
def zerosL (l:List UInt8):Bool:=l.all (·==48)
/-- the integer with a text -/
def valZ (s:List UInt8):Int:=if s.head?=some 45 then -(valL (strip s):Int) else (valL (strip s):Int)
theorem valZ_itoa (z:Int):valZ (Lib.itoa z)=z:=by
  unfold valZ
  rw [strip_itoa,valL_dec]
  by_cases h:z<0
  · rw [itoa_neg h,List.head?_cons,if_pos rfl];omega
  · rw [itoa_nonneg (by omega),if_neg]
    · omega
    · intro e
      have:=dec_all z.natAbs 45 (List.mem_of_head? e)
      simp at this
/-- the error of the text of a rational -/
def ck2 (s:List UInt8) (most:Nat):Int:=
  if most<s.length then 5 else
  if (allD (strip (numL s))&&allD (denL s))=false then 14 else
  if zerosL (denL s)=true then 19 else
  if (badZ (numL s)||((denL s)[0]?==some 48))=true then 3 else
  if (decide ((numL s).length<s.length)&&((denL s==[49])||(Int.gcd (valZ (numL s)) (valZ (denL s)) !=1)))=true then 3 else 0
theorem numL_len (s:List UInt8):(numL s).length<s.length↔(cutL s).2≠none:=by
  have h:=cutL_eq s
  unfold numL
  cases hd:(cutL s).2 with
  | none=>rw [hd] at h;dsimp only at h;rw [← h];simp
  | some d=>
    rw [hd] at h;dsimp only at h
    have:s.length=(cutL s).1.length+(d.length+1):=by
      conv=>lhs;rw [h]
      simp
    simp;omega
theorem den_text {d:List UInt8} (h1:allD d=true) (h2:(d[0]?==some 48)=false):Lib.decDigits (valL d)=d∧0<valL d:=by
  obtain ⟨a,b⟩:=allD_all h1
  exact dec_valL d b a (fun c hc e=>by
    have:c=48:=by rw [← UInt8.toNat_inj];exact e
    rw [hc,this] at h2
    simp at h2)
theorem ck2_ratL {s:List UInt8} {most:Nat} (h:ck2 s most=0):(∃ q:Rat,s=ratL q)∧s.length≤most:=by
  unfold ck2 at h
  split at h
  · exact absurd h (by decide)
  rename_i hlen
  split at h
  · exact absurd h (by decide)
  rename_i hd
  split at h
  · exact absurd h (by decide)
  split at h
  · exact absurd h (by decide)
  rename_i hb
  split at h
  · exact absurd h (by decide)
  rename_i hg
  refine ⟨?_,by omega⟩
  have hb':badZ (numL s)=false∧((denL s)[0]?==some 48)=false:=by
    cases h1:badZ (numL s)<;>cases h2:((denL s)[0]?==some 48)<;>simp [h1,h2] at hb ⊢
  have hd1:allD (strip (numL s))=true∧allD (denL s)=true:=by
    cases h1:allD (strip (numL s))<;>cases h2:allD (denL s)<;>simp [h1,h2] at hd ⊢
  obtain ⟨z,hz⟩:=form_itoa hd1.1 hb'.1
  obtain ⟨hD,hD0⟩:=den_text hd1.2 hb'.2
  have hs:=cutL_eq s
  cases hc:(cutL s).2 with
  | none=>
    rw [hc] at hs;dsimp only at hs
    refine ⟨(z:Rat),?_⟩
    rw [ratL_w (Rat.den_intCast _),Rat.num_intCast,← hz]
    exact hs
  | some d=>
    have hdd:denL s=d:=by unfold denL;rw [hc];rfl
    have hlt:=(numL_len s).2 (by rw [hc];simp)
    rw [hdd] at hD hD0
    have hvd:valZ d=(valL d:Int):=by
      have:=valZ_itoa ((valL d:Nat):Int)
      rw [itoa_nonneg (by omega),Int.natAbs_natCast,hD] at this
      exact this
    have e1:valZ (numL s)=z:=by rw [hz,valZ_itoa]
    rw [hdd,e1,hvd,decide_eq_true hlt,Bool.true_and] at hg
    have hg':¬ (d==[49])=true∧Int.gcd z (valL d:Int)=1:=by
      simp only [Bool.or_eq_true,bne_iff_ne,ne_eq,not_or,Classical.not_not] at hg
      exact hg
    have h1:valL d≠1:=fun e=>hg'.1 (by
      rw [← hD,e,dec_small (by omega)];rfl)
    have hcop:Nat.Coprime z.natAbs (valL d):=hg'.2
    refine ⟨⟨z,valL d,by omega,hcop⟩,?_⟩
    have e2:Lib.itoa ((valL d:Nat):Int)=d:=by rw [itoa_nonneg (by omega),Int.natAbs_natCast,hD]
    rw [ratL_f (by exact h1)]
    rw [hc] at hs;dsimp only at hs
    show s=Lib.itoa z++[47]++Lib.itoa ((valL d:Nat):Int)
    rw [e2,← hz,List.append_assoc]
    exact hs
theorem itoa_noslash (z:Int):∀ c ∈ Lib.itoa z,c≠47:=by
  intro c hc e
  subst e
  by_cases h:z<0
  · rw [itoa_neg h] at hc
    rcases List.mem_cons.1 hc with h1 | h1
    · exact absurd h1 (by decide)
    · have:=dec_all _ _ h1;simp at this
  · rw [itoa_nonneg (by omega)] at hc
    have:=dec_all _ _ hc;simp at this
theorem cutL_ratL (q:Rat):cutL (ratL q)=(Lib.itoa q.num,if q.den=1 then none else some (Lib.itoa (q.den:Int))):=by
  unfold ratL
  by_cases h:q.den=1
  · rw [if_pos h,if_pos h,cutL_none (itoa_noslash _)]
  · rw [if_neg h,if_neg h,List.append_assoc]
    exact cutL_some (itoa_noslash _)
theorem numL_ratL (q:Rat):numL (ratL q)=Lib.itoa q.num:=by unfold numL;rw [cutL_ratL]
end Go.Proofs.YtepgkcimmdmgcaaGreatDoor
namespace Go.Proofs.YtepgkcimmdmgcaaGreatDoor
open Go.RowKit

theorem itoa_n (n:Nat) (h1:n<1000000000) {w:World} (ht:Tab w):
    Calls Tryz.prog 103 #[.int .i64 (n:Int)] w fun e w'=>e=.returned (.string ⟨(Lib.decDigits n).toArray⟩)∧Gr w w':=itoa_t n (by omega) (by omega) ht
theorem short9 {ao:Option Addr} {la ca u:Nat} {w:World} (h:Mag w ao la ca (u:Int)) (hl:la≤1000000):
    Calls Tryz.prog 102 #[.slice ao la ca,.int .u32 1000000000] w fun e w'=>
      (∃ go k cap,e=.returned (.tuple #[.slice go k cap,.int .u32 ((u % 1000000000:Nat):Int)])∧Mag w' go k cap ((u/1000000000:Nat):Int))∧Gr w w':=
  short_c ao la ca u 1000000000 w (by omega) h (by omega) (by omega)
theorem Mag.pos0 {w:World} {ao:Option Addr} {la ca u:Nat} (h:Mag w ao la ca (u:Int)) (hb:decide ((0:Int)<(la:Int))=true):0<u:=by
  have h0:(0:Int)<la:=by simpa using hb
  rcases Nat.eq_zero_or_pos u with e | e
  · have:=h.nl.len_zero.2 (by omega);omega
  · exact e
theorem Mag.zero0 {w:World} {ao:Option Addr} {la ca u:Nat} (h:Mag w ao la ca (u:Int)) (hb:decide ((0:Int)<(la:Int))=false):u=0:=by
  have h0:¬ (0:Int)<la:=by simpa using hb
  have:=h.nl.len_zero.1 (by omega)
  omega
theorem Mag.len9 {w:World} {ao:Option Addr} {la ca u k:Nat} (h:Mag w ao la ca (u:Int)) (hu:u<2 ^ k) (hk:k≤1000000):la≤1000000:=by
  have:=h.nl.len_sz (show Sz k (u:Int) by unfold Sz;simpa using hu)
  omega
set_option maxRecDepth 100000 in
set_option maxHeartbeats 4000000 in
theorem text_pos {k N:Nat} {s:Bool} {ao:Option Addr} {la ca:Nat} {w:World} (ha:Mag w ao la ca (N:Int)) (hN:0<N) (hNk:N<2 ^ k) (_hk:k≤900000) (ht:Tab w):
    Calls Tryz.prog 81 #[(.agg #[(.bool (s)),(.slice ao la ca)])] w fun e w'=>e=.returned (.string ⟨((if s then [45] else [])++Lib.decDigits N).toArray⟩)∧Gr w w':=by
 have hla:0<la:=by
    rcases Nat.eq_zero_or_pos la with e | e
    · have:=ha.nl.len_zero.1 e;omega
    · exact e
 have e0:((la:Int)==(0:Int))=false:=by simp;omega
 go_enter Tryz.func81,Tryz.ntmps81
 have hB:=Gr.refl w
 refine wp_seq_k (fun K1 k1=>?_)
 refine rg [0,1] ?_
 refine se ?_
 refine eb 69 #[(.bool (s)),(.slice ao la ca)] 1 hB fun b2 w2 g2 L2 o2 q2 hB=>?_
 simp only [p3,p4]
 refine sv 2 (.string ⟨([]:List UInt8).toArray⟩) ?_
 refine sq_nil ?_
 refine k1 _ _ ?_
 try clear k1 K1
 refine wp_seq_k (fun K3 k3=>?_)
 refine wp_seq_k (fun K4 k4=>?_)
 refine rg [0,1,2,3] ?_
 refine sv 9 (.pointer (some ⟨b2,1,none⟩)) ?_
 refine sw 10 (.slice ao la ca) rfl (rk 67 1 L2) ?_
 refine sv 11 (.int .i64 ((la:Int))) ?_
 refine sw 12 (.bool false) rfl (RunV.bool (x:=((la:Int)==(0:Int))) (rvk (by kernel_rfl)) e0) ?_
 refine sq_nil ?_
 refine k4 _ _ ?_
 try clear k4 K4
 refine wp_cond_false rfl ?_
 refine wp_skip ?_
 refine k3 _ _ ?_
 try clear k3 K3
 refine wp_seq_k (fun K5 k5=>?_)
 refine rg [0] ?_
 refine sv 3 (.slice none 0 0) ?_
 refine sq_nil ?_
 refine k5 _ _ ?_
 try clear k5 K5
 refine wp_seq_k (fun K6 k6=>?_)
 refine wp_seq_k (fun K7 k7=>?_)
 refine rg [0,1,2] ?_
 refine sv 13 (.pointer (some ⟨b2,1,none⟩)) ?_
 refine sw 14 (.slice ao la ca) rfl (rk 67 1 L2) ?_
 refine sv 4 (.slice ao la ca) ?_
 refine sq_nil ?_
 refine k7 _ _ ?_
 try clear k7 K7
 refine wp_block ?_
 replace ha:=ha.kp g2.kp
 refine wp_loop_inv (a:=⟨List.toArray ?l8,[]⟩) (fun n a w'=>∃ (u:Nat) (L:List (List UInt8)) (v:Value) (mo:Option Addr) (ml:Nat) (mc:Nat) (u8:Nat→Value),u=n∧a=⟨[(u8 0),(.pointer (some ⟨b2,0,none⟩)),(.string ⟨([]:List UInt8).toArray⟩),v,(.slice mo ml mc),(u8 5),(u8 6),(u8 7),undef,(u8 9),(u8 10),(u8 11),(.bool false),(u8 13),(u8 14),(u8 15),(u8 16),(u8 17),(u8 18),(u8 19),(u8 20),(u8 21),(u8 22),(u8 23),(u8 24),(u8 25),(u8 26),(u8 27),(u8 28),(u8 29),(u8 30),(u8 31),(u8 32),(u8 33),(u8 34),(u8 35),(u8 36),(u8 37),(u8 38),(u8 39),undef,undef,undef,undef,undef,undef,undef,undef,undef].toArray,[]⟩∧L++grps u=grps N∧u<2 ^ k∧Mag w' mo ml mc (u:Int)∧OwnS w' 9 w.heap.size v (L.map strV)∧Lc w' b2 #[(.bool (s)),(.slice ao la ca)] 69∧Gr w w') (N) ?_ ?_
 ·exact ⟨N,[],.slice none 0 0,ao,la,ca,(fun i=>List.getD ?l8 i undef),rfl,rfl,(by simp),hNk,ha,(OwnS.nil _ _ _),L2,hB⟩
 rintro n8 a8 w8 ⟨u,L,v,mo,ml,mc,u8,rfl,rfl,hX,hu,hm,hown,L2,hB⟩ K8 k8
 have hln:L.length≤1000000:=by have h1:=grps_len k N hNk;rw [← hX,List.length_append] at h1;omega
 have h9:=dec9 u
 have h9r:(Lib.repeatL [48] (9 - (Lib.decDigits (u % 1000000000)).length)).length≤9:=by rw [Lib.repeatL_length];simp
 refine wp_seq_k (fun K9 k9=>?_)
 refine wp_seq_k (fun K10 k10=>?_)
 refine rg [0,1,2] ?_
 refine sv 15 (.slice mo ml mc) ?_
 refine sv 16 (.int .i64 ((ml:Int))) ?_
 refine sv 17 (.bool (decide ((0:Int)<(ml:Int)))) ?_
 refine sq_nil ?_
 refine k10 _ _ ?_
 try clear k10 K10
 refine wp_cond_split (t:=decide ((0:Int)<(ml:Int))) rfl (fun hb11=>?_) (fun hb11=>?_)
 ·have hu0:=hb11
  refine wp_skip ?_
  refine k9 _ _ ?_
  try clear k9 K9
  refine wp_block ?_
  refine wp_seq_k (fun K12 k12=>?_)
  refine rg [0,1,2,3,4,5,6] ?_
  refine sv 19 (.slice mo ml mc) ?_
  refine se ?_
  refine ec 20 (short9 hm (hm.len9 hu (by omega))) ?_
  rintro e13 w13 ⟨⟨go13,k13,cap13,rfl,h13⟩,g13⟩
  refine ⟨_,rfl,?_⟩
  replace hB:=hB.trans g13
  simp only [p3,p4]
  refine sv 18 (.tuple #[(.slice go13 k13 cap13),(.int .u32 (((u % 1000000000:Nat):Int)))]) ?_
  refine sv 21 (.slice go13 k13 cap13) ?_
  refine sv 22 (.int .u32 (((u % 1000000000:Nat):Int))) ?_
  refine sv 5 (.slice go13 k13 cap13) ?_
  refine sv 6 (.int .u32 (((u % 1000000000:Nat):Int))) ?_
  refine sq_nil ?_
  refine k12 _ _ ?_
  try clear k12 K12
  refine wp_seq_k (fun K14 k14=>?_)
  refine rg [0,1,2,3] ?_
  refine sv 23 (.int .u32 (((u % 1000000000:Nat):Int))) ?_
  refine sw 24 (.int .i64 (((u % 1000000000:Nat):Int))) rfl (RunV.int (x:=IntKind.i64.wrap (((u % 1000000000:Nat):Int))) (y:=((u % 1000000000:Nat):Int)) (rvk (by kernel_rfl)) (by first | rfl | (rw [IntKind.wrap_i64];omega))) ?_
  refine se ?_
  refine ec 25 (itoa_n (u % 1000000000) (by omega) (ht.gr hB)) ?_
  rintro e15 w15 ⟨rfl,g15⟩
  refine ⟨_,rfl,?_⟩
  replace hB:=hB.trans g15
  simp only [p3,p4]
  refine sv 7 (.string ⟨(Lib.decDigits (u % 1000000000):List UInt8).toArray⟩) ?_
  refine sq_nil ?_
  refine k14 _ _ ?_
  try clear k14 K14
  refine wp_seq_k (fun K16 k16=>?_)
  refine wp_seq_k (fun K17 k17=>?_)
  refine rg [0,1,2] ?_
  refine sv 26 (.slice go13 k13 cap13) ?_
  refine sv 27 (.int .i64 ((k13:Int))) ?_
  refine sv 28 (.bool (decide ((0:Int)<(k13:Int)))) ?_
  refine sq_nil ?_
  refine k17 _ _ ?_
  try clear k17 K17
  refine wp_cond_split (t:=decide ((0:Int)<(k13:Int))) rfl (fun hb18=>?_) (fun hb18=>?_)
  ·refine rg [0,1,2,3,4,5,6] ?_
   refine sv 29 (.string ⟨(Lib.decDigits (u % 1000000000):List UInt8).toArray⟩) ?_
   refine sv 30 (.int .i64 (((Lib.decDigits (u % 1000000000)).length:Int))) ?_
   refine sw 31 (.int .i64 ((9 - ((Lib.decDigits (u % 1000000000)).length:Int)))) rfl (RunV.int (x:=IntKind.i64.wrap ((9 - ((Lib.decDigits (u % 1000000000)).length:Int)))) (y:=(9 - ((Lib.decDigits (u % 1000000000)).length:Int))) (rvk (by kernel_rfl)) (by first | rfl | (rw [IntKind.wrap_i64];omega))) ?_
   refine se ?_
   refine ec 32 (repeat9 (Lib.decDigits (u % 1000000000)).length (dec9 u) _) ?_
   rintro e19 w19 ⟨rfl,g19⟩
   refine ⟨_,rfl,?_⟩
   replace hB:=hB.trans g19
   simp only [p3,p4]
   refine sv 33 (.string ⟨(Lib.decDigits (u % 1000000000):List UInt8).toArray⟩) ?_
   refine sw 34 (.string ⟨((Lib.repeatL [48] (9 - (Lib.decDigits (u % 1000000000)).length))++(Lib.decDigits (u % 1000000000)):List UInt8).toArray⟩) rfl (rv_cat 9 9 _ _ (Lib.repeatL [48] (9 - (Lib.decDigits (u % 1000000000)).length)) (Lib.decDigits (u % 1000000000)) rfl rfl rfl (by omega)) ?_
   refine sv 7 (.string ⟨((Lib.repeatL [48] (9 - (Lib.decDigits (u % 1000000000)).length))++(Lib.decDigits (u % 1000000000)):List UInt8).toArray⟩) ?_
   refine sq_nil ?_
   refine k16 _ _ ?_
   try clear k16 K16
   refine wp_seq_k (fun K20 k20=>?_)
   refine rg [0,1,2,3,4] ?_
   refine sv 35 v ?_
   refine sv 36 (.string ⟨((Lib.repeatL [48] (9 - (Lib.decDigits (u % 1000000000)).length))++(Lib.decDigits (u % 1000000000)):List UInt8).toArray⟩) ?_
   refine se ?_
   refine eff_bs 9 1 #[(.string ⟨((Lib.repeatL [48] (9 - (Lib.decDigits (u % 1000000000)).length))++(Lib.decDigits (u % 1000000000)):List UInt8).toArray⟩)] (some 37) rfl (fun _=>by kernel_rfl) (fun b21 w21 g21 L21 q21=>?_)
   replace L2:=L2.gr (g13.trans (g15.trans g19))
   replace hB:=hB.trans g21
   simp only [putl,p3,p4]
   refine se ?_
   replace hown:=hown.gr (g13.trans (g15.trans (g19.trans g21)))
   refine eff_append1 _ _ 59 9 w.heap.size (.string ⟨([]:List UInt8).toArray⟩) v _ b21 (.string ⟨((Lib.repeatL [48] (9 - (Lib.decDigits (u % 1000000000)).length))++(Lib.decDigits (u % 1000000000)):List UInt8).toArray⟩) 1 (some 38) 16 rfl rfl rfl rfl hown L21 rfl w hB (Nat.le_refl _) (Below.size hB) (by rw [List.length_map];exact hln) (by decide) (by kernel_rfl) (by kernel_rfl) rfl (fun v22 w22 own22 wt22 hb22=>?_)
   replace hB:=hb22
   replace own22:=OwnS.snoc (f:=strV) own22
   simp only [putl,p3,p4]
   refine sv 3 v22 ?_
   refine sq_nil ?_
   refine k20 _ _ ?_
   try clear k20 K20
   refine rg [0,1] ?_
   refine sv 39 (.slice go13 k13 cap13) ?_
   refine sv 4 (.slice go13 k13 cap13) ?_
   refine sq_nil ?_
   have kq23:=g15.kp.trans (g19.kp.trans (g21.kp.trans (wt22.kp (by decide))))
   replace h13:=h13.kp kq23
   replace L2:=wt22.lc (L2.gr g21) (by decide)
   refine k8 (u/1000000000) ⟨List.toArray ?l24,[]⟩ _ (Nat.div_lt_self (Mag.pos0 hm hu0) (by omega)) ?_
   exact ⟨u/1000000000,_,v22,go13,k13,cap13,(fun i=>List.getD ?l24 i undef),rfl,rfl,(grps_step hX (Mag.pos0 hm hu0) (grp_hi (Mag.pos0 h13 hb18))),(Nat.lt_of_le_of_lt (Nat.div_le_self _ _) hu),h13,own22,L2,hB⟩
  ·refine wp_skip ?_
   refine k16 _ _ ?_
   try clear k16 K16
   refine wp_seq_k (fun K25 k25=>?_)
   refine rg [0,1,2,3,4] ?_
   refine sv 35 v ?_
   refine sv 36 (.string ⟨(Lib.decDigits (u % 1000000000):List UInt8).toArray⟩) ?_
   refine se ?_
   refine eff_bs 9 1 #[(.string ⟨(Lib.decDigits (u % 1000000000):List UInt8).toArray⟩)] (some 37) rfl (fun _=>by kernel_rfl) (fun b26 w26 g26 L26 q26=>?_)
   replace L2:=L2.gr (g13.trans g15)
   replace hB:=hB.trans g26
   simp only [putl,p3,p4]
   refine se ?_
   replace hown:=hown.gr (g13.trans (g15.trans g26))
   refine eff_append1 _ _ 59 9 w.heap.size (.string ⟨([]:List UInt8).toArray⟩) v _ b26 (.string ⟨(Lib.decDigits (u % 1000000000):List UInt8).toArray⟩) 1 (some 38) 16 rfl rfl rfl rfl hown L26 rfl w hB (Nat.le_refl _) (Below.size hB) (by rw [List.length_map];exact hln) (by decide) (by kernel_rfl) (by kernel_rfl) rfl (fun v27 w27 own27 wt27 hb27=>?_)
   replace hB:=hb27
   replace own27:=OwnS.snoc (f:=strV) own27
   simp only [putl,p3,p4]
   refine sv 3 v27 ?_
   refine sq_nil ?_
   refine k25 _ _ ?_
   try clear k25 K25
   refine rg [0,1] ?_
   refine sv 39 (.slice go13 k13 cap13) ?_
   refine sv 4 (.slice go13 k13 cap13) ?_
   refine sq_nil ?_
   have kq28:=g15.kp.trans (g26.kp.trans (wt27.kp (by decide)))
   replace h13:=h13.kp kq28
   replace L2:=wt27.lc (L2.gr g26) (by decide)
   refine k8 (u/1000000000) ⟨List.toArray ?l29,[]⟩ _ (Nat.div_lt_self (Mag.pos0 hm hu0) (by omega)) ?_
   exact ⟨u/1000000000,_,v27,go13,k13,cap13,(fun i=>List.getD ?l29 i undef),rfl,rfl,(grps_step hX (Mag.pos0 hm hu0) (grp_lo (by rw [Mag.zero0 h13 hb18];omega))),(Nat.lt_of_le_of_lt (Nat.div_le_self _ _) hu),h13,own27,L2,hB⟩
 ·have hz:=Mag.zero0 hm hb11
  subst hz
  rw [grps_zero,List.append_nil] at hX
  have hL0:0<L.length:=by rw [hX];exact grps_len0 hN
  have htx:L.reverse.flatten=Lib.decDigits N:=by rw [hX];exact grps_text N N (Nat.le_refl _) hN
  have hfl:L.reverse.flatten.length≤140737488355328:=by rw [htx];have:=dec_len_bits k N hNk;omega
  refine wp_exit ?_
  simp only [Exit.then,Exit.inBlock,↓reduceIte]
  refine k6 _ _ ?_
  try clear k6 K6
  refine wp_seq_k (fun K30 k30=>?_)
  refine rg [0,1] ?_
  refine sv 40 v ?_
  refine se ?_
  refine eff_call (some 41) rfl (by kernel_rfl) (reverse_own hown hL0) ?_
  rintro e31 w31 ⟨rfl,own31,wt31,hg31⟩
  refine ⟨_,rfl,?_⟩
  replace hB:=hg31 _ hB (Nat.le_refl _)
  simp only [putl,p3,p4]
  refine sq_nil ?_
  refine k30 _ _ ?_
  try clear k30 K30
  refine wp_seq_k (fun K32 k32=>?_)
  refine rg [0,1,2] ?_
  refine sv 42 v ?_
  refine se ?_
  refine ec 43 (join_own own31 (by rw [List.length_reverse];exact hL0) hfl (by rw [List.length_reverse];exact hln)) ?_
  rintro e33 w33 ⟨rfl,g33⟩
  refine ⟨_,rfl,?_⟩
  replace hB:=hB.trans g33
  simp only [p3,p4]
  refine sv 8 (.string ⟨(((L).reverse).flatten:List UInt8).toArray⟩) ?_
  refine sq_nil ?_
  refine k32 _ _ ?_
  try clear k32 K32
  refine wp_seq_k (fun K34 k34=>?_)
  refine wp_seq_k (fun K35 k35=>?_)
  refine rg [0,1] ?_
  refine sv 44 (.pointer (some ⟨b2,0,none⟩)) ?_
  replace L2:=(wt31.lc L2 (by decide)).gr g33
  refine sw 45 (.bool (s)) rfl (rk 4 0 L2) ?_
  refine sq_nil ?_
  refine k35 _ _ ?_
  try clear k35 K35
  refine wp_cond_split (t:=s) rfl (fun hb36=>?_) (fun hb36=>?_)
  ·refine wp_seq_k (fun K37 k37=>?_)
   refine rg [0,1,2] ?_
   refine sv 46 (.string ⟨(((L).reverse).flatten:List UInt8).toArray⟩) ?_
   refine sw 47 (.string ⟨(([45])++(((L).reverse).flatten):List UInt8).toArray⟩) rfl (rv_cat 9 9 _ _ ([45]) (((L).reverse).flatten) rfl rfl rfl (by simp only [List.length_cons,List.length_nil];omega)) ?_
   refine sv 2 (.string ⟨(([45])++(((L).reverse).flatten):List UInt8).toArray⟩) ?_
   refine sq_nil ?_
   refine k37 _ _ ?_
   try clear k37 K37
   refine wp_ret ?_
   simp only [Exit.then]
   refine bodyPost_ret (v:=(.string ⟨(([45])++(((L).reverse).flatten):List UInt8).toArray⟩)) (ret_tmp rfl rfl) rfl ⟨?_,hB⟩
   exact (by rw [hb36];show Ending.returned _=_;rw [htx];rfl)
  ·refine wp_skip ?_
   refine k34 _ _ ?_
   try clear k34 K34
   refine wp_seq_k (fun K38 k38=>?_)
   refine rg [0,1] ?_
   refine sv 48 (.string ⟨(((L).reverse).flatten:List UInt8).toArray⟩) ?_
   refine sv 2 (.string ⟨(((L).reverse).flatten:List UInt8).toArray⟩) ?_
   refine sq_nil ?_
   refine k38 _ _ ?_
   try clear k38 K38
   refine wp_ret ?_
   refine bodyPost_ret (v:=(.string ⟨(((L).reverse).flatten:List UInt8).toArray⟩)) (ret_tmp rfl rfl) rfl ⟨?_,hB⟩
   exact (by rw [hb36];show Ending.returned _=_;rw [htx];rfl)

set_option maxRecDepth 100000 in
set_option maxHeartbeats 1000000 in
theorem text_zero {ao:Option Addr} {ca:Nat} (w:World):
    Calls Tryz.prog 81 #[(.agg #[(.bool false),(.slice ao 0 ca)])] w fun e w'=>e=.returned (.string ⟨#[48]⟩)∧Gr w w':=by
 go_enter Tryz.func81,Tryz.ntmps81
 have hB:=Gr.refl w
 refine wp_seq_k (fun K1 k1=>?_)
 refine rg [0,1] ?_
 refine se ?_
 refine eb 69 #[(.bool false),(.slice ao 0 ca)] 1 hB fun b2 w2 g2 L2 o2 q2 hB=>?_
 simp only [p3,p4]
 refine sv 2 (.string ⟨([]:List UInt8).toArray⟩) ?_
 refine sq_nil ?_
 refine k1 _ _ ?_
 try clear k1 K1
 refine wp_seq_k (fun K3 k3=>?_)
 refine wp_seq_k (fun K4 k4=>?_)
 refine rg [0,1,2,3] ?_
 refine sv 9 (.pointer (some ⟨b2,1,none⟩)) ?_
 refine sw 10 (.slice ao 0 ca) rfl (rk 67 1 L2) ?_
 refine sv 11 (.int .i64 0) ?_
 refine sv 12 (.bool true) ?_
 refine sq_nil ?_
 refine k4 _ _ ?_
 try clear k4 K4
 refine wp_cond_true rfl ?_
 refine wp_seq_k (fun K5 k5=>?_)
 refine rg [0] ?_
 refine sv 2 (.string ⟨([48]:List UInt8).toArray⟩) ?_
 refine sq_nil ?_
 refine k5 _ _ ?_
 try clear k5 K5
 refine wp_ret ?_
 simp only [Exit.then]
 refine bodyPost_ret (v:=(.string ⟨([48]:List UInt8).toArray⟩)) (ret_tmp rfl rfl) rfl ⟨?_,hB⟩
 exact rfl

theorem text_i {k:Nat} {x y:Value} {z:Int} {w:World} (hz:IsInt w k x y z) (hk:k≤900000) (ht:Tab w):
    Calls Tryz.prog 81 #[.agg #[x,y]] w fun e w'=>e=.returned (.string ⟨(Lib.itoa z).toArray⟩)∧Gr w w':=by
  obtain ⟨ao,la,ca,rfl,rfl,ha,hs⟩:=hz
  by_cases h0:z=0
  · subst h0
    have:la=0:=ha.nl.len_zero.2 rfl
    subst this
    have e1:decide ((0:Int)<0)=false:=by decide
    have e2:Lib.itoa 0=[48]:=by unfold Lib.itoa;rw [if_neg (by omega)];exact dec_small (by decide)
    rw [e1,e2]
    exact text_zero w
  · have:=text_pos (s:=decide (z<0)) ha (by omega) (by unfold Sz at hs;exact hs) hk ht
    refine this.mono ?_
    rintro e w1 ⟨he,g⟩
    refine ⟨?_,g⟩
    rw [he]
    unfold Lib.itoa
    by_cases hz:z<0
    · simp [hz]
    · have:z.toNat=z.natAbs:=by omega
      simp [hz,this]

theorem itoa_len {k:Nat} {z:Int} (h:Sz k z):(Lib.itoa z).length≤k+2:=by
  unfold Lib.itoa
  have h1:=dec_len_bits k z.natAbs h
  split
  · simp;omega
  · have:z.toNat=z.natAbs:=by omega
    rw [this];omega
theorem divInt_parts {N D:Int} (h0:0<D):(Rat.divInt N D).num=N/(Int.gcd N D:Int)∧((Rat.divInt N D).den:Int)=D/(Int.gcd N D:Int)∧0<(Int.gcd N D:Int):=by
  refine ⟨by rw [Rat.num_divInt,Int.sign_eq_one_of_pos h0,Int.one_mul,Int.gcd_comm],?_,?_⟩
  · rw [Rat.den_divInt,if_neg (by omega),Int.gcd_comm,Int.natCast_ediv]
    congr 1
    omega
  · have:Int.gcd N D≠0:=by rw [Ne,Int.gcd_eq_zero_iff];omega
    omega
theorem sz_div {k:Nat} {N g:Int} (hN:Sz k N) (hg:0<g):Sz k (N/g):=by
  refine hN.of_le ?_
  rcases Int.lt_or_le N 0 with h | h
  · have h1:N≤N/g:=by
      rw [Int.le_ediv_iff_mul_le hg]
      have:N*g≤N*1:=Int.mul_le_mul_of_nonpos_left (by omega) (by omega)
      omega
    have h2:N/g<0:=Int.ediv_neg_of_neg_of_pos h hg
    omega
  · have h1:N/g≤N:=Int.ediv_le_self _ h
    have h2:0≤N/g:=Int.ediv_nonneg h (by omega)
    omega
end Go.Proofs.YtepgkcimmdmgcaaGreatDoor
namespace Go.Proofs.YtepgkcimmdmgcaaGreatDoor
/-- a numerator of less than a bits,a denominator of less than d -/
def RZ (a d:Nat) (q:Rat):Prop:=Sz a q.num∧Sz d (q.den:Int)
theorem RZ.mono {a d b e:Nat} {q:Rat} (h:RZ a d q) (h1:a≤b) (h2:d≤e):RZ b e q:=⟨h.1.mono h1,h.2.mono h2⟩
theorem rz_divInt {a d:Nat} {x y:Int} (hx:Sz a x) (hy:Sz d y) (h0:y≠0):RZ a d (Rat.divInt x y):=by
  have key:∀ {x y:Int},Sz a x→Sz d y→0<y→RZ a d (Rat.divInt x y):=by
    intro x y hx hy h0
    obtain ⟨h1,h2,h3⟩:=divInt_parts (N:=x) h0
    unfold RZ
    rw [h1,h2]
    exact ⟨sz_div hx h3,sz_div hy h3⟩
  rcases Int.lt_or_gt_of_ne h0 with h | h
  · have:=key hx.neg hy.neg (by omega)
    rwa [Rat.neg_divInt_neg] at this
  · exact key hx hy h
theorem rz_of {a d:Nat} {q:Rat} (x y:Int) (e:q*(y:Rat)=(x:Rat)) (hx:Sz a x) (hy:Sz d y) (h0:y≠0):RZ a d q:=by
  have h1:(y:Rat)≠0:=fun h=>h0 (Rat.intCast_inj.1 (by rw [h];rfl))
  have:q=Rat.divInt x y:=by rw [Rat.divInt_eq_div,← e];grind
  rw [this];exact rz_divInt hx hy h0
theorem nd (q:Rat):q*((q.den:Int):Rat)=(q.num:Rat)∧(q.den:Int)≠0:=by
  have hd:(q.den:Int)≠0:=by have:=q.den_pos;omega
  have h1:((q.den:Int):Rat)≠0:=fun h=>hd (Rat.intCast_inj.1 (by rw [h];rfl))
  refine ⟨?_,hd⟩
  have h2:(q.num:Rat)/((q.den:Int):Rat)=q:=by rw [← Rat.divInt_eq_div];exact Rat.num_divInt_den q
  have h3:(q.num:Rat)=q*((q.den:Int):Rat):=by grind
  exact h3.symm
theorem RZ.mul {a d b e:Nat} {x y:Rat} (hx:RZ a d x) (hy:RZ b e y):RZ (a+b) (d+e) (x*y):=by
  obtain ⟨h1,h2⟩:=nd x
  obtain ⟨h3,h4⟩:=nd y
  refine rz_of (x.num*y.num) ((x.den:Int)*(y.den:Int)) ?_ (hx.1.mul hy.1) (hx.2.mul hy.2) (Int.mul_ne_zero h2 h4)
  rw [Rat.intCast_mul,Rat.intCast_mul]
  grind
theorem RZ.add {a d b e:Nat} {x y:Rat} (hx:RZ a d x) (hy:RZ b e y):RZ (max (a+e) (b+d)+1) (d+e) (x+y):=by
  obtain ⟨h1,h2⟩:=nd x
  obtain ⟨h3,h4⟩:=nd y
  refine rz_of (x.num*(y.den:Int)+y.num*(x.den:Int)) ((x.den:Int)*(y.den:Int)) ?_ (((hx.1.mul hy.2).mono (Nat.le_max_left ..)).add' ((hy.1.mul hx.2).mono (Nat.le_max_right ..))) (hx.2.mul hy.2) (Int.mul_ne_zero h2 h4)
  rw [Rat.intCast_mul,Rat.intCast_add,Rat.intCast_mul,Rat.intCast_mul]
  grind
theorem RZ.neg {a d:Nat} {x:Rat} (hx:RZ a d x):RZ a d (-x):=by
  unfold RZ
  rw [Rat.neg_num,Rat.neg_den]
  exact ⟨hx.1.neg,hx.2⟩
theorem RZ.int {a:Nat} {z:Int} (h:Sz a z):RZ a 1 (z:Rat):=by
  unfold RZ
  rw [Rat.num_intCast,Rat.den_intCast]
  exact ⟨h,by unfold Sz;decide⟩
theorem RZ.zero (a d:Nat) (hd:0<d):RZ a d 0:=(RZ.int (a:=a) (z:=0) (Sz.zero a)).mono (Nat.le_refl _) hd
theorem num_ne {p:Rat} (h:p≠0):p.num≠0:=fun e=>h (Rat.num_eq_zero.1 e)
theorem RZ.inv {a d:Nat} {x:Rat} (hx:RZ a d x) (h0:x≠0):RZ d a (1/x):=by
  obtain ⟨h1,h2⟩:=nd x
  refine rz_of (x.den:Int) x.num ?_ hx.2 hx.1 (num_ne h0)
  grind
/-- an entry of another row -/
theorem rz_less {A D a d:Nat} {x c y p:Rat} (hx:RZ A D x) (hy:RZ A D y) (hc:RZ a d c) (hp:RZ a d p) (h0:p≠0):RZ (A+D+a+d+1) (2*D+a+d) (x - c*(y*(1/p))):=by
  have h1:RZ (a+(A+d)) (d+(D+a)) (-(c*(y*(1/p)))):=(hc.mul (hy.mul (hp.inv h0))).neg
  obtain ⟨x1,x2⟩:=nd x
  obtain ⟨y1,y2⟩:=nd y
  obtain ⟨c1,c2⟩:=nd c
  obtain ⟨p1,p2⟩:=nd p
  refine rz_of (x.num*((c.den:Int)*(y.den:Int)*p.num)+(-(c.num*y.num*(p.den:Int)))*(x.den:Int)) ((x.den:Int)*((c.den:Int)*(y.den:Int)*p.num)) ?_ ?_ ?_ ?_
  · rw [Rat.intCast_mul,Rat.intCast_mul,Rat.intCast_mul,Rat.intCast_add,Rat.intCast_mul,Rat.intCast_mul,Rat.intCast_mul,Rat.intCast_mul,Rat.intCast_neg,Rat.intCast_mul,Rat.intCast_mul]
    generalize ((x.den:Int):Rat)=xd at*
    generalize ((y.den:Int):Rat)=yd at*
    generalize ((c.den:Int):Rat)=cd at*
    generalize ((p.den:Int):Rat)=pd at*
    rw [← x1,← y1,← c1,← p1]
    grind
  · refine ((hx.1.mul ((hc.2.mul hy.2).mul hp.1)).mono (m:=A+D+a+d) (by omega)).add' ((((hc.1.mul hy.1).mul hp.2).neg.mul hx.2).mono (by omega))
  · exact (hx.2.mul ((hc.2.mul hy.2).mul hp.1)).mono (by omega)
  · exact Int.mul_ne_zero x2 (Int.mul_ne_zero (Int.mul_ne_zero c2 y2) (num_ne h0))
theorem rz_over {A D a d:Nat} {y p:Rat} (hy:RZ A D y) (hp:RZ a d p) (h0:p≠0):RZ (A+d) (D+a) (y*(1/p)):=hy.mul (hp.inv h0)

/-- bounds:of the first columns,of the others,of the determinant -/
structure Bd where
  a:Nat
  d:Nat
  A:Nat
  D:Nat
  e:Nat
def Bd.nx (z:Bd):Bd:=⟨2*z.a+2*z.d+1,z.a+3*z.d,z.A+z.D+z.a+z.d+1,2*z.D+z.a+z.d,z.e+z.a+z.d⟩
def Bd.it (z:Bd):Nat→Bd
  | 0=>z
  | n+1=>(z.it n).nx
structure Bd.le (z y:Bd):Prop where
  a:z.a≤y.a
  d:z.d≤y.d
  A:z.A≤y.A
  D:z.D≤y.D
  e:z.e≤y.e
theorem Bd.le_nx (z:Bd):z.le z.nx:=⟨by simp only [Bd.nx];omega,by simp only [Bd.nx];omega,by simp only [Bd.nx];omega,by simp only [Bd.nx];omega,by simp only [Bd.nx];omega⟩
theorem Bd.le_it (z:Bd) {n m:Nat} (h:n≤m):(z.it n).le (z.it m):=by
  induction m with
  | zero => obtain rfl : n = 0 := by omega
            exact ⟨Nat.le_refl _,Nat.le_refl _,Nat.le_refl _,Nat.le_refl _,Nat.le_refl _⟩
  | succ m ih=>
    rcases Nat.lt_or_ge m n with h1 | h1
    · obtain rfl:n=m+1:=by omega
      exact ⟨Nat.le_refl _,Nat.le_refl _,Nat.le_refl _,Nat.le_refl _,Nat.le_refl _⟩
    · have h2:=ih h1
      have h3:=(z.it m).le_nx
      exact ⟨Nat.le_trans h2.1 h3.1,Nat.le_trans h2.2 h3.2,Nat.le_trans h2.3 h3.3,Nat.le_trans h2.4 h3.4,Nat.le_trans h2.5 h3.5⟩
/-- the numbers of R rows are within bounds;the first n columns are the short ones -/
structure Bnd (R n N:Nat) (z:Bd) (s:Rd):Prop where
  fst:∀ i,i<R→∀ k,k<n→RZ z.a z.d (s.m i k)
  snd:∀ i,i<R→∀ k,n≤k→k<N→RZ z.A z.D (s.m i k)
  det:RZ z.e z.e s.d
theorem Bnd.step {R n N:Nat} {z:Bd} {s:Rd} {K:Nat} (h:Bnd R n N (z.it s.p.length) s) (hK:K<n):Bnd R n N (z.it (stepR R K s).p.length) (stepR R K s):=by
  unfold stepR
  split
  · exact h
  · next i hf=>
    obtain ⟨h1,h2,h3,h4⟩:=fnd_some hf
    have hi:i<R:=by omega
    have hr:s.p.length<R:=by omega
    simp only [List.length_append,List.length_cons,List.length_nil,Nat.zero_add]
    rw [show z.it (s.p.length+1)=(z.it s.p.length).nx from rfl]
    generalize z.it s.p.length=y at*
    have hs:swp s.m i s.p.length s.p.length K=s.m i K:=by
      unfold swp
      by_cases e:s.p.length=i
      · rw [if_pos e,e]
      · rw [if_neg e,if_pos rfl]
    have fs:∀ j,j<R→∀ k,k<n→RZ y.a y.d (swp s.m i s.p.length j k):=fun j hj k hk=>by
      unfold swp;split
      · exact h.fst _ hr _ hk
      · split
        · exact h.fst _ hi _ hk
        · exact h.fst _ hj _ hk
    have sn:∀ j,j<R→∀ k,n≤k→k<N→RZ y.A y.D (swp s.m i s.p.length j k):=fun j hj k hk hk2=>by
      unfold swp;split
      · exact h.snd _ hr _ hk hk2
      · split
        · exact h.snd _ hi _ hk hk2
        · exact h.snd _ hj _ hk hk2
    have hp:RZ y.a y.d (swp s.m i s.p.length s.p.length K):=fs _ hr _ hK
    have h0:swp s.m i s.p.length s.p.length K≠0:=by rw [hs];exact h3
    generalize swp s.m i s.p.length=a at*
    generalize s.p.length=r at*
    refine ⟨fun j hj k hk=>?_,fun j hj k hk hk2=>?_,?_⟩
    · simp only [clr,scl,Bd.nx]
      by_cases e:j=r
      · rw [if_pos e,if_pos trivial]
        exact (rz_over (fs _ hr _ hk) hp h0).mono (by omega) (by omega)
      · rw [if_neg e,if_neg e,if_pos trivial]
        exact (rz_less (fs _ hj _ hk) (fs _ hr _ hk) (fs _ hj _ hK) hp h0).mono (by omega) (by omega)
    · simp only [clr,scl,Bd.nx]
      by_cases e:j=r
      · rw [if_pos e,if_pos trivial]
        exact (rz_over (sn _ hr _ hk hk2) hp h0).mono (by omega) (by omega)
      · rw [if_neg e,if_neg e,if_pos trivial]
        exact (rz_less (sn _ hj _ hk hk2) (sn _ hr _ hk hk2) (fs _ hj _ hK) hp h0).mono (by omega) (by omega)
    · have hd:RZ y.e y.e (if i=r then s.d else -s.d):=by
        split
        · exact h.det
        · exact h.det.neg
      exact (hd.mul hp).mono (by simp only [Bd.nx];omega) (by simp only [Bd.nx];omega)
theorem stepR_le (R K:Nat) (s:Rd):s.p.length≤(stepR R K s).p.length∧(stepR R K s).p.length≤s.p.length+1:=by
  rcases stepR_p R K s with h | h<;>rw [h]<;>simp
theorem redR_le (R:Nat) (s:Rd):∀ K,(redR R K s).p.length≤s.p.length+K
  | 0=>Nat.le_refl _
  | K+1=>by have:=(stepR_le R K (redR R K s)).2;have:=redR_le R s K;simp only [redR] at*;omega
theorem Bnd.red {R n N:Nat} {z:Bd} {m:Mx_} {d:Rat} (h:Bnd R n N z ⟨m,[],d⟩):∀ K,K≤n→Bnd R n N (z.it (redR R K ⟨m,[],d⟩).p.length) (redR R K ⟨m,[],d⟩)
  | 0,_=>h
  | K+1,hK=>(Bnd.red h K (by omega)).step hK
/-- all numbers of less than b bits -/
def RdZ (R N b:Nat) (s:Rd):Prop:=(∀ i,i<R→∀ k,k<N→RZ b b (s.m i k))∧RZ b b s.d
theorem Bnd.all {R n N b P:Nat} {z:Bd} {m:Mx_} {d:Rat} (h:Bnd R n N z ⟨m,[],d⟩) (hn:n≤P∨R≤P) (hb:max (max (z.it P).a (z.it P).d) (max (max (z.it P).A (z.it P).D) (z.it P).e)≤b):∀ K,K≤n→RdZ R N b (redR R K ⟨m,[],d⟩):=fun K hK=>by
  have h1:=h.red K hK
  have hl:=(red_inv R m d K).len
  have hk:=redR_le R ⟨m,[],d⟩ K
  have h2:=z.le_it (n:=(redR R K ⟨m,[],d⟩).p.length) (m:=P) (by simp only [List.length_nil] at hk;omega)
  have h3:=h2.1;have h4:=h2.2;have h5:=h2.3;have h6:=h2.4;have h7:=h2.5
  refine ⟨fun i hi k hk=>?_,h1.det.mono (by omega) (by omega)⟩
  rcases Nat.lt_or_ge k n with hkn | hkn
  · exact (h1.fst i hi k hkn).mono (by omega) (by omega)
  · exact (h1.snd i hi k hkn hk).mono (by omega) (by omega)
end Go.Proofs.YtepgkcimmdmgcaaGreatDoor
namespace Go.Proofs.YtepgkcimmdmgcaaGreatDoor
open Go.RowKit

set_option maxRecDepth 100000 in
set_option maxHeartbeats 1000000 in
theorem reduced_n1 {k:Nat} {n0 n1 d0 d1:Value} {N D:Int} {w:World} (hn:IsInt w k n0 n1 N) (hd:IsInt w k d0 d1 D) (_hk:k+k+k+k+k+k+66≤1000000) (_h0:D<0) (hg:(sgn ((Int.gcd ((-N)) ((-D)):Int) - 1) !=0)=false):
    Calls Tryz.prog 86 #[(.agg #[n0,n1]),(.agg #[d0,d1])] w fun e w'=>(∃ x y x2 y2,e=.returned (.agg #[x,y,x2,y2])∧IsInt w' k x y ((-N))∧IsInt w' k x2 y2 ((-D)))∧Gr w w':=by
 go_enter Tryz.func86,Tryz.ntmps86
 have hB:=Gr.refl w
 refine wp_seq_k (fun K1 k1=>?_)
 refine rg [0,1,2] ?_
 refine se ?_
 refine eb 69 #[n0,n1] 2 hB fun b2 w2 g2 L2 o2 q2 hB=>?_
 simp only [p3,p4]
 refine se ?_
 refine eb 69 #[d0,d1] 3 hB fun b3 w3 g3 L3 o3 q3 hB=>?_
 have ne2_3:=L2.ne o3
 simp only [p3,p4]
 refine se ?_
 refine ea 71 #[(.bool false),(.slice none 0 0),(.bool false),(.slice none 0 0)] 4 hB fun b4 w4 g4 L4 o4 q4 hB=>?_
 replace L2:=L2.gr g3
 have ne2_4:=L2.ne o4
 have ne3_4:=L3.ne o4
 simp only [p3,p4]
 refine sq_nil ?_
 refine k1 _ _ ?_
 try clear k1 K1
 refine wp_seq_k (fun K5 k5=>?_)
 refine wp_seq_k (fun K6 k6=>?_)
 refine rg [0,1,2] ?_
 replace L3:=L3.gr g4
 refine sw 6 (.agg #[d0,d1]) rfl (rl 69 0 [d0,d1] L3) ?_
 refine se ?_
 have kq8:=g2.kp.trans (g3.kp.trans g4.kp)
 replace hd:=hd.kp kq8
 refine ec 7 (sign_neg hd (by omega)) ?_
 rintro e7 w7 ⟨rfl,g7⟩
 refine ⟨_,rfl,?_⟩
 replace hB:=hB.trans g7
 simp only [p3,p4]
 refine sv 8 (.bool true) ?_
 refine sq_nil ?_
 refine k6 _ _ ?_
 try clear k6 K6
 refine wp_cond_true rfl ?_
 have gd10:=Gr.drew w7
 replace hB:=hB.trans gd10
 replace L2:=L2.gr (g4.trans (g7.trans gd10))
 replace L3:=L3.gr (g7.trans gd10)
 refine wp_region_ort (fun _=>True) [([4],(fun w'=>Lc w' b2 #[n0,n1] 69)),([5],(fun w'=>Lc w' b3 #[d0,d1] 69))] [(true,0),(true,2),(false,1),(false,3),(false,4),(false,5)] (by kernel_rfl) (by kernel_rfl) (by kernel_rfl) (by decide) (fun _ _ _ _ _ h=>h) trivial ⟨fun _=>L2,fun _=>L3,trivial⟩ ?_
 refine tw 9 (.agg #[n0,n1]) rfl (fun w' hS=>(rl 69 0 [n0,n1] (hS.2.1 (by kernel_rfl)))) ?_
 refine tw 11 (.agg #[d0,d1]) rfl (fun w' hS=>(rl 69 0 [d0,d1] (hS.2.2.1 (by kernel_rfl)))) ?_
 refine te ?_
 have kq13:=g2.kp.trans (g3.kp.trans (g4.kp.trans (g7.kp.trans gd10.kp)))
 replace hn:=hn.kp kq13
 refine ec 10 (neg_i hn) ?_
 rintro e12 w12 ⟨⟨x12,y12,rfl,h12⟩,g12⟩
 refine ⟨_,rfl,?_⟩
 replace hB:=hB.trans g12
 replace L2:=L2.gr g12
 replace L3:=L3.gr g12
 refine ⟨trivial,⟨fun _=>L2,fun _=>L3,trivial⟩,?_⟩
 simp only [p3,p4]
 refine te ?_
 have kq16:=g7.kp.trans (gd10.kp.trans g12.kp)
 replace hd:=hd.kp kq16
 refine ec 12 (neg_i hd) ?_
 rintro e15 w15 ⟨⟨x15,y15,rfl,h15⟩,g15⟩
 refine ⟨_,rfl,?_⟩
 replace hB:=hB.trans g15
 replace L2:=L2.gr g15
 replace L3:=L3.gr g15
 refine ⟨trivial,⟨fun _=>L2,fun _=>L3,trivial⟩,?_⟩
 simp only [p3,p4]
 refine te ?_
 refine es 69 0 (.agg #[x12,y12]) [x12,y12] #[x12,y12] L2 hB q2 ⟨h12.one0,h12.one1,trivial⟩ fun w18 st18 kp18 L2 hB=>?_
 replace L3:=st18.lc L3 (Ne.symm ne2_3)
 refine ⟨trivial,⟨cameT (by kernel_rfl),fun _=>L3,trivial⟩,?_⟩
 refine te ?_
 refine es 69 0 (.agg #[x15,y15]) [x15,y15] #[x15,y15] L3 hB q3 ⟨h15.one0,h15.one1,trivial⟩ fun w20 st20 kp20 L3 hB=>?_
 refine ⟨trivial,⟨cameT (by kernel_rfl),cameT (by kernel_rfl),trivial⟩,?_⟩
 refine ort_nil ?_
 refine k5 _ _ ?_
 try clear k5 K5
 refine wp_seq_k (fun K21 k21=>?_)
 refine rg [0,1,2,3,4] ?_
 replace L2:=st20.lc L2 ne2_3
 refine sw 13 (.agg #[x12,y12]) rfl (rl 69 0 [x12,y12] L2) ?_
 refine sw 14 (.agg #[x15,y15]) rfl (rl 69 0 [x15,y15] L3) ?_
 refine se ?_
 have kq23:=g15.kp.trans (kp18.trans kp20)
 replace h12:=h12.kp kq23
 have kq24:=kp18.trans kp20
 replace h15:=h15.kp kq24
 refine ec 15 (gcd_i h12 h15 (by omega)) ?_
 rintro e22 w22 ⟨⟨x22,y22,rfl,h22⟩,g22⟩
 refine ⟨_,rfl,?_⟩
 replace hB:=hB.trans g22
 simp only [p3,p4]
 refine se ?_
 refine ea 69 #[(.bool false),(.slice none 0 0)] 5 hB fun b25 w25 g25 L25 o25 q25 hB=>?_
 replace L2:=L2.gr g22
 have ne2_25:=L2.ne o25
 replace L3:=L3.gr g22
 have ne3_25:=L3.ne o25
 replace L4:=(st20.lc (st18.lc (L4.gr (g7.trans (gd10.trans (g12.trans g15)))) (Ne.symm ne2_4)) (Ne.symm ne3_4)).gr g22
 have ne4_25:=L4.ne o25
 simp only [p3,p4]
 refine se ?_
 refine es 69 0 (.agg #[x22,y22]) [x22,y22] #[x22,y22] L25 hB q25 ⟨h22.one0,h22.one1,trivial⟩ fun w26 st26 kp26 L25 hB=>?_
 refine sq_nil ?_
 refine k21 _ _ ?_
 try clear k21 K21
 refine wp_seq_k (fun K27 k27=>?_)
 refine wp_seq_k (fun K28 k28=>?_)
 have gd35:=Gr.drew w26
 replace hB:=hB.trans gd35
 replace L25:=L25.gr gd35
 refine wp_region_ord (fun w'=>Lc w' b25 #[x22,y22] 69) [(true,0),(false,1),(false,2),(true,3)] (by kernel_rfl) (by kernel_rfl) (by kernel_rfl) (by decide) (fun _ _ _ _ _ h=>h) L25 ?_
 refine ow 16 (.agg #[x22,y22]) rfl (fun w' hS=>(rl 69 0 [x22,y22] hS)) ?_
 refine oe ?_
 refine ec 17 (one_i _) ?_
 rintro e37 w37 ⟨⟨x37,y37,rfl,h37⟩,g37⟩
 refine ⟨_,rfl,?_⟩
 replace hB:=hB.trans g37
 replace L25:=L25.gr g37
 refine ⟨L25,?_⟩
 simp only [p3,p4]
 refine oe ?_
 have kq40:=g25.kp.trans (kp26.trans (gd35.kp.trans g37.kp))
 replace h22:=h22.kp kq40
 refine ec 18 (compare_i h22 h37 (by omega) (by omega)) ?_
 rintro e39 w39 ⟨rfl,g39⟩
 refine ⟨_,rfl,?_⟩
 replace hB:=hB.trans g39
 replace L25:=L25.gr g39
 refine ⟨L25,?_⟩
 simp only [p3,p4]
 refine ow 19 (.bool false) rfl (fun w' hS=>(RunV.bool (x:=(sgn ((Int.gcd ((-N)) ((-D)):Int) - 1) !=(0:Int))) (rvk (by kernel_rfl)) hg)) ?_
 refine ord_nil ?_
 refine k28 _ _ ?_
 try clear k28 K28
 refine wp_cond_false rfl ?_
 refine wp_skip ?_
 refine k27 _ _ ?_
 try clear k27 K27
 refine wp_seq_k (fun K41 k41=>?_)
 refine rg [0,1,2,3] ?_
 replace L2:=(st26.lc (L2.gr g25) ne2_25).gr (gd35.trans (g37.trans g39))
 refine sw 34 (.agg #[x12,y12]) rfl (rl 69 0 [x12,y12] L2) ?_
 replace L3:=(st26.lc (L3.gr g25) ne3_25).gr (gd35.trans (g37.trans g39))
 refine sw 35 (.agg #[x15,y15]) rfl (rl 69 0 [x15,y15] L3) ?_
 refine sv 36 (.agg #[x12,y12,x15,y15]) ?_
 refine se ?_
 replace L4:=(st26.lc (L4.gr g25) ne4_25).gr (gd35.trans (g37.trans g39))
 refine es 71 0 (.agg #[x12,y12,x15,y15]) [x12,y12,x15,y15] #[x12,y12,x15,y15] L4 hB q4 ⟨h12.one0,h12.one1,h15.one0,h15.one1,trivial⟩ fun w42 st42 kp42 L4 hB=>?_
 refine sq_nil ?_
 refine k41 _ _ ?_
 try clear k41 K41
 refine wp_ret ?_
 refine bodyPost_ret (v:=(.agg #[x12,y12,x15,y15])) (ret_cell _ _ _ rfl rfl L4 (by kernel_rfl)) rfl ⟨?_,hB⟩
 have kq43:=g22.kp.trans (g25.kp.trans (kp26.trans (gd35.kp.trans (g37.kp.trans (g39.kp.trans kp42)))))
 replace h12:=h12.kp kq43
 replace h15:=h15.kp kq43
 exact ⟨_,_,_,_,rfl,h12,h15⟩

set_option maxRecDepth 100000 in
set_option maxHeartbeats 1000000 in
theorem reduced_ng {k:Nat} {n0 n1 d0 d1:Value} {N D:Int} {w:World} (hn:IsInt w k n0 n1 N) (hd:IsInt w k d0 d1 D) (_hk:k+k+k+k+k+k+66≤1000000) (_h0:D<0) (hg:(sgn ((Int.gcd ((-N)) ((-D)):Int) - 1) !=0)=true) (hxn:0<(Int.gcd ((-N)) ((-D)):Int)∧(Int.gcd ((-N)) ((-D)):Int)∣(-N)) (_hxd:0<(Int.gcd ((-N)) ((-D)):Int)∧(Int.gcd ((-N)) ((-D)):Int)∣(-D)):
    Calls Tryz.prog 86 #[(.agg #[n0,n1]),(.agg #[d0,d1])] w fun e w'=>(∃ x y x2 y2,e=.returned (.agg #[x,y,x2,y2])∧IsInt w' k x y ((-N)/(Int.gcd ((-N)) ((-D)):Int))∧IsInt w' k x2 y2 ((-D)/(Int.gcd ((-N)) ((-D)):Int)))∧Gr w w':=by
 go_enter Tryz.func86,Tryz.ntmps86
 have hB:=Gr.refl w
 refine wp_seq_k (fun K1 k1=>?_)
 refine rg [0,1,2] ?_
 refine se ?_
 refine eb 69 #[n0,n1] 2 hB fun b2 w2 g2 L2 o2 q2 hB=>?_
 simp only [p3,p4]
 refine se ?_
 refine eb 69 #[d0,d1] 3 hB fun b3 w3 g3 L3 o3 q3 hB=>?_
 have ne2_3:=L2.ne o3
 simp only [p3,p4]
 refine se ?_
 refine ea 71 #[(.bool false),(.slice none 0 0),(.bool false),(.slice none 0 0)] 4 hB fun b4 w4 g4 L4 o4 q4 hB=>?_
 replace L2:=L2.gr g3
 have ne2_4:=L2.ne o4
 have ne3_4:=L3.ne o4
 simp only [p3,p4]
 refine sq_nil ?_
 refine k1 _ _ ?_
 try clear k1 K1
 refine wp_seq_k (fun K5 k5=>?_)
 refine wp_seq_k (fun K6 k6=>?_)
 refine rg [0,1,2] ?_
 replace L3:=L3.gr g4
 refine sw 6 (.agg #[d0,d1]) rfl (rl 69 0 [d0,d1] L3) ?_
 refine se ?_
 have kq8:=g2.kp.trans (g3.kp.trans g4.kp)
 replace hd:=hd.kp kq8
 refine ec 7 (sign_neg hd (by omega)) ?_
 rintro e7 w7 ⟨rfl,g7⟩
 refine ⟨_,rfl,?_⟩
 replace hB:=hB.trans g7
 simp only [p3,p4]
 refine sv 8 (.bool true) ?_
 refine sq_nil ?_
 refine k6 _ _ ?_
 try clear k6 K6
 refine wp_cond_true rfl ?_
 have gd10:=Gr.drew w7
 replace hB:=hB.trans gd10
 replace L2:=L2.gr (g4.trans (g7.trans gd10))
 replace L3:=L3.gr (g7.trans gd10)
 refine wp_region_ort (fun _=>True) [([4],(fun w'=>Lc w' b2 #[n0,n1] 69)),([5],(fun w'=>Lc w' b3 #[d0,d1] 69))] [(true,0),(true,2),(false,1),(false,3),(false,4),(false,5)] (by kernel_rfl) (by kernel_rfl) (by kernel_rfl) (by decide) (fun _ _ _ _ _ h=>h) trivial ⟨fun _=>L2,fun _=>L3,trivial⟩ ?_
 refine tw 9 (.agg #[n0,n1]) rfl (fun w' hS=>(rl 69 0 [n0,n1] (hS.2.1 (by kernel_rfl)))) ?_
 refine tw 11 (.agg #[d0,d1]) rfl (fun w' hS=>(rl 69 0 [d0,d1] (hS.2.2.1 (by kernel_rfl)))) ?_
 refine te ?_
 have kq13:=g2.kp.trans (g3.kp.trans (g4.kp.trans (g7.kp.trans gd10.kp)))
 replace hn:=hn.kp kq13
 refine ec 10 (neg_i hn) ?_
 rintro e12 w12 ⟨⟨x12,y12,rfl,h12⟩,g12⟩
 refine ⟨_,rfl,?_⟩
 replace hB:=hB.trans g12
 replace L2:=L2.gr g12
 replace L3:=L3.gr g12
 refine ⟨trivial,⟨fun _=>L2,fun _=>L3,trivial⟩,?_⟩
 simp only [p3,p4]
 refine te ?_
 have kq16:=g7.kp.trans (gd10.kp.trans g12.kp)
 replace hd:=hd.kp kq16
 refine ec 12 (neg_i hd) ?_
 rintro e15 w15 ⟨⟨x15,y15,rfl,h15⟩,g15⟩
 refine ⟨_,rfl,?_⟩
 replace hB:=hB.trans g15
 replace L2:=L2.gr g15
 replace L3:=L3.gr g15
 refine ⟨trivial,⟨fun _=>L2,fun _=>L3,trivial⟩,?_⟩
 simp only [p3,p4]
 refine te ?_
 refine es 69 0 (.agg #[x12,y12]) [x12,y12] #[x12,y12] L2 hB q2 ⟨h12.one0,h12.one1,trivial⟩ fun w18 st18 kp18 L2 hB=>?_
 replace L3:=st18.lc L3 (Ne.symm ne2_3)
 refine ⟨trivial,⟨cameT (by kernel_rfl),fun _=>L3,trivial⟩,?_⟩
 refine te ?_
 refine es 69 0 (.agg #[x15,y15]) [x15,y15] #[x15,y15] L3 hB q3 ⟨h15.one0,h15.one1,trivial⟩ fun w20 st20 kp20 L3 hB=>?_
 refine ⟨trivial,⟨cameT (by kernel_rfl),cameT (by kernel_rfl),trivial⟩,?_⟩
 refine ort_nil ?_
 refine k5 _ _ ?_
 try clear k5 K5
 refine wp_seq_k (fun K21 k21=>?_)
 refine rg [0,1,2,3,4] ?_
 replace L2:=st20.lc L2 ne2_3
 refine sw 13 (.agg #[x12,y12]) rfl (rl 69 0 [x12,y12] L2) ?_
 refine sw 14 (.agg #[x15,y15]) rfl (rl 69 0 [x15,y15] L3) ?_
 refine se ?_
 have kq23:=g15.kp.trans (kp18.trans kp20)
 replace h12:=h12.kp kq23
 have kq24:=kp18.trans kp20
 replace h15:=h15.kp kq24
 refine ec 15 (gcd_i h12 h15 (by omega)) ?_
 rintro e22 w22 ⟨⟨x22,y22,rfl,h22⟩,g22⟩
 refine ⟨_,rfl,?_⟩
 replace hB:=hB.trans g22
 simp only [p3,p4]
 refine se ?_
 refine ea 69 #[(.bool false),(.slice none 0 0)] 5 hB fun b25 w25 g25 L25 o25 q25 hB=>?_
 replace L2:=L2.gr g22
 have ne2_25:=L2.ne o25
 replace L3:=L3.gr g22
 have ne3_25:=L3.ne o25
 replace L4:=(st20.lc (st18.lc (L4.gr (g7.trans (gd10.trans (g12.trans g15)))) (Ne.symm ne2_4)) (Ne.symm ne3_4)).gr g22
 have ne4_25:=L4.ne o25
 simp only [p3,p4]
 refine se ?_
 refine es 69 0 (.agg #[x22,y22]) [x22,y22] #[x22,y22] L25 hB q25 ⟨h22.one0,h22.one1,trivial⟩ fun w26 st26 kp26 L25 hB=>?_
 refine sq_nil ?_
 refine k21 _ _ ?_
 try clear k21 K21
 refine wp_seq_k (fun K27 k27=>?_)
 refine wp_seq_k (fun K28 k28=>?_)
 have gd35:=Gr.drew w26
 replace hB:=hB.trans gd35
 replace L25:=L25.gr gd35
 refine wp_region_ord (fun w'=>Lc w' b25 #[x22,y22] 69) [(true,0),(false,1),(false,2),(true,3)] (by kernel_rfl) (by kernel_rfl) (by kernel_rfl) (by decide) (fun _ _ _ _ _ h=>h) L25 ?_
 refine ow 16 (.agg #[x22,y22]) rfl (fun w' hS=>(rl 69 0 [x22,y22] hS)) ?_
 refine oe ?_
 refine ec 17 (one_i _) ?_
 rintro e37 w37 ⟨⟨x37,y37,rfl,h37⟩,g37⟩
 refine ⟨_,rfl,?_⟩
 replace hB:=hB.trans g37
 replace L25:=L25.gr g37
 refine ⟨L25,?_⟩
 simp only [p3,p4]
 refine oe ?_
 have kq40:=g25.kp.trans (kp26.trans (gd35.kp.trans g37.kp))
 replace h22:=h22.kp kq40
 refine ec 18 (compare_i h22 h37 (by omega) (by omega)) ?_
 rintro e39 w39 ⟨rfl,g39⟩
 refine ⟨_,rfl,?_⟩
 replace hB:=hB.trans g39
 replace L25:=L25.gr g39
 refine ⟨L25,?_⟩
 simp only [p3,p4]
 refine ow 19 (.bool true) rfl (fun w' hS=>(RunV.bool (x:=(sgn ((Int.gcd ((-N)) ((-D)):Int) - 1) !=(0:Int))) (rvk (by kernel_rfl)) hg)) ?_
 refine ord_nil ?_
 refine k28 _ _ ?_
 try clear k28 K28
 refine wp_cond_true rfl ?_
 refine wp_seq_k (fun K41 k41=>?_)
 refine rg [0,1,2,3,4,5,6,7] ?_
 replace L2:=(st26.lc (L2.gr g25) ne2_25).gr (gd35.trans (g37.trans g39))
 refine sw 21 (.agg #[x12,y12]) rfl (rl 69 0 [x12,y12] L2) ?_
 refine sw 22 (.agg #[x22,y22]) rfl (rl 69 0 [x22,y22] L25) ?_
 refine se ?_
 have kq43:=g22.kp.trans (g25.kp.trans (kp26.trans (gd35.kp.trans (g37.kp.trans g39.kp))))
 replace h12:=h12.kp kq43
 replace h22:=h22.kp g39.kp
 refine ec 23 (divmod_i h12 h22 hxn.1 (by omega)) ?_
 rintro e42 w42 ⟨⟨x42,y42,xr42,yr42,rfl,h42,hr42⟩,g42⟩
 refine ⟨_,rfl,?_⟩
 replace hB:=hB.trans g42
 simp only [p3,p4]
 refine sv 20 (.tuple #[(.agg #[x42,y42]),(.agg #[xr42,yr42]),(.int .i64 0)]) ?_
 refine sv 24 (.agg #[x42,y42]) ?_
 refine sv 25 (.agg #[xr42,yr42]) ?_
 refine sv 26 (.int .i64 0) ?_
 refine se ?_
 replace L2:=L2.gr g42
 refine es 69 0 (.agg #[x42,y42]) [x42,y42] #[x42,y42] L2 hB q2 ⟨h42.one0,h42.one1,trivial⟩ fun w44 st44 kp44 L2 hB=>?_
 refine sq_nil ?_
 refine k41 _ _ ?_
 try clear k41 K41
 refine rg [0,1,2,3,4,5,6,7] ?_
 replace L3:=st44.lc ((st26.lc (L3.gr g25) ne3_25).gr (gd35.trans (g37.trans (g39.trans g42)))) (Ne.symm ne2_3)
 refine sw 28 (.agg #[x15,y15]) rfl (rl 69 0 [x15,y15] L3) ?_
 replace L25:=st44.lc (L25.gr g42) (Ne.symm ne2_25)
 refine sw 29 (.agg #[x22,y22]) rfl (rl 69 0 [x22,y22] L25) ?_
 refine se ?_
 have kq46:=g22.kp.trans (g25.kp.trans (kp26.trans (gd35.kp.trans (g37.kp.trans (g39.kp.trans (g42.kp.trans kp44))))))
 replace h15:=h15.kp kq46
 have kq47:=g42.kp.trans kp44
 replace h22:=h22.kp kq47
 refine ec 30 (divmod_i h15 h22 hxn.1 (by omega)) ?_
 rintro e45 w45 ⟨⟨x45,y45,xr45,yr45,rfl,h45,hr45⟩,g45⟩
 refine ⟨_,rfl,?_⟩
 replace hB:=hB.trans g45
 simp only [p3,p4]
 refine sv 27 (.tuple #[(.agg #[x45,y45]),(.agg #[xr45,yr45]),(.int .i64 0)]) ?_
 refine sv 31 (.agg #[x45,y45]) ?_
 refine sv 32 (.agg #[xr45,yr45]) ?_
 refine sv 33 (.int .i64 0) ?_
 refine se ?_
 replace L3:=L3.gr g45
 refine es 69 0 (.agg #[x45,y45]) [x45,y45] #[x45,y45] L3 hB q3 ⟨h45.one0,h45.one1,trivial⟩ fun w48 st48 kp48 L3 hB=>?_
 refine sq_nil ?_
 refine k27 _ _ ?_
 try clear k27 K27
 refine wp_seq_k (fun K49 k49=>?_)
 refine rg [0,1,2,3] ?_
 replace L2:=st48.lc (L2.gr g45) ne2_3
 refine sw 34 (.agg #[x42,y42]) rfl (rl 69 0 [x42,y42] L2) ?_
 refine sw 35 (.agg #[x45,y45]) rfl (rl 69 0 [x45,y45] L3) ?_
 refine sv 36 (.agg #[x42,y42,x45,y45]) ?_
 refine se ?_
 replace L4:=st48.lc ((st44.lc ((st26.lc (L4.gr g25) ne4_25).gr (gd35.trans (g37.trans (g39.trans g42)))) (Ne.symm ne2_4)).gr g45) (Ne.symm ne3_4)
 refine es 71 0 (.agg #[x42,y42,x45,y45]) [x42,y42,x45,y45] #[x42,y42,x45,y45] L4 hB q4 ⟨h42.one0,h42.one1,h45.one0,h45.one1,trivial⟩ fun w50 st50 kp50 L4 hB=>?_
 refine sq_nil ?_
 refine k49 _ _ ?_
 try clear k49 K49
 refine wp_ret ?_
 refine bodyPost_ret (v:=(.agg #[x42,y42,x45,y45])) (ret_cell _ _ _ rfl rfl L4 (by kernel_rfl)) rfl ⟨?_,hB⟩
 have kq51:=kp44.trans (g45.kp.trans (kp48.trans kp50))
 replace h42:=h42.kp kq51
 have kq52:=kp48.trans kp50
 replace h45:=h45.kp kq52
 exact ⟨_,_,_,_,rfl,h42,h45⟩

theorem reduced_a {k m:Nat} (K:Nat) {n0 n1 d0 d1:Value} {N D:Int} {w:World} (hn:IsInt w k n0 n1 N) (hd:IsInt w m d0 d1 D) (h0:D≠0) (h1:k≤K) (h2:m≤K) (h3:64≤K) (h4:8*K≤1000000):
    Calls Tryz.prog 86 #[.agg #[n0,n1],.agg #[d0,d1]] w fun e w'=>(∃ c0 c1 c2 c3,e=.returned (.agg #[c0,c1,c2,c3])∧IsRat w' K c0 c1 c2 c3 (Rat.divInt N D))∧Gr w w':=by
  rcases Int.lt_or_gt_of_ne h0 with hneg | hpos
  · have hN:=hn.mono h1
    have hD:=hd.mono h2
    have hp:0< -D:=by omega
    have e0:Rat.divInt N D=Rat.divInt (-N) (-D):=(Rat.neg_divInt_neg N D).symm
    have en:(Rat.divInt N D).num=(-N)/(Int.gcd (-N) (-D):Int):=by
      rw [e0,Rat.num_divInt,Int.sign_eq_one_of_pos hp,Int.one_mul,Int.gcd_comm]
    have ed:((Rat.divInt N D).den:Int)=(-D)/(Int.gcd (-N) (-D):Int):=by
      rw [e0,Rat.den_divInt,if_neg (by omega),Int.gcd_comm,Int.natCast_ediv]
      congr 1
      omega
    have hg0:0<(Int.gcd (-N) (-D):Int):=by
      have:Int.gcd (-N) (-D)≠0:=by rw [Ne,Int.gcd_eq_zero_iff];omega
      omega
    by_cases hg:(Int.gcd (-N) (-D):Int)=1
    · refine (reduced_n1 hN hD (by omega) hneg (by rw [hg];rfl)).mono ?_
      rintro e w1 ⟨⟨x,y,x2,y2,he,hi,hi2⟩,g⟩
      rw [hg,Int.ediv_one] at en ed
      exact ⟨⟨x,y,x2,y2,he,by rw [en];exact hi,⟨_,hi2,.inl ed.symm⟩,h3⟩,g⟩
    · have hb:(sgn ((Int.gcd (-N) (-D):Int) - 1) !=0)=true:=by
        have:sgn ((Int.gcd (-N) (-D):Int) - 1)≠0:=fun h=>hg (by have:=sgn_eq_zero.1 h;omega)
        simpa using this
      refine (reduced_ng hN hD (by omega) hneg hb ⟨hg0,Int.gcd_dvd_left ..⟩ ⟨hg0,Int.gcd_dvd_right ..⟩).mono ?_
      rintro e w1 ⟨⟨x,y,x2,y2,he,hi,hi2⟩,g⟩
      exact ⟨⟨x,y,x2,y2,he,by rw [en];exact hi,⟨_,hi2,.inl ed.symm⟩,h3⟩,g⟩
  · exact reduced_i K hn hd hpos h1 h2 h3 h4
end Go.Proofs.YtepgkcimmdmgcaaGreatDoor
