/- Joined of: Gen4, Sm, La, Gen162, Sn, Lb, Lc, Ld, Le, Lf, Gen163, Lg, Lh, Ten, TenM, TenT, R1a, R1b, R1c, R1d, R1e. -/
import Derived.Test.YtepgkcimmdmgcaaGreatDoorPartB
import Init.Data.Rat.Lemmas
import Derived.Lib.AppendZeros
import Derived.Test.YtepgkcimmdmgcaaGreatDoorPartA
import Derived.Laws.IdiomStrings
namespace Go.Proofs.YtepgkcimmdmgcaaGreatDoor
open Go.RowKit

set_option maxRecDepth 100000 in
set_option maxHeartbeats 1000000 in
theorem add_tt {k m:Nat} {u0 u1 u2 u3 v0 v1 v2 v3:Value} {a b:Rat} {w:World} (ha:IsRat w k u0 u1 u2 u3 a) (hb:IsRat w m v0 v1 v2 v3 b) (_hk:k+m≤100000) (wa:a.den=1) (wb:b.den=1):
    Calls Tryz.prog 98 #[(.agg #[u0,u1,u2,u3]),(.agg #[v0,v1,v2,v3])] w fun e w'=>(∃ c0 c1 c2 c3,e=.returned (.agg #[c0,c1,c2,c3])∧IsRat w' (k+m+1) c0 c1 c2 c3 (a+b))∧Gr w w':=by
 have hka:=ha.big
 have hkb:=hb.big
 go_enter Tryz.func98,Tryz.ntmps98
 have hB:=Gr.refl w
 refine wp_seq_k (fun K1 k1=>?_)
 refine rg [0,1,2] ?_
 refine se ?_
 refine eb 71 #[u0,u1,u2,u3] 2 hB fun b2 w2 g2 L2 o2 q2 hB=>?_
 simp only [p3,p4]
 refine se ?_
 refine eb 71 #[v0,v1,v2,v3] 3 hB fun b3 w3 g3 L3 o3 q3 hB=>?_
 simp only [p3,p4]
 refine se ?_
 refine ea 71 #[(.bool false),(.slice none 0 0),(.bool false),(.slice none 0 0)] 4 hB fun b4 w4 g4 L4 o4 q4 hB=>?_
 replace L2:=L2.gr g3
 simp only [p3,p4]
 refine sq_nil ?_
 refine k1 _ _ ?_
 try clear k1 K1
 refine wp_seq_k (fun K5 k5=>?_)
 refine wp_seq_k (fun K6 k6=>?_)
 refine rg [0,1,2,3,4,5] ?_
 replace L2:=L2.gr g4
 refine sw 5 (.agg #[u0,u1,u2,u3]) rfl (rl 71 0 [u0,u1,u2,u3] L2) ?_
 refine se ?_
 have kq8:=g2.kp.trans (g3.kp.trans g4.kp)
 replace ha:=ha.kp kq8
 refine ec 6 (whole_t ha (by omega) wa) ?_
 rintro e7 w7 ⟨rfl,g7⟩
 refine ⟨_,rfl,?_⟩
 replace hB:=hB.trans g7
 simp only [p3,p4]
 refine sv 7 (.bool true) ?_
 replace L3:=L3.gr (g4.trans g7)
 refine sw 8 (.agg #[v0,v1,v2,v3]) rfl (rl 71 0 [v0,v1,v2,v3] L3) ?_
 refine se ?_
 have kq10:=g2.kp.trans (g3.kp.trans (g4.kp.trans g7.kp))
 replace hb:=hb.kp kq10
 refine ec 9 (whole_t hb (by omega) wb) ?_
 rintro e9 w9 ⟨rfl,g9⟩
 refine ⟨_,rfl,?_⟩
 replace hB:=hB.trans g9
 simp only [p3,p4]
 refine sv 10 (.bool true) ?_
 refine sq_nil ?_
 refine k6 _ _ ?_
 try clear k6 K6
 refine wp_cond_true rfl ?_
 refine wp_seq_k (fun K11 k11=>?_)
 refine rg [0,1,2,3,4,5,6] ?_
 refine sv 11 (.pointer (some ⟨b2,0,none⟩)) ?_
 replace L2:=L2.gr (g7.trans g9)
 refine sw 12 (.agg #[u0,u1]) rfl (rl 69 0 [u0,u1] L2) ?_
 refine sv 13 (.pointer (some ⟨b3,0,none⟩)) ?_
 replace L3:=L3.gr g9
 refine sw 14 (.agg #[v0,v1]) rfl (rl 69 0 [v0,v1] L3) ?_
 refine se ?_
 have kq13:=g7.kp.trans g9.kp
 replace ha:=ha.kp kq13
 replace hb:=hb.kp g9.kp
 refine ec 15 (add_e (k+m) ha.num hb.num (by omega) (by omega) (by omega)) ?_
 rintro e12 w12 ⟨⟨x12,y12,rfl,h12⟩,g12⟩
 refine ⟨_,rfl,?_⟩
 replace hB:=hB.trans g12
 simp only [p3,p4]
 refine sv 16 (.agg #[x12,y12,(.bool false),(.slice none 0 0)]) ?_
 refine se ?_
 replace L4:=L4.gr (g7.trans (g9.trans g12))
 refine es 71 0 (.agg #[x12,y12,(.bool false),(.slice none 0 0)]) [x12,y12,(.bool false),(.slice none 0 0)] #[x12,y12,(.bool false),(.slice none 0 0)] L4 hB q4 ⟨h12.one0,h12.one1,rfl,rfl,trivial⟩ fun w14 st14 kp14 L4 hB=>?_
 refine sq_nil ?_
 refine k11 _ _ ?_
 try clear k11 K11
 refine wp_ret ?_
 simp only [Exit.then]
 refine bodyPost_ret (v:=(.agg #[x12,y12,(.bool false),(.slice none 0 0)])) (ret_cell _ _ _ rfl rfl L4 (by kernel_rfl)) rfl ⟨?_,hB⟩
 replace h12:=h12.kp kp14
 exact ⟨_,_,_,_,rfl,by rw [← rat_int wa,← rat_int wb,← Rat.intCast_add];exact IsRat.int h12 (by omega)⟩

set_option maxRecDepth 100000 in
set_option maxHeartbeats 1000000 in
theorem add_tf {k m:Nat} {u0 u1 u2 u3 v0 v1 v2 v3:Value} {a b:Rat} {w:World} (ha:IsRat w k u0 u1 u2 u3 a) (hb:IsRat w m v0 v1 v2 v3 b) (_hk:k+m≤100000) (wa:a.den=1) (wb:b.den≠1):
    Calls Tryz.prog 98 #[(.agg #[u0,u1,u2,u3]),(.agg #[v0,v1,v2,v3])] w fun e w'=>(∃ c0 c1 c2 c3,e=.returned (.agg #[c0,c1,c2,c3])∧IsRat w' (k+m+1) c0 c1 c2 c3 (a+b))∧Gr w w':=by
 have hka:=ha.big
 have hkb:=hb.big
 go_enter Tryz.func98,Tryz.ntmps98
 have hB:=Gr.refl w
 refine wp_seq_k (fun K1 k1=>?_)
 refine rg [0,1,2] ?_
 refine se ?_
 refine eb 71 #[u0,u1,u2,u3] 2 hB fun b2 w2 g2 L2 o2 q2 hB=>?_
 simp only [p3,p4]
 refine se ?_
 refine eb 71 #[v0,v1,v2,v3] 3 hB fun b3 w3 g3 L3 o3 q3 hB=>?_
 simp only [p3,p4]
 refine se ?_
 refine ea 71 #[(.bool false),(.slice none 0 0),(.bool false),(.slice none 0 0)] 4 hB fun b4 w4 g4 L4 o4 q4 hB=>?_
 replace L2:=L2.gr g3
 have ne2_4:=L2.ne o4
 have ne3_4:=L3.ne o4
 simp only [p3,p4]
 refine sq_nil ?_
 refine k1 _ _ ?_
 try clear k1 K1
 refine wp_seq_k (fun K5 k5=>?_)
 refine wp_seq_k (fun K6 k6=>?_)
 refine rg [0,1,2,3,4,5] ?_
 replace L2:=L2.gr g4
 refine sw 5 (.agg #[u0,u1,u2,u3]) rfl (rl 71 0 [u0,u1,u2,u3] L2) ?_
 refine se ?_
 have kq8:=g2.kp.trans (g3.kp.trans g4.kp)
 replace ha:=ha.kp kq8
 refine ec 6 (whole_t ha (by omega) wa) ?_
 rintro e7 w7 ⟨rfl,g7⟩
 refine ⟨_,rfl,?_⟩
 replace hB:=hB.trans g7
 simp only [p3,p4]
 refine sv 7 (.bool true) ?_
 replace L3:=L3.gr (g4.trans g7)
 refine sw 8 (.agg #[v0,v1,v2,v3]) rfl (rl 71 0 [v0,v1,v2,v3] L3) ?_
 refine se ?_
 have kq10:=g2.kp.trans (g3.kp.trans (g4.kp.trans g7.kp))
 replace hb:=hb.kp kq10
 refine ec 9 (whole_f hb (by omega) wb) ?_
 rintro e9 w9 ⟨rfl,g9⟩
 refine ⟨_,rfl,?_⟩
 replace hB:=hB.trans g9
 simp only [p3,p4]
 refine sv 10 (.bool false) ?_
 refine sq_nil ?_
 refine k6 _ _ ?_
 try clear k6 K6
 refine wp_cond_false rfl ?_
 refine wp_skip ?_
 refine k5 _ _ ?_
 try clear k5 K5
 refine wp_seq_k (fun K11 k11=>?_)
 have gd40:=Gr.drew w9
 replace hB:=hB.trans gd40
 replace L2:=L2.gr (g7.trans (g9.trans gd40))
 replace L3:=L3.gr (g9.trans gd40)
 refine wp_region_ord (fun w'=>Lc w' b2 #[u0,u1,u2,u3] 71∧Lc w' b3 #[v0,v1,v2,v3] 71) [(true,0),(true,1),(true,2),(true,5),(true,6),(true,7),(true,11),(true,13),(false,3),(false,4),(false,8),(false,9),(false,10),(false,12),(false,14),(false,15),(false,16),(false,17)] (by kernel_rfl) (by kernel_rfl) (by kernel_rfl) (by decide) (fun _ _ _ _ _ h=>h) ⟨L2,L3⟩ ?_
 refine ov 17 (.pointer (some ⟨b2,0,none⟩)) ?_
 refine ow 18 (.agg #[u0,u1]) rfl (fun w' hS=>(rl 69 0 [u0,u1] hS.1)) ?_
 refine ow 19 (.agg #[v0,v1,v2,v3]) rfl (fun w' hS=>(rl 71 0 [v0,v1,v2,v3] hS.2)) ?_
 refine ov 22 (.pointer (some ⟨b3,0,none⟩)) ?_
 refine ow 23 (.agg #[v0,v1]) rfl (fun w' hS=>(rl 69 0 [v0,v1] hS.2)) ?_
 refine ow 24 (.agg #[u0,u1,u2,u3]) rfl (fun w' hS=>(rl 71 0 [u0,u1,u2,u3] hS.1)) ?_
 refine ow 28 (.agg #[u0,u1,u2,u3]) rfl (fun w' hS=>(rl 71 0 [u0,u1,u2,u3] hS.1)) ?_
 refine ow 30 (.agg #[v0,v1,v2,v3]) rfl (fun w' hS=>(rl 71 0 [v0,v1,v2,v3] hS.2)) ?_
 refine oe ?_
 have kq43:=g9.kp.trans gd40.kp
 replace hb:=hb.kp kq43
 refine ec 20 (den_i hb) ?_
 rintro e42 w42 ⟨⟨x42,y42,rfl,h42⟩,g42⟩
 refine ⟨_,rfl,?_⟩
 replace hB:=hB.trans g42
 replace L2:=L2.gr g42
 replace L3:=L3.gr g42
 refine ⟨⟨L2,L3⟩,?_⟩
 simp only [p3,p4]
 refine oe ?_
 have kq46:=g7.kp.trans (g9.kp.trans (gd40.kp.trans g42.kp))
 replace ha:=ha.kp kq46
 refine ec 21 (mul_i ha.num h42 (by omega)) ?_
 rintro e45 w45 ⟨⟨x45,y45,rfl,h45⟩,g45⟩
 refine ⟨_,rfl,?_⟩
 replace hB:=hB.trans g45
 replace L2:=L2.gr g45
 replace L3:=L3.gr g45
 refine ⟨⟨L2,L3⟩,?_⟩
 simp only [p3,p4]
 refine oe ?_
 replace ha:=ha.kp g45.kp
 refine ec 25 (den_i ha) ?_
 rintro e48 w48 ⟨⟨x48,y48,rfl,h48⟩,g48⟩
 refine ⟨_,rfl,?_⟩
 replace hB:=hB.trans g48
 replace L2:=L2.gr g48
 replace L3:=L3.gr g48
 refine ⟨⟨L2,L3⟩,?_⟩
 simp only [p3,p4]
 refine oe ?_
 have kq51:=g42.kp.trans (g45.kp.trans g48.kp)
 replace hb:=hb.kp kq51
 refine ec 26 (mul_i hb.num h48 (by omega)) ?_
 rintro e50 w50 ⟨⟨x50,y50,rfl,h50⟩,g50⟩
 refine ⟨_,rfl,?_⟩
 replace hB:=hB.trans g50
 replace L2:=L2.gr g50
 replace L3:=L3.gr g50
 refine ⟨⟨L2,L3⟩,?_⟩
 simp only [p3,p4]
 refine oe ?_
 have kq54:=g48.kp.trans g50.kp
 replace h45:=h45.kp kq54
 refine ec 27 (add_e (k+m) h45 h50 (by omega) (by omega) (by omega)) ?_
 rintro e53 w53 ⟨⟨x53,y53,rfl,h53⟩,g53⟩
 refine ⟨_,rfl,?_⟩
 replace hB:=hB.trans g53
 replace L2:=L2.gr g53
 replace L3:=L3.gr g53
 refine ⟨⟨L2,L3⟩,?_⟩
 simp only [p3,p4]
 refine oe ?_
 have kq57:=g48.kp.trans (g50.kp.trans g53.kp)
 replace ha:=ha.kp kq57
 refine ec 29 (den_i ha) ?_
 rintro e56 w56 ⟨⟨x56,y56,rfl,h56⟩,g56⟩
 refine ⟨_,rfl,?_⟩
 replace hB:=hB.trans g56
 replace L2:=L2.gr g56
 replace L3:=L3.gr g56
 refine ⟨⟨L2,L3⟩,?_⟩
 simp only [p3,p4]
 refine oe ?_
 have kq60:=g50.kp.trans (g53.kp.trans g56.kp)
 replace hb:=hb.kp kq60
 refine ec 31 (den_i hb) ?_
 rintro e59 w59 ⟨⟨x59,y59,rfl,h59⟩,g59⟩
 refine ⟨_,rfl,?_⟩
 replace hB:=hB.trans g59
 replace L2:=L2.gr g59
 replace L3:=L3.gr g59
 refine ⟨⟨L2,L3⟩,?_⟩
 simp only [p3,p4]
 refine oe ?_
 replace h56:=h56.kp g59.kp
 refine ec 32 (mul_i h56 h59 (by omega)) ?_
 rintro e62 w62 ⟨⟨x62,y62,rfl,h62⟩,g62⟩
 refine ⟨_,rfl,?_⟩
 replace hB:=hB.trans g62
 replace L2:=L2.gr g62
 replace L3:=L3.gr g62
 refine ⟨⟨L2,L3⟩,?_⟩
 simp only [p3,p4]
 refine oe ?_
 have kq65:=g56.kp.trans (g59.kp.trans g62.kp)
 replace h53:=h53.kp kq65
 refine ec 33 (reduced_i ((k+m+1)) h53 h62 (Int.mul_pos (Int.natCast_pos.2 a.den_pos) (Int.natCast_pos.2 b.den_pos)) (by omega) (by omega) (by omega) (by omega)) ?_
 rintro e64 w64 ⟨⟨p64,q64,r64,s64,rfl,h64⟩,g64⟩
 refine ⟨_,rfl,?_⟩
 replace hB:=hB.trans g64
 replace L2:=L2.gr g64
 replace L3:=L3.gr g64
 refine ⟨⟨L2,L3⟩,?_⟩
 simp only [p3,p4]
 refine oe ?_
 replace L4:=L4.gr (g7.trans (g9.trans (gd40.trans (g42.trans (g45.trans (g48.trans (g50.trans (g53.trans (g56.trans (g59.trans (g62.trans g64)))))))))))
 refine es 71 0 (.agg #[p64,q64,r64,s64]) [p64,q64,r64,s64] #[p64,q64,r64,s64] L4 hB q4 ⟨h64.one0,h64.one1,h64.one2,h64.one3,trivial⟩ fun w67 st67 kp67 L4 hB=>?_
 replace L2:=st67.lc L2 ne2_4
 replace L3:=st67.lc L3 ne3_4
 refine ⟨⟨L2,L3⟩,?_⟩
 refine ord_nil ?_
 refine k11 _ _ ?_
 try clear k11 K11
 refine wp_ret ?_
 refine bodyPost_ret (v:=(.agg #[p64,q64,r64,s64])) (ret_cell _ _ _ rfl rfl L4 (by kernel_rfl)) rfl ⟨?_,hB⟩
 replace h64:=h64.kp kp67
 exact ⟨_,_,_,_,rfl,by rw [← rat_add];exact h64⟩

set_option maxRecDepth 100000 in
set_option maxHeartbeats 1000000 in
theorem add_f {k m:Nat} {u0 u1 u2 u3 v0 v1 v2 v3:Value} {a b:Rat} {w:World} (ha:IsRat w k u0 u1 u2 u3 a) (hb:IsRat w m v0 v1 v2 v3 b) (_hk:k+m≤100000) (wa:a.den≠1):
    Calls Tryz.prog 98 #[(.agg #[u0,u1,u2,u3]),(.agg #[v0,v1,v2,v3])] w fun e w'=>(∃ c0 c1 c2 c3,e=.returned (.agg #[c0,c1,c2,c3])∧IsRat w' (k+m+1) c0 c1 c2 c3 (a+b))∧Gr w w':=by
 have hka:=ha.big
 have hkb:=hb.big
 go_enter Tryz.func98,Tryz.ntmps98
 have hB:=Gr.refl w
 refine wp_seq_k (fun K1 k1=>?_)
 refine rg [0,1,2] ?_
 refine se ?_
 refine eb 71 #[u0,u1,u2,u3] 2 hB fun b2 w2 g2 L2 o2 q2 hB=>?_
 simp only [p3,p4]
 refine se ?_
 refine eb 71 #[v0,v1,v2,v3] 3 hB fun b3 w3 g3 L3 o3 q3 hB=>?_
 simp only [p3,p4]
 refine se ?_
 refine ea 71 #[(.bool false),(.slice none 0 0),(.bool false),(.slice none 0 0)] 4 hB fun b4 w4 g4 L4 o4 q4 hB=>?_
 replace L2:=L2.gr g3
 have ne2_4:=L2.ne o4
 have ne3_4:=L3.ne o4
 simp only [p3,p4]
 refine sq_nil ?_
 refine k1 _ _ ?_
 try clear k1 K1
 refine wp_seq_k (fun K5 k5=>?_)
 refine wp_seq_k (fun K6 k6=>?_)
 refine rg [0,1,2,3,4,5] ?_
 replace L2:=L2.gr g4
 refine sw 5 (.agg #[u0,u1,u2,u3]) rfl (rl 71 0 [u0,u1,u2,u3] L2) ?_
 refine se ?_
 have kq8:=g2.kp.trans (g3.kp.trans g4.kp)
 replace ha:=ha.kp kq8
 refine ec 6 (whole_f ha (by omega) wa) ?_
 rintro e7 w7 ⟨rfl,g7⟩
 refine ⟨_,rfl,?_⟩
 replace hB:=hB.trans g7
 simp only [p3,p4]
 refine sv 7 (.bool false) ?_
 refine ss 8 ?_
 refine ss 9 ?_
 refine sv 10 (.bool false) ?_
 refine sq_nil ?_
 refine k6 _ _ ?_
 try clear k6 K6
 refine wp_cond_false rfl ?_
 refine wp_skip ?_
 refine k5 _ _ ?_
 try clear k5 K5
 refine wp_seq_k (fun K9 k9=>?_)
 have gd38:=Gr.drew w7
 replace hB:=hB.trans gd38
 replace L2:=L2.gr (g7.trans gd38)
 replace L3:=L3.gr (g4.trans (g7.trans gd38))
 refine wp_region_ord (fun w'=>Lc w' b2 #[u0,u1,u2,u3] 71∧Lc w' b3 #[v0,v1,v2,v3] 71) [(true,0),(true,1),(true,2),(true,5),(true,6),(true,7),(true,11),(true,13),(false,3),(false,4),(false,8),(false,9),(false,10),(false,12),(false,14),(false,15),(false,16),(false,17)] (by kernel_rfl) (by kernel_rfl) (by kernel_rfl) (by decide) (fun _ _ _ _ _ h=>h) ⟨L2,L3⟩ ?_
 refine ov 17 (.pointer (some ⟨b2,0,none⟩)) ?_
 refine ow 18 (.agg #[u0,u1]) rfl (fun w' hS=>(rl 69 0 [u0,u1] hS.1)) ?_
 refine ow 19 (.agg #[v0,v1,v2,v3]) rfl (fun w' hS=>(rl 71 0 [v0,v1,v2,v3] hS.2)) ?_
 refine ov 22 (.pointer (some ⟨b3,0,none⟩)) ?_
 refine ow 23 (.agg #[v0,v1]) rfl (fun w' hS=>(rl 69 0 [v0,v1] hS.2)) ?_
 refine ow 24 (.agg #[u0,u1,u2,u3]) rfl (fun w' hS=>(rl 71 0 [u0,u1,u2,u3] hS.1)) ?_
 refine ow 28 (.agg #[u0,u1,u2,u3]) rfl (fun w' hS=>(rl 71 0 [u0,u1,u2,u3] hS.1)) ?_
 refine ow 30 (.agg #[v0,v1,v2,v3]) rfl (fun w' hS=>(rl 71 0 [v0,v1,v2,v3] hS.2)) ?_
 refine oe ?_
 have kq41:=g2.kp.trans (g3.kp.trans (g4.kp.trans (g7.kp.trans gd38.kp)))
 replace hb:=hb.kp kq41
 refine ec 20 (den_i hb) ?_
 rintro e40 w40 ⟨⟨x40,y40,rfl,h40⟩,g40⟩
 refine ⟨_,rfl,?_⟩
 replace hB:=hB.trans g40
 replace L2:=L2.gr g40
 replace L3:=L3.gr g40
 refine ⟨⟨L2,L3⟩,?_⟩
 simp only [p3,p4]
 refine oe ?_
 have kq44:=g7.kp.trans (gd38.kp.trans g40.kp)
 replace ha:=ha.kp kq44
 refine ec 21 (mul_i ha.num h40 (by omega)) ?_
 rintro e43 w43 ⟨⟨x43,y43,rfl,h43⟩,g43⟩
 refine ⟨_,rfl,?_⟩
 replace hB:=hB.trans g43
 replace L2:=L2.gr g43
 replace L3:=L3.gr g43
 refine ⟨⟨L2,L3⟩,?_⟩
 simp only [p3,p4]
 refine oe ?_
 replace ha:=ha.kp g43.kp
 refine ec 25 (den_i ha) ?_
 rintro e46 w46 ⟨⟨x46,y46,rfl,h46⟩,g46⟩
 refine ⟨_,rfl,?_⟩
 replace hB:=hB.trans g46
 replace L2:=L2.gr g46
 replace L3:=L3.gr g46
 refine ⟨⟨L2,L3⟩,?_⟩
 simp only [p3,p4]
 refine oe ?_
 have kq49:=g40.kp.trans (g43.kp.trans g46.kp)
 replace hb:=hb.kp kq49
 refine ec 26 (mul_i hb.num h46 (by omega)) ?_
 rintro e48 w48 ⟨⟨x48,y48,rfl,h48⟩,g48⟩
 refine ⟨_,rfl,?_⟩
 replace hB:=hB.trans g48
 replace L2:=L2.gr g48
 replace L3:=L3.gr g48
 refine ⟨⟨L2,L3⟩,?_⟩
 simp only [p3,p4]
 refine oe ?_
 have kq52:=g46.kp.trans g48.kp
 replace h43:=h43.kp kq52
 refine ec 27 (add_e (k+m) h43 h48 (by omega) (by omega) (by omega)) ?_
 rintro e51 w51 ⟨⟨x51,y51,rfl,h51⟩,g51⟩
 refine ⟨_,rfl,?_⟩
 replace hB:=hB.trans g51
 replace L2:=L2.gr g51
 replace L3:=L3.gr g51
 refine ⟨⟨L2,L3⟩,?_⟩
 simp only [p3,p4]
 refine oe ?_
 have kq55:=g46.kp.trans (g48.kp.trans g51.kp)
 replace ha:=ha.kp kq55
 refine ec 29 (den_i ha) ?_
 rintro e54 w54 ⟨⟨x54,y54,rfl,h54⟩,g54⟩
 refine ⟨_,rfl,?_⟩
 replace hB:=hB.trans g54
 replace L2:=L2.gr g54
 replace L3:=L3.gr g54
 refine ⟨⟨L2,L3⟩,?_⟩
 simp only [p3,p4]
 refine oe ?_
 have kq58:=g48.kp.trans (g51.kp.trans g54.kp)
 replace hb:=hb.kp kq58
 refine ec 31 (den_i hb) ?_
 rintro e57 w57 ⟨⟨x57,y57,rfl,h57⟩,g57⟩
 refine ⟨_,rfl,?_⟩
 replace hB:=hB.trans g57
 replace L2:=L2.gr g57
 replace L3:=L3.gr g57
 refine ⟨⟨L2,L3⟩,?_⟩
 simp only [p3,p4]
 refine oe ?_
 replace h54:=h54.kp g57.kp
 refine ec 32 (mul_i h54 h57 (by omega)) ?_
 rintro e60 w60 ⟨⟨x60,y60,rfl,h60⟩,g60⟩
 refine ⟨_,rfl,?_⟩
 replace hB:=hB.trans g60
 replace L2:=L2.gr g60
 replace L3:=L3.gr g60
 refine ⟨⟨L2,L3⟩,?_⟩
 simp only [p3,p4]
 refine oe ?_
 have kq63:=g54.kp.trans (g57.kp.trans g60.kp)
 replace h51:=h51.kp kq63
 refine ec 33 (reduced_i ((k+m+1)) h51 h60 (Int.mul_pos (Int.natCast_pos.2 a.den_pos) (Int.natCast_pos.2 b.den_pos)) (by omega) (by omega) (by omega) (by omega)) ?_
 rintro e62 w62 ⟨⟨p62,q62,r62,s62,rfl,h62⟩,g62⟩
 refine ⟨_,rfl,?_⟩
 replace hB:=hB.trans g62
 replace L2:=L2.gr g62
 replace L3:=L3.gr g62
 refine ⟨⟨L2,L3⟩,?_⟩
 simp only [p3,p4]
 refine oe ?_
 replace L4:=L4.gr (g7.trans (gd38.trans (g40.trans (g43.trans (g46.trans (g48.trans (g51.trans (g54.trans (g57.trans (g60.trans g62))))))))))
 refine es 71 0 (.agg #[p62,q62,r62,s62]) [p62,q62,r62,s62] #[p62,q62,r62,s62] L4 hB q4 ⟨h62.one0,h62.one1,h62.one2,h62.one3,trivial⟩ fun w65 st65 kp65 L4 hB=>?_
 replace L2:=st65.lc L2 ne2_4
 replace L3:=st65.lc L3 ne3_4
 refine ⟨⟨L2,L3⟩,?_⟩
 refine ord_nil ?_
 refine k9 _ _ ?_
 try clear k9 K9
 refine wp_ret ?_
 refine bodyPost_ret (v:=(.agg #[p62,q62,r62,s62])) (ret_cell _ _ _ rfl rfl L4 (by kernel_rfl)) rfl ⟨?_,hB⟩
 replace h62:=h62.kp kp65
 exact ⟨_,_,_,_,rfl,by rw [← rat_add];exact h62⟩

theorem add_r {k m:Nat} {u0 u1 u2 u3 v0 v1 v2 v3:Value} {a b:Rat} {w:World} (ha:IsRat w k u0 u1 u2 u3 a) (hb:IsRat w m v0 v1 v2 v3 b) (hk:k+m≤100000):
    Calls Tryz.prog 98 #[.agg #[u0,u1,u2,u3],.agg #[v0,v1,v2,v3]] w fun e w'=>(∃ c0 c1 c2 c3,e=.returned (.agg #[c0,c1,c2,c3])∧IsRat w' (k+m+1) c0 c1 c2 c3 (a+b))∧Gr w w':=by
  by_cases wa:a.den=1
  · by_cases wb:b.den=1
    · exact add_tt ha hb hk wa wb
    · exact add_tf ha hb hk wa wb
  · exact add_f ha hb hk wa

set_option maxRecDepth 100000 in
set_option maxHeartbeats 1000000 in
theorem mul_tt {k m:Nat} {u0 u1 u2 u3 v0 v1 v2 v3:Value} {a b:Rat} {w:World} (ha:IsRat w k u0 u1 u2 u3 a) (hb:IsRat w m v0 v1 v2 v3 b) (_hk:k+m≤100000) (wa:a.den=1) (wb:b.den=1):
    Calls Tryz.prog 48 #[(.agg #[u0,u1,u2,u3]),(.agg #[v0,v1,v2,v3])] w fun e w'=>(∃ c0 c1 c2 c3,e=.returned (.agg #[c0,c1,c2,c3])∧IsRat w' (k+m) c0 c1 c2 c3 (a*b))∧Gr w w':=by
 have hka:=ha.big
 have hkb:=hb.big
 go_enter Tryz.func48,Tryz.ntmps48
 have hB:=Gr.refl w
 refine wp_seq_k (fun K1 k1=>?_)
 refine rg [0,1,2] ?_
 refine se ?_
 refine eb 71 #[u0,u1,u2,u3] 2 hB fun b2 w2 g2 L2 o2 q2 hB=>?_
 simp only [p3,p4]
 refine se ?_
 refine eb 71 #[v0,v1,v2,v3] 3 hB fun b3 w3 g3 L3 o3 q3 hB=>?_
 simp only [p3,p4]
 refine se ?_
 refine ea 71 #[(.bool false),(.slice none 0 0),(.bool false),(.slice none 0 0)] 4 hB fun b4 w4 g4 L4 o4 q4 hB=>?_
 replace L2:=L2.gr g3
 simp only [p3,p4]
 refine sq_nil ?_
 refine k1 _ _ ?_
 try clear k1 K1
 refine wp_seq_k (fun K5 k5=>?_)
 refine wp_seq_k (fun K6 k6=>?_)
 refine rg [0,1,2,3,4,5] ?_
 replace L2:=L2.gr g4
 refine sw 5 (.agg #[u0,u1,u2,u3]) rfl (rl 71 0 [u0,u1,u2,u3] L2) ?_
 refine se ?_
 have kq8:=g2.kp.trans (g3.kp.trans g4.kp)
 replace ha:=ha.kp kq8
 refine ec 6 (whole_t ha (by omega) wa) ?_
 rintro e7 w7 ⟨rfl,g7⟩
 refine ⟨_,rfl,?_⟩
 replace hB:=hB.trans g7
 simp only [p3,p4]
 refine sv 7 (.bool true) ?_
 replace L3:=L3.gr (g4.trans g7)
 refine sw 8 (.agg #[v0,v1,v2,v3]) rfl (rl 71 0 [v0,v1,v2,v3] L3) ?_
 refine se ?_
 have kq10:=g2.kp.trans (g3.kp.trans (g4.kp.trans g7.kp))
 replace hb:=hb.kp kq10
 refine ec 9 (whole_t hb (by omega) wb) ?_
 rintro e9 w9 ⟨rfl,g9⟩
 refine ⟨_,rfl,?_⟩
 replace hB:=hB.trans g9
 simp only [p3,p4]
 refine sv 10 (.bool true) ?_
 refine sq_nil ?_
 refine k6 _ _ ?_
 try clear k6 K6
 refine wp_cond_true rfl ?_
 refine wp_seq_k (fun K11 k11=>?_)
 refine rg [0,1,2,3,4,5,6] ?_
 refine sv 11 (.pointer (some ⟨b2,0,none⟩)) ?_
 replace L2:=L2.gr (g7.trans g9)
 refine sw 12 (.agg #[u0,u1]) rfl (rl 69 0 [u0,u1] L2) ?_
 refine sv 13 (.pointer (some ⟨b3,0,none⟩)) ?_
 replace L3:=L3.gr g9
 refine sw 14 (.agg #[v0,v1]) rfl (rl 69 0 [v0,v1] L3) ?_
 refine se ?_
 have kq13:=g7.kp.trans g9.kp
 replace ha:=ha.kp kq13
 replace hb:=hb.kp g9.kp
 refine ec 15 (mul_i ha.num hb.num (by omega)) ?_
 rintro e12 w12 ⟨⟨x12,y12,rfl,h12⟩,g12⟩
 refine ⟨_,rfl,?_⟩
 replace hB:=hB.trans g12
 simp only [p3,p4]
 refine sv 16 (.agg #[x12,y12,(.bool false),(.slice none 0 0)]) ?_
 refine se ?_
 replace L4:=L4.gr (g7.trans (g9.trans g12))
 refine es 71 0 (.agg #[x12,y12,(.bool false),(.slice none 0 0)]) [x12,y12,(.bool false),(.slice none 0 0)] #[x12,y12,(.bool false),(.slice none 0 0)] L4 hB q4 ⟨h12.one0,h12.one1,rfl,rfl,trivial⟩ fun w14 st14 kp14 L4 hB=>?_
 refine sq_nil ?_
 refine k11 _ _ ?_
 try clear k11 K11
 refine wp_ret ?_
 simp only [Exit.then]
 refine bodyPost_ret (v:=(.agg #[x12,y12,(.bool false),(.slice none 0 0)])) (ret_cell _ _ _ rfl rfl L4 (by kernel_rfl)) rfl ⟨?_,hB⟩
 replace h12:=h12.kp kp14
 exact ⟨_,_,_,_,rfl,by rw [← rat_int wa,← rat_int wb,← Rat.intCast_mul];exact IsRat.int h12 (by omega)⟩

set_option maxRecDepth 100000 in
set_option maxHeartbeats 1000000 in
theorem mul_tf {k m:Nat} {u0 u1 u2 u3 v0 v1 v2 v3:Value} {a b:Rat} {w:World} (ha:IsRat w k u0 u1 u2 u3 a) (hb:IsRat w m v0 v1 v2 v3 b) (_hk:k+m≤100000) (wa:a.den=1) (wb:b.den≠1):
    Calls Tryz.prog 48 #[(.agg #[u0,u1,u2,u3]),(.agg #[v0,v1,v2,v3])] w fun e w'=>(∃ c0 c1 c2 c3,e=.returned (.agg #[c0,c1,c2,c3])∧IsRat w' (k+m) c0 c1 c2 c3 (a*b))∧Gr w w':=by
 have hka:=ha.big
 have hkb:=hb.big
 go_enter Tryz.func48,Tryz.ntmps48
 have hB:=Gr.refl w
 refine wp_seq_k (fun K1 k1=>?_)
 refine rg [0,1,2] ?_
 refine se ?_
 refine eb 71 #[u0,u1,u2,u3] 2 hB fun b2 w2 g2 L2 o2 q2 hB=>?_
 simp only [p3,p4]
 refine se ?_
 refine eb 71 #[v0,v1,v2,v3] 3 hB fun b3 w3 g3 L3 o3 q3 hB=>?_
 simp only [p3,p4]
 refine se ?_
 refine ea 71 #[(.bool false),(.slice none 0 0),(.bool false),(.slice none 0 0)] 4 hB fun b4 w4 g4 L4 o4 q4 hB=>?_
 replace L2:=L2.gr g3
 have ne2_4:=L2.ne o4
 have ne3_4:=L3.ne o4
 simp only [p3,p4]
 refine sq_nil ?_
 refine k1 _ _ ?_
 try clear k1 K1
 refine wp_seq_k (fun K5 k5=>?_)
 refine wp_seq_k (fun K6 k6=>?_)
 refine rg [0,1,2,3,4,5] ?_
 replace L2:=L2.gr g4
 refine sw 5 (.agg #[u0,u1,u2,u3]) rfl (rl 71 0 [u0,u1,u2,u3] L2) ?_
 refine se ?_
 have kq8:=g2.kp.trans (g3.kp.trans g4.kp)
 replace ha:=ha.kp kq8
 refine ec 6 (whole_t ha (by omega) wa) ?_
 rintro e7 w7 ⟨rfl,g7⟩
 refine ⟨_,rfl,?_⟩
 replace hB:=hB.trans g7
 simp only [p3,p4]
 refine sv 7 (.bool true) ?_
 replace L3:=L3.gr (g4.trans g7)
 refine sw 8 (.agg #[v0,v1,v2,v3]) rfl (rl 71 0 [v0,v1,v2,v3] L3) ?_
 refine se ?_
 have kq10:=g2.kp.trans (g3.kp.trans (g4.kp.trans g7.kp))
 replace hb:=hb.kp kq10
 refine ec 9 (whole_f hb (by omega) wb) ?_
 rintro e9 w9 ⟨rfl,g9⟩
 refine ⟨_,rfl,?_⟩
 replace hB:=hB.trans g9
 simp only [p3,p4]
 refine sv 10 (.bool false) ?_
 refine sq_nil ?_
 refine k6 _ _ ?_
 try clear k6 K6
 refine wp_cond_false rfl ?_
 refine wp_skip ?_
 refine k5 _ _ ?_
 try clear k5 K5
 refine wp_seq_k (fun K11 k11=>?_)
 have gd29:=Gr.drew w9
 replace hB:=hB.trans gd29
 replace L2:=L2.gr (g7.trans (g9.trans gd29))
 replace L3:=L3.gr (g9.trans gd29)
 refine wp_region_ord (fun w'=>Lc w' b2 #[u0,u1,u2,u3] 71∧Lc w' b3 #[v0,v1,v2,v3] 71) [(true,0),(true,1),(true,2),(true,3),(true,5),(true,7),(false,4),(false,6),(false,8),(false,9),(false,10),(false,11)] (by kernel_rfl) (by kernel_rfl) (by kernel_rfl) (by decide) (fun _ _ _ _ _ h=>h) ⟨L2,L3⟩ ?_
 refine ov 17 (.pointer (some ⟨b2,0,none⟩)) ?_
 refine ow 18 (.agg #[u0,u1]) rfl (fun w' hS=>(rl 69 0 [u0,u1] hS.1)) ?_
 refine ov 19 (.pointer (some ⟨b3,0,none⟩)) ?_
 refine ow 20 (.agg #[v0,v1]) rfl (fun w' hS=>(rl 69 0 [v0,v1] hS.2)) ?_
 refine ow 22 (.agg #[u0,u1,u2,u3]) rfl (fun w' hS=>(rl 71 0 [u0,u1,u2,u3] hS.1)) ?_
 refine ow 24 (.agg #[v0,v1,v2,v3]) rfl (fun w' hS=>(rl 71 0 [v0,v1,v2,v3] hS.2)) ?_
 refine oe ?_
 have kq32:=g7.kp.trans (g9.kp.trans gd29.kp)
 replace ha:=ha.kp kq32
 have kq33:=g9.kp.trans gd29.kp
 replace hb:=hb.kp kq33
 refine ec 21 (mul_i ha.num hb.num (by omega)) ?_
 rintro e31 w31 ⟨⟨x31,y31,rfl,h31⟩,g31⟩
 refine ⟨_,rfl,?_⟩
 replace hB:=hB.trans g31
 replace L2:=L2.gr g31
 replace L3:=L3.gr g31
 refine ⟨⟨L2,L3⟩,?_⟩
 simp only [p3,p4]
 refine oe ?_
 replace ha:=ha.kp g31.kp
 refine ec 23 (den_i ha) ?_
 rintro e35 w35 ⟨⟨x35,y35,rfl,h35⟩,g35⟩
 refine ⟨_,rfl,?_⟩
 replace hB:=hB.trans g35
 replace L2:=L2.gr g35
 replace L3:=L3.gr g35
 refine ⟨⟨L2,L3⟩,?_⟩
 simp only [p3,p4]
 refine oe ?_
 have kq38:=g31.kp.trans g35.kp
 replace hb:=hb.kp kq38
 refine ec 25 (den_i hb) ?_
 rintro e37 w37 ⟨⟨x37,y37,rfl,h37⟩,g37⟩
 refine ⟨_,rfl,?_⟩
 replace hB:=hB.trans g37
 replace L2:=L2.gr g37
 replace L3:=L3.gr g37
 refine ⟨⟨L2,L3⟩,?_⟩
 simp only [p3,p4]
 refine oe ?_
 replace h35:=h35.kp g37.kp
 refine ec 26 (mul_i h35 h37 (by omega)) ?_
 rintro e40 w40 ⟨⟨x40,y40,rfl,h40⟩,g40⟩
 refine ⟨_,rfl,?_⟩
 replace hB:=hB.trans g40
 replace L2:=L2.gr g40
 replace L3:=L3.gr g40
 refine ⟨⟨L2,L3⟩,?_⟩
 simp only [p3,p4]
 refine oe ?_
 have kq43:=g35.kp.trans (g37.kp.trans g40.kp)
 replace h31:=h31.kp kq43
 refine ec 27 (reduced_i ((k+m)) h31 h40 (Int.mul_pos (Int.natCast_pos.2 a.den_pos) (Int.natCast_pos.2 b.den_pos)) (by omega) (by omega) (by omega) (by omega)) ?_
 rintro e42 w42 ⟨⟨p42,q42,r42,s42,rfl,h42⟩,g42⟩
 refine ⟨_,rfl,?_⟩
 replace hB:=hB.trans g42
 replace L2:=L2.gr g42
 replace L3:=L3.gr g42
 refine ⟨⟨L2,L3⟩,?_⟩
 simp only [p3,p4]
 refine oe ?_
 replace L4:=L4.gr (g7.trans (g9.trans (gd29.trans (g31.trans (g35.trans (g37.trans (g40.trans g42)))))))
 refine es 71 0 (.agg #[p42,q42,r42,s42]) [p42,q42,r42,s42] #[p42,q42,r42,s42] L4 hB q4 ⟨h42.one0,h42.one1,h42.one2,h42.one3,trivial⟩ fun w45 st45 kp45 L4 hB=>?_
 replace L2:=st45.lc L2 ne2_4
 replace L3:=st45.lc L3 ne3_4
 refine ⟨⟨L2,L3⟩,?_⟩
 refine ord_nil ?_
 refine k11 _ _ ?_
 try clear k11 K11
 refine wp_ret ?_
 refine bodyPost_ret (v:=(.agg #[p42,q42,r42,s42])) (ret_cell _ _ _ rfl rfl L4 (by kernel_rfl)) rfl ⟨?_,hB⟩
 replace h42:=h42.kp kp45
 exact ⟨_,_,_,_,rfl,by rw [← rat_mul];exact h42⟩

set_option maxRecDepth 100000 in
set_option maxHeartbeats 1000000 in
theorem mul_f {k m:Nat} {u0 u1 u2 u3 v0 v1 v2 v3:Value} {a b:Rat} {w:World} (ha:IsRat w k u0 u1 u2 u3 a) (hb:IsRat w m v0 v1 v2 v3 b) (_hk:k+m≤100000) (wa:a.den≠1):
    Calls Tryz.prog 48 #[(.agg #[u0,u1,u2,u3]),(.agg #[v0,v1,v2,v3])] w fun e w'=>(∃ c0 c1 c2 c3,e=.returned (.agg #[c0,c1,c2,c3])∧IsRat w' (k+m) c0 c1 c2 c3 (a*b))∧Gr w w':=by
 have hka:=ha.big
 have hkb:=hb.big
 go_enter Tryz.func48,Tryz.ntmps48
 have hB:=Gr.refl w
 refine wp_seq_k (fun K1 k1=>?_)
 refine rg [0,1,2] ?_
 refine se ?_
 refine eb 71 #[u0,u1,u2,u3] 2 hB fun b2 w2 g2 L2 o2 q2 hB=>?_
 simp only [p3,p4]
 refine se ?_
 refine eb 71 #[v0,v1,v2,v3] 3 hB fun b3 w3 g3 L3 o3 q3 hB=>?_
 simp only [p3,p4]
 refine se ?_
 refine ea 71 #[(.bool false),(.slice none 0 0),(.bool false),(.slice none 0 0)] 4 hB fun b4 w4 g4 L4 o4 q4 hB=>?_
 replace L2:=L2.gr g3
 have ne2_4:=L2.ne o4
 have ne3_4:=L3.ne o4
 simp only [p3,p4]
 refine sq_nil ?_
 refine k1 _ _ ?_
 try clear k1 K1
 refine wp_seq_k (fun K5 k5=>?_)
 refine wp_seq_k (fun K6 k6=>?_)
 refine rg [0,1,2,3,4,5] ?_
 replace L2:=L2.gr g4
 refine sw 5 (.agg #[u0,u1,u2,u3]) rfl (rl 71 0 [u0,u1,u2,u3] L2) ?_
 refine se ?_
 have kq8:=g2.kp.trans (g3.kp.trans g4.kp)
 replace ha:=ha.kp kq8
 refine ec 6 (whole_f ha (by omega) wa) ?_
 rintro e7 w7 ⟨rfl,g7⟩
 refine ⟨_,rfl,?_⟩
 replace hB:=hB.trans g7
 simp only [p3,p4]
 refine sv 7 (.bool false) ?_
 refine ss 8 ?_
 refine ss 9 ?_
 refine sv 10 (.bool false) ?_
 refine sq_nil ?_
 refine k6 _ _ ?_
 try clear k6 K6
 refine wp_cond_false rfl ?_
 refine wp_skip ?_
 refine k5 _ _ ?_
 try clear k5 K5
 refine wp_seq_k (fun K9 k9=>?_)
 have gd27:=Gr.drew w7
 replace hB:=hB.trans gd27
 replace L2:=L2.gr (g7.trans gd27)
 replace L3:=L3.gr (g4.trans (g7.trans gd27))
 refine wp_region_ord (fun w'=>Lc w' b2 #[u0,u1,u2,u3] 71∧Lc w' b3 #[v0,v1,v2,v3] 71) [(true,0),(true,1),(true,2),(true,3),(true,5),(true,7),(false,4),(false,6),(false,8),(false,9),(false,10),(false,11)] (by kernel_rfl) (by kernel_rfl) (by kernel_rfl) (by decide) (fun _ _ _ _ _ h=>h) ⟨L2,L3⟩ ?_
 refine ov 17 (.pointer (some ⟨b2,0,none⟩)) ?_
 refine ow 18 (.agg #[u0,u1]) rfl (fun w' hS=>(rl 69 0 [u0,u1] hS.1)) ?_
 refine ov 19 (.pointer (some ⟨b3,0,none⟩)) ?_
 refine ow 20 (.agg #[v0,v1]) rfl (fun w' hS=>(rl 69 0 [v0,v1] hS.2)) ?_
 refine ow 22 (.agg #[u0,u1,u2,u3]) rfl (fun w' hS=>(rl 71 0 [u0,u1,u2,u3] hS.1)) ?_
 refine ow 24 (.agg #[v0,v1,v2,v3]) rfl (fun w' hS=>(rl 71 0 [v0,v1,v2,v3] hS.2)) ?_
 refine oe ?_
 have kq30:=g7.kp.trans gd27.kp
 replace ha:=ha.kp kq30
 have kq31:=g2.kp.trans (g3.kp.trans (g4.kp.trans (g7.kp.trans gd27.kp)))
 replace hb:=hb.kp kq31
 refine ec 21 (mul_i ha.num hb.num (by omega)) ?_
 rintro e29 w29 ⟨⟨x29,y29,rfl,h29⟩,g29⟩
 refine ⟨_,rfl,?_⟩
 replace hB:=hB.trans g29
 replace L2:=L2.gr g29
 replace L3:=L3.gr g29
 refine ⟨⟨L2,L3⟩,?_⟩
 simp only [p3,p4]
 refine oe ?_
 replace ha:=ha.kp g29.kp
 refine ec 23 (den_i ha) ?_
 rintro e33 w33 ⟨⟨x33,y33,rfl,h33⟩,g33⟩
 refine ⟨_,rfl,?_⟩
 replace hB:=hB.trans g33
 replace L2:=L2.gr g33
 replace L3:=L3.gr g33
 refine ⟨⟨L2,L3⟩,?_⟩
 simp only [p3,p4]
 refine oe ?_
 have kq36:=g29.kp.trans g33.kp
 replace hb:=hb.kp kq36
 refine ec 25 (den_i hb) ?_
 rintro e35 w35 ⟨⟨x35,y35,rfl,h35⟩,g35⟩
 refine ⟨_,rfl,?_⟩
 replace hB:=hB.trans g35
 replace L2:=L2.gr g35
 replace L3:=L3.gr g35
 refine ⟨⟨L2,L3⟩,?_⟩
 simp only [p3,p4]
 refine oe ?_
 replace h33:=h33.kp g35.kp
 refine ec 26 (mul_i h33 h35 (by omega)) ?_
 rintro e38 w38 ⟨⟨x38,y38,rfl,h38⟩,g38⟩
 refine ⟨_,rfl,?_⟩
 replace hB:=hB.trans g38
 replace L2:=L2.gr g38
 replace L3:=L3.gr g38
 refine ⟨⟨L2,L3⟩,?_⟩
 simp only [p3,p4]
 refine oe ?_
 have kq41:=g33.kp.trans (g35.kp.trans g38.kp)
 replace h29:=h29.kp kq41
 refine ec 27 (reduced_i ((k+m)) h29 h38 (Int.mul_pos (Int.natCast_pos.2 a.den_pos) (Int.natCast_pos.2 b.den_pos)) (by omega) (by omega) (by omega) (by omega)) ?_
 rintro e40 w40 ⟨⟨p40,q40,r40,s40,rfl,h40⟩,g40⟩
 refine ⟨_,rfl,?_⟩
 replace hB:=hB.trans g40
 replace L2:=L2.gr g40
 replace L3:=L3.gr g40
 refine ⟨⟨L2,L3⟩,?_⟩
 simp only [p3,p4]
 refine oe ?_
 replace L4:=L4.gr (g7.trans (gd27.trans (g29.trans (g33.trans (g35.trans (g38.trans g40))))))
 refine es 71 0 (.agg #[p40,q40,r40,s40]) [p40,q40,r40,s40] #[p40,q40,r40,s40] L4 hB q4 ⟨h40.one0,h40.one1,h40.one2,h40.one3,trivial⟩ fun w43 st43 kp43 L4 hB=>?_
 replace L2:=st43.lc L2 ne2_4
 replace L3:=st43.lc L3 ne3_4
 refine ⟨⟨L2,L3⟩,?_⟩
 refine ord_nil ?_
 refine k9 _ _ ?_
 try clear k9 K9
 refine wp_ret ?_
 refine bodyPost_ret (v:=(.agg #[p40,q40,r40,s40])) (ret_cell _ _ _ rfl rfl L4 (by kernel_rfl)) rfl ⟨?_,hB⟩
 replace h40:=h40.kp kp43
 exact ⟨_,_,_,_,rfl,by rw [← rat_mul];exact h40⟩

theorem mul_r {k m:Nat} {u0 u1 u2 u3 v0 v1 v2 v3:Value} {a b:Rat} {w:World} (ha:IsRat w k u0 u1 u2 u3 a) (hb:IsRat w m v0 v1 v2 v3 b) (hk:k+m≤100000):
    Calls Tryz.prog 48 #[.agg #[u0,u1,u2,u3],.agg #[v0,v1,v2,v3]] w fun e w'=>(∃ c0 c1 c2 c3,e=.returned (.agg #[c0,c1,c2,c3])∧IsRat w' (k+m) c0 c1 c2 c3 (a*b))∧Gr w w':=by
  by_cases wa:a.den=1
  · by_cases wb:b.den=1
    · exact mul_tt ha hb hk wa wb
    · exact mul_tf ha hb hk wa wb
  · exact mul_f ha hb hk wa

set_option maxRecDepth 100000 in
set_option maxHeartbeats 1000000 in
theorem neg_r {k:Nat} {u0 u1 u2 u3:Value} {a:Rat} {w:World} (ha:IsRat w k u0 u1 u2 u3 a):
    Calls Tryz.prog 49 #[(.agg #[u0,u1,u2,u3])] w fun e w'=>(∃ c0 c1 c2 c3,e=.returned (.agg #[c0,c1,c2,c3])∧IsRat w' k c0 c1 c2 c3 (-a))∧Gr w w':=by
 go_enter Tryz.func49,Tryz.ntmps49
 have hB:=Gr.refl w
 refine wp_seq_k (fun K1 k1=>?_)
 refine rg [0,1] ?_
 refine se ?_
 refine eb 71 #[u0,u1,u2,u3] 1 hB fun b2 w2 g2 L2 o2 q2 hB=>?_
 simp only [p3,p4]
 refine se ?_
 refine ea 71 #[(.bool false),(.slice none 0 0),(.bool false),(.slice none 0 0)] 2 hB fun b3 w3 g3 L3 o3 q3 hB=>?_
 have ne2_3:=L2.ne o3
 simp only [p3,p4]
 refine sq_nil ?_
 refine k1 _ _ ?_
 try clear k1 K1
 refine wp_seq_k (fun K4 k4=>?_)
 have gd11:=Gr.drew w3
 replace hB:=hB.trans gd11
 replace L2:=L2.gr (g3.trans gd11)
 refine wp_region_ord (fun w'=>Lc w' b2 #[u0,u1,u2,u3] 71) [(true,0),(true,1),(true,3),(true,4),(false,2),(true,5),(false,6)] (by kernel_rfl) (by kernel_rfl) (by kernel_rfl) (by decide) (fun _ _ _ _ _ h=>h) L2 ?_
 refine ov 3 (.pointer (some ⟨b2,0,none⟩)) ?_
 refine ow 4 (.agg #[u0,u1]) rfl (fun w' hS=>(rl 69 0 [u0,u1] hS)) ?_
 refine ov 6 (.pointer (some ⟨b2,2,none⟩)) ?_
 refine ow 7 (.agg #[u2,u3]) rfl (fun w' hS=>(rl 69 2 [u2,u3] hS)) ?_
 refine oe ?_
 have kq14:=g2.kp.trans (g3.kp.trans gd11.kp)
 replace ha:=ha.kp kq14
 refine ec 5 (neg_i ha.num) ?_
 rintro e13 w13 ⟨⟨x13,y13,rfl,h13⟩,g13⟩
 refine ⟨_,rfl,?_⟩
 replace hB:=hB.trans g13
 replace L2:=L2.gr g13
 refine ⟨L2,?_⟩
 simp only [p3,p4]
 refine ov 8 (.agg #[x13,y13,u2,u3]) ?_
 refine oe ?_
 replace L3:=L3.gr (gd11.trans g13)
 refine es 71 0 (.agg #[x13,y13,u2,u3]) [x13,y13,u2,u3] #[x13,y13,u2,u3] L3 hB q3 ⟨h13.one0,h13.one1,ha.one2,ha.one3,trivial⟩ fun w16 st16 kp16 L3 hB=>?_
 replace L2:=st16.lc L2 ne2_3
 refine ⟨L2,?_⟩
 refine ord_nil ?_
 refine k4 _ _ ?_
 try clear k4 K4
 refine wp_ret ?_
 refine bodyPost_ret (v:=(.agg #[x13,y13,u2,u3])) (ret_cell _ _ _ rfl rfl L3 (by kernel_rfl)) rfl ⟨?_,hB⟩
 have kq17:=g13.kp.trans kp16
 replace ha:=ha.kp kq17
 replace h13:=h13.kp kp16
 exact ⟨_,_,_,_,rfl,IsRat.neg ha h13⟩

set_option maxRecDepth 100000 in
set_option maxHeartbeats 1000000 in
theorem sub_r {k m:Nat} {u0 u1 u2 u3 v0 v1 v2 v3:Value} {a b:Rat} {w:World} (ha:IsRat w k u0 u1 u2 u3 a) (hb:IsRat w m v0 v1 v2 v3 b) (_hk:k+m≤100000):
    Calls Tryz.prog 115 #[(.agg #[u0,u1,u2,u3]),(.agg #[v0,v1,v2,v3])] w fun e w'=>(∃ c0 c1 c2 c3,e=.returned (.agg #[c0,c1,c2,c3])∧IsRat w' (k+m+1) c0 c1 c2 c3 (a - b))∧Gr w w':=by
 go_enter Tryz.func115,Tryz.ntmps115
 have hB:=Gr.refl w
 refine wp_seq_k (fun K1 k1=>?_)
 refine rg [0,1,2] ?_
 refine se ?_
 refine eb 71 #[u0,u1,u2,u3] 2 hB fun b2 w2 g2 L2 o2 q2 hB=>?_
 simp only [p3,p4]
 refine se ?_
 refine eb 71 #[v0,v1,v2,v3] 3 hB fun b3 w3 g3 L3 o3 q3 hB=>?_
 simp only [p3,p4]
 refine se ?_
 refine ea 71 #[(.bool false),(.slice none 0 0),(.bool false),(.slice none 0 0)] 4 hB fun b4 w4 g4 L4 o4 q4 hB=>?_
 replace L2:=L2.gr g3
 have ne2_4:=L2.ne o4
 have ne3_4:=L3.ne o4
 simp only [p3,p4]
 refine sq_nil ?_
 refine k1 _ _ ?_
 try clear k1 K1
 refine wp_seq_k (fun K5 k5=>?_)
 have gd15:=Gr.drew w4
 replace hB:=hB.trans gd15
 replace L2:=L2.gr (g4.trans gd15)
 replace L3:=L3.gr (g4.trans gd15)
 refine wp_region_ord (fun w'=>Lc w' b2 #[u0,u1,u2,u3] 71∧Lc w' b3 #[v0,v1,v2,v3] 71) [(true,0),(true,1),(false,2),(false,3),(false,4)] (by kernel_rfl) (by kernel_rfl) (by kernel_rfl) (by decide) (fun _ _ _ _ _ h=>h) ⟨L2,L3⟩ ?_
 refine ow 5 (.agg #[u0,u1,u2,u3]) rfl (fun w' hS=>(rl 71 0 [u0,u1,u2,u3] hS.1)) ?_
 refine ow 6 (.agg #[v0,v1,v2,v3]) rfl (fun w' hS=>(rl 71 0 [v0,v1,v2,v3] hS.2)) ?_
 refine oe ?_
 have kq18:=g2.kp.trans (g3.kp.trans (g4.kp.trans gd15.kp))
 replace hb:=hb.kp kq18
 refine ec 7 (neg_r hb) ?_
 rintro e17 w17 ⟨⟨p17,q17,r17,s17,rfl,h17⟩,g17⟩
 refine ⟨_,rfl,?_⟩
 replace hB:=hB.trans g17
 replace L2:=L2.gr g17
 replace L3:=L3.gr g17
 refine ⟨⟨L2,L3⟩,?_⟩
 simp only [p3,p4]
 refine oe ?_
 have kq21:=g2.kp.trans (g3.kp.trans (g4.kp.trans (gd15.kp.trans g17.kp)))
 replace ha:=ha.kp kq21
 refine ec 8 (add_r ha h17 (by omega)) ?_
 rintro e20 w20 ⟨⟨p20,q20,r20,s20,rfl,h20⟩,g20⟩
 refine ⟨_,rfl,?_⟩
 replace hB:=hB.trans g20
 replace L2:=L2.gr g20
 replace L3:=L3.gr g20
 refine ⟨⟨L2,L3⟩,?_⟩
 simp only [p3,p4]
 refine oe ?_
 replace L4:=L4.gr (gd15.trans (g17.trans g20))
 refine es 71 0 (.agg #[p20,q20,r20,s20]) [p20,q20,r20,s20] #[p20,q20,r20,s20] L4 hB q4 ⟨h20.one0,h20.one1,h20.one2,h20.one3,trivial⟩ fun w23 st23 kp23 L4 hB=>?_
 replace L2:=st23.lc L2 ne2_4
 replace L3:=st23.lc L3 ne3_4
 refine ⟨⟨L2,L3⟩,?_⟩
 refine ord_nil ?_
 refine k5 _ _ ?_
 try clear k5 K5
 refine wp_ret ?_
 refine bodyPost_ret (v:=(.agg #[p20,q20,r20,s20])) (ret_cell _ _ _ rfl rfl L4 (by kernel_rfl)) rfl ⟨?_,hB⟩
 replace h20:=h20.kp kp23
 exact ⟨_,_,_,_,rfl,by rw [Rat.sub_eq_add_neg];exact h20⟩

set_option maxRecDepth 100000 in
set_option maxHeartbeats 1000000 in
theorem sign_r {k:Nat} {u0 u1 u2 u3:Value} {a:Rat} {w:World} (ha:IsRat w k u0 u1 u2 u3 a):
    Calls Tryz.prog 32 #[(.agg #[u0,u1,u2,u3])] w fun e w'=>e=.returned (.int .i64 (sgn a.num))∧Gr w w':=by
 go_enter Tryz.func32,Tryz.ntmps32
 have hB:=Gr.refl w
 refine wp_seq_k (fun K1 k1=>?_)
 refine rg [0,1] ?_
 refine se ?_
 refine eb 71 #[u0,u1,u2,u3] 1 hB fun b2 w2 g2 L2 o2 q2 hB=>?_
 simp only [p3,p4]
 refine sv 2 (.int .i64 0) ?_
 refine sq_nil ?_
 refine k1 _ _ ?_
 try clear k1 K1
 refine wp_seq_k (fun K3 k3=>?_)
 refine rg [0,1,2,3] ?_
 refine sv 3 (.pointer (some ⟨b2,0,none⟩)) ?_
 refine sw 4 (.agg #[u0,u1]) rfl (rl 69 0 [u0,u1] L2) ?_
 refine se ?_
 replace ha:=ha.kp g2.kp
 refine ec 5 (sign_i ha.num) ?_
 rintro e4 w4 ⟨rfl,g4⟩
 refine ⟨_,rfl,?_⟩
 replace hB:=hB.trans g4
 simp only [p3,p4]
 refine sv 2 (.int .i64 (sgn (a.num))) ?_
 refine sq_nil ?_
 refine k3 _ _ ?_
 try clear k3 K3
 refine wp_ret ?_
 refine bodyPost_ret (v:=(.int .i64 (sgn (a.num)))) (ret_tmp rfl rfl) rfl ⟨?_,hB⟩
 exact rfl

set_option maxRecDepth 100000 in
set_option maxHeartbeats 1000000 in
theorem from_r (z:Int) (_h0:-9223372036854775808≤z) (_h1:z≤9223372036854775807) (w:World):
    Calls Tryz.prog 61 #[(.int .i64 (z))] w fun e w'=>(∃ c0 c1 c2 c3,e=.returned (.agg #[c0,c1,c2,c3])∧IsRat w' 64 c0 c1 c2 c3 ((z:Rat)))∧Gr w w':=by
 go_enter Tryz.func61,Tryz.ntmps61
 have hB:=Gr.refl w
 refine wp_seq_k (fun K1 k1=>?_)
 refine rg [0] ?_
 refine se ?_
 refine ea 71 #[(.bool false),(.slice none 0 0),(.bool false),(.slice none 0 0)] 2 hB fun b2 w2 g2 L2 o2 q2 hB=>?_
 simp only [p3,p4]
 refine sq_nil ?_
 refine k1 _ _ ?_
 try clear k1 K1
 refine wp_seq_k (fun K3 k3=>?_)
 refine rg [0,1,2,3] ?_
 refine sv 3 (.int .i64 (z)) ?_
 refine se ?_
 refine ec 4 (from_i (z) (by omega) (by omega) _) ?_
 rintro e4 w4 ⟨⟨x4,y4,rfl,h4⟩,g4⟩
 refine ⟨_,rfl,?_⟩
 replace hB:=hB.trans g4
 simp only [p3,p4]
 refine sv 5 (.agg #[x4,y4,(.bool false),(.slice none 0 0)]) ?_
 refine se ?_
 replace L2:=L2.gr g4
 refine es 71 0 (.agg #[x4,y4,(.bool false),(.slice none 0 0)]) [x4,y4,(.bool false),(.slice none 0 0)] #[x4,y4,(.bool false),(.slice none 0 0)] L2 hB q2 ⟨h4.one0,h4.one1,rfl,rfl,trivial⟩ fun w5 st5 kp5 L2 hB=>?_
 refine sq_nil ?_
 refine k3 _ _ ?_
 try clear k3 K3
 refine wp_ret ?_
 refine bodyPost_ret (v:=(.agg #[x4,y4,(.bool false),(.slice none 0 0)])) (ret_cell _ _ _ rfl rfl L2 (by kernel_rfl)) rfl ⟨?_,hB⟩
 replace h4:=h4.kp kp5
 exact ⟨_,_,_,_,rfl,IsRat.int h4 (by omega)⟩

set_option maxRecDepth 100000 in
set_option maxHeartbeats 1000000 in
theorem rcomp_tt {k m:Nat} {u0 u1 u2 u3 v0 v1 v2 v3:Value} {a b:Rat} {w:World} (ha:IsRat w k u0 u1 u2 u3 a) (hb:IsRat w m v0 v1 v2 v3 b) (_hk:k+m≤100000) (wa:a.den=1) (wb:b.den=1):
    Calls Tryz.prog 47 #[(.agg #[u0,u1,u2,u3]),(.agg #[v0,v1,v2,v3])] w fun e w'=>e=.returned (.int .i64 (rcmp a b))∧Gr w w':=by
 have hka:=ha.big
 have hkb:=hb.big
 go_enter Tryz.func47,Tryz.ntmps47
 have hB:=Gr.refl w
 refine wp_seq_k (fun K1 k1=>?_)
 refine rg [0,1,2] ?_
 refine se ?_
 refine eb 71 #[u0,u1,u2,u3] 2 hB fun b2 w2 g2 L2 o2 q2 hB=>?_
 simp only [p3,p4]
 refine se ?_
 refine eb 71 #[v0,v1,v2,v3] 3 hB fun b3 w3 g3 L3 o3 q3 hB=>?_
 simp only [p3,p4]
 refine sv 4 (.int .i64 0) ?_
 refine sq_nil ?_
 refine k1 _ _ ?_
 try clear k1 K1
 refine wp_seq_k (fun K4 k4=>?_)
 refine wp_seq_k (fun K5 k5=>?_)
 refine rg [0,1,2,3,4,5] ?_
 replace L2:=L2.gr g3
 refine sw 5 (.agg #[u0,u1,u2,u3]) rfl (rl 71 0 [u0,u1,u2,u3] L2) ?_
 refine se ?_
 have kq7:=g2.kp.trans g3.kp
 replace ha:=ha.kp kq7
 refine ec 6 (whole_t ha (by omega) wa) ?_
 rintro e6 w6 ⟨rfl,g6⟩
 refine ⟨_,rfl,?_⟩
 replace hB:=hB.trans g6
 simp only [p3,p4]
 refine sv 7 (.bool true) ?_
 replace L3:=L3.gr g6
 refine sw 8 (.agg #[v0,v1,v2,v3]) rfl (rl 71 0 [v0,v1,v2,v3] L3) ?_
 refine se ?_
 have kq9:=g2.kp.trans (g3.kp.trans g6.kp)
 replace hb:=hb.kp kq9
 refine ec 9 (whole_t hb (by omega) wb) ?_
 rintro e8 w8 ⟨rfl,g8⟩
 refine ⟨_,rfl,?_⟩
 replace hB:=hB.trans g8
 simp only [p3,p4]
 refine sv 10 (.bool true) ?_
 refine sq_nil ?_
 refine k5 _ _ ?_
 try clear k5 K5
 refine wp_cond_true rfl ?_
 refine wp_seq_k (fun K10 k10=>?_)
 refine rg [0,1,2,3,4,5] ?_
 refine sv 11 (.pointer (some ⟨b2,0,none⟩)) ?_
 replace L2:=L2.gr (g6.trans g8)
 refine sw 12 (.agg #[u0,u1]) rfl (rl 69 0 [u0,u1] L2) ?_
 refine sv 13 (.pointer (some ⟨b3,0,none⟩)) ?_
 replace L3:=L3.gr g8
 refine sw 14 (.agg #[v0,v1]) rfl (rl 69 0 [v0,v1] L3) ?_
 refine se ?_
 have kq12:=g6.kp.trans g8.kp
 replace ha:=ha.kp kq12
 replace hb:=hb.kp g8.kp
 refine ec 15 (compare_i ha.num hb.num (by omega) (by omega)) ?_
 rintro e11 w11 ⟨rfl,g11⟩
 refine ⟨_,rfl,?_⟩
 replace hB:=hB.trans g11
 simp only [p3,p4]
 refine sv 4 (.int .i64 (sgn (a.num - b.num))) ?_
 refine sq_nil ?_
 refine k10 _ _ ?_
 try clear k10 K10
 refine wp_ret ?_
 simp only [Exit.then]
 refine bodyPost_ret (v:=(.int .i64 (sgn (a.num - b.num)))) (ret_tmp rfl rfl) rfl ⟨?_,hB⟩
 exact by rw [rcmp_int wa wb]

set_option maxRecDepth 100000 in
set_option maxHeartbeats 1000000 in
theorem rcomp_tf {k m:Nat} {u0 u1 u2 u3 v0 v1 v2 v3:Value} {a b:Rat} {w:World} (ha:IsRat w k u0 u1 u2 u3 a) (hb:IsRat w m v0 v1 v2 v3 b) (_hk:k+m≤100000) (wa:a.den=1) (wb:b.den≠1):
    Calls Tryz.prog 47 #[(.agg #[u0,u1,u2,u3]),(.agg #[v0,v1,v2,v3])] w fun e w'=>e=.returned (.int .i64 (rcmp a b))∧Gr w w':=by
 have hka:=ha.big
 have hkb:=hb.big
 go_enter Tryz.func47,Tryz.ntmps47
 have hB:=Gr.refl w
 refine wp_seq_k (fun K1 k1=>?_)
 refine rg [0,1,2] ?_
 refine se ?_
 refine eb 71 #[u0,u1,u2,u3] 2 hB fun b2 w2 g2 L2 o2 q2 hB=>?_
 simp only [p3,p4]
 refine se ?_
 refine eb 71 #[v0,v1,v2,v3] 3 hB fun b3 w3 g3 L3 o3 q3 hB=>?_
 simp only [p3,p4]
 refine sv 4 (.int .i64 0) ?_
 refine sq_nil ?_
 refine k1 _ _ ?_
 try clear k1 K1
 refine wp_seq_k (fun K4 k4=>?_)
 refine wp_seq_k (fun K5 k5=>?_)
 refine rg [0,1,2,3,4,5] ?_
 replace L2:=L2.gr g3
 refine sw 5 (.agg #[u0,u1,u2,u3]) rfl (rl 71 0 [u0,u1,u2,u3] L2) ?_
 refine se ?_
 have kq7:=g2.kp.trans g3.kp
 replace ha:=ha.kp kq7
 refine ec 6 (whole_t ha (by omega) wa) ?_
 rintro e6 w6 ⟨rfl,g6⟩
 refine ⟨_,rfl,?_⟩
 replace hB:=hB.trans g6
 simp only [p3,p4]
 refine sv 7 (.bool true) ?_
 replace L3:=L3.gr g6
 refine sw 8 (.agg #[v0,v1,v2,v3]) rfl (rl 71 0 [v0,v1,v2,v3] L3) ?_
 refine se ?_
 have kq9:=g2.kp.trans (g3.kp.trans g6.kp)
 replace hb:=hb.kp kq9
 refine ec 9 (whole_f hb (by omega) wb) ?_
 rintro e8 w8 ⟨rfl,g8⟩
 refine ⟨_,rfl,?_⟩
 replace hB:=hB.trans g8
 simp only [p3,p4]
 refine sv 10 (.bool false) ?_
 refine sq_nil ?_
 refine k5 _ _ ?_
 try clear k5 K5
 refine wp_cond_false rfl ?_
 refine wp_skip ?_
 refine k4 _ _ ?_
 try clear k4 K4
 refine wp_seq_k (fun K10 k10=>?_)
 have gd26:=Gr.drew w8
 replace hB:=hB.trans gd26
 replace L2:=L2.gr (g6.trans (g8.trans gd26))
 replace L3:=L3.gr (g8.trans gd26)
 refine wp_region_ord (fun w'=>Lc w' b2 #[u0,u1,u2,u3] 71∧Lc w' b3 #[v0,v1,v2,v3] 71) [(true,0),(true,1),(true,2),(true,5),(true,6),(true,7),(false,3),(false,4),(false,8),(false,9),(false,10),(true,11)] (by kernel_rfl) (by kernel_rfl) (by kernel_rfl) (by decide) (fun _ _ _ _ _ h=>h) ⟨L2,L3⟩ ?_
 refine ov 16 (.pointer (some ⟨b2,0,none⟩)) ?_
 refine ow 17 (.agg #[u0,u1]) rfl (fun w' hS=>(rl 69 0 [u0,u1] hS.1)) ?_
 refine ow 18 (.agg #[v0,v1,v2,v3]) rfl (fun w' hS=>(rl 71 0 [v0,v1,v2,v3] hS.2)) ?_
 refine ov 21 (.pointer (some ⟨b3,0,none⟩)) ?_
 refine ow 22 (.agg #[v0,v1]) rfl (fun w' hS=>(rl 69 0 [v0,v1] hS.2)) ?_
 refine ow 23 (.agg #[u0,u1,u2,u3]) rfl (fun w' hS=>(rl 71 0 [u0,u1,u2,u3] hS.1)) ?_
 refine oe ?_
 have kq29:=g8.kp.trans gd26.kp
 replace hb:=hb.kp kq29
 refine ec 19 (den_i hb) ?_
 rintro e28 w28 ⟨⟨x28,y28,rfl,h28⟩,g28⟩
 refine ⟨_,rfl,?_⟩
 replace hB:=hB.trans g28
 replace L2:=L2.gr g28
 replace L3:=L3.gr g28
 refine ⟨⟨L2,L3⟩,?_⟩
 simp only [p3,p4]
 refine oe ?_
 have kq32:=g6.kp.trans (g8.kp.trans (gd26.kp.trans g28.kp))
 replace ha:=ha.kp kq32
 refine ec 20 (mul_i ha.num h28 (by omega)) ?_
 rintro e31 w31 ⟨⟨x31,y31,rfl,h31⟩,g31⟩
 refine ⟨_,rfl,?_⟩
 replace hB:=hB.trans g31
 replace L2:=L2.gr g31
 replace L3:=L3.gr g31
 refine ⟨⟨L2,L3⟩,?_⟩
 simp only [p3,p4]
 refine oe ?_
 replace ha:=ha.kp g31.kp
 refine ec 24 (den_i ha) ?_
 rintro e34 w34 ⟨⟨x34,y34,rfl,h34⟩,g34⟩
 refine ⟨_,rfl,?_⟩
 replace hB:=hB.trans g34
 replace L2:=L2.gr g34
 replace L3:=L3.gr g34
 refine ⟨⟨L2,L3⟩,?_⟩
 simp only [p3,p4]
 refine oe ?_
 have kq37:=g28.kp.trans (g31.kp.trans g34.kp)
 replace hb:=hb.kp kq37
 refine ec 25 (mul_i hb.num h34 (by omega)) ?_
 rintro e36 w36 ⟨⟨x36,y36,rfl,h36⟩,g36⟩
 refine ⟨_,rfl,?_⟩
 replace hB:=hB.trans g36
 replace L2:=L2.gr g36
 replace L3:=L3.gr g36
 refine ⟨⟨L2,L3⟩,?_⟩
 simp only [p3,p4]
 refine oe ?_
 have kq40:=g34.kp.trans g36.kp
 replace h31:=h31.kp kq40
 refine ec 26 (compare_i h31 h36 (by omega) (by omega)) ?_
 rintro e39 w39 ⟨rfl,g39⟩
 refine ⟨_,rfl,?_⟩
 replace hB:=hB.trans g39
 replace L2:=L2.gr g39
 replace L3:=L3.gr g39
 refine ⟨⟨L2,L3⟩,?_⟩
 simp only [p3,p4]
 refine ov 4 (.int .i64 (sgn ((a.num*(b.den:Int)) - (b.num*(a.den:Int))))) ?_
 refine ord_nil ?_
 refine k10 _ _ ?_
 try clear k10 K10
 refine wp_ret ?_
 refine bodyPost_ret (v:=(.int .i64 (sgn ((a.num*(b.den:Int)) - (b.num*(a.den:Int)))))) (ret_tmp rfl rfl) rfl ⟨?_,hB⟩
 exact rfl

set_option maxRecDepth 100000 in
set_option maxHeartbeats 1000000 in
theorem rcomp_f {k m:Nat} {u0 u1 u2 u3 v0 v1 v2 v3:Value} {a b:Rat} {w:World} (ha:IsRat w k u0 u1 u2 u3 a) (hb:IsRat w m v0 v1 v2 v3 b) (_hk:k+m≤100000) (wa:a.den≠1):
    Calls Tryz.prog 47 #[(.agg #[u0,u1,u2,u3]),(.agg #[v0,v1,v2,v3])] w fun e w'=>e=.returned (.int .i64 (rcmp a b))∧Gr w w':=by
 have hka:=ha.big
 have hkb:=hb.big
 go_enter Tryz.func47,Tryz.ntmps47
 have hB:=Gr.refl w
 refine wp_seq_k (fun K1 k1=>?_)
 refine rg [0,1,2] ?_
 refine se ?_
 refine eb 71 #[u0,u1,u2,u3] 2 hB fun b2 w2 g2 L2 o2 q2 hB=>?_
 simp only [p3,p4]
 refine se ?_
 refine eb 71 #[v0,v1,v2,v3] 3 hB fun b3 w3 g3 L3 o3 q3 hB=>?_
 simp only [p3,p4]
 refine sv 4 (.int .i64 0) ?_
 refine sq_nil ?_
 refine k1 _ _ ?_
 try clear k1 K1
 refine wp_seq_k (fun K4 k4=>?_)
 refine wp_seq_k (fun K5 k5=>?_)
 refine rg [0,1,2,3,4,5] ?_
 replace L2:=L2.gr g3
 refine sw 5 (.agg #[u0,u1,u2,u3]) rfl (rl 71 0 [u0,u1,u2,u3] L2) ?_
 refine se ?_
 have kq7:=g2.kp.trans g3.kp
 replace ha:=ha.kp kq7
 refine ec 6 (whole_f ha (by omega) wa) ?_
 rintro e6 w6 ⟨rfl,g6⟩
 refine ⟨_,rfl,?_⟩
 replace hB:=hB.trans g6
 simp only [p3,p4]
 refine sv 7 (.bool false) ?_
 refine ss 8 ?_
 refine ss 9 ?_
 refine sv 10 (.bool false) ?_
 refine sq_nil ?_
 refine k5 _ _ ?_
 try clear k5 K5
 refine wp_cond_false rfl ?_
 refine wp_skip ?_
 refine k4 _ _ ?_
 try clear k4 K4
 refine wp_seq_k (fun K8 k8=>?_)
 have gd24:=Gr.drew w6
 replace hB:=hB.trans gd24
 replace L2:=L2.gr (g6.trans gd24)
 replace L3:=L3.gr (g6.trans gd24)
 refine wp_region_ord (fun w'=>Lc w' b2 #[u0,u1,u2,u3] 71∧Lc w' b3 #[v0,v1,v2,v3] 71) [(true,0),(true,1),(true,2),(true,5),(true,6),(true,7),(false,3),(false,4),(false,8),(false,9),(false,10),(true,11)] (by kernel_rfl) (by kernel_rfl) (by kernel_rfl) (by decide) (fun _ _ _ _ _ h=>h) ⟨L2,L3⟩ ?_
 refine ov 16 (.pointer (some ⟨b2,0,none⟩)) ?_
 refine ow 17 (.agg #[u0,u1]) rfl (fun w' hS=>(rl 69 0 [u0,u1] hS.1)) ?_
 refine ow 18 (.agg #[v0,v1,v2,v3]) rfl (fun w' hS=>(rl 71 0 [v0,v1,v2,v3] hS.2)) ?_
 refine ov 21 (.pointer (some ⟨b3,0,none⟩)) ?_
 refine ow 22 (.agg #[v0,v1]) rfl (fun w' hS=>(rl 69 0 [v0,v1] hS.2)) ?_
 refine ow 23 (.agg #[u0,u1,u2,u3]) rfl (fun w' hS=>(rl 71 0 [u0,u1,u2,u3] hS.1)) ?_
 refine oe ?_
 have kq27:=g2.kp.trans (g3.kp.trans (g6.kp.trans gd24.kp))
 replace hb:=hb.kp kq27
 refine ec 19 (den_i hb) ?_
 rintro e26 w26 ⟨⟨x26,y26,rfl,h26⟩,g26⟩
 refine ⟨_,rfl,?_⟩
 replace hB:=hB.trans g26
 replace L2:=L2.gr g26
 replace L3:=L3.gr g26
 refine ⟨⟨L2,L3⟩,?_⟩
 simp only [p3,p4]
 refine oe ?_
 have kq30:=g6.kp.trans (gd24.kp.trans g26.kp)
 replace ha:=ha.kp kq30
 refine ec 20 (mul_i ha.num h26 (by omega)) ?_
 rintro e29 w29 ⟨⟨x29,y29,rfl,h29⟩,g29⟩
 refine ⟨_,rfl,?_⟩
 replace hB:=hB.trans g29
 replace L2:=L2.gr g29
 replace L3:=L3.gr g29
 refine ⟨⟨L2,L3⟩,?_⟩
 simp only [p3,p4]
 refine oe ?_
 replace ha:=ha.kp g29.kp
 refine ec 24 (den_i ha) ?_
 rintro e32 w32 ⟨⟨x32,y32,rfl,h32⟩,g32⟩
 refine ⟨_,rfl,?_⟩
 replace hB:=hB.trans g32
 replace L2:=L2.gr g32
 replace L3:=L3.gr g32
 refine ⟨⟨L2,L3⟩,?_⟩
 simp only [p3,p4]
 refine oe ?_
 have kq35:=g26.kp.trans (g29.kp.trans g32.kp)
 replace hb:=hb.kp kq35
 refine ec 25 (mul_i hb.num h32 (by omega)) ?_
 rintro e34 w34 ⟨⟨x34,y34,rfl,h34⟩,g34⟩
 refine ⟨_,rfl,?_⟩
 replace hB:=hB.trans g34
 replace L2:=L2.gr g34
 replace L3:=L3.gr g34
 refine ⟨⟨L2,L3⟩,?_⟩
 simp only [p3,p4]
 refine oe ?_
 have kq38:=g32.kp.trans g34.kp
 replace h29:=h29.kp kq38
 refine ec 26 (compare_i h29 h34 (by omega) (by omega)) ?_
 rintro e37 w37 ⟨rfl,g37⟩
 refine ⟨_,rfl,?_⟩
 replace hB:=hB.trans g37
 replace L2:=L2.gr g37
 replace L3:=L3.gr g37
 refine ⟨⟨L2,L3⟩,?_⟩
 simp only [p3,p4]
 refine ov 4 (.int .i64 (sgn ((a.num*(b.den:Int)) - (b.num*(a.den:Int))))) ?_
 refine ord_nil ?_
 refine k8 _ _ ?_
 try clear k8 K8
 refine wp_ret ?_
 refine bodyPost_ret (v:=(.int .i64 (sgn ((a.num*(b.den:Int)) - (b.num*(a.den:Int)))))) (ret_tmp rfl rfl) rfl ⟨?_,hB⟩
 exact rfl

theorem compare_r {k m:Nat} {u0 u1 u2 u3 v0 v1 v2 v3:Value} {a b:Rat} {w:World} (ha:IsRat w k u0 u1 u2 u3 a) (hb:IsRat w m v0 v1 v2 v3 b) (hk:k+m≤100000):
    Calls Tryz.prog 47 #[.agg #[u0,u1,u2,u3],.agg #[v0,v1,v2,v3]] w fun e w'=>e=.returned (.int .i64 (rcmp a b))∧Gr w w':=by
  by_cases wa:a.den=1
  · by_cases wb:b.den=1
    · exact rcomp_tt ha hb hk wa wb
    · exact rcomp_tf ha hb hk wa wb
  · exact rcomp_f ha hb hk wa

section
variable {α:Type}
/-- the values of a function at 0 .. n - 1 -/
def tb (f:Nat→α) (n:Nat):List α:=(List.range n).map f
theorem tb_len {f:Nat→α} {n:Nat}:(tb f n).length=n:=by simp [tb]
theorem tb_lenz {f:Nat→α} {n:Nat} {z:Int} (h:(n:Int)=z):((tb f n).length:Int)=z:=by rw [tb_len];exact h
theorem tb_get {f:Nat→α} {n i:Nat} (h:i<n):(tb f n)[i]?=some (f i):=by simp [tb,h]
theorem tb_snoc {f:Nat→α} {n:Nat} {x:α} (h:x=f n):tb f n++[x]=tb f (n+1):=by subst h;simp [tb,List.range_succ]
theorem tb_congr {f g:Nat→α} {n:Nat} (h:∀ i,i<n→f i=g i):tb f n=tb g n:=by
  unfold tb
  exact List.map_congr_left fun i hi=>h i (List.mem_range.1 hi)
/-- the first k elements done,the others as they were made -/
def fil (f:Nat→α) (d:α) (n k:Nat):List α:=tb f k++List.replicate (n - k) d
theorem fil_zero {f:Nat→α} {d:α} {n:Nat}:List.replicate n d=fil f d n 0:=by simp [fil,tb]
theorem fil_len {f:Nat→α} {d:α} {n k:Nat} (hk:k≤n):(fil f d n k).length=n:=by
  unfold fil;rw [List.length_append,tb_len,List.length_replicate];omega
theorem fil_lt {f:Nat→α} {d:α} {n k i:Nat} (hk:k≤n) (h:i<n):i<(fil f d n k).length:=by rw [fil_len hk];exact h
theorem fil_set {f:Nat→α} {d:α} {n k:Nat} {x:α} (h:k<n) (hx:x=f k):(fil f d n k).set k x=fil f d n (k+1):=by
  unfold fil
  have h2:List.replicate (n - k) d=d::List.replicate (n - (k+1)) d:=by
    rw [show n - k=(n - (k+1))+1 by omega,List.replicate_succ]
  rw [List.set_append_right _ _ (by rw [tb_len];omega),tb_len,Nat.sub_self,h2,List.set_cons_zero,← tb_snoc hx,List.append_assoc]
  rfl
theorem fil_all {f:Nat→α} {d:α} {n:Nat}:fil f d n n=tb f n:=by simp [fil]
theorem set_tb {f:Nat→α} {n i:Nat} {x:α}:(tb f n).set i x=tb (fun j=>if j=i then x else f j) n:=by
  apply List.ext_getElem?
  intro j
  rw [List.getElem?_set]
  by_cases hj:j<n
  · rw [tb_get hj,tb_get hj,tb_len]
    by_cases e:i=j
    · subst e;simp [hj]
    · rw [if_neg e,if_neg (Ne.symm e)]
  · rw [List.getElem?_eq_none (by rw [tb_len];omega),List.getElem?_eq_none (by rw [tb_len];omega),tb_len]
    simp;omega
theorem rep_tb {d:α} {n:Nat}:List.replicate n d=tb (fun _=>d) n:=by
  apply List.ext_getElem?
  intro j
  by_cases hj:j<n
  · rw [tb_get hj];simp [hj]
  · rw [List.getElem?_eq_none (by rw [List.length_replicate];omega),List.getElem?_eq_none (by rw [tb_len];omega)]

theorem Sl.cast {E:World→α→List Value→Prop} {T:TypeId} {c:Nat} {w:World} {v:Value} {xs ys:List α} (h:Sl E T c w v xs) (e:xs=ys):Sl E T c w v ys:=e ▸ h
theorem Mk.cast {E:World→α→List Value→Prop} {T:TypeId} {c:Nat} {w:World} {b:Nat} {xs ys:List α} (h:Mk E T c w b xs) (e:xs=ys):Mk E T c w b ys:=e ▸ h
theorem Ow.cast {E:World→α→List Value→Prop} {T:TypeId} {c B:Nat} {w:World} {v:Value} {xs ys:List α} (h:Ow E T c w B v xs) (e:xs=ys):Ow E T c w B v ys:=e ▸ h
variable {P:Program} {a:Act} {o:Oper} {w:World} {Q:Exit→Act→World→Prop} {K:Act→World→Prop} {ops:Array Oper}
theorem rv_lenn {E:World→α→List Value→Prop} {T:TypeId} {c:Nat} {v:Value} {xs:List α} {w0:World} {z:Int} (h:Sl E T c w0 v xs) (hz:(xs.length:Int)=z) (x:Operand) (t:TypeId) (hop:o.op=.call {callee:=.builtin .len,args:=#[x],argTypes:=#[t]}) (hx:a.eval x=v) {e:TypeId} (hu:P.underlying t=some (.slice e)):
    RunV P a o w (.int .i64 z):=by subst hz;exact rv_len h x t hop hx hu
theorem rv_idxn {E:World→α→List Value→Prop} {T:TypeId} {c:Nat} {v:Value} {xs:List α} {w0:World} {n:Nat} (h:Sl E T c w0 v xs) (hn:xs.length=n) (hc:0<c) (i:Nat) (hi:i<n) (t:TypeId) (x y:Operand) (hop:o.op=.indexAddr t x y) (hx:a.eval x=v) (hy:a.eval y=.int .i64 (i:Int))
    {e:TypeId} (hu:P.underlying t=some (.slice e)) (hs:(P.info? e).map (·.size)=some c):RunV P a o w (adr v (i*c)):=rv_idx h hc i (by omega) t x y hop hx hy hu hs
/-- append of one element:every world from which the slice is new has grown -/
theorem eff_apg {E:World→α→List Value→Prop} {ts:List TypeId} (hS:Stab E ts) (s x:Operand) (t:TypeId) (T B:Nat) (z:Value) (v:Value) (xs:List α) (b:Nat) (us:List Value) (x0:α) (c cx:Nat) (d:Option Tmp) (bytes:Nat) (hd:o.dst=d)
    (ho:o.op=.call {callee:=.builtin .append,args:=#[s,x],argTypes:=#[t,t]}) (hs:a.eval s=v) (hx:a.eval x=.slice (some ⟨b,0,none⟩) 1 cx)
    (hown:Ow E T c w B v xs) (hL:Lc w b us.toArray T) (hu:One1 us) (hl:us.length=c) (hE:E w x0 us) (hBw:B≤w.heap.size) (hn:xs.length≤1000000) (hbytes:bytes≤1000)
    (ht:P.underlying t=some (.slice T)) (hi:(P.info? T).map (fun i=>(i.zero,i.size,i.bytes))=some (some z,c,bytes)) (hzs:z.cells.size=c∧0<c) (hT:(ts.all fun t=>t !=T)=true)
    (h:∀ v' w',Ow E T c w' B v' (xs++[x0])→Wt T w w'→(∀ w0,Gr w0 w→w0.heap.size≤B→Gr w0 w')→K (a.put d v') w'):o.wp P a w K Q:=by
  subst hd
  obtain ⟨ys,hown,hEl⟩:=hown
  obtain ⟨i,hi,hz,hsize,hby⟩:=info_parts hi
  have hb1:(xs.length+1)*bytes≤1000001*1000:=Nat.mul_le_mul (by omega) hbytes
  refine wp_append_own w s x t ho B T i z c bytes ht hi hz hsize hby hzs.1 hzs.2 v xs.length ys hs hown ⟨b,0,none⟩ 1 cx us hx (by omega) (fun j y hj=>?_) hu.all (by unfold maxLen;omega) (by omega) hBw ?_
  · have e:(⟨b,0,none⟩:Addr).add j=⟨b,j,none⟩:=by by_cases h0:j=0<;>simp [Addr.add,h0]
    rw [e,cells_of hL];simpa using hj
  · intro v' w' h2 hg _
    have hown':=hown
    have hnew:∀ k,v.ownBlock=some k→B≤k∧∃ cur,w.heap[k]?=some (.cells cur T (0,0)):=by
      intro k hk
      rcases hown'.2 with ⟨rfl,_⟩ | ⟨g,cap,cur,rfl,hb,hgg,_⟩
      · simp [Value.ownBlock] at hk
      · simp [Value.ownBlock] at hk
        subst hk;exact ⟨hb,cur,hgg⟩
    have hwt:Wt T w w':=⟨hg.os,hg.tape,hg.output,hg.size,fun k cs t fr ht hk=>by
      rw [hg.block k (heap_lt hk) (fun e=>?_)]
      · exact hk
      · obtain ⟨_,cur,hc⟩:=hnew k e.symm
        rw [hk] at hc
        simp only [Option.some.injEq,Obj.cells.injEq] at hc
        exact ht hc.2.1⟩
    refine h v' w' ⟨_,by simpa using h2,(hEl.snoc hl hE).kts hS (hwt.kts hT)⟩ hwt fun w0 hB hB0=>?_
    refine Below.trans hB ⟨hg.os,hg.tape,hg.output,hg.size,fun k hk=>hg.block k (Nat.lt_of_lt_of_le hk hB.size) (fun e=>?_)⟩
    have:=(hnew k e.symm).1
    omega
end
theorem IsRat.resz {w:World} {k m:Nat} {c0 c1 c2 c3:Value} {q:Rat} (h:IsRat w k c0 c1 c2 c3 q) (hs:Sz m q.num∧Sz m (q.den:Int)) (hm:64≤m):IsRat w m c0 c1 c2 c3 q:=by
  obtain ⟨h1,⟨D,h2,h3⟩,h4⟩:=h
  refine ⟨h1.resz hs.1,⟨D,h2.resz ?_,h3⟩,hm⟩
  rcases h3 with rfl | ⟨rfl,_⟩
  · exact hs.2
  · unfold Sz;simp;exact Nat.pow_pos (by omega)
end Go.Proofs.YtepgkcimmdmgcaaGreatDoor
namespace Go.Proofs.YtepgkcimmdmgcaaGreatDoor
/-- the sum of the first n values -/
def sm:Nat→(Nat→Rat)→Rat
  | 0,_=>0
  | n+1,f=>sm n f+f n
theorem sm_congr:∀ {n:Nat} {f g:Nat→Rat},(∀ i,i<n→f i=g i)→sm n f=sm n g
  | 0,_,_,_=>rfl
  | n+1,f,g,h=>by unfold sm;rw [sm_congr fun i hi=>h i (by omega),h n (by omega)]
theorem sm_zero:∀ {n:Nat} {f:Nat→Rat},(∀ i,i<n→f i=0)→sm n f=0
  | 0,_,_=>rfl
  | n+1,f,h=>by unfold sm;rw [sm_zero fun i hi=>h i (by omega),h n (by omega)];grind
theorem sm_add:∀ (n:Nat) (f g:Nat→Rat),sm n (fun i=>f i+g i)=sm n f+sm n g
  | 0,_,_=>by unfold sm;grind
  | n+1,f,g=>by unfold sm;rw [sm_add n f g];grind
theorem sm_mul:∀ (n:Nat) (c:Rat) (f:Nat→Rat),sm n (fun i=>c*f i)=c*sm n f
  | 0,_,_=>by unfold sm;grind
  | n+1,c,f=>by unfold sm;rw [sm_mul n c f];grind
theorem sm_mul' (n:Nat) (c:Rat) (f:Nat→Rat):sm n (fun i=>f i*c)=sm n f*c:=by
  rw [sm_congr (g:=fun i=>c*f i) fun i _=>Rat.mul_comm _ _,sm_mul,Rat.mul_comm]
theorem sm_comm:∀ (n m:Nat) (f:Nat→Nat→Rat),sm n (fun i=>sm m (f i))=sm m (fun j=>sm n (fun i=>f i j))
  | 0,m,f=>(sm_zero fun _ _=>rfl).symm
  | n+1,m,f=>by
    show sm n (fun i=>sm m (f i))+sm m (f n)=_
    rw [sm_comm n m f,← sm_add];rfl
theorem sm_one:∀ {n:Nat} {i:Nat} {f:Nat→Rat},i<n→(∀ j,j<n→j≠i→f j=0)→sm n f=f i
  | 0,_,_,h,_=>absurd h (Nat.not_lt_zero _)
  | n+1,i,f,hi,h=>by
    unfold sm
    by_cases e:i=n
    · subst e;rw [sm_zero fun j hj=>h j (by omega) (by omega)];grind
    · rw [sm_one (i:=i) (by omega) fun j hj=>h j (by omega),h n (by omega) (Ne.symm e)];grind
abbrev Mx_:=Nat→Nat→Rat
/-- the rows of b are combinations of the first R rows of a -/
def Comb (R S:Nat) (a b:Mx_):Prop:=∃ P:Mx_,∀ i,i<S→∀ k,b i k=sm R (fun j=>P i j*a j k)
theorem Comb.refl (R:Nat) (a:Mx_):Comb R R a a:=⟨fun i j=>if j=i then 1 else 0,fun i hi k=>by
  rw [sm_one (i:=i) hi fun j _ hj=>by dsimp only;rw [if_neg hj];grind];dsimp only;rw [if_pos rfl];grind⟩
theorem Comb.trans {R S T:Nat} {a b c:Mx_} (h:Comb R S a b) (g:Comb S T b c):Comb R T a c:=by
  obtain ⟨P,hP⟩:=h
  obtain ⟨Q,hQ⟩:=g
  refine ⟨fun i j=>sm S (fun t=>Q i t*P t j),fun i hi k=>?_⟩
  rw [hQ i hi k]
  have e1:sm S (fun j=>Q i j*b j k)=sm S (fun t=>sm R (fun j=>Q i t*P t j*a j k)):=sm_congr fun t ht=>by
    rw [hP t ht k,← sm_mul]
    exact sm_congr fun j _=>by rw [Rat.mul_assoc]
  rw [e1,sm_comm]
  exact sm_congr fun j _=>sm_mul' S (a j k) _
/-- both ways -/
structure Eqv (R:Nat) (a b:Mx_):Prop where
  lr:Comb R R a b
  rl:Comb R R b a
theorem Eqv.refl (R:Nat) (a:Mx_):Eqv R a a:=⟨.refl R a,.refl R a⟩
theorem Eqv.trans {R:Nat} {a b c:Mx_} (h:Eqv R a b) (g:Eqv R b c):Eqv R a c:=⟨h.lr.trans g.lr,g.rl.trans h.rl⟩
theorem Eqv.symm {R:Nat} {a b:Mx_} (h:Eqv R a b):Eqv R b a:=⟨h.rl,h.lr⟩
/-- two rows exchanged -/
def swp (a:Mx_) (i r:Nat):Mx_:=fun j k=>if j=i then a r k else if j=r then a i k else a j k
theorem swp_comb {R:Nat} (a:Mx_) {i r:Nat} (hi:i<R) (hr:r<R):Comb R R a (swp a i r):=
  ⟨fun j t=>if t=(if j=i then r else if j=r then i else j) then 1 else 0,fun j hj k=>by
    have hlt:(if j=i then r else if j=r then i else j)<R:=by split<;>(try split)<;>omega
    rw [sm_one hlt fun t _ ht=>by dsimp only;rw [if_neg ht];grind]
    dsimp only
    rw [if_pos rfl]
    unfold swp
    split
    · grind
    · split<;>grind⟩
theorem swp_swp (a:Mx_) (i r:Nat):swp (swp a i r) i r=a:=by
  funext j k
  unfold swp
  grind
theorem swp_eqv {R:Nat} (a:Mx_) {i r:Nat} (hi:i<R) (hr:r<R):Eqv R a (swp a i r):=
  ⟨swp_comb a hi hr,by have:=swp_comb (swp a i r) hi hr;rwa [swp_swp] at this⟩
/-- a row times a number -/
def scl (a:Mx_) (r:Nat) (c:Rat):Mx_:=fun j k=>if j=r then a r k*c else a j k
theorem scl_comb {R:Nat} (a:Mx_) (r:Nat) (c:Rat):Comb R R a (scl a r c):=
  ⟨fun j t=>if t=j then (if j=r then c else 1) else 0,fun j hj k=>by
    rw [sm_one hj fun t _ ht=>by dsimp only;rw [if_neg ht];grind]
    dsimp only
    rw [if_pos rfl]
    unfold scl
    split
    · next e=>subst e;grind
    · grind⟩
theorem scl_eqv {R:Nat} (a:Mx_) (r:Nat) {c:Rat} (hc:c≠0):Eqv R a (scl a r c):=
  ⟨scl_comb a r c,by
    have:=scl_comb (R:=R) (scl a r c) r (1/c)
    have e:scl (scl a r c) r (1/c)=a:=by
      funext j k
      unfold scl
      split
      · next e=>subst e;rw [if_pos rfl];grind
      · rfl
    rwa [e] at this⟩
/-- multiples of row r added to the other rows -/
def clr (a:Mx_) (r:Nat) (c:Nat→Rat):Mx_:=fun j k=>if j=r then a r k else a j k - c j*a r k
theorem sm_two {n i r:Nat} {f:Nat→Rat} (hi:i<n) (hr:r<n) (hne:i≠r) (h:∀ j,j<n→j≠i→j≠r→f j=0):sm n f=f i+f r:=by
  have e:=sm_add n (fun j=>if j=i then f i else 0) (fun j=>if j=r then f r else 0)
  rw [sm_one (i:=i) hi fun j _ hj=>if_neg hj,sm_one (i:=r) hr fun j _ hj=>if_neg hj] at e
  rw [if_pos rfl,if_pos rfl] at e
  rw [← e]
  refine sm_congr fun j hj=>?_
  by_cases h1:j=i
  · subst h1;rw [if_pos rfl,if_neg hne];grind
  · by_cases h2:j=r
    · subst h2;rw [if_pos rfl,if_neg h1];grind
    · rw [if_neg h1,if_neg h2,h j hj h1 h2];grind
theorem clr_comb {R:Nat} (a:Mx_) {r:Nat} (hr:r<R) (c:Nat→Rat):Comb R R a (clr a r c):=
  ⟨fun j t=>if t=j then 1 else if t=r then - c j else 0,fun j hj k=>by
    unfold clr
    by_cases e:j=r
    · subst e
      rw [sm_one hj fun t _ ht=>by dsimp only;rw [if_neg ht,if_neg ht];grind];dsimp only;rw [if_pos rfl,if_pos rfl];grind
    · rw [sm_two hj hr e fun t _ h1 h2=>by dsimp only;rw [if_neg h1,if_neg h2];grind];dsimp only;rw [if_pos rfl,if_neg (Ne.symm e),if_pos rfl,if_neg e];grind⟩
theorem clr_eqv {R:Nat} (a:Mx_) {r:Nat} (hr:r<R) (c:Nat→Rat):Eqv R a (clr a r c):=
  ⟨clr_comb a hr c,by
    have:=clr_comb (clr a r c) hr (fun j=>- c j)
    have e:clr (clr a r c) r (fun j=>- c j)=a:=by
      funext j k
      unfold clr
      split
      · next e=>rw [if_pos rfl,e]
      · rw [if_pos rfl];grind
    rwa [e] at this⟩
end Go.Proofs.YtepgkcimmdmgcaaGreatDoor
namespace Go.Proofs.YtepgkcimmdmgcaaGreatDoor
open Go.RowKit

theorem IsRat.castq {w:World} {k:Nat} {c0 c1 c2 c3:Value} {q r:Rat} (h:IsRat w k c0 c1 c2 c3 q) (e:q=r):IsRat w k c0 c1 c2 c3 r:=e ▸ h
set_option maxRecDepth 100000 in
set_option maxHeartbeats 1000000 in
theorem mx_columns {K R N:Nat} {v:Value} {m:Nat→Nat→Rat} {w:World} (hs:Sl (ERw (ERat K) 71 4) 49 1 w v (tb (fun z0=>tb (fun z1=>(m z0 z1)) N) R)):
    Calls Tryz.prog 53 #[v] w fun e w'=>e=.returned (.int .i64 (if R=0 then 0 else (N:Int)))∧Gr w w':=by
 go_enter Tryz.func53,Tryz.ntmps53
 have hB:=Gr.refl w
 refine wp_seq_k (fun K10 k10=>?_)
 refine rg [0] ?_
 refine sv 2 (.int .i64 0) ?_
 refine sq_nil ?_
 refine k10 _ _ ?_
 try clear k10 K10
 refine wp_seq_k (fun K11 k11=>?_)
 refine wp_seq_k (fun K12 k12=>?_)
 refine rg [0,1,2] ?_
 refine sv 3 v ?_
 refine sw 4 (.int .i64 ((R:Int))) rfl (rv_lenn (e:=49) hs (tb_lenz rfl) _ _ rfl rfl (by kernel_rfl)) ?_
 refine sv 5 (.bool (((R:Int)==(0:Int)))) ?_
 refine sq_nil ?_
 refine k12 _ _ ?_
 try clear k12 K12
 refine wp_cond_split (t:=((R:Int)==(0:Int))) rfl (fun hb13=>?_) (fun hb13=>?_)
 ·have hq14:(R:Int)=(0:Int):=by have:=hb13;simp at this;omega
  refine wp_seq_k (fun K15 k15=>?_)
  refine rg [0] ?_
  refine sv 2 (.int .i64 0) ?_
  refine sq_nil ?_
  refine k15 _ _ ?_
  try clear k15 K15
  refine wp_ret ?_
  simp only [Exit.then]
  refine bodyPost_ret (v:=(.int .i64 0)) (ret_tmp rfl rfl) rfl ⟨?_,hB⟩
  exact (by rw [if_pos (show R=0 by omega)])
 ·have hq16:¬ (R:Int)=(0:Int):=by have:=hb13;simp at this;omega
  refine wp_skip ?_
  refine k11 _ _ ?_
  try clear k11 K11
  refine wp_seq_k (fun K17 k17=>?_)
  refine rg [0,1,2,3,4] ?_
  refine sv 6 v ?_
  refine sw 7 (adr v (0*1)) rfl (rv_idxn (e:=49) hs tb_len (by decide) 0 (by omega) _ _ _ rfl rfl rfl (by kernel_rfl) (by kernel_rfl)) ?_
  obtain ⟨_,_,⟨u18,rfl,hr18⟩,at18⟩:=Sl.get hs (by decide) (tb_get (f:=(fun z0=>tb (fun z1=>(m z0 z1)) N)) (n:=R) (i:=0) (by omega))
  refine sw 8 u18 rfl (rv_ld1 u18 (at18.gr hB) _ _ rfl rfl (by kernel_rfl)) ?_
  refine sw 9 (.int .i64 ((N:Int))) rfl (rv_lenn (e:=71) hr18 (tb_lenz rfl) _ _ rfl rfl (by kernel_rfl)) ?_
  refine sv 2 (.int .i64 ((N:Int))) ?_
  refine sq_nil ?_
  refine k17 _ _ ?_
  try clear k17 K17
  refine wp_ret ?_
  refine bodyPost_ret (v:=(.int .i64 ((N:Int)))) (ret_tmp rfl rfl) rfl ⟨?_,hB⟩
  exact (by rw [if_neg (show ¬ R=0 by omega)])

theorem mx_columnsR {K R N:Nat} {v:Value} {m:Nat→Nat→Rat} {w:World} (hs:Sl (ERw (ERat K) 71 4) 49 1 w v (tb (fun z0=>tb (fun z1=>(m z0 z1)) N) R)) (hR:0<R):Calls Tryz.prog 53 #[v] w fun e w'=>e=.returned (.int .i64 (N:Int))∧Gr w w':=by
  have:=mx_columns hs
  rw [if_neg (show ¬ R=0 by omega)] at this;exact this
theorem mx_columnsp {K R N:Nat} {v:Value} {m:Nat→Nat→Rat} {w:World} (hs:Sl (ERw (ERat K) 71 4) 49 1 w v (tb (fun z0=>tb (fun z1=>(m z0 z1)) N) R)) (hR:R=0→N=0):Calls Tryz.prog 53 #[v] w fun e w'=>e=.returned (.int .i64 (N:Int))∧Gr w w':=by
  have:=mx_columns hs
  by_cases h:R=0
  · rw [if_pos h] at this;rw [hR h];exact this
  · rw [if_neg h] at this;exact this
section
variable {α:Type} {P:Program} {a:Act} {o:Oper} {w:World} {Q:Exit→Act→World→Prop} {K:Act→World→Prop}
theorem take_put {ys vs cur:List Value} {n off:Nat} (h:cur.take n=ys) (hl:ys.length=n) (ho:off+vs.length≤n):(cur.take off++vs++cur.drop (off+vs.length)).take n=ys.take off++vs++ys.drop (off+vs.length):=by
  subst h
  have hn:n≤cur.length:=by rw [List.length_take] at hl;omega
  rw [List.take_append,List.take_of_length_le (by rw [List.length_append,List.length_take];omega),List.length_append,List.length_take,Nat.min_eq_left (by omega),List.take_take,Nat.min_eq_left (by omega),List.drop_take]
/-- a store at an element of a slice of the call's own -/
theorem eff_sto {E:World→α→List Value→Prop} {ts:List TypeId} (hS:Stab E ts) {T:TypeId} {c B:Nat} {v:Value} {xs:List α} (hM:Ow E T c w B v xs) (i:Nat) (hi:i<xs.length) (x0:α) (u:Value) (vs:List Value) (t:TypeId) (x y:Operand)
    (hop:o.op=.store t x y) (hd:o.dst=none) (hx:a.eval x=adr v (i*c)) (hy:a.eval y=u) (hv:u.cells=vs.toArray) (hs:(P.info? t).map (·.size)=some c) (hc:vs.length=c) (h1:One1 vs) (hE:E w x0 vs) (hT:(ts.all fun t=>t !=T)=true)
    (h:∀ w',Ow E T c w' B v (xs.set i x0)→Wt T w w'→(∀ w0,Gr w0 w→w0.heap.size≤B→Gr w0 w')→K a w'):o.wp P a w K Q:=by
  obtain ⟨ys,hown,hEl⟩:=hM
  subst hc
  have hle:i*vs.length+vs.length≤ys.length:=by
    rw [hEl.1]
    have:=Nat.mul_le_mul_right vs.length (show i+1≤xs.length by omega)
    rw [Nat.add_mul] at this;omega
  rcases hown.2 with ⟨_,h0⟩ | ⟨g,cap,cur,rfl,hb,hg,h3,h4,h5,h6⟩
  · omega
  have hx':a.eval x=.pointer (some ⟨g,i*vs.length,none⟩):=by rw [hx];simp [adr]
  have hyl:ys.length=xs.length*vs.length:=hown.1
  have hcl:xs.length*vs.length≤cur.size:=by rw [h5];exact Nat.mul_le_mul_right _ h3
  refine eff_store t x y g (i*vs.length) u vs cur _ T hop hd hx' hy hv hg hs (by omega) h1 rfl (fun w' st L'=>?_)
  have e:writeAt cur (i*vs.length) vs=(cur.toList.take (i*vs.length)++vs++cur.toList.drop (i*vs.length+vs.length)).toArray:=by
    have:=writeAt_list vs (i*vs.length) cur.toList (by simp;omega)
    rwa [Array.toArray_toList] at this
  rw [e] at L'
  have hwt:Wt T w w':=⟨st.os,st.tape,st.output,Nat.le_of_eq st.size.symm,fun k cs t fr ht hk=>by
    rw [st.block k (fun e=>?_)]
    · exact hk
    · subst e
      rw [show w.heap[k]?=_ from hg] at hk
      simp only [Option.some.injEq,Obj.cells.injEq] at hk
      exact ht hk.2.1.symm⟩
  have hEl2:=(hEl.set hi rfl hE).kts hS (hwt.kts hT)
  refine h w' ⟨_,⟨?_,.inr ⟨g,cap,_,?_,hb,L',?_,h4,?_,?_⟩⟩,hEl2⟩ hwt fun w0 hB hB0=>st.gr hB (Nat.le_trans hB0 hb)
  · have:=hEl2.1;rw [this]
  · rw [List.length_set]
  · rw [List.length_set];exact h3
  · rw [← h5];simp only [List.size_toArray,List.length_append,List.length_take,List.length_drop,Array.length_toList];omega
  · rw [List.length_set]
    exact take_put h6 hyl (by omega)

/-- a part of a slice -/
def subv (v:Value) (l h c:Nat):Value:=
  match v with
  | .slice ao _ cap=>sliced ao l h cap c
  | _=>undef
theorem Sl.sub {E:World→α→List Value→Prop} {T:TypeId} {c:Nat} {v:Value} {xs:List α} (h:Sl E T c w v xs) {l k:Nat} (h1:l≤k) (h2:k≤xs.length):Sl E T c w (subv v l k c) ((xs.drop l).take (k - l)):=by
  obtain ⟨ys,⟨ao,cap,rfl,hn,hc⟩,hE⟩:=h
  have hl:((xs.drop l).take (k - l)).length=k - l:=by rw [List.length_take,List.length_drop];omega
  have hm1:l*c≤k*c:=Nat.mul_le_mul_right c h1
  have hm2:k*c≤xs.length*c:=Nat.mul_le_mul_right c h2
  have hsub:(k - l)*c=k*c - l*c:=Nat.sub_mul k l c
  have hyl:((ys.drop (l*c)).take ((k - l)*c)).length=(k - l)*c:=by rw [List.length_take,List.length_drop,hE.1,Nat.sub_mul];omega
  refine ⟨(ys.drop (l*c)).take ((k - l)*c),⟨if cap=l then ao else ao.map (·.add (l*c)),cap - l,?_,?_,fun hp=>?_⟩,?_,fun i x hx=>?_⟩
  · rw [hl];rfl
  · rw [hl];omega
  · rw [hyl] at hp
    have hkl:l<k:=by
      rcases Nat.lt_or_ge l k with h | h
      · exact h
      · rw [show k - l=0 by omega,Nat.zero_mul] at hp;exact absurd hp (Nat.lt_irrefl 0)
    obtain ⟨b,off,cs,fr,rfl,h4,h5⟩:=hc (by rw [hE.1];omega)
    refine ⟨b,off+l*c,cs,fr,?_,h4,fun j hj=>?_⟩
    · rw [if_neg (show ¬ cap=l by omega)]
      by_cases h0:l*c=0<;>simp [Addr.add,h0]
    · rw [hyl] at hj
      rw [Nat.add_assoc,h5 (l*c+j) (by rw [hE.1];omega),List.getElem?_take_of_lt hj,List.getElem?_drop]
  · rw [hyl,hl]
  · have hi:i<k - l:=by have:=(List.getElem?_eq_some_iff.1 hx).1;omega
    rw [List.getElem?_take_of_lt hi,List.getElem?_drop] at hx
    have h3:=hE.2 (l+i) x hx
    have hm3:i*c+c≤(k - l)*c:=by have:=Nat.mul_le_mul_right c (show i+1≤k - l by omega);rw [Nat.add_mul] at this;omega
    rw [List.drop_take,List.drop_drop,List.take_take,Nat.min_eq_left (by omega),← Nat.add_mul]
    exact h3
theorem tb_sub {f:Nat→α} {n l k:Nat} (h:k≤n):((tb f n).drop l).take (k - l)=tb (fun i=>f (l+i)) (k - l):=by
  apply List.ext_getElem?
  intro j
  by_cases hj:j<k - l
  · rw [List.getElem?_take_of_lt hj,List.getElem?_drop,tb_get (by omega),tb_get hj]
  · rw [List.getElem?_eq_none (by rw [List.length_take];omega),List.getElem?_eq_none (by rw [tb_len];omega)]
theorem tb_sub0 {f:Nat→α} {n:Nat}:tb (fun i=>f (0+i)) (n - 0)=tb f n:=by rw [Nat.sub_zero];exact tb_congr fun i _=>by rw [Nat.zero_add]
theorem Sl.subt {E:World→α→List Value→Prop} {T:TypeId} {c:Nat} {v:Value} {f:Nat→α} {n:Nat} (h:Sl E T c w v (tb f n)) {l k:Nat} (h1:l≤k) (h2:k≤n):Sl E T c w (subv v l k c) (tb (fun i=>f (l+i)) (k - l)):=
  (h.sub h1 (by rw [tb_len];exact h2)).cast (tb_sub h2)
theorem rv_sub {E:World→α→List Value→Prop} {T:TypeId} {c:Nat} {v:Value} {xs:List α} {w0:World} (h:Sl E T c w0 v xs) (l k:Nat) (h1:l≤k) (h2:k≤xs.length) (t:TypeId) (x:Operand) (lo hi:Option Operand) (hop:o.op=.slice t x lo hi none) (hx:a.eval x=v)
    (hlo:(lo.map a.eval=none∧l=0)∨lo.map a.eval=some (.int .i64 (l:Int))) (hhi:(hi.map a.eval=none∧k=xs.length)∨hi.map a.eval=some (.int .i64 (k:Int))) {e:TypeId} (hu:P.underlying t=some (.slice e)) (hs:(P.info? e).map (·.size)=some c):
    RunV P a o w (subv v l k c):=by
  obtain ⟨ao,cap,rfl,hcap⟩:=h.form
  obtain ⟨i,hi',hsz⟩:=Option.map_eq_some_iff.1 hs
  unfold RunV execOp
  simp only [hop,hx]
  have b1:∀ y:Nat,k≤y→(Instr.sliceBound (.int .i64 (k:Int)) y .sliceAcap).run P w=.ok k w:=fun y hy=>by simp [Instr.sliceBound,asIntOf];omega
  have b2:(Instr.sliceBound (.int .i64 (l:Int)) k .sliceB).run P w=.ok l w:=by simp [Instr.sliceBound,asIntOf];omega
  rcases hlo with ⟨e1,rfl⟩ | e1<;>rcases hhi with ⟨e2,rfl⟩ | e2<;>rw [e1,e2]<;>
    simp [Instr.sliceAt,Instr.slice,run_underlying hu,Instr.sliceBounds,sizeOf,typeInfo,hi',hsz,subv,sliced,b1 cap (by omega),b2]
theorem rv_subt {E:World→α→List Value→Prop} {T:TypeId} {c:Nat} {v:Value} {f:Nat→α} {n:Nat} {w0:World} (h:Sl E T c w0 v (tb f n)) (l k:Nat) (h1:l≤k) (h2:k≤n) (t:TypeId) (x:Operand) (lo hi:Option Operand) (hop:o.op=.slice t x lo hi none) (hx:a.eval x=v)
    (hlo:(lo.map a.eval=none∧l=0)∨lo.map a.eval=some (.int .i64 (l:Int))) (hhi:(hi.map a.eval=none∧k=n)∨hi.map a.eval=some (.int .i64 (k:Int))) {e:TypeId} (hu:P.underlying t=some (.slice e)) (hs:(P.info? e).map (·.size)=some c):
    RunV P a o w (subv v l k c):=rv_sub h l k h1 (by rw [tb_len];exact h2) t x lo hi hop hx hlo (by rwa [tb_len]) hu hs
/-- nothing is appended -/
theorem run_app0 (w:World) (t ty e:TypeId) (i:TypeInfo) (ht:P.underlying t=some (.slice e)) (hi:P.info? e=some i) (base ao:Option Addr) (n cap c:Nat) (hle:n≤cap):
    (Builtin.append_ #[t,t] ty #[.slice base n cap,.slice ao 0 c]).run P w=.ok (.slice base n cap) w:=by
  cases base<;>cases ao<;>simp [Builtin.append_,run_underlying ht,sizeOf,typeInfo,hi,Builtin.lenOf,Builtin.firstCells,loadCells,loadCellsFrom,hle,storeCells]
/-- append of all elements of a slice of any length -/
theorem eff_aps {E:World→α→List Value→Prop} {ts:List TypeId} (hS:Stab E ts) (s x:Operand) (t:TypeId) (T B T2:Nat) (z:Value) (v:Value) (xs:List α) (u:Value) (xs2:List α) (c:Nat) (d:Option Tmp) (bytes:Nat) (hd:o.dst=d)
    (ho:o.op=.call {callee:=.builtin .append,args:=#[s,x],argTypes:=#[t,t]}) (hs:a.eval s=v) (hx:a.eval x=u)
    (hown:Ow E T c w B v xs) (hu:Sl E T2 c w u xs2) (h1:∀ x vs,E w x vs→∀ y ∈ vs,y.oneCell'=true) (hBw:B≤w.heap.size) (hn:xs.length+xs2.length≤1000000) (hbytes:bytes≤1000)
    (ht:P.underlying t=some (.slice T)) (hi:(P.info? T).map (fun i=>(i.zero,i.size,i.bytes))=some (some z,c,bytes)) (hzs:z.cells.size=c∧0<c) (hT:(ts.all fun t=>t !=T)=true)
    (h:∀ v' w',Ow E T c w' B v' (xs++xs2)→Wt T w w'→(∀ w0,Gr w0 w→w0.heap.size≤B→Gr w0 w')→(∀ k cs t,(∀ g n cap,v=.slice (some ⟨g,0,none⟩) n cap→k≠g)→Lc w k cs t→Lc w' k cs t)→K (a.put d v') w'):o.wp P a w K Q:=by
  rcases hu.cases hzs.2 with rfl | ⟨hpos,bx,ox,cx,hux⟩
  · obtain ⟨ao,cap,rfl,_⟩:=hu.form
    obtain ⟨i,hi,hz,hsize,hby⟩:=info_parts hi
    have hv:∃ base n cap,v=.slice base n cap∧n≤cap:=by
      obtain ⟨ys,h1,_⟩:=hown
      rcases h1.2 with ⟨rfl,_⟩ | ⟨g,cap,cur,rfl,_,_,h3,_⟩
      · exact ⟨_,_,_,rfl,Nat.le_refl _⟩
      · exact ⟨_,_,_,rfl,h3⟩
    obtain ⟨base,n,cp,rfl,hle⟩:=hv
    subst hd
    unfold Oper.wp execOp
    simp only [ho,resolve,invoke,builtin,Sem.run_bind,Sem.run_pure,Result.andThen_ok,List.map_toArray,List.map_cons,List.map_nil,hs,hx,List.length_nil,run_app0 w t _ T i ht hi base ao n cp cap hle]
    exact h _ _ (by rw [List.append_nil];exact hown) ⟨rfl,rfl,rfl,Nat.le_refl _,fun _ _ _ _ _ h=>h⟩ (fun _ h _=>h) fun _ _ _ _ h=>h
  subst hd
  obtain ⟨ys,hown,hEl⟩:=hown
  obtain ⟨i,hi,hz,hsize,hby⟩:=info_parts hi
  have hb1:(xs.length+xs2.length)*bytes≤1000000*1000:=Nat.mul_le_mul (by omega) hbytes
  subst hux
  obtain ⟨us,⟨ao,cap,hsl,hcap,hraw⟩,hE2⟩:=hu
  simp only [Value.slice.injEq] at hsl
  obtain ⟨rfl,_,rfl⟩:=hsl
  refine wp_append_own w s x t ho B T i z c bytes ht hi hz hsize hby hzs.1 hzs.2 v xs.length ys hs hown ⟨bx,ox,none⟩ xs2.length cx us hx hE2.1 (fun j y hj=>?_) (fun y hy=>?_) (by unfold maxLen;omega) (by omega) hBw ?_
  · have hj':=(List.getElem?_eq_some_iff.1 hj).1
    obtain ⟨b,off,cs,fr,had,hbk,hcells⟩:=hraw (by omega)
    simp only [Option.some.injEq,Addr.mk.injEq,and_true] at had
    obtain ⟨rfl,rfl⟩:=had
    have e:(⟨bx,ox,none⟩:Addr).add j=⟨bx,ox+j,none⟩:=by by_cases h0:j=0<;>simp [Addr.add,h0]
    rw [e,cells_of hbk,hcells j hj'];exact hj
  · obtain ⟨j,hj,rfl⟩:=List.mem_iff_getElem.1 hy
    have hjc:j/c<xs2.length:=by rw [hE2.1] at hj;exact Nat.div_lt_of_lt_mul (by rw [Nat.mul_comm];exact hj)
    have:=hE2.2 (j/c) xs2[j/c] (List.getElem?_eq_getElem hjc)
    refine h1 _ _ this _ ?_
    have hm:j % c<c:=Nat.mod_lt _ hzs.2
    have hd:j/c*c+j % c=j:=by rw [Nat.mul_comm];exact Nat.div_add_mod j c
    refine List.mem_iff_getElem?.2 ⟨j % c,?_⟩
    rw [List.getElem?_take_of_lt hm,List.getElem?_drop,hd,List.getElem?_eq_getElem hj]
  · intro v' w' h2 hg _
    have hown':=hown
    have hnew:∀ k,v.ownBlock=some k→B≤k∧∃ cur,w.heap[k]?=some (.cells cur T (0,0)):=by
      intro k hk
      rcases hown'.2 with ⟨rfl,_⟩ | ⟨g,cap,cur,rfl,hb,hgg,_⟩
      · simp [Value.ownBlock] at hk
      · simp [Value.ownBlock] at hk
        subst hk;exact ⟨hb,cur,hgg⟩
    have hwt:Wt T w w':=⟨hg.os,hg.tape,hg.output,hg.size,fun k cs t fr ht hk=>by
      rw [hg.block k (heap_lt hk) (fun e=>?_)]
      · exact hk
      · obtain ⟨_,cur,hc⟩:=hnew k e.symm
        rw [hk] at hc
        simp only [Option.some.injEq,Obj.cells.injEq] at hc
        exact ht hc.2.1⟩
    have hboth:Els E c w (ys++us) (xs++xs2):=by
      refine ⟨by rw [List.length_append,List.length_append,hEl.1,hE2.1,Nat.add_mul],fun k y hy=>?_⟩
      rcases Nat.lt_or_ge k xs.length with hk | hk
      · rw [List.getElem?_append_left hk] at hy
        have h3:k*c+c≤ys.length:=by
          rw [hEl.1]
          have:=Nat.mul_le_mul_right c (show k+1≤xs.length by omega)
          rw [Nat.add_mul] at this;omega
        rw [List.drop_append_of_le_length (by omega),List.take_append_of_le_length (by rw [List.length_drop];omega)]
        exact hEl.2 k y hy
      · rw [List.getElem?_append_right hk] at hy
        have h3:xs.length*c≤k*c:=Nat.mul_le_mul_right c hk
        rw [List.drop_append,hEl.1,List.drop_eq_nil_of_le (by rw [hEl.1];exact h3),List.nil_append,← Nat.sub_mul]
        exact hE2.2 _ y hy
    refine h v' w' ⟨_,by simpa using h2,hboth.kts hS (hwt.kts hT)⟩ hwt (fun w0 hB hB0=>?_) fun k cs t hk hL=>(hg.block k (heap_lt hL) (fun e2=>by
      rcases hown'.2 with ⟨rfl,_⟩ | ⟨g,cap,cur,rfl,_⟩
      · simp [Value.ownBlock] at e2
      · simp [Value.ownBlock] at e2
        exact hk g _ _ rfl e2)).trans hL
    refine Below.trans hB ⟨hg.os,hg.tape,hg.output,hg.size,fun k hk=>hg.block k (Nat.lt_of_lt_of_le hk hB.size) (fun e=>?_)⟩
    have:=(hnew k e.symm).1
    omega
theorem tb_app {f g:Nat→α} {n m:Nat}:tb f n++tb g m=tb (fun i=>if i<n then f i else g (i - n)) (n+m):=by
  apply List.ext_getElem?
  intro j
  rcases Nat.lt_or_ge j n with h | h
  · rw [List.getElem?_append_left (by rw [tb_len];exact h),tb_get h,tb_get (by omega),if_pos h]
  · rw [List.getElem?_append_right (by rw [tb_len];exact h),tb_len]
    by_cases h2:j<n+m
    · rw [tb_get (by omega),tb_get h2,if_neg (by omega)]
    · rw [List.getElem?_eq_none (by rw [tb_len];omega),List.getElem?_eq_none (by rw [tb_len];omega)]
theorem one_rat {k:Nat} (w:World):∀ x vs,ERat k w x vs→∀ y ∈ vs,y.oneCell'=true:=fun x vs h y hy=>by
  obtain ⟨c0,c1,c2,c3,rfl,hq⟩:=h
  simp only [List.mem_cons,List.not_mem_nil,or_false] at hy
  rcases hy with rfl | rfl | rfl | rfl
  · exact hq.one0
  · exact hq.one1
  · exact hq.one2
  · exact hq.one3
theorem ret_tmp3 {P:Program} {w:World} {fn:Func} {tmps:Array Value} {t u s:Tmp} {v x y:Value} (h:fn.results=#[.tmp t,.tmp u,.tmp s]) (hv:tmps.getD t undef=v) (hx:tmps.getD u undef=x) (hy:tmps.getD s undef=y):(results fn tmps).run P w=.ok (.tuple #[v,x,y]) w:=by
  subst hv hx hy;simp [results,h]
theorem ret_tmp2_cell {P:Program} {w:World} {fn:Func} {tmps:Array Value} {p u s:Tmp} {t:TypeId} {v x:Value} (b:Nat) (cs:Array Value) (tt:TypeId) (h:fn.results=#[.tmp u,.tmp s,.cell p t]) (hv:tmps.getD u undef=v) (hx:tmps.getD s undef=x) (hp:tmps.getD p undef=.pointer (some ⟨b,0,none⟩)) (hL:Lc w b cs tt) (hs:aggSize P t=some cs.size):
    (results fn tmps).run P w=.ok (.tuple #[v,x,.agg cs]) w:=by
  subst hv hx
  have:=run_load_lc hL hs
  simp only [Array.getD_eq_getD_getElem?] at hp ⊢
  simp [results,h,asAddr,hp,this]
theorem clone_none {α:Type} {E:World→α→List Value→Prop} {T:TypeId} {c B n cx:Nat} {w:World} {F:Nat→α} (h:Sl E T c w (.slice none n cx) (tb F n)) (hc:0<c:=by decide):Ow E T c w B (.slice none 0 0) (tb F n):=by
  rcases h.cases hc with h0 | ⟨_,b,off,cap,hv⟩
  · rw [h0];exact Ow.nil _ _ _ _ _
  · cases hv
/-- whether an int is one of a list -/
def hasI (P:Nat→Int) (n:Nat) (z:Int):Bool:=(List.range n).any fun i=>P i==z
theorem hasI_true {P:Nat→Int} {n i:Nat} {z:Int} (hi:i<n) (h:P i=z):hasI P n z=true:=by
  unfold hasI;rw [List.any_eq_true];exact ⟨i,List.mem_range.2 hi,by simpa using h⟩
theorem hasI_false {P:Nat→Int} {n:Nat} {z:Int} (h:∀ j,j<n→¬ P j=z):hasI P n z=false:=by
  unfold hasI;rw [List.any_eq_false];intro i hi;have:=h i (List.mem_range.1 hi);simpa using this
theorem hasI_yes {P:Nat→Int} {n k:Nat} {z:Int} (hk:k<n) (h:z=P k):decide ((0:Int)≤(k:Int))=hasI P n z:=by
  rw [hasI_true hk h.symm];simp
theorem hasI_no {P:Nat→Int} {n:Nat} {z:Int} (h:∀ j,j<n→¬ P j=z):decide ((0:Int)≤-1)=hasI P n z:=by
  rw [hasI_false h];decide
theorem hall_succ2 {P:Nat→Int} {k:Nat} {z:Int} (h:∀ j,j<k→¬ P j=z) (hk:¬ P k=z):∀ j,j<k+1→¬ P j=z:=fun j hj=>by
  rcases Nat.lt_or_eq_of_le (Nat.le_of_lt_succ hj) with h1 | rfl
  · exact h j h1
  · exact hk
theorem hall_succ {P:Nat→Int} {k:Nat} {z:Int} (h:∀ j,j<k→¬ P j=z) (hk:¬ z=P k):∀ j,j<k+1→¬ P j=z:=hall_succ2 h fun e=>hk e.symm
/-- what holds of the block of a slice that has elements -/
def Avp (p:Nat→Prop) (u:Value) (x:List α):Prop:=x≠[]→∀ g off o n cap,u=.slice (some ⟨g,off,o⟩) n cap→p g
/-- an element that is a slice in such a block -/
def ERp (p:Nat→Prop) (E:World→α→List Value→Prop) (T:TypeId) (c:Nat) (w:World) (x:List α) (vs:List Value):Prop:=∃ u,vs=[u]∧Sl E T c w u x∧Avp p u x
theorem stab_rp {p:Nat→Prop} {E:World→α→List Value→Prop} {ts:List TypeId} (hS:Stab E ts) (T:TypeId) (c:Nat):Stab (ERp p E T c) (T::ts):=fun _ _ _ _ hk h=>by
  obtain ⟨u,hu,hs,ha⟩:=h
  exact ⟨u,hu,hs.kts hS hk,ha⟩
theorem one_rp {p:Nat→Prop} {E:World→α→List Value→Prop} {T:TypeId} {c:Nat} (w:World):∀ x vs,ERp p E T c w x vs→∀ y ∈ vs,y.oneCell'=true:=fun x vs h y hy=>by
  obtain ⟨u,rfl,hs,_⟩:=h
  rw [List.mem_singleton.1 hy]
  exact hs.one
theorem ERp.rw {p:Nat→Prop} {E:World→α→List Value→Prop} {T:TypeId} {c:Nat} {w:World} {x:List α} {vs:List Value} (h:ERp p E T c w x vs):ERw E T c w x vs:=by
  obtain ⟨u,hu,hs,_⟩:=h
  exact ⟨u,hu,hs⟩
theorem Sl.lt_rows {E:World→α→List Value→Prop} {T TW:TypeId} {c cw:Nat} {v:Value} {xs:List (List α)} (h:Sl (ERw E T c) TW cw w v xs) (hc:0<c):Sl (ERp (fun g=>g<w.heap.size) E T c) TW cw w v xs:=h.mono fun x vs hx=>by
  obtain ⟨u,hu,hs⟩:=hx
  refine ⟨u,hu,hs,fun hne g off o n cap e=>?_⟩
  obtain ⟨ys,⟨ao,cp,h1,h2,h3⟩,h4⟩:=hs
  have hl:0<x.length:=List.length_pos_iff.2 hne
  obtain ⟨b,of,cs,fr,e1,e2,_⟩:=h3 (by rw [h4.1];exact Nat.mul_pos hl hc)
  rw [h1,e1] at e
  simp only [Value.slice.injEq,Option.some.injEq,Addr.mk.injEq] at e
  rw [← e.1.1];exact heap_lt e2
theorem Ow.mono_e {E F:World→α→List Value→Prop} {T:TypeId} {c B:Nat} {v:Value} {xs:List α} (h:Ow E T c w B v xs) (hf:∀ x vs,E w x vs→F w x vs):Ow F T c w B v xs:=by
  obtain ⟨ys,h1,h2⟩:=h
  exact ⟨ys,h1,h2.mono hf⟩
theorem ERp.mono {p q:Nat→Prop} {E:World→α→List Value→Prop} {T:TypeId} {c:Nat} {w:World} (hpq:∀ g,p g→q g):∀ x vs,ERp p E T c w x vs→ERp q E T c w x vs:=fun x vs h=>by
  obtain ⟨u,hu,hs,ha⟩:=h
  exact ⟨u,hu,hs,fun hne g off o n cap e=>hpq g (ha hne g off o n cap e)⟩
/-- a store into a block that bears none of the rows -/
theorem Ow.stav {b:Nat} {p:Nat→Prop} {E:World→α→List Value→Prop} {ts:List TypeId} {T TW:TypeId} {c cw B:Nat} {w w':World} {v:Value} {xs:List (List α)} {cs:Array Value} (h:Ow (ERp p E T c) TW cw w B v xs) (hp:∀ g,p g→g≠b) (hS:Stab E ts) (st:St w w' b) (hL:Lc w b cs T)
    (hT:(TW !=T)=true) (hts:(ts.all fun t=>t !=T)=true):Ow (ERp p E T c) TW cw w' B v xs:=by
  obtain ⟨ys,h1,h2⟩:=h
  have hk:Kts ts w w':=st.kts hL hts
  refine ⟨ys,ownsRow_gr h1 (st.kt hL (by simpa using hT)),h2.1,fun i x hx=>?_⟩
  obtain ⟨u,hu,⟨zs,⟨ao,cp,e1,e2,e3⟩,e4⟩,ha⟩:=h2.2 i x hx
  refine ⟨u,hu,⟨zs,⟨ao,cp,e1,e2,fun hq=>?_⟩,e4.kts hS hk⟩,ha⟩
  obtain ⟨g,off,ds,fr,a1,a2,a3⟩:=e3 hq
  have hne:x≠[]:=fun e=>by subst e;rw [e4.1] at hq;simp at hq
  have:=hp g (ha hne g off none _ _ (by rw [e1,a1]))
  exact ⟨g,off,ds,fr,a1,(st.block g this).trans a2,a3⟩
/-- the slice lies in a block that is new -/
def Nw (B:Nat) (u:Value):Prop:=∀ g off o n cap,u=.slice (some ⟨g,off,o⟩) n cap→B≤g
theorem Nw.av {B:Nat} {p:Nat→Prop} {u:Value} {x:List α} (h:Nw B u) (hb:∀ g,B≤g→p g):Avp p u x:=fun _ g off o n cap e=>hb g (h g off o n cap e)
theorem Nw.mk {B b n cap:Nat} (h:B≤b):Nw B (.slice (some ⟨b,0,none⟩) n cap):=fun g off o n' cap' e=>by cases e;exact h
section
variable {P:Program} {Q:Exit→Act→World→Prop} {a:Act} {w:World}
theorem wp_seq_cut {x y:Code} (J:Act→World→Prop) (h1:∀ K:Act→World→Prop,(∀ a w,J a w→K a w)→x.wp P (Exit.then K Q) a w) (h2:∀ a w,J a w→y.wp P Q a w):(x.seq y).wp P Q a w:=
  wp_seq_k fun K hK=>h1 K (fun a w hj=>hK a w (h2 a w hj))
end
end
theorem cells_one {u:Value} (h:u.oneCell'=true):u.cells=[u].toArray:=by
  cases u<;>first | rfl | cases h
section
variable {P:Program} {Q:Exit→Act→World→Prop} {ops:Array Oper} {w:World} {ds:List Deferred} {l:List Value} {o:Oper}
/-- operations that are passed over -/
def setA:List Value→List (Nat × Nat)→List Value
  | l,[]=>l
  | l,(_,d)::r=>setA (l.set d undef) r
theorem setA_nil (l:List Value):setA l []=l:=rfl
theorem setA_cons (l:List Value) (i d:Nat) (r:List (Nat × Nat)):setA l ((i,d)::r)=setA (l.set d undef) r:=rfl
def skipOK (ops:Array Oper):List Value→List (Nat × Nat)→Bool
  | _,[]=>true
  | l,(i,d)::r=>(match ops[i]? with
    | some o=>o.dst==some d&&!Region.wanted o (yielded ops l.toArray)
    | none=>false)&&skipOK ops (l.set d undef) r
theorem sks:∀ (sk:List (Nat × Nat)) {l:List Value} {rest:List Nat},skipOK ops l sk=true→wpOps P ops Q rest ⟨(setA l sk).toArray,ds⟩ w→wpOps P ops Q (sk.map Prod.fst++rest) ⟨l.toArray,ds⟩ w
  | [],_,_,_,h=>h
  | (i,d)::r,l,rest,hk,h=>by
    simp only [skipOK,Bool.and_eq_true] at hk
    obtain ⟨h1,h2⟩:=hk
    split at h1
    · next o ho=>
      simp only [Bool.and_eq_true,beq_iff_eq,Bool.not_eq_true'] at h1
      exact ss (P:=P) d (sks r h2 h) rfl ho h1.1 h1.2
    · cases h1
theorem swk {i:Nat} {rest:List Nat} (d:Nat) (v:Value) (sk:List (Nat × Nat)) {l':List Value} (ho:ops[i]?=some o) (hv:RunV P ⟨l.toArray,ds⟩ o w v) (h:wpOps P ops Q rest ⟨l'.toArray,ds⟩ w) (hl:setA (l.set d v) sk=l':=by simp only [setA_cons,setA_nil,p3,p4]<;>rfl) (hd:o.dst=some d:=by rfl)
    (hw:Region.wanted o (yielded ops (⟨l.toArray,ds⟩:Act).tmps)=true:=by kernel_rfl) (hk:skipOK ops (l.set d v) sk=true:=by kernel_rfl):wpOps P ops Q (i::(sk.map Prod.fst++rest)) ⟨l.toArray,ds⟩ w:=
  sw d v ho hv (sks sk hk (by rw [hl];exact h)) rfl hd hw
end
section
variable {P:Program} {ops:Array Oper} {Q:Exit→Act→World→Prop} {S:World→Prop}
end
section
variable {α:Type} {P:Program} {a:Act} {o:Oper} {w:World} {Q:Exit→Act→World→Prop} {K:Act→World→Prop}
/-- a slice that is made of one slice,of two slices -/
theorem eff_bs1 (t e:TypeId) {x:Operand} (u:Value) (d:Option Tmp) (hd:o.dst=d) (hop:o.op=.buildSlice t 1 #[(0,x)]) (hx:a.eval x=u) (hu:∃ ao n cap,u=.slice ao n cap)
    (hrun:∀ ao n cap (w:World),(Instr.buildSlice t 1 #[(0,.slice ao n cap)]).run P w=.ok (.slice (some ⟨w.heap.size,0,none⟩) 1 1) (w.alloc (.cells #[.slice ao n cap] e)))
    (h:∀ b w',Gr w w'→Lc w' b #[u] e→w.heap.size≤b→K (a.put d (.slice (some ⟨b,0,none⟩) 1 1)) w'):o.wp P a w K Q:=by
  obtain ⟨ao,n,cap,rfl⟩:=hu
  refine eff_bs e 1 _ d hd (fun w=>?_) h
  unfold execOp
  simp [hop,hx,hrun]
theorem eff_bs2 (t e:TypeId) {x y:Operand} (u v:Value) (d:Option Tmp) (hd:o.dst=d) (hop:o.op=.buildSlice t 2 #[(0,x),(1,y)]) (hx:a.eval x=u) (hy:a.eval y=v) (hu:∃ ao n cap,u=.slice ao n cap) (hv:∃ ao n cap,v=.slice ao n cap)
    (hrun:∀ ao n cap bo m dap (w:World),(Instr.buildSlice t 2 #[(0,.slice ao n cap),(1,.slice bo m dap)]).run P w=.ok (.slice (some ⟨w.heap.size,0,none⟩) 2 2) (w.alloc (.cells #[.slice ao n cap,.slice bo m dap] e)))
    (h:∀ b w',Gr w w'→Lc w' b #[u,v] e→w.heap.size≤b→K (a.put d (.slice (some ⟨b,0,none⟩) 2 2)) w'):o.wp P a w K Q:=by
  obtain ⟨ao,n,cap,rfl⟩:=hu
  obtain ⟨bo,m,dap,rfl⟩:=hv
  refine eff_bs e 2 _ d hd (fun w=>?_) h
  unfold execOp
  simp [hop,hx,hy,hrun]
theorem Sl.forms {E:World→α→List Value→Prop} {T:TypeId} {c:Nat} {v:Value} {xs:List α} (h:Sl E T c w v xs):∃ ao n cap,v=.slice ao n cap:=by
  obtain ⟨ao,cap,e,_⟩:=h.form
  exact ⟨ao,_,cap,e⟩
end
section
variable {α:Type} {P:Program} {a:Act} {o:Oper} {w:World} {Q:Exit→Act→World→Prop} {K:Act→World→Prop}
/-- room for n elements behind nil -/
theorem eff_appz (s x:Operand) (t tn T:TypeId) (z:Value) (c bytes n:Nat) (d:Option Tmp) (hd:o.dst=d) (ho:o.op=.call {callee:=.builtin .append,args:=#[s,x],argTypes:=#[t,tn]}) (hs:a.eval s=.slice none 0 0) (hx:a.eval x=.int .i64 (n:Int)) (hn:0<n) (hn2:n≤1000000) (hb:bytes≤1000)
    (ht:P.underlying t=some (.slice T)) (htn:P.underlying tn=some (.int .i64)) (hi:(P.info? T).map (fun i=>(i.zero,i.size,i.bytes))=some (some z,c,bytes)) (hzs:z.cells.size=c∧0<c)
    (h:∀ b cap w',Gr w w'→w.heap.size≤b→(∀ E:World→α→List Value→Prop,Ow E T c w' w.heap.size (.slice (some ⟨b,0,none⟩) 0 cap) [])→K (a.put d (.slice (some ⟨b,0,none⟩) n cap)) w'):o.wp P a w K Q:=by
  subst hd
  obtain ⟨i,hi,hz,hsize,hby⟩:=info_parts hi
  have hb1:n*bytes≤1000000*1000:=Nat.mul_le_mul hn2 hb
  have hr:=Lib.run_append_nil_zeros (P:=P) w t tn o.type T i z .i64 .i64 ht htn hi hz n hn (by omega) (by omega) (by rw [hby];omega)
  refine Lib.wp_append_run w s x t tn ho _ _ hs hx _ _ hr (h _ _ _ ((Gr.drew w).trans (Gr.alloc _ _)) (Nat.le_refl _) fun E=>?_)
  refine ⟨[],⟨by simp,.inr ⟨w.heap.size,_,_,rfl,Nat.le_refl _,heap_alloc_new _ _,Nat.zero_le _,?_,?_,by simp⟩⟩,Els.nil ..⟩
  · exact grownCap_le_maxLen w n 0 T (by unfold maxLen;omega)
  · have:=grownCap_ge w n 0 T
    simp only [Array.size_append,Builtin.zeroCells,Array.size_map,Array.size_range,hzs.1]
    rw [← Nat.add_mul];congr 1;omega
theorem rv_cut0 {b n cap c:Nat} (t:TypeId) (x y:Operand) (hop:o.op=.slice t x none (some y) none) (hx:a.eval x=.slice (some ⟨b,0,none⟩) n cap) (hy:a.eval y=.int .i64 0) {e:TypeId} (hu:P.underlying t=some (.slice e)) (hs:(P.info? e).map (·.size)=some c):
    RunV P a o w (.slice (some ⟨b,0,none⟩) 0 cap):=by
  obtain ⟨i,hi',_⟩:=Option.map_eq_some_iff.1 hs
  unfold RunV execOp
  simp only [hop]
  have b1:(Instr.sliceBound (.int .i64 0) cap .sliceAcap).run P w=.ok 0 w:=by simp [Instr.sliceBound,asIntOf]
  simp [hx,hy,Instr.sliceAt,Instr.slice,run_underlying hu,Instr.sliceBounds,sizeOf,typeInfo,hi',b1,Addr.add]
end
theorem rcmp_self (x:Rat):rcmp x x=0:=rcmp_zero.2 rfl
section
variable {P:Program} {ops:Array Oper} {Q:Exit→Act→World→Prop} {S:World→Prop}
end
section
variable {α:Type} {E:World→α→List Value→Prop} {T:TypeId} {c B:Nat} {w:World}
/-- the block of an own slice is there -/
theorem Ow.blk {v:Value} {xs:List α} (h:Ow E T c w B v xs) {g n cap:Nat} (e:v=.slice (some ⟨g,0,none⟩) n cap):B≤g∧g<w.heap.size:=by
  obtain ⟨ys,h1,_⟩:=h
  rcases h1.2 with ⟨hn,_⟩ | ⟨g',cap',cur,he,hb,hg,_⟩
  · rw [hn] at e;cases e
  · rw [he] at e;cases e
    exact ⟨hb,heap_lt hg⟩
end
end Go.Proofs.YtepgkcimmdmgcaaGreatDoor
namespace Go.Proofs.YtepgkcimmdmgcaaGreatDoor
/-- the first row from i on,of n,whose number in column k is not 0 -/
def fnd (m:Mx_) (k:Nat):Nat→Nat→Option Nat
  | 0,_=>none
  | n+1,i=>if m i k=0 then fnd m k n (i+1) else some i
theorem fnd_some {m:Mx_} {k:Nat}:∀ {n i j:Nat},fnd m k n i=some j→i≤j∧j<i+n∧m j k≠0∧∀ t,i≤t→t<j→m t k=0
  | 0,_,_,h=>by cases h
  | n+1,i,j,h=>by
    unfold fnd at h
    split at h
    · next e=>
      obtain ⟨h1,h2,h3,h4⟩:=fnd_some h
      refine ⟨by omega,by omega,h3,fun t ht hj=>?_⟩
      rcases Nat.eq_or_lt_of_le ht with rfl | h5
      · exact e
      · exact h4 t h5 hj
    · next e=>cases h;exact ⟨Nat.le_refl _,by omega,e,fun _ h1 h2=>absurd h2 (by omega)⟩
theorem fnd_none {m:Mx_} {k:Nat}:∀ {n i:Nat},fnd m k n i=none→∀ t,i≤t→t<i+n→m t k=0
  | 0,_,_,_,h1,h2=>absurd h2 (by omega)
  | n+1,i,h,t,h1,h2=>by
    unfold fnd at h
    split at h
    · next e=>
      rcases Nat.eq_or_lt_of_le h1 with rfl | h5
      · exact e
      · exact fnd_none h t h5 (by omega)
    · cases h
/-- rows,pivots,the determinant of the steps -/
structure Rd where
  m:Mx_
  p:List Nat
  d:Rat
def stepR (R k:Nat) (s:Rd):Rd:=match fnd s.m k (R - s.p.length) s.p.length with
  | none=>s
  | some i=>
    let a:=swp s.m i s.p.length
    ⟨clr (scl a s.p.length (1/a s.p.length k)) s.p.length (fun j=>a j k),s.p++[k],(if i=s.p.length then s.d else - s.d)*a s.p.length k⟩
def redR (R:Nat):Nat→Rd→Rd
  | 0,s=>s
  | k+1,s=>stepR R k (redR R k s)
def pv (s:Rd) (t:Nat):Nat:=s.p.getD t 0
structure Inv (R:Nat) (m0:Mx_) (K:Nat) (s:Rd):Prop where
  eqv:Eqv R m0 s.m
  len:s.p.length≤R
  lt:∀ t,t<s.p.length→pv s t<K
  inc:∀ t u,t<u→u<s.p.length→pv s t<pv s u
  unit:∀ t,t<s.p.length→∀ i,i<R→s.m i (pv s t)=if i=t then 1 else 0
  zero:∀ i,s.p.length≤i→i<R→∀ k,k<K→s.m i k=0
  ech:∀ t,t<s.p.length→∀ k,k<pv s t→s.m t k=0
theorem Inv.start (R:Nat) (m:Mx_) (d:Rat):Inv R m 0 ⟨m,[],d⟩:=
  ⟨.refl R m,Nat.zero_le _,fun t h=>absurd h (Nat.not_lt_zero t),fun _ u _ h=>absurd h (Nat.not_lt_zero u),fun t h=>absurd h (Nat.not_lt_zero t),fun _ _ _ k h=>absurd h (Nat.not_lt_zero k),fun t h=>absurd h (Nat.not_lt_zero t)⟩
theorem pv_old {s:Rd} {k t:Nat} {m:Mx_} {d:Rat} (h:t<s.p.length):pv ⟨m,s.p++[k],d⟩ t=pv s t:=by
  unfold pv
  simp only [List.getD_eq_getElem?_getD]
  rw [List.getElem?_append_left h]
theorem pv_new {s:Rd} {k:Nat} {m:Mx_} {d:Rat}:pv ⟨m,s.p++[k],d⟩ s.p.length=k:=by
  unfold pv
  simp
theorem Inv.step {R:Nat} {m0:Mx_} {K:Nat} {s:Rd} (h:Inv R m0 K s):Inv R m0 (K+1) (stepR R K s):=by
  unfold stepR
  split
  · next e=>
    refine ⟨h.eqv,h.len,fun t ht=>Nat.lt_succ_of_lt (h.lt t ht),h.inc,h.unit,fun i h1 h2 k hk=>?_,h.ech⟩
    rcases Nat.eq_or_lt_of_le (Nat.le_of_lt_succ hk) with rfl | hk
    · exact fnd_none e i h1 (by omega)
    · exact h.zero i h1 h2 k hk
  · next i e=>
    obtain ⟨h1,h2,h3,_⟩:=fnd_some e
    have hr:s.p.length<R:=by omega
    have hi:i<R:=by omega
    generalize hq:s.p.length=r at*
    have ha:swp s.m i r r K≠0:=by
      unfold swp
      by_cases e1:r=i
      · rw [if_pos e1];rw [e1];exact h3
      · rw [if_neg e1,if_pos rfl];exact h3
    have hrow:∀ j k,j<r→swp s.m i r j k=s.m j k:=fun j k hj=>by
      unfold swp
      rw [if_neg (by omega),if_neg (by omega)]
    have hlow:∀ j k,r≤j→j<R→k<K→swp s.m i r j k=0:=fun j k hj hR hk=>by
      unfold swp
      split
      · exact h.zero r (by omega) hr k hk
      · split
        · exact h.zero i (by omega) hi k hk
        · exact h.zero j (by omega) hR k hk
    generalize hA:swp s.m i r=a at*
    have hval:∀ j k,clr (scl a r (1/a r K)) r (fun j=>a j K) j k=if j=r then a r k*(1/a r K) else a j k - a j K*(a r k*(1/a r K)):=fun j k=>by
      unfold clr scl
      split
      · rw [if_pos rfl]
      · rw [if_pos rfl]
    have hK:∀ j,clr (scl a r (1/a r K)) r (fun j=>a j K) j K=if j=r then 1 else 0:=fun j=>by
      rw [hval]
      split<;>grind
    have hold:∀ j k,k<K→j<R→clr (scl a r (1/a r K)) r (fun j=>a j K) j k=if j<r then s.m j k else 0:=fun j k hk hj=>by
      rw [hval,hlow r k (Nat.le_refl _) hr hk]
      by_cases e1:j=r
      · rw [if_pos e1,if_neg (by omega)];grind
      · rw [if_neg e1]
        by_cases e2:j<r
        · rw [if_pos e2,hrow j k e2];grind
        · rw [if_neg e2,hlow j k (by omega) hj hk];grind
    have hlen:(s.p++[K]).length=r+1:=by simp [hq]
    refine ⟨?_,by rw [hlen];omega,fun t ht=>?_,fun t u htu hu=>?_,fun t ht j hj=>?_,fun j h4 hj k hk=>?_,fun t ht k hk=>?_⟩
    · refine h.eqv.trans ?_
      have e1:Eqv R s.m a:=by rw [← hA];exact swp_eqv s.m hi hr
      exact (e1.trans (scl_eqv a r (by grind))).trans (clr_eqv _ hr _)
    · rw [hlen] at ht
      rcases Nat.eq_or_lt_of_le (Nat.le_of_lt_succ ht) with rfl | ht
      · rw [← hq,pv_new];omega
      · rw [pv_old (by omega)];exact Nat.lt_succ_of_lt (h.lt t (by omega))
    · rw [hlen] at hu
      rw [pv_old (s:=s) (t:=t) (by omega)]
      rcases Nat.eq_or_lt_of_le (Nat.le_of_lt_succ hu) with rfl | hu
      · have:=h.lt t (by omega)
        rw [← hq,pv_new];exact this
      · rw [pv_old (s:=s) (t:=u) (by omega)];exact h.inc t u htu (by omega)
    · rw [hlen] at ht
      rcases Nat.eq_or_lt_of_le (Nat.le_of_lt_succ ht) with rfl | ht
      · have e2:pv ⟨clr (scl a t (1/a t K)) t (fun j=>a j K),s.p++[K],(if i=t then s.d else - s.d)*a t K⟩ t=K:=by
          have:=pv_new (s:=s) (k:=K) (m:=clr (scl a t (1/a t K)) t (fun j=>a j K)) (d:=(if i=t then s.d else - s.d)*a t K)
          rwa [hq] at this
        rw [e2];exact hK j
      · rw [pv_old (by omega)]
        have hl:=h.lt t (by omega)
        show clr (scl a r (1/a r K)) r (fun j=>a j K) j (pv s t)=_
        rw [hold j _ hl hj]
        by_cases e2:j<r
        · rw [if_pos e2];exact h.unit t (by omega) j hj
        · rw [if_neg e2,if_neg (by omega)]
    · rw [hlen] at h4
      show clr (scl a r (1/a r K)) r (fun j=>a j K) j k=0
      rcases Nat.eq_or_lt_of_le (Nat.le_of_lt_succ hk) with rfl | hk
      · rw [hK,if_neg (by omega)]
      · rw [hold j k hk hj,if_neg (by omega)]
    · rw [hlen] at ht
      show clr (scl a r (1/a r K)) r (fun j=>a j K) t k=0
      rcases Nat.eq_or_lt_of_le (Nat.le_of_lt_succ ht) with rfl | ht
      · have e2:pv ⟨clr (scl a t (1/a t K)) t (fun j=>a j K),s.p++[K],(if i=t then s.d else - s.d)*a t K⟩ t=K:=by
          have:=pv_new (s:=s) (k:=K) (m:=clr (scl a t (1/a t K)) t (fun j=>a j K)) (d:=(if i=t then s.d else - s.d)*a t K)
          rwa [hq] at this
        rw [e2] at hk
        rw [hold t k hk hr,if_neg (by omega)]
      · rw [pv_old (by omega)] at hk
        have hl:=h.lt t (by omega)
        rw [hold t k (by omega) (by omega),if_pos ht]
        exact h.ech t (by omega) k hk
theorem red_inv (R:Nat) (m:Mx_) (d:Rat):∀ K,Inv R m K (redR R K ⟨m,[],d⟩)
  | 0=>.start R m d
  | K+1=>(red_inv R m d K).step
end Go.Proofs.YtepgkcimmdmgcaaGreatDoor
namespace Go.Proofs.YtepgkcimmdmgcaaGreatDoor
/-- what the kernel's vector of column f holds -/
def kv (s:Rd) (f k:Nat):Rat:=if k=f then 1 else sm s.p.length fun t=>if pv s t=k then - s.m t f else 0
end Go.Proofs.YtepgkcimmdmgcaaGreatDoor
namespace Go.Proofs.YtepgkcimmdmgcaaGreatDoor
theorem stepR_p (R K:Nat) (s:Rd):(stepR R K s).p=s.p∨(stepR R K s).p=s.p++[K]:=by
  unfold stepR
  split
  · exact .inl rfl
  · exact .inr rfl
end Go.Proofs.YtepgkcimmdmgcaaGreatDoor
namespace Go.Proofs.YtepgkcimmdmgcaaGreatDoor
def updm (m:Mx_) (i:Nat) (u:Nat→Rat):Mx_:=fun a b=>if a=i then u b else m a b
theorem updm_self (m:Mx_) (i:Nat):updm m i (m i)=m:=by
  funext a b
  unfold updm
  split
  · next e=>rw [e]
  · rfl
theorem updm_comm (m:Mx_) {i j:Nat} (h:i≠j) (u v:Nat→Rat):updm (updm m i u) j v=updm (updm m j v) i u:=by
  funext a b
  unfold updm
  grind
/-- linear in each row,0 where two neighbours are equal -/
structure Alt (R:Nat) (G:Mx_→Rat):Prop where
  lin:∀ (m:Mx_) (i:Nat),i<R→∀ (u v:Nat→Rat) (c:Rat),G (updm m i (fun k=>u k+c*v k))=G (updm m i u)+c*G (updm m i v)
  adj:∀ (m:Mx_) (i:Nat),i+1<R→(∀ k,m i k=m (i+1) k)→G m=0
  ext:∀ m m':Mx_,(∀ i,i<R→∀ k,m i k=m' i k)→G m=G m'
section
variable {R:Nat} {G:Mx_→Rat} (h:Alt R G)
include h
theorem Alt.zero {m:Mx_} {i:Nat} (hi:i<R) (hz:∀ k,m i k=0):G m=0:=by
  have:=h.lin m i hi (m i) (m i) (-1)
  rw [updm_self] at this
  have e:updm m i (fun k=>m i k+-1*m i k)=m:=by
    funext a b
    unfold updm
    split
    · next e=>rw [e,hz b];grind
    · rfl
  rw [e] at this
  grind
theorem Alt.nswp (m:Mx_) {i:Nat} (hi:i+1<R):G (swp m i (i+1))=- G m:=by
  let u:=m i;let v:=m (i+1)
  have key:∀ x y:Nat→Rat,(∀ k,x k=y k)→G (updm (updm m i x) (i+1) y)=0:=fun x y hxy=>h.adj _ i hi fun k=>by
    unfold updm
    rw [if_neg (by omega),if_pos rfl,if_pos rfl,hxy k]
  have l1:∀ x:Nat→Rat,G (updm (updm m i x) (i+1) (fun k=>u k+1*v k))=G (updm (updm m i x) (i+1) u)+1*G (updm (updm m i x) (i+1) v):=fun x=>h.lin _ _ hi u v 1
  have l2:∀ y:Nat→Rat,G (updm (updm m i (fun k=>u k+1*v k)) (i+1) y)=G (updm (updm m i u) (i+1) y)+1*G (updm (updm m i v) (i+1) y):=fun y=>by
    rw [updm_comm _ (show i≠i+1 by omega),updm_comm _ (show i≠i+1 by omega) u,updm_comm _ (show i≠i+1 by omega) v]
    exact h.lin _ _ (by omega) u v 1
  have k0:=key (fun k=>u k+1*v k) (fun k=>u k+1*v k) fun _=>rfl
  have k1:=key u u fun _=>rfl
  have k2:=key v v fun _=>rfl
  rw [l1,l2,l2,k1,k2] at k0
  have e1:updm (updm m i u) (i+1) v=m:=by rw [updm_self,updm_self]
  have e2:updm (updm m i v) (i+1) u=swp m i (i+1):=by
    funext a b
    unfold updm swp
    grind
  rw [e1,e2] at k0
  grind
theorem Alt.same:∀ (n:Nat) {m:Mx_} {i:Nat},i+1+n<R→(∀ k,m i k=m (i+1+n) k)→G m=0
  | 0,m,i,hi,he=>h.adj m i hi he
  | n+1,m,i,hi,he=>by
    have e:=Alt.same n (m:=swp m (i+1+n) (i+1+n+1)) (i:=i) (by omega) fun k=>by
      unfold swp
      rw [if_neg (by omega),if_neg (by omega),if_pos rfl];exact he k
    rw [h.nswp m (by omega)] at e
    grind
theorem Alt.eq {m:Mx_} {i j:Nat} (hi:i<R) (hj:j<R) (hne:i≠j) (he:∀ k,m i k=m j k):G m=0:=by
  rcases Nat.lt_or_gt_of_ne hne with hl | hl
  · obtain ⟨n,rfl⟩:∃ n,j=i+1+n:=⟨j - i - 1,by omega⟩
    exact h.same n hj he
  · obtain ⟨n,rfl⟩:∃ n,i=j+1+n:=⟨i - j - 1,by omega⟩
    exact h.same n hi fun k=>(he k).symm
theorem Alt.swp (m:Mx_) {i j:Nat} (hi:i<R) (hj:j<R) (hne:i≠j):G (swp m i j)=- G m:=by
  let u:=m i;let v:=m j
  have key:∀ x:Nat→Rat,G (updm (updm m i x) j x)=0:=fun x=>h.eq hi hj hne fun k=>by
    unfold updm
    rw [if_neg hne,if_pos rfl,if_pos rfl]
  have l1:∀ x:Nat→Rat,G (updm (updm m i x) j (fun k=>u k+1*v k))=G (updm (updm m i x) j u)+1*G (updm (updm m i x) j v):=fun x=>h.lin _ _ hj u v 1
  have l2:∀ y:Nat→Rat,G (updm (updm m i (fun k=>u k+1*v k)) j y)=G (updm (updm m i u) j y)+1*G (updm (updm m i v) j y):=fun y=>by
    rw [updm_comm _ hne,updm_comm _ hne u,updm_comm _ hne v]
    exact h.lin _ _ hi u v 1
  have k0:=key (fun k=>u k+1*v k)
  have k1:=key u
  have k2:=key v
  rw [l1,l2,l2,k1,k2] at k0
  have e1:updm (updm m i u) j v=m:=by rw [updm_self,updm_self]
  have e2:updm (updm m i v) j u=Go.Proofs.YtepgkcimmdmgcaaGreatDoor.swp m i j:=by
    funext a b
    unfold updm Go.Proofs.YtepgkcimmdmgcaaGreatDoor.swp
    grind
  rw [e1,e2] at k0
  grind
theorem Alt.scl (m:Mx_) {r:Nat} (hr:r<R) (c:Rat):G (scl m r c)=c*G m:=by
  have l:=h.lin m r hr (fun _=>0) (m r) c
  rw [updm_self,h.zero hr (m:=updm m r fun _=>0) fun k=>by unfold updm;rw [if_pos rfl]] at l
  have e:updm m r (fun k=>0+c*m r k)=Go.Proofs.YtepgkcimmdmgcaaGreatDoor.scl m r c:=by
    funext a b
    unfold updm Go.Proofs.YtepgkcimmdmgcaaGreatDoor.scl
    split<;>grind
  rw [e] at l
  rw [l];grind
theorem Alt.add (m:Mx_) {j r:Nat} (hj:j<R) (hr:r<R) (hne:j≠r) (c:Rat):G (updm m j (fun k=>m j k+c*m r k))=G m:=by
  rw [h.lin m j hj,updm_self,h.eq (m:=updm m j (m r)) hj hr hne fun k=>by unfold updm;rw [if_pos rfl,if_neg (Ne.symm hne)]]
  grind
theorem Alt.clr (m:Mx_) {r:Nat} (hr:r<R) (c:Nat→Rat):G (clr m r c)=G m:=by
  have go:∀ n,n≤R→G (fun j k=>if j<n then Go.Proofs.YtepgkcimmdmgcaaGreatDoor.clr m r c j k else m j k)=G m:=by
    intro n
    induction n with
    | zero=>exact fun _=>h.ext _ _ fun i _ k=>if_neg (Nat.not_lt_zero i)
    | succ n ih=>
      intro hn
      rw [← ih (by omega)]
      by_cases e:n=r
      · refine h.ext _ _ fun i _ k=>?_
        by_cases h1:i<n
        · rw [if_pos h1,if_pos (by omega)]
        · rw [if_neg h1]
          by_cases h2:i<n+1
          · rw [if_pos h2]
            have:i=r:=by omega
            unfold Go.Proofs.YtepgkcimmdmgcaaGreatDoor.clr
            rw [if_pos this,this]
          · rw [if_neg h2]
      · have:=h.add (fun j k=>if j<n then Go.Proofs.YtepgkcimmdmgcaaGreatDoor.clr m r c j k else m j k) (j:=n) (r:=r) (by omega) hr e (- c n)
        rw [← this]
        refine h.ext _ _ fun i _ k=>?_
        have er:(if r<n then Go.Proofs.YtepgkcimmdmgcaaGreatDoor.clr m r c r k else m r k)=m r k:=by
          split
          · unfold Go.Proofs.YtepgkcimmdmgcaaGreatDoor.clr;rw [if_pos rfl]
          · rfl
        unfold updm
        dsimp only
        rw [er,if_neg (Nat.lt_irrefl n)]
        by_cases h1:i=n
        · subst h1
          rw [if_pos (Nat.lt_succ_self i),if_pos rfl]
          unfold Go.Proofs.YtepgkcimmdmgcaaGreatDoor.clr
          rw [if_neg e];grind
        · rw [if_neg h1]
          by_cases h2:i<n
          · rw [if_pos (by omega),if_pos h2]
          · rw [if_neg (by omega),if_neg h2]
  rw [← go R (Nat.le_refl _)]
  exact h.ext _ _ fun i hi k=>(if_pos hi).symm
/-- the determinant of the steps -/
theorem Alt.step (K:Nat) {s:Rd} (hs:s.p.length≤R) {g:Rat} (hg:g=s.d*G s.m):g=(stepR R K s).d*G (stepR R K s).m:=by
  unfold stepR
  split
  · exact hg
  · next i e=>
    obtain ⟨h1,h2,h3,_⟩:=fnd_some e
    have hr:s.p.length<R:=by omega
    have hi:i<R:=by omega
    dsimp only
    have ha:Go.Proofs.YtepgkcimmdmgcaaGreatDoor.swp s.m i s.p.length s.p.length K≠0:=by
      unfold Go.Proofs.YtepgkcimmdmgcaaGreatDoor.swp
      by_cases e1:s.p.length=i
      · rw [if_pos e1,e1];exact h3
      · rw [if_neg e1,if_pos rfl];exact h3
    rw [h.clr _ hr,h.scl _ hr]
    generalize Go.Proofs.YtepgkcimmdmgcaaGreatDoor.swp s.m i s.p.length s.p.length K=x at ha
    by_cases e2:i=s.p.length
    · have e3:Go.Proofs.YtepgkcimmdmgcaaGreatDoor.swp s.m i s.p.length=s.m:=by
        rw [e2];funext a b;unfold Go.Proofs.YtepgkcimmdmgcaaGreatDoor.swp;grind
      rw [if_pos e2,e3,hg];grind
    · rw [if_neg e2,h.swp _ hi hr e2,hg];grind
theorem Alt.red (m:Mx_) (d:Rat):∀ K,d*G m=(redR R K ⟨m,[],d⟩).d*G (redR R K ⟨m,[],d⟩).m
  | 0=>rfl
  | K+1=>h.step K (red_inv R m d K).len (Alt.red m d K)
end
end Go.Proofs.YtepgkcimmdmgcaaGreatDoor
namespace Go.Proofs.YtepgkcimmdmgcaaGreatDoor
/-- all indices but k -/
def skp (k b:Nat):Nat:=if b<k then b else b+1
/-- the first row and column k left out -/
def mnr (m:Mx_) (k:Nat):Mx_:=fun a b=>m (a+1) (skp k b)
def sgk (k:Nat):Rat:=if k % 2=1 then -1 else 1
/-- the expansion by the first row -/
def Dr:Nat→Mx_→Rat
  | 0,_=>1
  | n+1,m=>sm (n+1) fun k=>sgk k*(m 0 k*Dr n (mnr m k))
theorem Dr_ext:∀ (n:Nat) {m m':Mx_},(∀ i,i<n→∀ k,k<n→m i k=m' i k)→Dr n m=Dr n m'
  | 0,_,_,_=>rfl
  | n+1,m,m',h=>sm_congr fun k hk=>by
    rw [h 0 (by omega) k hk,Dr_ext n (m:=mnr m k) (m':=mnr m' k) fun i hi b hb=>h (i+1) (by omega) _ (by unfold skp;split<;>omega)]
theorem Dr_lin:∀ (n:Nat) (m:Mx_) (i:Nat),i<n→∀ (u v:Nat→Rat) (c:Rat),Dr n (updm m i (fun k=>u k+c*v k))=Dr n (updm m i u)+c*Dr n (updm m i v)
  | 0,_,_,h,_,_,_=>absurd h (Nat.not_lt_zero _)
  | n+1,m,i,hi,u,v,c=>by
    show sm (n+1) _=sm (n+1) _+c*sm (n+1) _
    rw [← sm_mul,← sm_add]
    refine sm_congr fun k _=>?_
    cases i with
    | zero=>
      have e:∀ x:Nat→Rat,mnr (updm m 0 x) k=mnr m k:=fun x=>by funext a b;unfold mnr updm;rw [if_neg (by omega)]
      have e0:∀ x:Nat→Rat,updm m 0 x 0 k=x k:=fun x=>if_pos rfl
      rw [e,e,e,e0,e0,e0];grind
    | succ i=>
      have e:∀ x:Nat→Rat,mnr (updm m (i+1) x) k=updm (mnr m k) i (fun b=>x (skp k b)):=fun x=>by
        funext a b
        unfold mnr updm
        by_cases h:a=i
        · rw [if_pos h,if_pos (by omega)]
        · rw [if_neg h,if_neg (by omega)]
      have e0:∀ x:Nat→Rat,updm m (i+1) x 0 k=m 0 k:=fun x=>if_neg (by omega)
      rw [e,e,e,e0,e0,e0,Dr_lin n (mnr m k) i (by omega) (fun b=>u (skp k b)) (fun b=>v (skp k b)) c];grind
/-- a sum that leaves one index out -/
theorem sm_skp:∀ {n k:Nat} (f:Nat→Rat),k<n+1→sm (n+1) f=sm n (fun l=>f (skp k l))+f k
  | 0,k,f,h=>by
    obtain rfl:k=0:=by omega
    rfl
  | n+1,k,f,h=>by
    by_cases e:k=n+1
    · subst e
      show sm (n+1) f+f (n+1)=_
      congr 1
      exact sm_congr fun l hl=>by unfold skp;rw [if_pos hl]
    · show sm (n+1) f+f (n+1)=sm n (fun l=>f (skp k l))+f (skp k n)+f k
      rw [sm_skp (n:=n) (k:=k) f (by omega)]
      have:skp k n=n+1:=by unfold skp;rw [if_neg (by omega)]
      rw [this];grind
theorem skp_skp {k q:Nat} (h:q<k) (b:Nat):skp k (skp q b)=skp q (skp (k - 1) b):=by
  unfold skp
  repeat' split
  all_goals omega
theorem sgk_succ (k:Nat):sgk (k+1)=- sgk k:=by
  unfold sgk
  by_cases h:k % 2=1
  · rw [if_pos h,if_neg (by omega)];grind
  · rw [if_neg h,if_pos (by omega)]
/-- the second index behind which the first one was left out -/
def pos_ (k q:Nat):Nat:=if q<k then q else q - 1
theorem pos_skp (k l:Nat):pos_ k (skp k l)=l∧skp k l≠k:=by
  unfold skp pos_
  constructor
  · repeat' split
    all_goals omega
  · split<;>omega
/-- both columns left out:in whatever order -/
theorem skp_two {k q:Nat} (h:k≠q) (b:Nat):skp k (skp (pos_ k q) b)=skp q (skp (pos_ q k) b):=by
  rcases Nat.lt_or_gt_of_ne h with hl | hl
  · have e1:pos_ k q=q - 1:=if_neg (by omega)
    have e2:pos_ q k=k:=if_pos hl
    rw [e1,e2]
    exact (skp_skp hl b).symm
  · have e1:pos_ k q=q:=if_pos hl
    have e2:pos_ q k=k - 1:=if_neg (by omega)
    rw [e1,e2]
    exact skp_skp hl b
theorem sg_two {k q:Nat} (h:k≠q):sgk k*sgk (pos_ k q)=- (sgk q*sgk (pos_ q k)):=by
  rcases Nat.lt_or_gt_of_ne h with hl | hl
  · have e1:pos_ k q=q - 1:=if_neg (by omega)
    have e2:pos_ q k=k:=if_pos hl
    have e3:=sgk_succ (q - 1)
    rw [show q - 1+1=q by omega] at e3
    rw [e1,e2,e3];grind
  · have e1:pos_ k q=q:=if_pos hl
    have e2:pos_ q k=k - 1:=if_neg (by omega)
    have e3:=sgk_succ (k - 1)
    rw [show k - 1+1=k by omega] at e3
    rw [e1,e2,e3];grind
theorem Dr_adj:∀ (n:Nat) (m:Mx_) (i:Nat),i+1<n→(∀ k,m i k=m (i+1) k)→Dr n m=0
  | 0,_,_,h,_=>absurd h (Nat.not_lt_zero _)
  | 1,_,_,h,_=>absurd h (by omega)
  | n+2,m,i+1,hi,he=>sm_zero fun k _=>by
    rw [Dr_adj (n+1) (mnr m k) i (by omega) fun b=>he (skp k b)];grind
  | n+2,m,0,_,he=>by
    -- pairs of columns
    let g:Nat→Nat→Rat:=fun k q=>if q=k then 0 else sgk k*(m 0 k*(sgk (pos_ k q)*(m 0 q*Dr n (mnr (mnr m k) (pos_ k q)))))
    have e1:Dr (n+2) m=sm (n+2) (fun k=>sm (n+2) (g k)):=sm_congr fun k hk=>by
      rw [sm_skp (k:=k) (g k) hk]
      have g0:g k k=0:=if_pos rfl
      rw [g0]
      show sgk k*(m 0 k*sm (n+1) _)=_
      rw [← sm_mul,← sm_mul]
      have:∀ x:Rat,x+0=x:=fun x=>by grind
      rw [this]
      refine sm_congr fun l _=>?_
      obtain ⟨h1,h2⟩:=pos_skp k l
      show _=if skp k l=k then (0:Rat) else _
      rw [if_neg h2,h1,he (skp k l)];rfl
    have e2:∀ k q,g k q=- g q k:=fun k q=>by
      by_cases h:q=k
      · subst h
        have:g q q=0:=if_pos rfl
        rw [this];grind
      · have hD:mnr (mnr m k) (pos_ k q)=mnr (mnr m q) (pos_ q k):=by
          funext a b
          show m (a+1+1) (skp k (skp (pos_ k q) b))=m (a+1+1) (skp q (skp (pos_ q k) b))
          rw [skp_two (Ne.symm h)]
        have hs:=sg_two (Ne.symm h)
        show (if q=k then (0:Rat) else _)=- (if k=q then (0:Rat) else _)
        rw [if_neg h,if_neg (Ne.symm h),hD]
        generalize Dr n _=D
        grind
    have e3:Dr (n+2) m=- Dr (n+2) m:=by
      have:sm (n+2) (fun k=>sm (n+2) (g k))=- sm (n+2) (fun k=>sm (n+2) (fun q=>g q k)):=by
        have h1:∀ x:Rat,- x=(-1)*x:=fun x=>by grind
        rw [h1,← sm_mul]
        exact sm_congr fun k _=>by
          rw [← sm_mul]
          exact sm_congr fun q _=>by rw [e2 k q];grind
      rw [e1]
      exact this.trans (congrArg (fun x=>- x) (sm_comm (n+2) (n+2) g).symm)
    grind
theorem Dr_alt (n:Nat):Alt n (Dr n):=⟨Dr_lin n,Dr_adj n,fun _ _ h=>Dr_ext n fun i hi k _=>h i hi k⟩
def one_:Mx_:=fun i k=>if i=k then 1 else 0
theorem Dr_one:∀ n,Dr n one_=1
  | 0=>rfl
  | n+1=>by
    show sm (n+1) _=_
    rw [sm_one (i:=0) (by omega) fun k _ hk=>by
      have:one_ 0 k=0:=if_neg (Ne.symm hk)
      rw [this];grind]
    have e:mnr one_ 0=one_:=by
      funext a b
      unfold mnr one_ skp
      rw [if_neg (Nat.not_lt_zero b)]
      by_cases h:a=b
      · rw [if_pos h,if_pos (by omega)]
      · rw [if_neg h,if_neg (by omega)]
    rw [e,Dr_one n]
    have:one_ 0 0=1:=if_pos rfl
    rw [this]
    unfold sgk
    rw [if_neg (by decide)];grind
end Go.Proofs.YtepgkcimmdmgcaaGreatDoor
namespace Go.Proofs.YtepgkcimmdmgcaaGreatDoor
open Go.RowKit

set_option maxRecDepth 100000 in
set_option maxHeartbeats 1000000 in
theorem mx_size {K R N:Nat} {v:Value} {m:Nat→Nat→Rat} {w:World} (_hR2:R≤256) (_hN2:N≤96) (hs:Sl (ERw (ERat K) 71 4) 49 1 w v (tb (fun z0=>tb (fun z1=>(m z0 z1)) N) R)):
    Calls Tryz.prog 51 #[v] w fun e w'=>e=.returned (.int .i64 0)∧Gr w w':=by
 go_enter Tryz.func51,Tryz.ntmps51
 have hB:=Gr.refl w
 refine wp_seq_k (fun K10 k10=>?_)
 refine rg [0] ?_
 refine sv 2 (.int .i64 0) ?_
 refine sq_nil ?_
 refine k10 _ _ ?_
 try clear k10 K10
 refine wp_seq_k (fun K11 k11=>?_)
 refine wp_seq_k (fun K12 k12=>?_)
 refine rg [0,1,2] ?_
 refine sv 5 v ?_
 refine sw 6 (.int .i64 ((R:Int))) rfl (rv_lenn (e:=49) hs (tb_lenz rfl) _ _ rfl rfl (by kernel_rfl)) ?_
 have hb13:(decide ((256:Int)<(R:Int)))=false:=(by simp only [decide_eq_false_iff_not];omega)
 refine sw 7 (.bool false) rfl (RunV.bool (x:=decide ((256:Int)<(R:Int))) (rvk (by kernel_rfl)) hb13) ?_
 refine sq_nil ?_
 refine k12 _ _ ?_
 try clear k12 K12
 refine wp_cond_false rfl ?_
 refine wp_skip ?_
 refine k11 _ _ ?_
 try clear k11 K11
 refine wp_seq_k (fun K14 k14=>?_)
 refine wp_seq_k (fun K15 k15=>?_)
 refine rg [0,1,2] ?_
 refine sv 8 v ?_
 refine sw 9 (.int .i64 ((R:Int))) rfl (rv_lenn (e:=49) hs (tb_lenz rfl) _ _ rfl rfl (by kernel_rfl)) ?_
 refine sv 10 (.int .i64 0) ?_
 refine sq_nil ?_
 refine k15 _ _ ?_
 try clear k15 K15
 refine wp_block ?_
 refine wp_loop_inv (a:=⟨List.toArray ?l16,[]⟩) (fun n a w'=>∃ (k:Nat) (u16:Nat→Value),R - k=n∧a=⟨[v,undef,(u16 2),undef,(u16 4),(u16 5),(u16 6),(.bool false),v,(.int .i64 ((R:Int))),(.int .i64 ((k:Int))),(u16 11),(u16 12),(u16 13),(u16 14),(u16 15),(u16 16),(u16 17),(u16 18),(u16 19),(u16 20),(u16 21),(u16 22),(u16 23),(u16 24)].toArray,[]⟩∧k≤R∧Gr w w') (R - 0) ?_ ?_
 ·exact ⟨0,(fun i=>List.getD ?l16 i undef),rfl,rfl,(Nat.zero_le _),hB⟩
 rintro n16 a16 w16 ⟨k,u16,rfl,rfl,hkk,hB⟩ K16 k16
 refine wp_seq_k (fun K17 k17=>?_)
 refine rg [0] ?_
 refine sv 11 (.bool (decide ((k:Int)<(R:Int)))) ?_
 refine sq_nil ?_
 refine k17 _ _ ?_
 try clear k17 K17
 refine wp_seq_k (fun K18 k18=>?_)
 refine wp_cond_split (t:=decide ((k:Int)<(R:Int))) rfl (fun hb19=>?_) (fun hb19=>?_)
 ·have hlk:k<R:=by have:=of_decide_eq_true hb19;omega
  refine wp_skip ?_
  refine k18 _ _ ?_
  try clear k18 K18
  refine wp_seq_k (fun K20 k20=>?_)
  refine wp_block ?_
  refine wp_seq_k (fun K21 k21=>?_)
  refine rg [0,1,2] ?_
  refine sw 12 (adr v (k*1)) rfl (rv_idxn (e:=49) hs tb_len (by decide) k (by omega) _ _ _ rfl rfl rfl (by kernel_rfl) (by kernel_rfl)) ?_
  obtain ⟨_,_,⟨u22,rfl,hr22⟩,at22⟩:=Sl.get hs (by decide) (tb_get (f:=(fun z0=>tb (fun z1=>(m z0 z1)) N)) (n:=R) (i:=k) (by omega))
  refine sw 13 u22 rfl (rv_ld1 u22 (at22.gr hB) _ _ rfl rfl (by kernel_rfl)) ?_
  refine sv 4 u22 ?_
  refine sq_nil ?_
  refine k21 _ _ ?_
  try clear k21 K21
  refine wp_seq_k (fun K23 k23=>?_)
  refine wp_seq_k (fun K24 k24=>?_)
  refine rg [0,1,2] ?_
  refine sv 14 u22 ?_
  refine sw 15 (.int .i64 ((N:Int))) rfl (rv_lenn (e:=71) hr22 (tb_lenz rfl) _ _ rfl rfl (by kernel_rfl)) ?_
  have hb25:(decide ((96:Int)<(N:Int)))=false:=(by simp only [decide_eq_false_iff_not];omega)
  refine sw 16 (.bool false) rfl (RunV.bool (x:=decide ((96:Int)<(N:Int))) (rvk (by kernel_rfl)) hb25) ?_
  refine sq_nil ?_
  refine k24 _ _ ?_
  try clear k24 K24
  refine wp_cond_false rfl ?_
  refine wp_skip ?_
  refine k23 _ _ ?_
  try clear k23 K23
  refine wp_seq_k (fun K26 k26=>?_)
  refine rg [0,1,2,3,4,5,6] ?_
  refine sv 17 u22 ?_
  refine sw 18 (.int .i64 ((N:Int))) rfl (rv_lenn (e:=71) hr22 (tb_lenz rfl) _ _ rfl rfl (by kernel_rfl)) ?_
  refine sv 19 v ?_
  refine sw 20 (adr v (0*1)) rfl (rv_idxn (e:=49) hs tb_len (by decide) 0 (by omega) _ _ _ rfl rfl rfl (by kernel_rfl) (by kernel_rfl)) ?_
  obtain ⟨_,_,⟨u27,rfl,hr27⟩,at27⟩:=Sl.get hs (by decide) (tb_get (f:=(fun z0=>tb (fun z1=>(m z0 z1)) N)) (n:=R) (i:=0) (by omega))
  refine sw 21 u27 rfl (rv_ld1 u27 (at27.gr hB) _ _ rfl rfl (by kernel_rfl)) ?_
  refine sw 22 (.int .i64 ((N:Int))) rfl (rv_lenn (e:=71) hr27 (tb_lenz rfl) _ _ rfl rfl (by kernel_rfl)) ?_
  refine sw 23 (.bool false) rfl (RunV.bool (x:=((N:Int) !=(N:Int))) (rvk (by kernel_rfl)) (by simp)) ?_
  refine sq_nil ?_
  refine k26 _ _ ?_
  try clear k26 K26
  refine wp_cond_false rfl ?_
  refine wp_skip ?_
  refine k20 _ _ ?_
  try clear k20 K20
  refine rg [0,1] ?_
  refine sw 24 (.int .i64 (((k:Int)+1))) rfl (RunV.int (x:=IntKind.i64.wrap (((k:Int)+1))) (y:=((k:Int)+1)) (rvk (by kernel_rfl)) (by first | rfl | (rw [IntKind.wrap_i64];omega))) ?_
  refine sv 10 (.int .i64 (((k:Int)+1))) ?_
  refine sq_nil ?_
  refine k16 (R - (k+1)) ⟨List.toArray ?l28,[]⟩ _ (by omega) ?_
  exact ⟨k+1,(fun i=>List.getD ?l28 i undef),rfl,rfl,(by omega),hB⟩
 ·have hek:R=k:=by have:=of_decide_eq_false hb19;omega
  subst hek
  refine wp_exit ?_
  simp only [Exit.then,Exit.inBlock,↓reduceIte]
  refine k14 _ _ ?_
  try clear k14 K14
  refine wp_seq_k (fun K29 k29=>?_)
  refine rg [0] ?_
  refine sv 2 (.int .i64 0) ?_
  refine sq_nil ?_
  refine k29 _ _ ?_
  try clear k29 K29
  refine wp_ret ?_
  refine bodyPost_ret (v:=(.int .i64 0)) (ret_tmp rfl rfl) rfl ⟨?_,hB⟩
  exact rfl

theorem one_row {D i:Nat}:(List.replicate D (0:Rat)).set i (((1:Int):Rat))=tb (fun z1=>(one_ i z1)) D:=by
  rw [rep_tb,set_tb]
  refine tb_congr fun j _=>?_
  unfold one_
  by_cases h:j=i
  · rw [if_pos h,if_pos h.symm];rfl
  · rw [if_neg h,if_neg (Ne.symm h)]
set_option maxRecDepth 100000 in
set_option maxHeartbeats 1000000 in
theorem mx_Identity {K:Nat} (hK:64≤K) (D:Nat) (_hn:D≤96) (w:World):
    Calls Tryz.prog 22 #[(.int .i64 ((D:Int)))] w fun e w'=>(∃ u,e=.returned (.tuple #[u,.int .i64 0])∧Sl (ERw (ERat K) 71 4) 49 1 w' u (tb (fun z0=>tb (fun z1=>(one_ z0 z1)) D) D))∧Gr w w':=by
 go_enter Tryz.func22,Tryz.ntmps22
 have hB:=Gr.refl w
 refine wp_seq_k (fun K10 k10=>?_)
 refine rg [0,1] ?_
 refine sv 2 (.slice none 0 0) ?_
 refine sv 3 (.int .i64 0) ?_
 refine sq_nil ?_
 refine k10 _ _ ?_
 try clear k10 K10
 refine wp_seq_k (fun K11 k11=>?_)
 refine wp_seq_k (fun K12 k12=>?_)
 refine rg [0,1,2,3,4,5] ?_
 refine sv 7 (.int .i64 ((D:Int))) ?_
 refine sw 8 (.bool false) rfl (RunV.bool (x:=decide ((D:Int)<(0:Int))) (rvk (by kernel_rfl)) (by simp only [decide_eq_false_iff_not];omega)) ?_
 refine sv 9 (.bool false) ?_
 refine sv 10 (.int .i64 ((D:Int))) ?_
 have hb13:(decide ((96:Int)<(D:Int)))=false:=(by simp only [decide_eq_false_iff_not];omega)
 refine sw 11 (.bool false) rfl (RunV.bool (x:=decide ((96:Int)<(D:Int))) (rvk (by kernel_rfl)) hb13) ?_
 refine sv 12 (.bool false) ?_
 refine sq_nil ?_
 refine k12 _ _ ?_
 try clear k12 K12
 refine wp_cond_false rfl ?_
 refine wp_skip ?_
 refine k11 _ _ ?_
 try clear k11 K11
 refine wp_seq_k (fun K14 k14=>?_)
 refine rg [0] ?_
 refine sv 4 (.slice none 0 0) ?_
 refine sq_nil ?_
 refine k14 _ _ ?_
 try clear k14 K14
 refine wp_seq_k (fun K15 k15=>?_)
 refine wp_seq_k (fun K16 k16=>?_)
 refine rg [0,1] ?_
 refine sv 13 (.int .i64 ((D:Int))) ?_
 refine sv 14 (.int .i64 0) ?_
 refine sq_nil ?_
 refine k16 _ _ ?_
 try clear k16 K16
 refine wp_block ?_
 refine wp_loop_inv (a:=⟨List.toArray ?l17,[]⟩) (fun n a w'=>∃ (i:Nat) (vo:Value) (u17:Nat→Value),D - i=n∧a=⟨[(.int .i64 ((D:Int))),undef,(.slice none 0 0),(.int .i64 0),vo,(u17 5),(u17 6),(u17 7),(u17 8),(u17 9),(u17 10),(u17 11),(.bool false),(.int .i64 ((D:Int))),(.int .i64 ((i:Int))),(u17 15),(u17 16),(u17 17),(u17 18),(u17 19),(u17 20),(u17 21),(u17 22),(u17 23),(u17 24),(u17 25),(u17 26),(u17 27),undef].toArray,[]⟩∧i≤D∧Ow (ERw (ERat K) 71 4) 49 1 w' w.heap.size vo (tb (fun z0=>tb (fun z1=>(one_ z0 z1)) D) i)∧Gr w w') (D - 0) ?_ ?_
 ·exact ⟨0,(.slice none 0 0),(fun i=>List.getD ?l17 i undef),rfl,rfl,(Nat.zero_le _),(Ow.nil _ _ _ _ _),hB⟩
 rintro n17 a17 w17 ⟨i,vo,u17,rfl,rfl,hki,ow,hB⟩ K17 k17
 have lehC:=Below.size hB
 have hC:=Gr.refl w17
 refine wp_seq_k (fun K18 k18=>?_)
 refine rg [0] ?_
 refine sv 15 (.bool (decide ((i:Int)<(D:Int)))) ?_
 refine sq_nil ?_
 refine k18 _ _ ?_
 try clear k18 K18
 refine wp_seq_k (fun K19 k19=>?_)
 refine wp_cond_split (t:=decide ((i:Int)<(D:Int))) rfl (fun hb20=>?_) (fun hb20=>?_)
 ·have hli:i<D:=by have:=of_decide_eq_true hb20;omega
  refine wp_skip ?_
  refine k19 _ _ ?_
  try clear k19 K19
  refine wp_seq_k (fun K21 k21=>?_)
  refine wp_block ?_
  refine wp_seq_k (fun K22 k22=>?_)
  refine rg [0,1] ?_
  refine sv 16 (.int .i64 ((i:Int))) ?_
  refine sv 5 (.int .i64 ((i:Int))) ?_
  refine sq_nil ?_
  refine k22 _ _ ?_
  try clear k22 K22
  refine wp_seq_k (fun K23 k23=>?_)
  refine rg [0,1,2] ?_
  refine sv 17 (.int .i64 ((D:Int))) ?_
  refine se ?_
  refine eff_mk (E:=(ERat K)) (0:Rat) 49 71 (.agg #[(.bool false),(.slice none 0 0),(.bool false),(.slice none 0 0)]) D 4 64 (some 18) rfl rfl rfl rfl (by kernel_rfl) (by kernel_rfl) (by decide) (by omega) (by decide) (fun w2=>erat_zero K hK w2) (fun b24 w24 g24 mk24 q24=>?_)
  have q24_hC:=Nat.le_trans (Below.size hC) q24
  replace q24:=Nat.le_trans (Below.size hB) q24
  replace hB:=hB.trans g24
  replace hC:=hC.trans g24
  simp only [putl,p3,p4]
  refine sv 6 (.slice (some ⟨b24,0,none⟩) D D) ?_
  refine sq_nil ?_
  refine k23 _ _ ?_
  try clear k23 K23
  refine wp_seq_k (fun K25 k25=>?_)
  refine rg [0,1,2,3,4] ?_
  refine sv 19 (.slice (some ⟨b24,0,none⟩) D D) ?_
  refine sv 20 (.int .i64 ((i:Int))) ?_
  refine se ?_
  refine ec 21 (from_r (1) (by omega) (by omega) _) ?_
  rintro e26 w26 ⟨⟨p26,q26,r26,s26,rfl,h26⟩,g26⟩
  refine ⟨_,rfl,?_⟩
  replace hB:=hB.trans g26
  replace hC:=hC.trans g26
  simp only [p3,p4]
  refine sw 22 (adr (.slice (some ⟨b24,0,none⟩) D D) (i*4)) rfl (rv_idxn (e:=71) (n:=D) (mk24.sl_n (n:=D) (cap:=D) (List.length_replicate) (Nat.le_refl _)) (List.length_replicate) (by decide) i (by omega) _ _ _ rfl rfl rfl (by kernel_rfl) (by kernel_rfl)) ?_
  refine se ?_
  replace mk24:=mk24.gr (stab_rat K) g26
  refine eff_stm (stab_rat K) mk24 i (by rw [List.length_replicate];omega) (((1:Int):Rat)) (.agg #[p26,q26,r26,s26]) [p26,q26,r26,s26] (D) (D) 71 _ _ rfl rfl rfl rfl rfl (by kernel_rfl) rfl ⟨h26.one0,h26.one1,h26.one2,h26.one3,trivial⟩ ⟨_,_,_,_,rfl,h26.mono (by omega)⟩ (by decide) (fun w27 st27 kt27 mk27=>?_)
  replace hB:=st27.gr hB q24
  replace hC:=st27.gr hC q24_hC
  refine sq_nil ?_
  refine k25 _ _ ?_
  try clear k25 K25
  refine rg [0,1,2,3,4] ?_
  refine sv 23 vo ?_
  refine sv 24 (.slice (some ⟨b24,0,none⟩) D D) ?_
  refine se ?_
  refine eff_bs 49 1 #[(.slice (some ⟨b24,0,none⟩) D D)] (some 25) rfl (fun _=>by kernel_rfl) (fun b28 w28 g28 L28 q28=>?_)
  have q28_hC:=Nat.le_trans (Below.size hC) q28
  replace hB:=hB.trans g28
  replace hC:=hC.trans g28
  simp only [putl,p3,p4]
  refine se ?_
  replace mk27:=mk27.gr (stab_rat K) g28
  refine eff_apg (stab_rw (stab_rat K) 71 4) _ _ 29 49 w.heap.size (.slice none 0 0) vo (tb (fun z0=>tb (fun z1=>(one_ z0 z1)) D) i) b28 [(.slice (some ⟨b24,0,none⟩) D D)] ((List.replicate D (0:Rat)).set i (((1:Int):Rat))) 1 1 (some 26) 24 rfl rfl rfl rfl (ow.gr (stab_rw (stab_rat K) 71 4) hC) L28 ⟨rfl,trivial⟩ rfl ⟨_,rfl,(mk27.sl_n (by rw [List.length_set];exact (List.length_replicate)) (Nat.le_refl _))⟩ (Below.size hB) (by rw [tb_len];omega) (by decide) (by kernel_rfl) (by kernel_rfl) (by decide) (by decide) (fun v29 w29 ow29 wt29 hg29=>?_)
  replace hB:=hg29 _ hB (Nat.le_refl _)
  replace ow29:=ow29.cast (tb_snoc (f:=(fun z0=>tb (fun z1=>(one_ z0 z1)) D)) (n:=i) one_row)
  simp only [putl,p3,p4]
  refine sv 4 v29 ?_
  refine sq_nil ?_
  refine k21 _ _ ?_
  try clear k21 K21
  refine rg [0,1] ?_
  refine sw 27 (.int .i64 (((i:Int)+1))) rfl (RunV.int (x:=IntKind.i64.wrap (((i:Int)+1))) (y:=((i:Int)+1)) (rvk (by kernel_rfl)) (by first | rfl | (rw [IntKind.wrap_i64];omega))) ?_
  refine sv 14 (.int .i64 (((i:Int)+1))) ?_
  refine sq_nil ?_
  refine k17 (D - (i+1)) ⟨List.toArray ?l30,[]⟩ _ (by omega) ?_
  exact ⟨i+1,v29,(fun i=>List.getD ?l30 i undef),rfl,rfl,(by omega),ow29,hB⟩
 ·have hei:D=i:=by have:=of_decide_eq_false hb20;omega
  subst hei
  refine wp_exit ?_
  simp only [Exit.then,Exit.inBlock,↓reduceIte]
  refine k15 _ _ ?_
  try clear k15 K15
  refine wp_seq_k (fun K31 k31=>?_)
  refine rg [0,1,2] ?_
  refine sv 28 vo ?_
  refine sv 2 vo ?_
  refine sv 3 (.int .i64 0) ?_
  refine sq_nil ?_
  refine k31 _ _ ?_
  try clear k31 K31
  refine wp_ret ?_
  refine bodyPost_ret (v:=(.tuple #[vo,(.int .i64 0)])) (ret_tmp2 rfl rfl rfl) rfl ⟨?_,hB⟩
  exact ⟨_,rfl,((ow.gr (stab_rw (stab_rat K) 71 4) hC).sl)⟩

end Go.Proofs.YtepgkcimmdmgcaaGreatDoor
namespace Go.Proofs.YtepgkcimmdmgcaaGreatDoor
theorem pv_full {R:Nat} {m0:Mx_} {s:Rd} (h:Inv R m0 R s) (hf:s.p.length=R):∀ t,t<R→pv s t=t:=by
  have lo:∀ t,t<R→t≤pv s t:=by
    intro t
    induction t with
    | zero=>exact fun _=>Nat.zero_le _
    | succ t ih=>
      intro ht
      have:=ih (by omega)
      have:=h.inc t (t+1) (by omega) (by omega)
      omega
  have hi:∀ n t,t+n+1=R→pv s t+n<R:=by
    intro n
    induction n with
    | zero=>exact fun t ht=>h.lt t (by omega)
    | succ n ih=>
      intro t ht
      have:=ih (t+1) (by omega)
      have:=h.inc t (t+1) (by omega) (by omega)
      omega
  intro t ht
  have a:=lo t ht
  have b:=hi (R - 1 - t) t (by omega)
  omega
/-- with all pivots the first columns are those of the identity -/
theorem full_one {R:Nat} {m0:Mx_} {s:Rd} (h:Inv R m0 R s) (hf:s.p.length=R):∀ i,i<R→∀ k,k<R→s.m i k=one_ i k:=fun i hi k hk=>by
  have e:=h.unit k (by omega) i hi
  rw [pv_full h hf k hk] at e
  exact e
theorem Dr_zrow {R:Nat} {m:Mx_} {i:Nat} (hi:i<R) (hz:∀ k,k<R→m i k=0):Dr R m=0:=by
  have e:Dr R m=Dr R (fun a b=>if b<R then m a b else 0):=Dr_ext R fun a _ b hb=>(if_pos hb).symm
  rw [e]
  refine (Dr_alt R).zero hi fun k=>?_
  split
  · next hk=>exact hz k hk
  · rfl
/-- the determinant by elimination -/
def dtE (R:Nat) (m:Mx_):Rat:=if (redR R R ⟨m,[],1⟩).p.length<R then 0 else (redR R R ⟨m,[],1⟩).d
theorem Dr_dtE (R:Nat) (m:Mx_):Dr R m=dtE R m:=by
  have h:=(Dr_alt R).red m 1 R
  have hI:=red_inv R m 1 R
  unfold dtE
  generalize redR R R ⟨m,[],1⟩=s at*
  split
  · next hl=>rw [Dr_zrow (m:=s.m) (i:=R - 1) (by omega) fun k hk=>hI.zero (R - 1) (by omega) (by omega) k hk] at h;grind
  · next hl=>
    have hf:s.p.length=R:=by have:=hI.len;omega
    rw [Dr_ext R (m:=s.m) (m':=one_) fun i hi k hk=>full_one hI hf i hi k hk,Dr_one] at h
    grind
/-- the columns of the identity behind those of a matrix -/
def wid (R:Nat) (m:Mx_):Mx_:=fun i k=>if k<R then m i k else if k=R+i then 1 else 0
end Go.Proofs.YtepgkcimmdmgcaaGreatDoor
namespace Go.Proofs.YtepgkcimmdmgcaaGreatDoor
theorem step_no {R K:Nat} {s:Rd} (h:∀ i,s.p.length≤i→i<R→s.m i K=0):stepR R K s=s:=by
  have hf:fnd s.m K (R - s.p.length) s.p.length=none:=by
    cases e:fnd s.m K (R - s.p.length) s.p.length with
    | none=>rfl
    | some i=>
      obtain ⟨e1,e2,e3,_⟩:=fnd_some e
      exact absurd (h i e1 (by omega)) e3
  unfold stepR
  rw [hf]
theorem red_more {R:Nat} {s:Rd} (K:Nat):∀ j,∃ l,(redR R (K+j) s).p=(redR R K s).p++l∧∀ x ∈ l,K≤x
  | 0=>⟨[],by simp,fun x h=>by cases h⟩
  | j+1=>by
    obtain ⟨l,h1,h2⟩:=red_more K j
    rcases stepR_p R (K+j) (redR R (K+j) s) with e | e
    · exact ⟨l,e.trans h1,h2⟩
    · refine ⟨l++[K+j],?_,fun x hx=>?_⟩
      · show (stepR R (K+j) (redR R (K+j) s)).p=_
        rw [e,h1,List.append_assoc]
      · rcases List.mem_append.1 hx with hx | hx
        · exact h2 x hx
        · rw [List.mem_singleton.1 hx];omega
theorem red_full {R:Nat} {s:Rd} {K:Nat} (h:(redR R K s).p.length=R):∀ j,redR R (K+j) s=redR R K s
  | 0=>rfl
  | j+1=>by
    show stepR R (K+j) (redR R (K+j) s)=_
    rw [red_full h j]
    exact step_no fun i h1 h2=>absurd h1 (by omega)
/-- all of the first pivots stand on the diagonal exactly where the matrix has full rank -/
theorem full_iff {R M:Nat} {w:Mx_} (d:Rat) (hM:R≤M):(∀ i,i<R→(redR R M ⟨w,[],d⟩).p[i]?=some i)↔(redR R R ⟨w,[],d⟩).p.length=R:=by
  obtain ⟨j,rfl⟩:∃ j,M=R+j:=⟨M - R,by omega⟩
  have hI:=red_inv R w d R
  constructor
  · intro h
    obtain ⟨l,h1,h2⟩:=red_more (R:=R) (s:=⟨w,[],d⟩) R j
    apply Classical.byContradiction
    intro hne
    have hl:(redR R R ⟨w,[],d⟩).p.length<R:=by have:=hI.len;omega
    have:=h _ hl
    rw [h1,List.getElem?_append_right (Nat.le_refl _)] at this
    have hm:=h2 _ (List.mem_of_getElem? this)
    omega
  · intro h i hi
    rw [red_full h j]
    have:=pv_full hI h i hi
    unfold pv at this
    rw [List.getD_eq_getElem?_getD,List.getElem?_eq_getElem (by omega),Option.getD_some] at this
    rw [List.getElem?_eq_getElem (by omega),this]
end Go.Proofs.YtepgkcimmdmgcaaGreatDoor
namespace Go.Proofs.YtepgkcimmdmgcaaGreatDoor

/-- What is left of n behind its lowest i digits. -/
def tn (n:Int):Nat→Int
  | 0=>n
  | i+1=>tn n i/10
/-- Digit number i of n. -/
def td (n:Int) (i:Nat):Int:=tn n i % 10
theorem tn_zero (n:Int):tn n 0=n:=rfl
theorem tn_succ (n:Int) (i:Nat):tn n (i+1)=tn n i/10:=rfl
theorem td_nonneg (n:Int) (i:Nat):0≤td n i:=by unfold td;omega
theorem td_lt (n:Int) (i:Nat):td n i<10:=by unfold td;omega
theorem tn_split (n:Int) (i:Nat):tn n i=10*tn n (i+1)+td n i:=by unfold td;rw [tn_succ];omega
theorem tn_nonneg {n:Int} (h:0≤n):∀ i,0≤tn n i
  | 0=>h
  | i+1=>by have:=tn_nonneg h i;rw [tn_succ];omega
theorem tn_mono {a b:Int} (h:a≤b):∀ i,tn a i≤tn b i
  | 0=>h
  | i+1=>by have:=tn_mono h i;rw [tn_succ,tn_succ];omega
theorem tn_add (n:Int) (i:Nat):∀ k,tn n (i+k)=tn (tn n i) k
  | 0=>rfl
  | k+1=>by rw [← Nat.add_assoc,tn_succ,tn_add n i k,tn_succ]
theorem tn_zero_n:∀ i,tn 0 i=0
  | 0=>rfl
  | i+1=>by rw [tn_succ,tn_zero_n i];rfl
theorem tn_ge {n:Int} {i k:Nat} (h:tn n i=0) (hk:i≤k):tn n k=0:=by
  obtain ⟨j,rfl⟩:=Nat.le.dest hk
  rw [tn_add,h,tn_zero_n]
theorem td_zero_of {n:Int} {i k:Nat} (h:tn n i=0) (hk:i≤k):td n k=0:=by unfold td;rw [tn_ge h hk];rfl
/-- n has len digits,and no zeros at the end. -/
structure NX (n:Int) (len:Nat):Prop where
  nonneg:0≤n
  top:tn n len=0
  full:0<len→tn n (len - 1)≠0
theorem NX.zero:NX 0 0:=⟨Int.le_refl _,rfl,by omega⟩
theorem NX.len_zero {n:Int} {len:Nat} (h:NX n len):len=0↔n=0:=by
  constructor
  · rintro rfl;exact h.top
  · rintro rfl
    have:=h.full
    rw [tn_zero_n] at this
    omega
theorem NX.topdig {n:Int} {len:Nat} (h:NX n len) (hl:0<len):td n (len - 1)=tn n (len - 1)∧0<td n (len - 1):=by
  have h1:=h.top
  have h2:=tn_split n (len - 1)
  rw [show len - 1+1=len by omega,h1] at h2
  have h3:=h.full hl
  have h4:=tn_nonneg h.nonneg (len - 1)
  omega
/-- From digits whose highest one is not 0. -/
theorem NX.mk' {n:Int} {len:Nat} (h0:0≤n) (h1:tn n len=0) (h2:0<len→td n (len - 1)≠0):NX n len:=by
  refine ⟨h0,h1,fun hl h3=>h2 hl ?_⟩
  unfold td;rw [h3];rfl
/-- Fewer digits,if those behind are 0. -/
theorem tn_trim {n:Int} {len:Nat} (h1:tn n len=0) (k:Nat) (hk:k≤len) (hz:∀ j,k≤j→j<len→td n j=0):tn n k=0:=by
  obtain ⟨j,rfl⟩:=Nat.le.dest hk
  clear hk
  induction j with
  | zero=>exact h1
  | succ j ih=>
    refine ih ?_ (fun i h2 h3=>hz i h2 (by omega))
    have h2:=tn_split n (k+j)
    have h3:=hz (k+j) (by omega) (by omega)
    have h4:tn n (k+j+1)=0:=h1
    omega
/-- The number of digits orders. -/
theorem NX.lt_of_len {a b:Int} {la lb:Nat} (ha:NX a la) (hb:NX b lb) (h:la<lb):a<b:=by
  refine Int.lt_of_not_ge fun hge=>?_
  have h1:=tn_mono hge (lb - 1)
  have h2:=tn_ge ha.top (show la≤lb - 1 by omega)
  have h3:=hb.full (by omega)
  have h4:=tn_nonneg hb.nonneg (lb - 1)
  omega
theorem NX.len_unique {a:Int} {la lb:Nat} (ha:NX a la) (hb:NX a lb):la=lb:=by
  rcases Nat.lt_trichotomy la lb with h | h | h
  · have:=ha.lt_of_len hb h;omega
  · exact h
  · have:=hb.lt_of_len ha h;omega
theorem NX.len_le {a b:Int} {la lb:Nat} (ha:NX a la) (hb:NX b lb) (h:a≤b):la≤lb:=by
  rcases Nat.lt_or_ge lb la with h1 | h1
  · have:=hb.lt_of_len ha h1;omega
  · exact h1
theorem plus_stepx {a b c:Int} {i:Nat} (h:tn (a+b) i=tn a i+tn b i+c) (h0:0≤c) (h1:c≤1):
    td (a+b) i=(c+td a i+td b i) % 10∧tn (a+b) (i+1)=tn a (i+1)+tn b (i+1)+(c+td a i+td b i)/10∧
      0≤(c+td a i+td b i)/10∧(c+td a i+td b i)/10≤1:=by
  unfold td;simp only [tn_succ];omega
/-- a digit behind the end of b counts as 0 -/
theorem plus_step0x {a b c:Int} {i:Nat} (h:tn (a+b) i=tn a i+tn b i+c) (h0:0≤c) (h1:c≤1) (hb:tn b i=0):
    td (a+b) i=(c+td a i) % 10∧tn (a+b) (i+1)=tn a (i+1)+tn b (i+1)+(c+td a i)/10∧
      0≤(c+td a i)/10∧(c+td a i)/10≤1:=by
  unfold td;simp only [tn_succ];omega
theorem minus_stepx {a b c:Int} {i:Nat} (h:tn (a - b) i=tn a i - tn b i - c) (h0:0≤c) (h1:c≤1):
    td (a - b) i=(td a i - c - td b i) % 10∧tn (a - b) (i+1)=tn a (i+1) - tn b (i+1) - (if td a i - c - td b i<0 then 1 else 0):=by
  unfold td;simp only [tn_succ];split<;>omega
theorem minus_step0x {a b c:Int} {i:Nat} (h:tn (a - b) i=tn a i - tn b i - c) (h0:0≤c) (h1:c≤1) (hb:tn b i=0):
    td (a - b) i=(td a i - c) % 10∧tn (a - b) (i+1)=tn a (i+1) - tn b (i+1) - (if td a i - c<0 then 1 else 0):=by
  unfold td;simp only [tn_succ];split<;>omega
theorem tn_div (n x:Int) (hx:0<x):∀ i,tn (n/x) i=tn n i/x
  | 0=>rfl
  | i+1=>by
    rw [tn_succ,tn_succ,tn_div n x hx i,Int.ediv_ediv_of_nonneg (by omega),Int.ediv_ediv_of_nonneg (by omega),Int.mul_comm]
theorem short_stepx (n x:Int) (i:Nat) (hx:0<x):
    td (n/x) i=(tn n (i+1) % x*10+td n i)/x∧tn n i % x=(tn n (i+1) % x*10+td n i) % x∧
      (tn n (i+1) % x*10+td n i)/x<10∧0≤(tn n (i+1) % x*10+td n i)/x:=by
  have hs:=tn_split n i
  have hd0:=td_nonneg n i
  have hd:=td_lt n i
  have h1:=Int.emod_add_mul_ediv (tn n (i+1)) x
  have h2:=Int.emod_nonneg (tn n (i+1)) (show x≠0 by omega)
  have h3:=Int.emod_lt_of_pos (tn n (i+1)) hx
  have e:tn n i=(tn n (i+1) % x*10+td n i)+x*(10*(tn n (i+1)/x)):=by rw [hs];grind
  have e1:tn (n/x) i=(tn n (i+1) % x*10+td n i)/x+10*(tn n (i+1)/x):=by
    rw [tn_div n x hx,e,Int.add_mul_ediv_left _ _ (show x≠0 by omega)]
  have h4:(tn n (i+1) % x*10+td n i)/x<10:=by
    apply Int.ediv_lt_of_lt_mul hx
    omega
  have h5:0≤(tn n (i+1) % x*10+td n i)/x:=Int.ediv_nonneg (by omega) (by omega)
  refine ⟨?_,?_,h4,h5⟩
  · have hdd:td (n/x) i=tn (n/x) i % 10:=rfl
    rw [hdd,e1]
    omega
  · rw [e,Int.add_mul_emod_self_left]
theorem tn_addmul (r m:Int):∀ i,tn (r+m*10 ^ i) i=tn r i+m
  | 0=>by simp [tn_zero]
  | i+1=>by
    have e:r+m*10 ^ (i+1)=r+(m*10)*10 ^ i:=by rw [Int.pow_succ];grind
    rw [e,tn_succ,tn_addmul r (m*10) i,tn_succ]
    omega
theorem td_addmul (r m:Int) {i j:Nat} (hj:j<i):td (r+m*10 ^ i) j=td r j:=by
  obtain ⟨k,rfl⟩:=Nat.le.dest hj
  have e:r+m*10 ^ (j+1+k)=r+(m*10 ^ k*10)*10 ^ j:=by
    rw [Int.pow_add,Int.pow_add];grind
  unfold td
  rw [e,tn_addmul]
  omega
/-- what the lowest i digits of a make,times b -/
def tlow (a:Int) (i:Nat):Int:=a - tn a i*10 ^ i
theorem tlow_zero (a:Int):tlow a 0=0:=by simp [tlow,tn_zero]
theorem tlow_succ (a:Int) (i:Nat):tlow a (i+1)=tlow a i+td a i*10 ^ i:=by
  have:=tn_split a i
  unfold tlow
  rw [Int.pow_succ]
  grind
theorem tlow_top {a:Int} {len:Nat} (h:tn a len=0):tlow a len=a:=by simp [tlow,h]
/-- The inner round of the product:r is the product till now,x the digit,b the other number. -/
theorem mul_stepx {r x b c:Int} {i k:Nat} (h:tn (r+x*b*10 ^ i) (i+k)=tn r (i+k)+x*tn b k+c) (h0:0≤c) (h1:c<10)
    (hx0:0≤x) (hx:x<10):
    td (r+x*b*10 ^ i) (i+k)=(c+(x*td b k+td r (i+k))) % 10∧
      tn (r+x*b*10 ^ i) (i+(k+1))=tn r (i+(k+1))+x*tn b (k+1)+(c+(x*td b k+td r (i+k)))/10∧
      0≤(c+(x*td b k+td r (i+k)))/10∧(c+(x*td b k+td r (i+k)))/10<10∧0≤x*td b k∧x*td b k≤81:=by
  have hs:=tn_split b k
  have hd0:=td_nonneg b k
  have hd:=td_lt b k
  have hr:=tn_split r (i+k)
  have hr0:=td_nonneg r (i+k)
  have hr1:=td_lt r (i+k)
  have e:x*tn b k=10*(x*tn b (k+1))+x*td b k:=by rw [hs];grind
  have hp0:0≤x*td b k:=Int.mul_nonneg hx0 hd0
  have hp:x*td b k≤9*9:=Int.mul_le_mul (by omega) (by omega) hd0 (by omega)
  have hdd:td (r+x*b*10 ^ i) (i+k)=tn (r+x*b*10 ^ i) (i+k) % 10:=rfl
  rw [hdd,← Nat.add_assoc,tn_succ,h,e]
  generalize x*td b k=u at*
  generalize x*tn b (k+1)=v at*
  omega
end Go.Proofs.YtepgkcimmdmgcaaGreatDoor
namespace Go.Proofs.YtepgkcimmdmgcaaGreatDoor
open Go.RowKit

/-- the cells of a slice of ints -/
structure DRow (w:World) (ao:Option Addr) (len:Nat) (d:Nat→Int):Prop where
  raw:0<len→∃ (b off:Nat) (cs:Array Value) (fr:Nat × Nat),ao=some ⟨b,off,none⟩∧w.heap[b]?=some (.cells cs 3 fr)∧∀ i,i<len→cs[off+i]?=some (.int .i64 (d i))
theorem DRow.at_ {w:World} {ao:Option Addr} {len:Nat} {d:Nat→Int} (h:DRow w ao len d) (hp:0<len):
    ∃ b off,ao=some ⟨b,off,none⟩∧∀ i,i<len→w.cell? ⟨b,off+i,none⟩=some (.int .i64 (d i)):=by
  obtain ⟨b,off,cs,fr,e,hb,hc⟩:=h.raw hp
  exact ⟨b,off,e,fun i hi=>by simp only [World.cell?,hb,Option.isSome_none];exact hc i hi⟩
theorem DRow.nil (w:World) (ao:Option Addr) (d:Nat→Int):DRow w ao 0 d:=⟨fun h=>by omega⟩
theorem DRow.shorter {w:World} {ao:Option Addr} {len k:Nat} {d:Nat→Int} (h:DRow w ao len d) (hk:k≤len):DRow w ao k d:=
  ⟨fun hp=>by
    obtain ⟨b,off,cs,fr,e,hb,hc⟩:=h.raw (by omega)
    exact ⟨b,off,cs,fr,e,hb,fun i hi=>hc i (by omega)⟩⟩
theorem DRow.congr {w:World} {ao:Option Addr} {len:Nat} {d d':Nat→Int} (h:DRow w ao len d) (e:∀ i,i<len→d i=d' i):DRow w ao len d':=
  ⟨fun hp=>by
    obtain ⟨b,off,cs,fr,e',hb,hc⟩:=h.raw hp
    exact ⟨b,off,cs,fr,e',hb,fun i hi=>by rw [hc i hi,e i hi]⟩⟩
theorem DRow.gr {w w':World} {ao:Option Addr} {len:Nat} {d:Nat→Int} (h:DRow w ao len d) (hk:Gr w w'):DRow w' ao len d:=
  ⟨fun hp=>by
    obtain ⟨b,off,cs,fr,e,hb,hc⟩:=h.raw hp
    exact ⟨b,off,cs,fr,e,hk.heap hb,hc⟩⟩
theorem DRow.below {w w':World} {ao:Option Addr} {len:Nat} {d:Nat→Int} (h:DRow w ao len d) (hb:Below w.heap.size w w'):DRow w' ao len d:=h.gr hb

/-- a slice of the decimal digits of n,none of them 0 at the end -/
def TenS (w:World) (v:Value) (n:Int):Prop:=∃ ao len cap,v=.slice ao len cap∧len≤cap∧NX n len∧DRow w ao len (td n)
/-- a slice of decimal digits of n,with zeros perhaps -/
def TenZ (w:World) (v:Value) (n:Int):Prop:=∃ ao len cap,v=.slice ao len cap∧len≤cap∧len≤900001∧tn n len=0∧DRow w ao len (td n)
theorem TenS.gr {w w':World} {v:Value} {n:Int} (h:TenS w v n) (g:Gr w w'):TenS w' v n:=by
  obtain ⟨ao,len,cap,h1,h2,h3,h4⟩:=h
  exact ⟨ao,len,cap,h1,h2,h3,h4.gr g⟩
theorem TenZ.gr {w w':World} {v:Value} {n:Int} (h:TenZ w v n) (g:Gr w w'):TenZ w' v n:=by
  obtain ⟨ao,len,cap,h1,h2,h3,h4,h5⟩:=h
  exact ⟨ao,len,cap,h1,h2,h3,h4,h5.gr g⟩
/-- n integers,as values -/
def dvals (k:IntKind) (n:Nat) (d:Nat→Int):List Value:=(List.range n).map fun i=>.int k (d i)
theorem dvals_length (k:IntKind) (n:Nat) (d:Nat→Int):(dvals k n d).length=n:=by simp [dvals]
theorem dvals_succ (k:IntKind) (n:Nat) (d:Nat→Int):dvals k (n+1) d=dvals k n d++[.int k (d n)]:=by simp [dvals,List.range_succ]
theorem dvals_get (k:IntKind) (d:Nat→Int) {n i:Nat} (h:i<n):(dvals k n d)[i]?=some (.int k (d i)):=by simp [dvals,h]

/-- append of one value,in a plain region of a walk by the kit's tactics -/
theorem wpList_app1 {P:Program} {ops:Array Oper} {rest:List Oper} {o:Oper} {a:Act} {w:World} {Q:Exit→Act→World→Prop} (hgd:o.guard=none) (s x:Operand) (t:TypeId)
    (ho:o.op=.call {callee:=.builtin .append,args:=#[s,x],argTypes:=#[t,t]}) (T B:Nat) (z v:Value) (ys:List Value) (hs:a.eval s=v) (hown:OwnS w T B v ys)
    (b c:Nat) (u:Value) (hx:a.eval x=.slice (some ⟨b,0,none⟩) 1 c) (hb:w.heap[b]?=some (.cells #[u] T)) (hu:u.oneCell'=true) (w0:World) (hB:Below B w0 w) (hn:ys.length≤1000000) (bytes:Nat) (hbytes:bytes≤1000)
    (ht:P.underlying t=some (.slice T)) (hi:(P.info? T).map (fun i=>(i.zero,i.size,i.bytes))=some (some z,1,bytes)) (hzs:z.cells.size=1) (hBw:B≤w.heap.size)
    (h:∀ v' w',OwnS w' T B v' (ys++[u])→Below B w0 w'→(∀ k,k<w.heap.size→v.ownBlock≠some k→w'.heap[k]?=w.heap[k]?)→w.heap.size≤w'.heap.size→wpList P ops Q rest (a.put o.dst v') w'):wpList P ops Q (o::rest) a w:=by
  obtain ⟨i,hi,hz,hsize,hby⟩:=info_parts hi
  have hb1:(ys.length+1)*bytes≤1000001*1000:=Nat.mul_le_mul (by omega) hbytes
  refine wpList_append_own w hgd s x t ho B T i z 1 bytes ht hi hz hsize hby hzs (by omega) v ys.length ys hs hown ⟨b,0,none⟩ 1 c [u] hx rfl (fun j y hj=>?_) (fun y hy=>?_) (by unfold maxLen;omega) (by omega) hBw ?_
  · have hj0:j=0:=by
      have:=(List.getElem?_eq_some_iff.1 hj).1
      simp at this;omega
    subst hj0
    simp only [List.getElem?_cons_zero,Option.some.injEq] at hj
    subst hj
    exact cells_of hb 0
  · simp only [List.mem_singleton] at hy
    subst hy;exact hu
  · intro v' w' h2 hg _
    have hnew:∀ k,v.ownBlock=some k→B≤k:=by
      intro k hk
      rcases hown.2 with ⟨rfl,_⟩ | ⟨g,cap,cur,rfl,hb,hgg,_⟩
      · simp [Value.ownBlock] at hk
      · simp [Value.ownBlock] at hk
        subst hk;exact hb
    refine h v' w' ?_ ?_ (fun k hk hne=>hg.block k hk (fun e=>hne e.symm)) hg.size
    · unfold OwnS;simpa using h2
    · refine Below.trans hB ⟨hg.os,hg.tape,hg.output,hg.size,fun k hk=>hg.block k (by omega) (fun e=>?_)⟩
      have:=hnew k e.symm
      omega

theorem OwnS.cells {w:World} {T B:Nat} {v:Value} {ys:List Value} (h:OwnS w T B v ys) (hp:0<ys.length):
    ∃ g cap cur,v=.slice (some ⟨g,0,none⟩) ys.length cap∧B≤g∧w.heap[g]?=some (.cells cur T (0,0))∧ys.length≤cap∧cap≤maxLen∧∀ i,i<ys.length→cur[i]?=ys[i]?:=by
  obtain ⟨g,cap,cur,e,hb,hg,h1,h2,h3,h4⟩:=h.block hp
  refine ⟨g,cap,cur,e,hb,hg,h1,h2,fun i hi=>?_⟩
  rw [← h4,List.getElem?_take_of_lt hi];simp
theorem OwnS.drow {w:World} {B:Nat} {v:Value} {n:Nat} {d:Nat→Int} (h:OwnS w 3 B v (dvals .i64 n d)):∃ ao cap,v=.slice ao n cap∧n≤cap∧cap≤maxLen∧DRow w ao n d:=by
  rcases Nat.eq_zero_or_pos n with e | hp
  · subst e
    rcases h.2 with ⟨rfl,_⟩ | ⟨g,cap,cur,rfl,hb,hg,h1,h2,h3⟩
    · exact ⟨none,0,rfl,by omega,by unfold maxLen;omega,DRow.nil _ _ _⟩
    · exact ⟨_,cap,rfl,by omega,h2,DRow.nil _ _ _⟩
  · obtain ⟨g,cap,cur,e,hb,hg,h1,h2,hc⟩:=h.cells (by rw [dvals_length];exact hp)
    rw [dvals_length] at e h1 hc
    refine ⟨_,cap,e,h1,h2,⟨fun _=>⟨g,0,cur,(0,0),rfl,hg,fun i hi=>?_⟩⟩⟩
    rw [Nat.zero_add,hc i hi,dvals_get _ _ hi]
/-- the same,in a block of its own at least as new as B -/
def TenF (w:World) (B:Nat) (v:Value) (n:Int):Prop:=∃ ao len cap,v=.slice ao len cap∧len≤cap∧NX n len∧DRow w ao len (td n)∧∀ ad,ao=some ad→B≤ad.block
theorem TenF.s {w:World} {B:Nat} {v:Value} {n:Int} (h:TenF w B v n):TenS w v n:=by
  obtain ⟨ao,len,cap,h1,h2,h3,h4,_⟩:=h
  exact ⟨ao,len,cap,h1,h2,h3,h4⟩
theorem TenF.gr {w w':World} {B:Nat} {v:Value} {n:Int} (h:TenF w B v n) (g:Gr w w'):TenF w' B v n:=by
  obtain ⟨ao,len,cap,h1,h2,h3,h4,h5⟩:=h
  exact ⟨ao,len,cap,h1,h2,h3,h4.gr g,h5⟩
theorem TenF.mono {w:World} {B C:Nat} {v:Value} {n:Int} (h:TenF w B v n) (hC:C≤B):TenF w C v n:=by
  obtain ⟨ao,len,cap,h1,h2,h3,h4,h5⟩:=h
  exact ⟨ao,len,cap,h1,h2,h3,h4,fun ad e=>Nat.le_trans hC (h5 ad e)⟩
theorem TenF.set {w:World} {B g:Nat} {v:Value} {n:Int} (h:TenF w B v n) (hg:g<B) (i:Nat) (u:Value):TenF (w.setCell ⟨g,i,none⟩ u) B v n:=by
  obtain ⟨ao,len,cap,h1,h2,h3,h4,h5⟩:=h
  refine ⟨ao,len,cap,h1,h2,h3,⟨fun hp=>?_⟩,h5⟩
  obtain ⟨b,off,cs,fr,e,hb,hc⟩:=h4.raw hp
  have:=h5 _ e
  exact ⟨b,off,cs,fr,e,(Below.heap_setCell _ _ _ _ (by show b≠g;simp at this;omega)).trans hb,hc⟩
theorem OwnS.drowF {w:World} {B:Nat} {v:Value} {n:Nat} {d:Nat→Int} (h:OwnS w 3 B v (dvals .i64 n d)):∃ ao cap,v=.slice ao n cap∧n≤cap∧cap≤maxLen∧DRow w ao n d∧∀ ad,ao=some ad→B≤ad.block:=by
  obtain ⟨ao,cap,e,h1,h2,h3⟩:=h.drow
  refine ⟨ao,cap,e,h1,h2,h3,fun ad ea=>?_⟩
  subst e ea
  rcases h.2 with ⟨h0,_⟩ | ⟨g,c1,c2,h0,hb,_⟩
  · cases h0
  · simp only [Value.slice.injEq,Option.some.injEq] at h0
    rw [h0.1];exact hb
theorem int_info:(Tryz.prog.info? 3).map (fun i=>(i.zero,i.size,i.bytes))=some (some (.int .i64 0),1,8):=by kernel_rfl
/-- block b is a row of n digits that may be written -/
structure DOwn (w:World) (b n:Nat) (d:Nat→Int):Prop where
  raw:∃ cs,w.heap[b]?=some (.cells cs 3)∧∀ i,i<n→cs[i]?=some (.int .i64 (d i))
theorem DOwn.lt {w:World} {b n:Nat} {d:Nat→Int} (h:DOwn w b n d):b<w.heap.size:=by
  obtain ⟨cs,hb,hc⟩:=h.raw;exact heap_lt hb
theorem DOwn.cell {w:World} {b n:Nat} {d:Nat→Int} (h:DOwn w b n d):∀ i,i<n→w.cell? ⟨b,i,none⟩=some (.int .i64 (d i)):=by
  obtain ⟨cs,hb,hc⟩:=h.raw
  exact fun i hi=>by simp only [World.cell?,hb,Option.isSome_none];exact hc i hi
theorem DOwn.free {w:World} {b n:Nat} {d:Nat→Int} (h:DOwn w b n d):∀ i,w.frozen? ⟨b,i,none⟩=false:=by
  obtain ⟨cs,hb,hc⟩:=h.raw
  exact fun i=>by simp [World.frozen?,hb]
theorem DOwn.set {w:World} {b n:Nat} {d:Nat→Int} (h:DOwn w b n d) {i:Nat} (_hi:i<n) (v:Int):DOwn (w.setCell ⟨b,i,none⟩ (.int .i64 v)) b n (upd d i v):=by
  obtain ⟨cs,hb,hc⟩:=h.raw
  refine ⟨_,heap_setCell_at _ hb,fun j hj=>?_⟩
  by_cases e:i=j
  · subst e
    have:=(Array.getElem?_eq_some_iff.1 (hc i hj)).1
    rw [upd_same];simp [this]
  · rw [upd_other d v (Ne.symm e),Array.getElem?_setIfInBounds_ne e];exact hc j hj
theorem DOwn.gr {w w':World} {b n:Nat} {d:Nat→Int} (h:DOwn w b n d) (hb:Gr w w'):DOwn w' b n d:=by
  obtain ⟨cs,hb',hc⟩:=h.raw
  exact ⟨cs,hb.heap hb',hc⟩
theorem DOwn.below {w w':World} {b n:Nat} {d:Nat→Int} (h:DOwn w b n d) (hb:Below w.heap.size w w'):DOwn w' b n d:=h.gr hb
theorem DOwn.congr {w:World} {b n:Nat} {d d':Nat→Int} (h:DOwn w b n d) (e:∀ i,i<n→d i=d' i):DOwn w b n d':=by
  obtain ⟨cs,hb',hc⟩:=h.raw
  exact ⟨cs,hb',fun i hi=>by rw [hc i hi,e i hi]⟩
theorem DOwn.row {w:World} {b n:Nat} {d:Nat→Int} (h:DOwn w b n d):DRow w (some ⟨b,0,none⟩) n d:=by
  obtain ⟨cs,hb',hc⟩:=h.raw
  exact ⟨fun _=>⟨b,0,cs,(0,0),rfl,hb',fun i hi=>by rw [Nat.zero_add];exact hc i hi⟩⟩
theorem DOwn.shorter {w:World} {b n k:Nat} {d:Nat→Int} (h:DOwn w b n d) (hk:k≤n):DOwn w b k d:=by
  obtain ⟨cs,hb',hc⟩:=h.raw
  exact ⟨cs,hb',fun i hi=>hc i (by omega)⟩
/-- 'make([]uint32,n)' -/
theorem wpList_makeI (w:World) {ops:Array Oper} {rest:List Oper} {o:Oper} {a:Act} {Q:Exit→Act→World→Prop}
    (hg:o.guard=none) (l c:Operand) (hop:o.op=Op.makeSlice 30 l c) (L C:Int) (n:Nat) (hl:a.eval l=.int .i64 L) (hc:a.eval c=.int .i64 C) (hL:L=(n:Int)) (hC:C=(n:Int)) (hn:n≤8000000)
    (hK:∀ w',DOwn w' w.heap.size n (fun _=>0)→Below w.heap.size w w'→w'.heap.size=w.heap.size+1→wpList Tryz.prog ops Q rest (a.put o.dst (.slice (some ⟨w.heap.size,0,none⟩) n n)) w'):
    wpList Tryz.prog ops Q (o::rest) a w:=by
  refine wpList_plain hg fun K hK'=>?_
  obtain ⟨i,hi,hz,hs,hb⟩:=info_parts int_info
  have hrun:=run_make (P:=Tryz.prog) w 30 3 i _ Tryz.underlying30 hi hz .i64 .i64 (n:Int) (n:Int) (by omega) (Int.le_refl _) (by rw [hb];omega) (by omega)
  simp only [Int.toNat_natCast] at hrun
  rw [hs,Nat.mul_one] at hrun
  subst hL hC
  unfold Oper.wp
  simp [execOp,hop,hl,hc,hrun,Result.andThen]
  refine hK' _ _ (hK _ ⟨_,heap_alloc_new w _,fun j hj=>?_⟩ ((Below.refl _ _).alloc (Nat.le_refl _) _) (by simp))
  simp [madeCells,Value.cells,hj,Nat.mod_one]
end Go.Proofs.YtepgkcimmdmgcaaGreatDoor
namespace Go.Proofs.YtepgkcimmdmgcaaGreatDoor
open Go

theorem tn_tenth (n:Int) (i:Nat):tn (n/10) i=tn n (i+1):=by
  rw [Nat.add_comm i 1,tn_add];rfl
theorem td_tenth (n:Int) (i:Nat):td (n/10) i=td n (i+1):=by unfold td;rw [tn_tenth]
theorem NX.small {n:Int} (h0:0<n) (h1:n<10):NX n 1:=⟨by omega,by rw [tn_succ,tn_zero];omega,fun _=>by show tn n 0≠0;rw [tn_zero];omega⟩
theorem NX.div {n:Int} {len:Nat} (h:NX n (len+1)):NX (n/10) len:=by
  refine ⟨by have:=h.nonneg;omega,by rw [tn_tenth];exact h.top,fun hl=>?_⟩
  rw [tn_tenth]
  have:=h.full (by omega)
  rwa [show len+1 - 1=len - 1+1 by omega] at this
theorem NX.exists (n:Nat):∃ len,NX (n:Int) len:=by
  induction n using Nat.strongRecOn with
  | _ n ih=>
    rcases Nat.eq_zero_or_pos n with e | hp
    · exact ⟨0,by subst e;exact NX.zero⟩
    · obtain ⟨k,hk⟩:=ih (n/10) (by omega)
      refine ⟨k+1,by omega,by rw [← tn_tenth];exact_mod_cast hk.top,fun _=>?_⟩
      rw [Nat.add_sub_cancel]
      rcases Nat.eq_zero_or_pos k with e | hk0
      · subst e;rw [tn_zero];omega
      · have:=hk.full hk0
        rw [Int.natCast_ediv,show ((10:Nat):Int)=10 from rfl,tn_tenth] at this
        rwa [show k - 1+1=k by omega] at this
/-- the digits of a text -/
theorem dec_td:∀ (len n:Nat),NX (n:Int) len→0<n→(Lib.decDigits n).length=len∧∀ i,i<len→(Lib.decDigits n)[len - 1 - i]?=some (UInt8.ofNat (48+(td (n:Int) i).toNat))
  | 0,n,h,hp=>by have:=h.len_zero.1 rfl;omega
  | len+1,n,h,hp=>by
    by_cases h1:n<10
    · have e:len+1=1:=h.len_unique (NX.small (by omega) (by omega))
      have e0:len=0:=by omega
      subst e0
      rw [dec_small h1]
      refine ⟨rfl,fun i hi=>?_⟩
      have e2:i=0:=by omega
      subst e2
      have:(td (n:Int) 0).toNat=n:=by unfold td;rw [tn_zero];omega
      rw [this];rfl
    · have hd:NX ((n/10:Nat):Int) len:=by
        have:=h.div
        rwa [show ((n:Int)/10)=((n/10:Nat):Int) by omega] at this
      obtain ⟨l1,l2⟩:=dec_td len (n/10) hd (by omega)
      rw [dec_step (by omega)]
      refine ⟨by simp [l1],fun i hi=>?_⟩
      cases i with
      | zero=>
        rw [Nat.sub_zero,Nat.add_sub_cancel,← l1,List.getElem?_append_right (Nat.le_refl _),Nat.sub_self]
        have:(td (n:Int) 0).toNat=n % 10:=by unfold td;rw [tn_zero];omega
        rw [this];rfl
      | succ i=>
        have hi':i<len:=by omega
        have e:len+1 - 1 - (i+1)=len - 1 - i:=by omega
        rw [e,List.getElem?_append_left (by omega),l2 i hi',← td_tenth]
        rw [show ((n/10:Nat):Int)=(n:Int)/10 by omega]
theorem dec_get {n len:Nat} (h:NX (n:Int) len) (hp:0<n) {k:Nat} (hk:k<len):(Lib.decDigits n)[k]?=some (UInt8.ofNat (48+(td (n:Int) (len - 1 - k)).toNat)):=by
  have:=(dec_td len n h hp).2 (len - 1 - k) (by omega)
  rwa [show len - 1 - (len - 1 - k)=k by omega] at this
theorem dec_take {n len:Nat} (h:NX (n:Int) len) (hp:0<n) {k:Nat} (hk:k<len):(Lib.decDigits n).take (k+1)=(Lib.decDigits n).take k++[UInt8.ofNat (48+(td (n:Int) (len - 1 - k)).toNat)]:=by
  rw [List.take_add_one,dec_get h hp hk];rfl
/-- the digits of a text,that of 0 too -/
theorem dec_any (n:Nat):∃ m,0<m∧m≤(Lib.decDigits n).length∧tn (n:Int) m=0∧(Lib.decDigits n).length=m∧∀ i,i<m→(Lib.decDigits n)[m - 1 - i]?=some (UInt8.ofNat (48+(td (n:Int) i).toNat)):=by
  rcases Nat.eq_zero_or_pos n with e | hp
  · subst e
    rw [dec_small (by omega)]
    refine ⟨1,by omega,by simp,rfl,rfl,fun i hi=>?_⟩
    obtain rfl:i=0:=by omega
    rfl
  · obtain ⟨len,h⟩:=NX.exists n
    have hl:0<len:=by
      rcases Nat.eq_zero_or_pos len with e | e
      · have:=h.len_zero.1 e;omega
      · exact e
    obtain ⟨h1,h2⟩:=dec_td len n h hp
    exact ⟨len,hl,by omega,h.top,h1,h2⟩
theorem td_char (n:Int) (i:Nat):((UInt8.ofNat (48+(td n i).toNat)).toNat:Int)=48+td n i:=by
  have h0:=td_nonneg n i
  have h1:=td_lt n i
  rw [UInt8.toNat_ofNat']
  omega
theorem itoa_nonneg {z:Int} (h:0≤z):Lib.itoa z=Lib.decDigits z.natAbs:=by
  unfold Lib.itoa
  rw [if_neg (by omega)]
  congr 1
  omega
theorem itoa_neg {z:Int} (h:z<0):Lib.itoa z=45::Lib.decDigits z.natAbs:=by unfold Lib.itoa;rw [if_pos h]
theorem itoa_one:Lib.itoa 1=[49]:=by rw [itoa_nonneg (by omega)];exact dec_small (by decide)
theorem dec_head {n:Nat} (hp:0<n):∃ c,(Lib.decDigits n)[0]?=some c∧49≤c.toNat∧c.toNat≤57:=by
  obtain ⟨len,h⟩:=NX.exists n
  have hl:0<len:=by
    rcases Nat.eq_zero_or_pos len with e | e
    · have:=h.len_zero.1 e;omega
    · exact e
  refine ⟨_,dec_get h hp hl,?_⟩
  have h1:=h.topdig hl
  have h2:=td_char (n:Int) (len - 1)
  have h3:=td_lt (n:Int) (len - 1)
  rw [Nat.sub_zero]
  omega
theorem dec_zero:Lib.decDigits 0=[48]:=dec_small (by omega)
/-- every byte of the digits is a digit -/
theorem dec_all (n:Nat):∀ c ∈ Lib.decDigits n,48≤c.toNat∧c.toNat≤57:=by
  induction n using Nat.strongRecOn with
  | _ n ih=>
    by_cases h1:n<10
    · rw [dec_small h1]
      intro c hc
      simp only [List.mem_singleton] at hc
      subst hc
      rw [UInt8.toNat_ofNat'];omega
    · rw [dec_step (by omega)]
      intro c hc
      rcases List.mem_append.1 hc with hc | hc
      · exact ih _ (by omega) c hc
      · simp only [List.mem_singleton] at hc
        subst hc
        rw [UInt8.toNat_ofNat'];omega
/-- the value of digits -/
def valL (l:List UInt8):Nat:=l.foldl (fun a c=>a*10+(c.toNat - 48)) 0
theorem valL_snoc (l:List UInt8) (c:UInt8):valL (l++[c])=valL l*10+(c.toNat - 48):=by simp [valL,List.foldl_append]
theorem valL_dec (n:Nat):valL (Lib.decDigits n)=n:=by
  induction n using Nat.strongRecOn with
  | _ n ih=>
    by_cases h1:n<10
    · rw [dec_small h1]
      show 0*10+((UInt8.ofNat (48+n)).toNat - 48)=n
      rw [UInt8.toNat_ofNat'];omega
    · rw [dec_step (by omega),valL_snoc,ih _ (by omega),UInt8.toNat_ofNat'];omega
theorem decDigits_inj {a b:Nat} (h:Lib.decDigits a=Lib.decDigits b):a=b:=by rw [← valL_dec a,← valL_dec b,h]
theorem itoa_inj {a b:Int} (h:Lib.itoa a=Lib.itoa b):a=b:=by
  have key:∀ n:Nat,∀ l,45::l≠Lib.decDigits n:=fun n l e=>by
    have:=dec_all n 45 (by rw [← e];simp)
    simp at this
  by_cases h1:a<0<;>by_cases h2:b<0
  · rw [itoa_neg h1,itoa_neg h2] at h
    have:=decDigits_inj (List.cons.inj h).2
    omega
  · rw [itoa_neg h1,itoa_nonneg (by omega)] at h
    exact absurd h (key _ _)
  · rw [itoa_nonneg (by omega),itoa_neg h2] at h
    exact absurd h.symm (key _ _)
  · rw [itoa_nonneg (by omega),itoa_nonneg (by omega)] at h
    have:=decDigits_inj h
    omega
end Go.Proofs.YtepgkcimmdmgcaaGreatDoor
namespace Go.Proofs.YtepgkcimmdmgcaaGreatDoor
open Go.RowKit

set_option maxHeartbeats 400000 in
theorem r1_trim (ao:Option Addr) (len cap:Nat) (n:Int) (w:World) (hl:len≤2000000) (hcap:len≤cap) (h0:0≤n) (h1:tn n len=0) (hr:DRow w ao len (td n)):
    Calls Tryz.prog 140 #[.slice ao len cap] w fun e w'=>(∃ k,e=.returned (.slice ao k cap)∧k≤len∧NX n k)∧w=w':=by
  go_enter Tryz.func140,Tryz.ntmps140
  go_wp2
  go_loop [3] (fun v=>∃ k:Nat,k≤len∧v=.int .i64 k∧Hid (tn n k=0)) (fun v=>(intOf v).toNat)
  case atStart=>exact ⟨len,Nat.le_refl _,rfl,h1⟩
  case round=>
    obtain ⟨k,hk,rfl,hz⟩:=hrel
    by_cases hp:0<k
    · obtain ⟨b,off,rfl,hcs⟩:=hr.at_ (by omega)
      have hcell:=hcs (k-1) (by omega)
      have e1:((k:Int) - 1)=((k-1:Nat):Int):=by omega
      clear hcs
      go_wp2
      · have h2:(td n (k - 1)==0)=true:=by assumption
        go_round
        case rel=>exact ⟨k - 1,by omega,by go_num,tn_trim hz.out (k - 1) (by omega) (fun j h3 h4=>by
          obtain rfl:j=k - 1:=by omega
          simpa using h2)⟩
        case measure=>simp [intOf];omega
      · have h2:(td n (k - 1)==0)=false:=by assumption
        go_ret
        exact ⟨⟨k,rfl,hk,NX.mk' h0 hz.out (fun _=>by simpa using h2)⟩,rfl⟩
    · go_wp2
      go_ret
      obtain rfl:k=0:=by omega
      exact ⟨⟨0,rfl,by omega,NX.mk' h0 hz.out (by omega)⟩,rfl⟩

theorem lt_of_td {a b:Int} {k:Nat} (h:tn a (k+1)=tn b (k+1)) (hd:td a k<td b k):a<b:=by
  refine Int.lt_of_not_ge fun hge=>?_
  have h1:=tn_mono hge k
  have h2:=tn_split a k
  have h3:=tn_split b k
  omega
set_option maxHeartbeats 400000 in
theorem r1_order (ao bo:Option Addr) (la lb ca cb:Nat) (a b:Int) (w:World) (hla:la≤2000000) (hlb:lb≤2000000)
   (na:NX a la) (ha:DRow w ao la (td a)) (nb:NX b lb) (hb:DRow w bo lb (td b)):
    Calls Tryz.prog 122 #[.slice ao la ca,.slice bo lb cb] w fun e w'=>e=.returned (.int .i64 (sgn (a - b)))∧Below w.heap.size w w':=by
  by_cases hl:la=lb
  · subst hl
    have hne:((la:Int) !=la)=false:=by simp
    go_enter Tryz.func122,Tryz.ntmps122
    go_wp2
    go_loopw [5] (fun i wr=>∃ k:Nat,k≤la∧i=.int .i64 ((k:Int) - 1)∧Hid (tn a k=tn b k)∧Below w.heap.size w wr) (fun i _=>(intOf i+1).toNat)
    case atStart=>exact ⟨la,Nat.le_refl _,rfl,by rw [Hid,na.top,nb.top],Below.refl _ _⟩
    case round=>
      obtain ⟨k,hk,rfl,hz,hB⟩:=hrel
      by_cases hp:0<k
      · obtain ⟨b1,off1,rfl,hc1⟩:=(ha.below hB).at_ (by omega)
        obtain ⟨b2,off2,rfl,hc2⟩:=(hb.below hB).at_ (by omega)
        have hcell1:=hc1 (k-1) (by omega)
        have hcell2:=hc2 (k-1) (by omega)
        obtain ⟨j,rfl⟩:∃ j,k=j+1:=⟨k - 1,by omega⟩
        have e1:(((j+1:Nat):Int) - 1)=(j:Int):=by omega
        have e2:j+1 - 1=j:=by omega
        rw [e2] at hcell1 hcell2
        simp only [e1]
        clear hc1 hc2 e1 e2
        have i0:(0:Int)≤(j:Int):=by omega
        have i1:(j:Int)<(la:Int):=by omega
        go_wp2
        go_quiet (fail)
        go_wp2
        · have h2:td a j<td b j:=by assumption
          go_ret
          exact ⟨ret_int (sgn_neg (by have:=lt_of_td hz.out h2;omega)).symm,hB.drewN _⟩
        · have h2:td b j≤td a j:=by assumption
          go_quiet (fail)
          go_wp2
          · have h3:td b j<td a j:=by assumption
            go_ret
            exact ⟨ret_int (sgn_pos (by have:=lt_of_td hz.out.symm h3;omega)).symm,(hB.drewN _).drewN _⟩
          · have h3:td a j≤td b j:=by assumption
            go_roundw
            case rel=>
              refine ⟨j,by omega,rfl,?_,hB.drewN _⟩
              have h1:=tn_split a j
              have h4:=tn_split b j
              have h5:=hz.out
              show tn a j=tn b j
              omega
            case measure=>simp [intOf]
      · obtain rfl:k=0:=by omega
        go_wp2
        go_ret
        have h3:a=b:=hz.out
        exact ⟨ret_int (by rw [h3,Int.sub_self];rfl),hB⟩
  · have hne:((la:Int) !=lb)=true:=by simp;omega
    by_cases hlt:la<lb
    · go_enter Tryz.func122,Tryz.ntmps122
      go_wp2
      go_ret
      exact ⟨ret_int (sgn_neg (by have:=na.lt_of_len nb hlt;omega)).symm,Below.refl _ _⟩
    · go_enter Tryz.func122,Tryz.ntmps122
      go_wp2
      go_ret
      exact ⟨ret_int (sgn_pos (by have:=nb.lt_of_len na (by omega);omega)).symm,Below.refl _ _⟩

/-! ### Sign -/
set_option maxHeartbeats 400000 in
theorem r1_sign_z (w:World):Calls Tryz.prog 116 #[.string ⟨#[48]⟩] w fun e w'=>e=.returned (.int .i64 0)∧w=w':=by
  go_enter Tryz.func116,Tryz.ntmps116
  go_wp2
  go_ret
  exact ⟨rfl,rfl⟩
set_option maxHeartbeats 400000 in
theorem r1_sign_n (s:ByteArray) (w:World) (h:(s.toList==[48])=false) (h0:0<s.size) (h1:((s[0].toNat:Int)==45)=true):
    Calls Tryz.prog 116 #[.string s] w fun e w'=>e=.returned (.int .i64 (-1))∧w=w':=by
  go_enter Tryz.func116,Tryz.ntmps116
  go_wp2
  go_ret
  exact ⟨rfl,rfl⟩
set_option maxHeartbeats 400000 in
theorem r1_sign_p (s:ByteArray) (w:World) (h:(s.toList==[48])=false) (h0:0<s.size) (h1:((s[0].toNat:Int)==45)=false):
    Calls Tryz.prog 116 #[.string s] w fun e w'=>e=.returned (.int .i64 1)∧w=w':=by
  go_enter Tryz.func116,Tryz.ntmps116
  go_wp2
  go_ret
  exact ⟨rfl,rfl⟩
theorem getElem_toList {s:ByteArray} {l:List UInt8} (h:s.data.toList=l) {q:Nat} (hq:q<s.size) {c:UInt8} (hc:l[q]?=some c):s[q]=c:=by
  have h1:s.data.toList[q]?=some c:=by rw [h];exact hc
  rw [Array.getElem?_toList] at h1
  obtain ⟨h2,h3⟩:=Array.getElem?_eq_some_iff.1 h1
  exact h3
set_option maxRecDepth 10000 in
set_option maxHeartbeats 1000000 in
theorem r1_digits (neg:Bool) (n:Nat) (s:ByteArray) (w:World) (hs:s.data.toList=(if neg then [45] else [])++Lib.decDigits n) (hlen:(Lib.decDigits n).length≤900000):
    Calls Tryz.prog 119 #[.string s] w fun e w'=>(∃ v,e=.returned v∧TenS w' v n)∧Below w.heap.size w w':=by
  obtain ⟨m,hm0,_,htop,hml,hchar⟩:=dec_any n
  obtain ⟨sg,hsg,hsgl⟩:∃ sg:Nat,sg≤1∧(if neg then [45] else []:List UInt8).length=sg:=by
    cases neg
    · exact ⟨0,by omega,rfl⟩
    · exact ⟨1,by omega,rfl⟩
  have hsz:s.size=sg+m:=by
    have:=congrArg List.length hs
    rw [List.length_append,hsgl,hml] at this
    simpa using this
  have HS:=Lib.hid hs
  have HZ:=Lib.hid hsz
  have HC:=Lib.hid hchar
  have HM:=Lib.hid hml
  have HT:=Lib.hid htop
  have HG:=Lib.hid hsgl
  have hszle:s.size≤1000000:=by omega
  clear hs hsz hchar hml htop hsgl
  go_enter Tryz.func119,Tryz.ntmps119
  go_wp2
  go_loopw [3,4] (fun o i wr=>∃ (j k:Nat) (v:Value),o=v∧i=.int .i64 ((j:Int) - 1)∧Hid ((k+j=s.size∧k≤m∨j=0∧k=m)∧OwnS wr 3 w.heap.size v (dvals .i64 k (td n)))∧Below w.heap.size w wr) (fun _ i _=>(intOf i+1).toNat)
  case atStart=>exact ⟨s.size,0,_,rfl,rfl,⟨.inl ⟨by omega,by omega⟩,OwnS.nil _ _ _⟩,Below.refl _ _⟩
  case round=>
    obtain ⟨j,k,v,rfl,rfl,hz,hB⟩:=hrel
    by_cases hp:0<j
    · obtain ⟨q,rfl⟩:∃ q,j=q+1:=⟨j - 1,by omega⟩
      have e1:(((q+1:Nat):Int) - 1)=(q:Int):=by omega
      simp only [e1]
      clear e1
      have hkj:k+(q+1)=s.size∧k≤m:=by
        rcases hz.out.1 with h | h
        · exact h
        · omega
      have hq:q<s.size:=by omega
      by_cases hd:sg≤q
      · have hk:k<m:=by have:=HZ.out;omega
        have hch:s[q]=UInt8.ofNat (48+(td (n:Int) k).toNat):=by
          refine getElem_toList HS.out hq ?_
          rw [List.getElem?_append_right (by rw [HG.out];exact hd),HG.out,show q - sg=m - 1 - k by have:=HZ.out;omega]
          exact HC.out k hk
        have hval:=td_char (n:Int) k
        rw [← hch] at hval
        have d0:=td_nonneg (n:Int) k
        have d1:=td_lt (n:Int) k
        have hne:((s[q].toNat:Int) !=45)=true:=by simp;omega
        have b0:(48:Int)≤(s[q].toNat:Int):=by omega
        have b1:(s[q].toNat:Int)≤57:=by omega
        have HV:=Lib.hid hval
        clear hval hch
        have HK:=Lib.hid hkj
        clear hkj
        go_wp2_with (at_builtin;refine wpList_app1 rfl (.tmp 16) (.tmp 22) _ (by rfl) 3 w.heap.size _ _ _ (by rfl) (hz.out.2.gr (Gr.alloc _ _)) _ _ _ (by rfl) (heap_alloc_new _ _) rfl w (hB.alloc hB.size _) (by rw [dvals_length];omega) 8 (by decide) Tryz.underlying30 int_info rfl (by have:=hB.size;simp;omega) ?_)
        intro v' w' hown hB' _ _
        go_wp2
        go_roundw
        case rel=>
          refine ⟨q,k+1,_,rfl,rfl,⟨.inl ⟨by have:=HK.out;omega,by omega⟩,?_⟩,hB'⟩
          rw [dvals_succ]
          rw [show ((s[q].toNat:Int) - 48)=td (n:Int) k by have:=HV.out;omega] at hown
          exact hown
        case measure=>simp [intOf]
      · -- the sign
        have hq0:q=0:=by omega
        subst hq0
        have hkm:k=m:=by have:=HZ.out;omega
        have hch:s[0]=45:=by
          refine getElem_toList HS.out hq ?_
          cases neg
          · have:=HG.out;simp at this;omega
          · rfl
        have hne:((s[0].toNat:Int) !=45)=false:=by rw [hch];rfl
        have HH:=Lib.hid hkm
        clear hch hkm hkj
        go_wp2
        go_roundw
        case rel=>exact ⟨0,k,_,rfl,rfl,⟨.inr ⟨rfl,HH.out⟩,hz.out.2⟩,hB⟩
        case measure=>simp [intOf]
    · obtain rfl:j=0:=by omega
      have hkm:k=m:=by
        rcases hz.out.1 with h | h
        · have:=HZ.out;omega
        · exact h.2
      subst hkm
      obtain ⟨ao,cap,rfl,hcap,_,hrow⟩:=hz.out.2.drow
      go_wp2_with fail
      refine (r1_trim ao k cap n _ (by omega) hcap (by omega) HT.out hrow).mono ?_
      rintro e w1 ⟨⟨k',rfl,hk',hnx⟩,rfl⟩
      go_wp2
      go_ret
      exact ⟨⟨_,rfl,ao,k',cap,rfl,by omega,hnx,hrow.shorter hk'⟩,hB⟩
theorem plus_stepx2 {a b c:Int} {i:Nat} (h:tn (a+b) i=tn a i+tn b i+c) (h0:0≤c) (h1:c≤1) (ha:tn a i=0):
    td (a+b) i=(c+td b i) % 10∧tn (a+b) (i+1)=tn a (i+1)+tn b (i+1)+(c+td b i)/10∧0≤(c+td b i)/10∧(c+td b i)/10≤1:=by
  unfold td;simp only [tn_succ];omega
theorem plus_stepx3 {a b c:Int} {i:Nat} (h:tn (a+b) i=tn a i+tn b i+c) (h0:0≤c) (h1:c≤1) (ha:tn a i=0) (hb:tn b i=0):
    td (a+b) i=c % 10∧tn (a+b) (i+1)=tn a (i+1)+tn b (i+1)+c/10∧c/10=0:=by
  unfold td;simp only [tn_succ];omega
set_option maxRecDepth 10000 in
set_option maxHeartbeats 4000000 in
theorem r1_plus (ao bo:Option Addr) (la lb ca cb:Nat) (a b:Int) (w:World) (hla:la≤900000) (hlb:lb≤900000)
   (na:NX a la) (ha:DRow w ao la (td a)) (nb:NX b lb) (hb:DRow w bo lb (td b)):
    Calls Tryz.prog 121 #[.slice ao la ca,.slice bo lb cb] w fun e w'=>(∃ v,e=.returned v∧TenZ w' v (a+b))∧Below w.heap.size w w':=by
  obtain ⟨M,hMa,hMb,hMM⟩:∃ M:Nat,la≤M∧lb≤M∧M≤900000:=⟨max la lb,by omega,by omega,by omega⟩
  go_enter Tryz.func121,Tryz.ntmps121
  go_wp2
  go_loopw [5,6,7] (fun o c i wr=>∃ (k:Nat) (cr:Int) (v:Value),o=v∧c=.int .i64 cr∧i=.int .i64 k∧0≤cr∧cr≤1∧k≤M+1∧
      Hid ((k=M+1→cr=0)∧tn (a+b) k=tn a k+tn b k+cr∧OwnS wr 3 w.heap.size v (dvals .i64 k (td (a+b))))∧Below w.heap.size w wr) (fun _ _ i _=>M+1 - (intOf i).toNat)
  case atStart=>exact ⟨0,0,_,rfl,rfl,rfl,by omega,by omega,by omega,⟨by omega,by simp [tn_zero],OwnS.nil _ _ _⟩,Below.refl _ _⟩
  case round=>
    obtain ⟨k,cr,v,rfl,rfl,rfl,hc0,hc1,hkM,hz,hB⟩:=hrel
    have a0:=td_nonneg a k
    have a1:=td_lt a k
    have b0:=td_nonneg b k
    have b1:=td_lt b k
    by_cases hl1:k<la
    · by_cases hl2:k<lb
      · obtain ⟨b1,off1,rfl,hcs1⟩:=(ha.below hB).at_ (by omega)
        have hcell1:=hcs1 k hl1
        clear hcs1
        obtain ⟨b2,off2,rfl,hcs2⟩:=(hb.below hB).at_ (by omega)
        have hcell2:=hcs2 k hl2
        clear hcs2
        go_wp2_with (at_builtin;refine wpList_app1 rfl (.tmp 46) (.tmp 49) _ (by rfl) 3 w.heap.size _ _ _ (by rfl) (hz.out.2.2.gr (Gr.alloc _ _)) _ _ _ (by rfl) (heap_alloc_new _ _) rfl w (hB.alloc hB.size _) (by rw [dvals_length];omega) 8 (by decide) Tryz.underlying30 int_info rfl (by have:=hB.size;simp;omega) ?_)
        intro v1 w1 hown hB1 _ _
        have hs:=plus_stepx hz.out.2.1 hc0 hc1
        have HS:=Lib.hid hs
        clear hs
        go_wp2
        go_roundw
        case rel=>
          have hs:=HS.out
          refine ⟨k+1,_,_,rfl,rfl,by go_num,hs.2.2.1,hs.2.2.2,by omega,⟨fun h=>by omega,hs.2.1,?_⟩,hB1⟩
          rw [dvals_succ,hs.1];exact hown
        case measure=>simp [intOf];omega
      · have e0:tn b k=0:=tn_ge nb.top (by omega)
        have HE:=Lib.hid e0
        clear e0
        obtain ⟨b1,off1,rfl,hcs1⟩:=(ha.below hB).at_ (by omega)
        have hcell1:=hcs1 k hl1
        clear hcs1
        go_wp2_with (at_builtin;refine wpList_app1 rfl (.tmp 46) (.tmp 49) _ (by rfl) 3 w.heap.size _ _ _ (by rfl) (hz.out.2.2.gr (Gr.alloc _ _)) _ _ _ (by rfl) (heap_alloc_new _ _) rfl w (hB.alloc hB.size _) (by rw [dvals_length];omega) 8 (by decide) Tryz.underlying30 int_info rfl (by have:=hB.size;simp;omega) ?_)
        intro v1 w1 hown hB1 _ _
        have hs:=plus_step0x hz.out.2.1 hc0 hc1 HE.out
        have HS:=Lib.hid hs
        clear hs
        go_wp2
        go_roundw
        case rel=>
          have hs:=HS.out
          refine ⟨k+1,_,_,rfl,rfl,by go_num,hs.2.2.1,hs.2.2.2,by omega,⟨fun h=>by omega,hs.2.1,?_⟩,hB1⟩
          rw [dvals_succ,hs.1];exact hown
        case measure=>simp [intOf];omega
    · have e0:tn a k=0:=tn_ge na.top (by omega)
      have HE:=Lib.hid e0
      clear e0
      by_cases hl2:k<lb
      · obtain ⟨b2,off2,rfl,hcs2⟩:=(hb.below hB).at_ (by omega)
        have hcell2:=hcs2 k hl2
        clear hcs2
        go_wp2_with (at_builtin;refine wpList_app1 rfl (.tmp 46) (.tmp 49) _ (by rfl) 3 w.heap.size _ _ _ (by rfl) (hz.out.2.2.gr (Gr.alloc _ _)) _ _ _ (by rfl) (heap_alloc_new _ _) rfl w (hB.alloc hB.size _) (by rw [dvals_length];omega) 8 (by decide) Tryz.underlying30 int_info rfl (by have:=hB.size;simp;omega) ?_)
        intro v1 w1 hown hB1 _ _
        have hs:=plus_stepx2 hz.out.2.1 hc0 hc1 HE.out
        have HS:=Lib.hid hs
        clear hs
        go_wp2
        go_roundw
        case rel=>
          have hs:=HS.out
          refine ⟨k+1,_,_,rfl,rfl,by go_num,hs.2.2.1,hs.2.2.2,by omega,⟨fun h=>by omega,hs.2.1,?_⟩,hB1⟩
          rw [dvals_succ,hs.1];exact hown
        case measure=>simp [intOf];omega
      · have e1:tn b k=0:=tn_ge nb.top (by omega)
        have HF:=Lib.hid e1
        clear e1
        by_cases hcr:0<cr
        · have hk1:k≤M:=by
            rcases Nat.lt_or_ge M k with h | h
            · have:=hz.out.1 (by omega);omega
            · exact h
          go_wp2_with (at_builtin;refine wpList_app1 rfl (.tmp 46) (.tmp 49) _ (by rfl) 3 w.heap.size _ _ _ (by rfl) (hz.out.2.2.gr (Gr.alloc _ _)) _ _ _ (by rfl) (heap_alloc_new _ _) rfl w (hB.alloc hB.size _) (by rw [dvals_length];omega) 8 (by decide) Tryz.underlying30 int_info rfl (by have:=hB.size;simp;omega) ?_)
          intro v1 w1 hown hB1 _ _
          have hs:=plus_stepx3 hz.out.2.1 hc0 hc1 HE.out HF.out
          have HS:=Lib.hid hs
          clear hs
          go_wp2
          go_roundw
          case rel=>
            have hs:=HS.out
            refine ⟨k+1,_,_,rfl,rfl,by go_num,by omega,by omega,by omega,⟨fun _=>hs.2.2,hs.2.1,?_⟩,hB1⟩
            rw [dvals_succ,hs.1];exact hown
          case measure=>simp [intOf];omega
        · have hcr0:cr=0:=by omega
          obtain ⟨ao1,cap1,rfl,hcap1,_,hrow1⟩:=hz.out.2.2.drow
          have HR:=Lib.hid hcr0
          clear hcr0
          go_wp2
          go_ret
          refine ⟨⟨_,rfl,ao1,k,cap1,rfl,hcap1,by omega,?_,hrow1⟩,hB⟩
          have h1:=hz.out.2.1
          have h2:=HE.out
          have h3:=HF.out
          have h4:=HR.out
          omega
set_option maxRecDepth 10000 in
set_option maxHeartbeats 4000000 in
theorem r1_minus (ao bo:Option Addr) (la lb ca cb:Nat) (a b:Int) (w:World) (hla:la≤900000) (hba:b≤a)
   (na:NX a la) (ha:DRow w ao la (td a)) (nb:NX b lb) (hb:DRow w bo lb (td b)):
    Calls Tryz.prog 123 #[.slice ao la ca,.slice bo lb cb] w fun e w'=>(∃ v,e=.returned v∧TenF w' w.heap.size v (a - b))∧Below w.heap.size w w':=by
  have hlb:lb≤la:=nb.len_le na hba
  go_enter Tryz.func123,Tryz.ntmps123
  go_wp2
  go_loopw [5,6,7] (fun o c i wr=>∃ (k:Nat) (br:Int) (v:Value),o=v∧c=.int .i64 br∧i=.int .i64 k∧0≤br∧br≤1∧k≤la∧
      Hid (tn (a - b) k=tn a k - tn b k - br∧OwnS wr 3 w.heap.size v (dvals .i64 k (td (a - b))))∧Below w.heap.size w wr) (fun _ _ i _=>la - (intOf i).toNat)
  case atStart=>exact ⟨0,0,_,rfl,rfl,rfl,by omega,by omega,by omega,⟨by simp [tn_zero],OwnS.nil _ _ _⟩,Below.refl _ _⟩
  case round=>
    obtain ⟨k,br,v,rfl,rfl,rfl,hc0,hc1,hk,hz,hB⟩:=hrel
    have a0:=td_nonneg a k
    have a1:=td_lt a k
    have b0:=td_nonneg b k
    have b1:=td_lt b k
    by_cases hl1:k<la
    · obtain ⟨b1,off1,rfl,hcs1⟩:=(ha.below hB).at_ (by omega)
      have hcell1:=hcs1 k hl1
      clear hcs1
      by_cases hl2:k<lb
      · obtain ⟨b2,off2,rfl,hcs2⟩:=(hb.below hB).at_ (by omega)
        have hcell2:=hcs2 k hl2
        clear hcs2
        by_cases hn:td a k - br - td b k<0
        · have hn1:¬ 0≤td a k - br - td b k:=by omega
          go_wp2_with (at_builtin;refine wpList_app1 rfl (.tmp 35) (.tmp 37) _ (by rfl) 3 w.heap.size _ _ _ (by rfl) (hz.out.2.gr (Gr.alloc _ _)) _ _ _ (by rfl) (heap_alloc_new _ _) rfl w (hB.alloc hB.size _) (by rw [dvals_length];omega) 8 (by decide) Tryz.underlying30 int_info rfl (by have:=hB.size;simp;omega) ?_)
          intro v1 w1 hown hB1 _ _
          have hs:=minus_stepx hz.out.1 hc0 hc1
          rw [if_pos (by omega)] at hs
          have hd:td (a - b) k=td a k - br - td b k+10:=by rw [hs.1];omega
          have HS:=Lib.hid hs
          have HD:=Lib.hid hd
          clear hs hd
          go_wp2
          go_roundw
          case rel=>
            refine ⟨k+1,_,_,rfl,rfl,by go_num,by omega,by omega,by omega,⟨HS.out.2,?_⟩,hB1⟩
            rw [dvals_succ,HD.out];exact hown
          case measure=>simp [intOf];omega
        · have hn1:0≤td a k - br - td b k:=by omega
          go_wp2_with (at_builtin;refine wpList_app1 rfl (.tmp 35) (.tmp 37) _ (by rfl) 3 w.heap.size _ _ _ (by rfl) (hz.out.2.gr (Gr.alloc _ _)) _ _ _ (by rfl) (heap_alloc_new _ _) rfl w (hB.alloc hB.size _) (by rw [dvals_length];omega) 8 (by decide) Tryz.underlying30 int_info rfl (by have:=hB.size;simp;omega) ?_)
          intro v1 w1 hown hB1 _ _
          have hs:=minus_stepx hz.out.1 hc0 hc1
          rw [if_neg (by omega)] at hs
          have hd:td (a - b) k=td a k - br - td b k:=by rw [hs.1];omega
          have HS:=Lib.hid hs
          have HD:=Lib.hid hd
          clear hs hd
          go_wp2
          go_roundw
          case rel=>
            refine ⟨k+1,_,_,rfl,rfl,by go_num,by omega,by omega,by omega,⟨HS.out.2,?_⟩,hB1⟩
            rw [dvals_succ,HD.out];exact hown
          case measure=>simp [intOf];omega
      · have e0:tn b k=0:=tn_ge nb.top (by omega)
        have HE:=Lib.hid e0
        clear e0
        by_cases hn:td a k - br<0
        · have hn1:¬ 0≤td a k - br:=by omega
          go_wp2_with (at_builtin;refine wpList_app1 rfl (.tmp 35) (.tmp 37) _ (by rfl) 3 w.heap.size _ _ _ (by rfl) (hz.out.2.gr (Gr.alloc _ _)) _ _ _ (by rfl) (heap_alloc_new _ _) rfl w (hB.alloc hB.size _) (by rw [dvals_length];omega) 8 (by decide) Tryz.underlying30 int_info rfl (by have:=hB.size;simp;omega) ?_)
          intro v1 w1 hown hB1 _ _
          have hs:=minus_step0x hz.out.1 hc0 hc1 HE.out
          rw [if_pos (by omega)] at hs
          have hd:td (a - b) k=td a k - br+10:=by rw [hs.1];omega
          have HS:=Lib.hid hs
          have HD:=Lib.hid hd
          clear hs hd
          go_wp2
          go_roundw
          case rel=>
            refine ⟨k+1,_,_,rfl,rfl,by go_num,by omega,by omega,by omega,⟨HS.out.2,?_⟩,hB1⟩
            rw [dvals_succ,HD.out];exact hown
          case measure=>simp [intOf];omega
        · have hn1:0≤td a k - br:=by omega
          go_wp2_with (at_builtin;refine wpList_app1 rfl (.tmp 35) (.tmp 37) _ (by rfl) 3 w.heap.size _ _ _ (by rfl) (hz.out.2.gr (Gr.alloc _ _)) _ _ _ (by rfl) (heap_alloc_new _ _) rfl w (hB.alloc hB.size _) (by rw [dvals_length];omega) 8 (by decide) Tryz.underlying30 int_info rfl (by have:=hB.size;simp;omega) ?_)
          intro v1 w1 hown hB1 _ _
          have hs:=minus_step0x hz.out.1 hc0 hc1 HE.out
          rw [if_neg (by omega)] at hs
          have hd:td (a - b) k=td a k - br:=by rw [hs.1];omega
          have HS:=Lib.hid hs
          have HD:=Lib.hid hd
          clear hs hd
          go_wp2
          go_roundw
          case rel=>
            refine ⟨k+1,_,_,rfl,rfl,by go_num,by omega,by omega,by omega,⟨HS.out.2,?_⟩,hB1⟩
            rw [dvals_succ,HD.out];exact hown
          case measure=>simp [intOf];omega
    · obtain rfl:k=la:=by omega
      have htop:tn (a - b) k=0:=by
        have h1:=hz.out.1
        have h2:=na.top
        have h3:=tn_ge nb.top hlb
        have h4:=tn_nonneg (show 0≤a - b by omega) k
        omega
      have HT:=Lib.hid htop
      clear htop
      obtain ⟨ao1,cap1,rfl,hcap1,_,hrow1,hfr⟩:=hz.out.2.drowF
      go_wp2_with fail
      refine (r1_trim ao1 k cap1 (a - b) _ (by omega) hcap1 (by omega) HT.out hrow1).mono ?_
      rintro e w1 ⟨⟨k',rfl,hk',hnx⟩,rfl⟩
      go_wp2
      go_ret
      exact ⟨⟨_,rfl,ao1,k',cap1,rfl,by omega,hnx,hrow1.shorter hk',hfr⟩,hB⟩
def bvals (l:List UInt8):List Value:=l.map fun c=>.int .u8 (c.toNat:Int)
theorem bvals_length (l:List UInt8):(bvals l).length=l.length:=by simp [bvals]
theorem bvals_snoc (l:List UInt8) (c:UInt8):bvals (l++[c])=bvals l++[.int .u8 (c.toNat:Int)]:=by simp [bvals]
theorem u8_info:(Tryz.prog.info? 5).map (fun i=>(i.zero,i.size,i.bytes))=some (some (.int .u8 0),1,1):=by kernel_rfl
theorem OwnS.conv {w:World} {B:Nat} {v:Value} {l:List UInt8} (h:OwnS w 5 B v (bvals l)) (hp:l≠[]):
    ∃ g cap,v=.slice (some ⟨g,0,none⟩) l.length cap∧(convert 176 9 (.slice (some ⟨g,0,none⟩) l.length cap)).run Tryz.prog w=.ok (.string ⟨l.toArray⟩) w:=by
  obtain ⟨g,cap,cur,e,hb,hg,h1,h2,hc⟩:=h.cells (by rw [bvals_length];exact List.length_pos_iff.2 hp)
  rw [bvals_length] at e h1 hc
  refine ⟨g,cap,e,run_convert_bytes_back w _ _ 5 ⟨g,0,none⟩ cap l (by kernel_rfl) (by kernel_rfl) (by kernel_rfl) (fun j hj=>?_)⟩
  have e0:(⟨g,0,none⟩:Addr).add j=⟨g,j,none⟩:=by
    unfold Addr.add
    by_cases h0:j=0<;>simp [h0]
  rw [e0,cells_of hg,hc j hj]
  simp [bvals,hj]
theorem dec_ne' (n:Nat):Lib.decDigits n≠[]:=fun e=>by have:=dec_pos n;rw [e] at this;simp at this
/-- the text of a sign and a magnitude -/
def textL (neg:Bool) (n:Nat):List UInt8:=if n=0 then [48] else (if neg then [45] else [])++Lib.decDigits n
theorem textL_itoa (neg:Bool) (n:Nat):textL neg n=Lib.itoa (if neg then -(n:Int) else n):=by
  unfold textL
  by_cases h:n=0
  · subst h
    rw [if_pos rfl]
    cases neg<;>exact (dec_small (u:=0) (by omega)).symm
  · rw [if_neg h]
    cases neg
    · rw [if_neg (by decide),if_neg (by decide),itoa_nonneg (by omega),Int.natAbs_natCast];rfl
    · rw [if_pos rfl,if_pos rfl,itoa_neg (by omega)]
      simp
set_option maxRecDepth 10000 in
set_option maxHeartbeats 4000000 in
theorem r1_text (neg:Bool) (ao:Option Addr) (len cap n:Nat) (w:World) (hl:len≤900001) (hcap:len≤cap) (h1:tn (n:Int) len=0) (hr:DRow w ao len (td (n:Int))):
    Calls Tryz.prog 120 #[.bool neg,.slice ao len cap] w fun e w'=>e=.returned (.string ⟨(textL neg n).toArray⟩)∧Below w.heap.size w w':=by
  have H1:=Lib.hid h1
  clear h1
  go_enter Tryz.func120,Tryz.ntmps120
  go_wp2_with fail
  refine (r1_trim ao len cap n _ (by omega) hcap (by omega) H1.out hr).mono ?_
  rintro e w1 ⟨⟨k,rfl,hk,hnx⟩,rfl⟩
  by_cases hk0:k=0
  · subst hk0
    have hn:n=0:=by have:=hnx.len_zero.1 rfl;omega
    have HN:=Lib.hid hn
    clear hn
    go_wp2
    go_ret
    refine ⟨?_,Below.refl _ _⟩
    rw [textL,if_pos HN.out]
    rfl
  · have hn:0<n:=by
      rcases Nat.eq_zero_or_pos n with e | e
      · exact absurd (hnx.len_zero.2 (by omega)) hk0
      · exact e
    have hk1:((k:Int)==0)=false:=by simp;omega
    have hrow:=hr.shorter hk
    cases neg
    · go_wp2
      go_loopw [5,6] (fun o i wr=>∃ (j:Nat) (v:Value),o=v∧i=.int .i64 ((j:Int) - 1)∧j≤k∧Hid (OwnS wr 5 w.heap.size v (bvals (([]:List UInt8)++(Lib.decDigits n).take (k - j))))∧Below w.heap.size w wr) (fun _ i _=>(intOf i+1).toNat)
      case atStart=>exact ⟨k,_,rfl,rfl,Nat.le_refl _,(show OwnS _ _ _ _ (bvals ([]++(Lib.decDigits n).take (k - k))) by rw [Nat.sub_self];exact OwnS.nil _ _ _),Below.refl _ _⟩
      case round=>
        obtain ⟨j,v,rfl,rfl,hj,hz,hB⟩:=hrel
        by_cases hp:0<j
        · obtain ⟨q,rfl⟩:∃ q,j=q+1:=⟨j - 1,by omega⟩
          have e1:(((q+1:Nat):Int) - 1)=(q:Int):=by omega
          simp only [e1]
          clear e1
          obtain ⟨b1,off1,rfl,hcs1⟩:=(hrow.below hB).at_ (by omega)
          have hcell1:=hcs1 q (by omega)
          clear hcs1
          have d0:=td_nonneg (n:Int) q
          have d1:=td_lt (n:Int) q
          have hlen:(bvals (([]:List UInt8)++(Lib.decDigits n).take (k - (q+1)))).length≤1000000:=by
            rw [bvals_length,List.length_append]
            have h1:=List.length_take_le (k - (q+1)) (Lib.decDigits n)
            have h2:(([]:List UInt8):List UInt8).length≤1:=by decide
            omega
          go_wp2_with (at_builtin;refine wpList_app1 rfl (.tmp 23) (.tmp 30) _ (by rfl) 5 w.heap.size _ _ _ (by rfl) (hz.out.gr (Gr.alloc _ _)) _ _ _ (by rfl) (heap_alloc_new _ _) rfl w (hB.alloc hB.size _) hlen 1 (by decide) Tryz.underlying176 u8_info rfl (by have:=hB.size;simp;omega) ?_)
          intro v1 w1 hown hB1 _ _
          go_wp2
          go_roundw
          case rel=>
            refine ⟨q,_,rfl,rfl,by omega,?_,hB1⟩
            have h1:=dec_take hnx hn (show k - (q+1)<k by omega)
            rw [show k - (q+1)+1=k - q by omega,show k - 1 - (k - (q+1))=q by omega] at h1
            rw [h1,← List.append_assoc,bvals_snoc,td_char]
            exact hown
          case measure=>simp [intOf]
        · obtain rfl:j=0:=by omega
          have hl2:(Lib.decDigits n).take (k - 0)=Lib.decDigits n:=by
            rw [Nat.sub_zero,List.take_of_length_le (by rw [(dec_td k n hnx hn).1];exact Nat.le_refl _)]
          have hz1:=hz.out
          rw [hl2] at hz1
          obtain ⟨l,hl⟩:∃ l,l=([]:List UInt8)++Lib.decDigits n:=⟨_,rfl⟩
          rw [← hl] at hz1
          obtain ⟨g,cap1,rfl,hconv⟩:=hz1.conv (by rw [hl];simp [dec_ne'])
          have HL:=Lib.hid hl
          clear hl hz1 hl2
          go_wp2
          go_ret
          refine ⟨?_,hB⟩
          rw [textL,if_neg (by omega)]
          have hl:=HL.out
          subst hl
          rfl
    · go_wp2_with (at_builtin;refine wpList_app1 rfl (.tmp 13) (.tmp 14) _ (by rfl) 5 w.heap.size _ _ _ (by rfl) (OwnS.nil _ _ _) _ _ _ (by rfl) (heap_alloc_new _ _) rfl w ((Below.refl _ _).alloc (Nat.le_refl _) _) (by simp) 1 (by decide) Tryz.underlying176 u8_info rfl (by simp) ?_)
      intro v0 w0 hown0 hB0 _ _
      go_wp2
      go_loopw [5,6] (fun o i wr=>∃ (j:Nat) (v:Value),o=v∧i=.int .i64 ((j:Int) - 1)∧j≤k∧Hid (OwnS wr 5 w.heap.size v (bvals (([45]:List UInt8)++(Lib.decDigits n).take (k - j))))∧Below w.heap.size w wr) (fun _ i _=>(intOf i+1).toNat)
      case atStart=>exact ⟨k,_,rfl,rfl,Nat.le_refl _,(show OwnS _ _ _ _ (bvals ([45]++(Lib.decDigits n).take (k - k))) by rw [Nat.sub_self];exact hown0),hB0⟩
      case round=>
        obtain ⟨j,v,rfl,rfl,hj,hz,hB⟩:=hrel
        by_cases hp:0<j
        · obtain ⟨q,rfl⟩:∃ q,j=q+1:=⟨j - 1,by omega⟩
          have e1:(((q+1:Nat):Int) - 1)=(q:Int):=by omega
          simp only [e1]
          clear e1
          obtain ⟨b1,off1,rfl,hcs1⟩:=(hrow.below hB).at_ (by omega)
          have hcell1:=hcs1 q (by omega)
          clear hcs1
          have d0:=td_nonneg (n:Int) q
          have d1:=td_lt (n:Int) q
          have hlen:(bvals (([45]:List UInt8)++(Lib.decDigits n).take (k - (q+1)))).length≤1000000:=by
            rw [bvals_length,List.length_append]
            have h1:=List.length_take_le (k - (q+1)) (Lib.decDigits n)
            have h2:(([45]:List UInt8):List UInt8).length≤1:=by decide
            omega
          go_wp2_with (at_builtin;refine wpList_app1 rfl (.tmp 23) (.tmp 30) _ (by rfl) 5 w.heap.size _ _ _ (by rfl) (hz.out.gr (Gr.alloc _ _)) _ _ _ (by rfl) (heap_alloc_new _ _) rfl w (hB.alloc hB.size _) hlen 1 (by decide) Tryz.underlying176 u8_info rfl (by have:=hB.size;simp;omega) ?_)
          intro v1 w1 hown hB1 _ _
          go_wp2
          go_roundw
          case rel=>
            refine ⟨q,_,rfl,rfl,by omega,?_,hB1⟩
            have h1:=dec_take hnx hn (show k - (q+1)<k by omega)
            rw [show k - (q+1)+1=k - q by omega,show k - 1 - (k - (q+1))=q by omega] at h1
            rw [h1,← List.append_assoc,bvals_snoc,td_char]
            exact hown
          case measure=>simp [intOf]
        · obtain rfl:j=0:=by omega
          have hl2:(Lib.decDigits n).take (k - 0)=Lib.decDigits n:=by
            rw [Nat.sub_zero,List.take_of_length_le (by rw [(dec_td k n hnx hn).1];exact Nat.le_refl _)]
          have hz1:=hz.out
          rw [hl2] at hz1
          obtain ⟨l,hl⟩:∃ l,l=([45]:List UInt8)++Lib.decDigits n:=⟨_,rfl⟩
          rw [← hl] at hz1
          obtain ⟨g,cap1,rfl,hconv⟩:=hz1.conv (by rw [hl];simp)
          have HL:=Lib.hid hl
          clear hl hz1 hl2
          go_wp2
          go_ret
          refine ⟨?_,hB⟩
          rw [textL,if_neg (by omega)]
          have hl:=HL.out
          subst hl
          rfl
theorem dec_len_sz {k:Nat} {z:Int} (h:Sz k z):(Lib.decDigits z.natAbs).length≤k+1:=dec_len_bits k _ h
theorem NX.len_bits {n len k:Nat} (h:NX (n:Int) len) (hn:n<2 ^ k):len≤k+1:=by
  rcases Nat.eq_zero_or_pos n with e | hp
  · have:=h.len_zero.2 (by omega);omega
  · have h1:=(dec_td len n h hp).1
    have h2:=dec_len_bits k n hn
    omega
theorem itoa_hd {z:Int}:(Lib.itoa z)[0]?=some 45↔z<0:=by
  constructor
  · intro h
    refine Int.lt_of_not_ge fun hz=>?_
    rw [itoa_nonneg hz] at h
    have:=dec_all _ 45 (List.mem_of_getElem? h)
    simp at this
  · intro h;rw [itoa_neg h];rfl
theorem itoa_zero:Lib.itoa 0=[48]:=dec_small (u:=0) (by omega)
theorem itoa_ne_zero {z:Int} (h:z≠0):Lib.itoa z≠[48]:=fun e=>h (itoa_inj (by rw [e,itoa_zero]))
theorem itoa_pos (z:Int):0<(Lib.itoa z).length:=by
  by_cases h:z<0
  · rw [itoa_neg h];simp
  · rw [itoa_nonneg (by omega)];exact dec_pos _
theorem r1_sign_i (z:Int) (w:World):
    Calls Tryz.prog 116 #[.string ⟨(Lib.itoa z).toArray⟩] w fun e w'=>e=.returned (.int .i64 (sgn z))∧Gr w w':=by
  by_cases h0:z=0
  · subst h0
    rw [itoa_zero]
    refine (r1_sign_z w).mono ?_
    rintro e w1 ⟨he,rfl⟩
    exact ⟨he,Gr.refl _⟩
  · have hb:((⟨(Lib.itoa z).toArray⟩:ByteArray).toList==[48])=false:=by
      rw [beq_eq_false_iff_ne,ByteArray.toList_eq]
      exact itoa_ne_zero h0
    have hp:0<(⟨(Lib.itoa z).toArray⟩:ByteArray).size:=by
      show 0<(Lib.itoa z).toArray.size
      simpa using itoa_pos z
    obtain ⟨c,hc⟩:∃ c,(Lib.itoa z)[0]?=some c:=⟨_,List.getElem?_eq_getElem (itoa_pos z)⟩
    have hs0:(⟨(Lib.itoa z).toArray⟩:ByteArray)[0]=c:=getElem_toList (by simp) hp hc
    by_cases hz:z<0
    · have h1:=itoa_hd.2 hz
      rw [hc] at h1
      obtain rfl:=Option.some.inj h1
      refine (r1_sign_n _ w hb hp (by rw [hs0];rfl)).mono ?_
      rintro e w1 ⟨he,rfl⟩
      exact ⟨by rw [he,sgn_neg hz],Gr.refl _⟩
    · have h1:c≠45:=fun e=>hz (itoa_hd.1 (by rw [hc,e]))
      refine (r1_sign_p _ w hb hp (by
        rw [hs0,beq_eq_false_iff_ne]
        intro e
        exact h1 (by rw [← UInt8.toNat_inj];have:(45:UInt8).toNat=45:=rfl;omega))).mono ?_
      rintro e w1 ⟨he,rfl⟩
      exact ⟨by rw [he,sgn_pos (by omega)],Gr.refl _⟩
theorem r1_digits_i {k:Nat} (z:Int) (hz:Sz k z) (hk:k≤800000) (w:World):
    Calls Tryz.prog 119 #[.string ⟨(Lib.itoa z).toArray⟩] w fun e w'=>(∃ v,e=.returned v∧TenS w' v (z.natAbs:Int))∧Gr w w':=
  r1_digits (decide (z<0)) z.natAbs _ w (by
    by_cases h:z<0
    · simp [h,itoa_neg h]
    · simp [h,itoa_nonneg (show 0≤z by omega)]) (by have:=dec_len_sz hz;omega)
theorem TenS.len {w:World} {v:Value} {n k:Nat} (h:TenS w v (n:Int)) (hn:n<2 ^ k):∃ ao len cap,v=.slice ao len cap∧len≤cap∧NX (n:Int) len∧DRow w ao len (td (n:Int))∧len≤k+1:=by
  obtain ⟨ao,len,cap,h1,h2,h3,h4⟩:=h
  exact ⟨ao,len,cap,h1,h2,h3,h4,h3.len_bits hn⟩
theorem r1_order_i {k m a b:Nat} {x y:Value} {w:World} (ha:TenS w x (a:Int)) (hb:TenS w y (b:Int)) (h1:a<2 ^ k) (h2:b<2 ^ m) (hk:k+m≤800000):
    Calls Tryz.prog 122 #[x,y] w fun e w'=>e=.returned (.int .i64 (sgn ((a:Int) - (b:Int))))∧Gr w w':=by
  obtain ⟨ao,la,ca,rfl,c1,n1,r1,l1⟩:=ha.len h1
  obtain ⟨bo,lb,cb,rfl,c2,n2,r2,l2⟩:=hb.len h2
  exact r1_order ao bo la lb ca cb a b w (by omega) (by omega) n1 r1 n2 r2
theorem r1_minus_i {k a b:Nat} {x y:Value} {w:World} (ha:TenS w x (a:Int)) (hb:TenS w y (b:Int)) (h1:a<2 ^ k) (hba:b≤a) (hk:k≤800000):
    Calls Tryz.prog 123 #[x,y] w fun e w'=>(∃ v,e=.returned v∧TenS w' v ((a - b:Nat):Int))∧Gr w w':=by
  obtain ⟨ao,la,ca,rfl,c1,n1,r1,l1⟩:=ha.len h1
  obtain ⟨bo,lb,cb,rfl,c2,n2,r2,l2⟩:=hb.len (Nat.lt_of_le_of_lt hba h1)
  rw [Int.ofNat_sub hba]
  refine (r1_minus ao bo la lb ca cb a b w (by omega) (by omega) n1 r1 n2 r2).mono ?_
  rintro e w1 ⟨⟨v,he,hv⟩,g⟩
  exact ⟨⟨v,he,hv.s⟩,g⟩
theorem r1_minus_f {k a b:Nat} {x y:Value} {w:World} (ha:TenS w x (a:Int)) (hb:TenS w y (b:Int)) (h1:a<2 ^ k) (hba:b≤a) (hk:k≤800000):
    Calls Tryz.prog 123 #[x,y] w fun e w'=>(∃ v,e=.returned v∧TenF w' w.heap.size v ((a - b:Nat):Int))∧Gr w w':=by
  obtain ⟨ao,la,ca,rfl,c1,n1,r1,l1⟩:=ha.len h1
  obtain ⟨bo,lb,cb,rfl,c2,n2,r2,l2⟩:=hb.len (Nat.lt_of_le_of_lt hba h1)
  rw [Int.ofNat_sub hba]
  exact r1_minus ao bo la lb ca cb a b w (by omega) (by omega) n1 r1 n2 r2
theorem r1_plus_i {k m a b:Nat} {x y:Value} {w:World} (ha:TenS w x (a:Int)) (hb:TenS w y (b:Int)) (h1:a<2 ^ k) (h2:b<2 ^ m) (hk:k+m≤800000):
    Calls Tryz.prog 121 #[x,y] w fun e w'=>(∃ v,e=.returned v∧TenZ w' v ((a+b:Nat):Int))∧Gr w w':=by
  obtain ⟨ao,la,ca,rfl,c1,n1,r1,l1⟩:=ha.len h1
  obtain ⟨bo,lb,cb,rfl,c2,n2,r2,l2⟩:=hb.len h2
  rw [Int.natCast_add]
  exact r1_plus ao bo la lb ca cb a b w (by omega) (by omega) n1 r1 n2 r2
theorem r1_text_z (neg:Bool) {n:Nat} {v:Value} {w:World} (h:TenZ w v (n:Int)):
    Calls Tryz.prog 120 #[.bool neg,v] w fun e w'=>e=.returned (.string ⟨(textL neg n).toArray⟩)∧Gr w w':=by
  obtain ⟨ao,len,cap,rfl,h1,h2,h3,h4⟩:=h
  exact r1_text neg ao len cap n w h2 h1 h3 h4
theorem r1_text_s {k:Nat} (neg:Bool) {n:Nat} {v:Value} {w:World} (h:TenS w v (n:Int)) (hn:n<2 ^ k) (hk:k≤800000):
    Calls Tryz.prog 120 #[.bool neg,v] w fun e w'=>e=.returned (.string ⟨(textL neg n).toArray⟩)∧Gr w w':=by
  obtain ⟨ao,len,cap,rfl,h1,h2,h3,h4⟩:=h.len hn
  exact r1_text neg ao len cap n w (by omega) h1 h2.top h3
theorem text_abs {n:Nat} {z:Int} {neg:Bool} (h:neg=true∧z=-(n:Int)∨neg=false∧z=n):textL neg n=Lib.itoa z:=by
  rw [textL_itoa]
  rcases h with ⟨rfl,rfl⟩ | ⟨rfl,rfl⟩
  · rfl
  · rfl
theorem rv_seq {P:Program} {a:Act} {o:Oper} {w:World} (t t2:TypeId) (x y:Operand) (A B:List UInt8) (hop:o.op=.binOp .eql t x y t2) (hx:a.eval x=.string ⟨A.toArray⟩) (hy:a.eval y=.string ⟨B.toArray⟩):RunV P a o w (.bool (A==B)):=by
  unfold RunV execOp
  simp only [hop,hx,hy]
  simp [go_sem,eqGuard,ByteArray.toList_eq]
theorem rv_sne {P:Program} {a:Act} {o:Oper} {w:World} (t t2:TypeId) (x y:Operand) (A B:List UInt8) (hop:o.op=.binOp .neq t x y t2) (hx:a.eval x=.string ⟨A.toArray⟩) (hy:a.eval y=.string ⟨B.toArray⟩):RunV P a o w (.bool (A !=B)):=by
  unfold RunV execOp
  simp only [hop,hx,hy]
  simp [go_sem,eqGuard,ByteArray.toList_eq,bne]
theorem text_neg (z:Int):textL (decide (0<sgn z)) z.natAbs=Lib.itoa (-z):=by
  apply text_abs
  unfold sgn
  by_cases h:z<0
  · right;simp [h];omega
  · by_cases h0:z=0
    · right;simp [h0]
    · left;simp [h,h0];omega
theorem sgn_lt {z:Int}:decide (sgn z<0)=decide (z<0):=by
  unfold sgn
  by_cases h:z<0
  · simp [h]
  · by_cases h0:z=0<;>simp [h,h0]
theorem sgn_ge {z:Int}:decide (0≤sgn z)=decide (0≤z):=by
  unfold sgn
  by_cases h:z<0
  · simp [h]
  · by_cases h0:z=0<;>simp [h,h0]<;>omega
theorem text_dec {z u:Int} {N:Nat} (h:(u<0→z=-(N:Int))∧(¬ u<0→z=N)):textL (decide (sgn u<0)) N=Lib.itoa z:=by
  rw [sgn_lt]
  apply text_abs
  by_cases hu:u<0
  · exact .inl ⟨by simpa using hu,h.1 hu⟩
  · exact .inr ⟨by simpa using hu,h.2 hu⟩
theorem sgn_cases (z:Int):z<0∧sgn z=-1∨z=0∧sgn z=0∨0<z∧sgn z=1:=by
  unfold sgn
  by_cases h:z<0
  · left;simp [h]
  · by_cases h0:z=0
    · right;left;simp [h0]
    · right;right;simp [h,h0];omega
end Go.Proofs.YtepgkcimmdmgcaaGreatDoor
