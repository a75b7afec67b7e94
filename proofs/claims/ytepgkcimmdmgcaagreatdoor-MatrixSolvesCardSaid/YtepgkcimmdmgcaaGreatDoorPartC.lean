/- Joined of: Gen4, Sm, La, Gen162, Sn, Lb, Lc, Ld, Le, Lf, Gen163, Lg, Lh, Ten. -/
import Derived.Test.YtepgkcimmdmgcaaGreatDoorPartB
import Init.Data.Rat.Lemmas
import Derived.Lib.AppendZeros
namespace Go.Proofs.YtepgkcimmdmgcaaGreatDoor
open Go.RowKit

set_option maxRecDepth 100000 in
set_option maxHeartbeats 1000000 in
theorem add_tt {k m:Nat} {u0 u1 u2 u3 v0 v1 v2 v3:Value} {a b:Rat} {w:World} (ha:IsRat w k u0 u1 u2 u3 a) (hb:IsRat w m v0 v1 v2 v3 b) (_hk:k+m≤100000) (wa:a.den=1) (wb:b.den=1):
    Calls Tryz.prog 98 #[(.agg #[u0,u1,u2,u3]),(.agg #[v0,v1,v2,v3])] w fun e w'=>(∃ c0 c1 c2 c3,e=.returned (.agg #[c0,c1,c2,c3])∧IsRat w' (k+m+1) c0 c1 c2 c3 (a+b))∧Gr w w':=by
 have hka:=ha.big
 have hkb:=hb.big
 go_enter Tryz.func98,Tryz.ntmps98
 have hB:=Gr.refl w
 refine wp_seq_k (fun K1 k1=>?_)
 refine rg [0,1,2] ?_
 refine se ?_
 refine eb 71 #[u0,u1,u2,u3] 2 hB fun b2 w2 g2 L2 o2 q2 hB=>?_
 simp only [p3,p4]
 refine se ?_
 refine eb 71 #[v0,v1,v2,v3] 3 hB fun b3 w3 g3 L3 o3 q3 hB=>?_
 simp only [p3,p4]
 refine se ?_
 refine ea 71 #[(.bool false),(.slice none 0 0),(.bool false),(.slice none 0 0)] 4 hB fun b4 w4 g4 L4 o4 q4 hB=>?_
 replace L2:=L2.gr g3
 simp only [p3,p4]
 refine sq_nil ?_
 refine k1 _ _ ?_
 try clear k1 K1
 refine wp_seq_k (fun K5 k5=>?_)
 refine wp_seq_k (fun K6 k6=>?_)
 refine rg [0,1,2,3,4,5] ?_
 replace L2:=L2.gr g4
 refine sw 5 (.agg #[u0,u1,u2,u3]) rfl (rl 71 0 [u0,u1,u2,u3] L2) ?_
 refine se ?_
 have kq8:=g2.kp.trans (g3.kp.trans g4.kp)
 replace ha:=ha.kp kq8
 refine ec 6 (whole_t ha (by omega) wa) ?_
 rintro e7 w7 ⟨rfl,g7⟩
 refine ⟨_,rfl,?_⟩
 replace hB:=hB.trans g7
 simp only [p3,p4]
 refine sv 7 (.bool true) ?_
 replace L3:=L3.gr (g4.trans g7)
 refine sw 8 (.agg #[v0,v1,v2,v3]) rfl (rl 71 0 [v0,v1,v2,v3] L3) ?_
 refine se ?_
 have kq10:=g2.kp.trans (g3.kp.trans (g4.kp.trans g7.kp))
 replace hb:=hb.kp kq10
 refine ec 9 (whole_t hb (by omega) wb) ?_
 rintro e9 w9 ⟨rfl,g9⟩
 refine ⟨_,rfl,?_⟩
 replace hB:=hB.trans g9
 simp only [p3,p4]
 refine sv 10 (.bool true) ?_
 refine sq_nil ?_
 refine k6 _ _ ?_
 try clear k6 K6
 refine wp_cond_true rfl ?_
 refine wp_seq_k (fun K11 k11=>?_)
 refine rg [0,1,2,3,4,5,6] ?_
 refine sv 11 (.pointer (some ⟨b2,0,none⟩)) ?_
 replace L2:=L2.gr (g7.trans g9)
 refine sw 12 (.agg #[u0,u1]) rfl (rl 69 0 [u0,u1] L2) ?_
 refine sv 13 (.pointer (some ⟨b3,0,none⟩)) ?_
 replace L3:=L3.gr g9
 refine sw 14 (.agg #[v0,v1]) rfl (rl 69 0 [v0,v1] L3) ?_
 refine se ?_
 have kq13:=g7.kp.trans g9.kp
 replace ha:=ha.kp kq13
 replace hb:=hb.kp g9.kp
 refine ec 15 (add_e (k+m) ha.num hb.num (by omega) (by omega) (by omega)) ?_
 rintro e12 w12 ⟨⟨x12,y12,rfl,h12⟩,g12⟩
 refine ⟨_,rfl,?_⟩
 replace hB:=hB.trans g12
 simp only [p3,p4]
 refine sv 16 (.agg #[x12,y12,(.bool false),(.slice none 0 0)]) ?_
 refine se ?_
 replace L4:=L4.gr (g7.trans (g9.trans g12))
 refine es 71 0 (.agg #[x12,y12,(.bool false),(.slice none 0 0)]) [x12,y12,(.bool false),(.slice none 0 0)] #[x12,y12,(.bool false),(.slice none 0 0)] L4 hB q4 ⟨h12.one0,h12.one1,rfl,rfl,trivial⟩ fun w14 st14 kp14 L4 hB=>?_
 refine sq_nil ?_
 refine k11 _ _ ?_
 try clear k11 K11
 refine wp_ret ?_
 simp only [Exit.then]
 refine bodyPost_ret (v:=(.agg #[x12,y12,(.bool false),(.slice none 0 0)])) (ret_cell _ _ _ rfl rfl L4 (by kernel_rfl)) rfl ⟨?_,hB⟩
 replace h12:=h12.kp kp14
 exact ⟨_,_,_,_,rfl,by rw [← rat_int wa,← rat_int wb,← Rat.intCast_add];exact IsRat.int h12 (by omega)⟩

set_option maxRecDepth 100000 in
set_option maxHeartbeats 1000000 in
theorem add_tf {k m:Nat} {u0 u1 u2 u3 v0 v1 v2 v3:Value} {a b:Rat} {w:World} (ha:IsRat w k u0 u1 u2 u3 a) (hb:IsRat w m v0 v1 v2 v3 b) (_hk:k+m≤100000) (wa:a.den=1) (wb:b.den≠1):
    Calls Tryz.prog 98 #[(.agg #[u0,u1,u2,u3]),(.agg #[v0,v1,v2,v3])] w fun e w'=>(∃ c0 c1 c2 c3,e=.returned (.agg #[c0,c1,c2,c3])∧IsRat w' (k+m+1) c0 c1 c2 c3 (a+b))∧Gr w w':=by
 have hka:=ha.big
 have hkb:=hb.big
 go_enter Tryz.func98,Tryz.ntmps98
 have hB:=Gr.refl w
 refine wp_seq_k (fun K1 k1=>?_)
 refine rg [0,1,2] ?_
 refine se ?_
 refine eb 71 #[u0,u1,u2,u3] 2 hB fun b2 w2 g2 L2 o2 q2 hB=>?_
 simp only [p3,p4]
 refine se ?_
 refine eb 71 #[v0,v1,v2,v3] 3 hB fun b3 w3 g3 L3 o3 q3 hB=>?_
 simp only [p3,p4]
 refine se ?_
 refine ea 71 #[(.bool false),(.slice none 0 0),(.bool false),(.slice none 0 0)] 4 hB fun b4 w4 g4 L4 o4 q4 hB=>?_
 replace L2:=L2.gr g3
 have ne2_4:=L2.ne o4
 have ne3_4:=L3.ne o4
 simp only [p3,p4]
 refine sq_nil ?_
 refine k1 _ _ ?_
 try clear k1 K1
 refine wp_seq_k (fun K5 k5=>?_)
 refine wp_seq_k (fun K6 k6=>?_)
 refine rg [0,1,2,3,4,5] ?_
 replace L2:=L2.gr g4
 refine sw 5 (.agg #[u0,u1,u2,u3]) rfl (rl 71 0 [u0,u1,u2,u3] L2) ?_
 refine se ?_
 have kq8:=g2.kp.trans (g3.kp.trans g4.kp)
 replace ha:=ha.kp kq8
 refine ec 6 (whole_t ha (by omega) wa) ?_
 rintro e7 w7 ⟨rfl,g7⟩
 refine ⟨_,rfl,?_⟩
 replace hB:=hB.trans g7
 simp only [p3,p4]
 refine sv 7 (.bool true) ?_
 replace L3:=L3.gr (g4.trans g7)
 refine sw 8 (.agg #[v0,v1,v2,v3]) rfl (rl 71 0 [v0,v1,v2,v3] L3) ?_
 refine se ?_
 have kq10:=g2.kp.trans (g3.kp.trans (g4.kp.trans g7.kp))
 replace hb:=hb.kp kq10
 refine ec 9 (whole_f hb (by omega) wb) ?_
 rintro e9 w9 ⟨rfl,g9⟩
 refine ⟨_,rfl,?_⟩
 replace hB:=hB.trans g9
 simp only [p3,p4]
 refine sv 10 (.bool false) ?_
 refine sq_nil ?_
 refine k6 _ _ ?_
 try clear k6 K6
 refine wp_cond_false rfl ?_
 refine wp_skip ?_
 refine k5 _ _ ?_
 try clear k5 K5
 refine wp_seq_k (fun K11 k11=>?_)
 have gd40:=Gr.drew w9
 replace hB:=hB.trans gd40
 replace L2:=L2.gr (g7.trans (g9.trans gd40))
 replace L3:=L3.gr (g9.trans gd40)
 refine wp_region_ord (fun w'=>Lc w' b2 #[u0,u1,u2,u3] 71∧Lc w' b3 #[v0,v1,v2,v3] 71) [(true,0),(true,1),(true,2),(true,5),(true,6),(true,7),(true,11),(true,13),(false,3),(false,4),(false,8),(false,9),(false,10),(false,12),(false,14),(false,15),(false,16),(false,17)] (by kernel_rfl) (by kernel_rfl) (by kernel_rfl) (by decide) (fun _ _ _ _ _ h=>h) ⟨L2,L3⟩ ?_
 refine ov 17 (.pointer (some ⟨b2,0,none⟩)) ?_
 refine ow 18 (.agg #[u0,u1]) rfl (fun w' hS=>(rl 69 0 [u0,u1] hS.1)) ?_
 refine ow 19 (.agg #[v0,v1,v2,v3]) rfl (fun w' hS=>(rl 71 0 [v0,v1,v2,v3] hS.2)) ?_
 refine ov 22 (.pointer (some ⟨b3,0,none⟩)) ?_
 refine ow 23 (.agg #[v0,v1]) rfl (fun w' hS=>(rl 69 0 [v0,v1] hS.2)) ?_
 refine ow 24 (.agg #[u0,u1,u2,u3]) rfl (fun w' hS=>(rl 71 0 [u0,u1,u2,u3] hS.1)) ?_
 refine ow 28 (.agg #[u0,u1,u2,u3]) rfl (fun w' hS=>(rl 71 0 [u0,u1,u2,u3] hS.1)) ?_
 refine ow 30 (.agg #[v0,v1,v2,v3]) rfl (fun w' hS=>(rl 71 0 [v0,v1,v2,v3] hS.2)) ?_
 refine oe ?_
 have kq43:=g9.kp.trans gd40.kp
 replace hb:=hb.kp kq43
 refine ec 20 (den_i hb) ?_
 rintro e42 w42 ⟨⟨x42,y42,rfl,h42⟩,g42⟩
 refine ⟨_,rfl,?_⟩
 replace hB:=hB.trans g42
 replace L2:=L2.gr g42
 replace L3:=L3.gr g42
 refine ⟨⟨L2,L3⟩,?_⟩
 simp only [p3,p4]
 refine oe ?_
 have kq46:=g7.kp.trans (g9.kp.trans (gd40.kp.trans g42.kp))
 replace ha:=ha.kp kq46
 refine ec 21 (mul_i ha.num h42 (by omega)) ?_
 rintro e45 w45 ⟨⟨x45,y45,rfl,h45⟩,g45⟩
 refine ⟨_,rfl,?_⟩
 replace hB:=hB.trans g45
 replace L2:=L2.gr g45
 replace L3:=L3.gr g45
 refine ⟨⟨L2,L3⟩,?_⟩
 simp only [p3,p4]
 refine oe ?_
 replace ha:=ha.kp g45.kp
 refine ec 25 (den_i ha) ?_
 rintro e48 w48 ⟨⟨x48,y48,rfl,h48⟩,g48⟩
 refine ⟨_,rfl,?_⟩
 replace hB:=hB.trans g48
 replace L2:=L2.gr g48
 replace L3:=L3.gr g48
 refine ⟨⟨L2,L3⟩,?_⟩
 simp only [p3,p4]
 refine oe ?_
 have kq51:=g42.kp.trans (g45.kp.trans g48.kp)
 replace hb:=hb.kp kq51
 refine ec 26 (mul_i hb.num h48 (by omega)) ?_
 rintro e50 w50 ⟨⟨x50,y50,rfl,h50⟩,g50⟩
 refine ⟨_,rfl,?_⟩
 replace hB:=hB.trans g50
 replace L2:=L2.gr g50
 replace L3:=L3.gr g50
 refine ⟨⟨L2,L3⟩,?_⟩
 simp only [p3,p4]
 refine oe ?_
 have kq54:=g48.kp.trans g50.kp
 replace h45:=h45.kp kq54
 refine ec 27 (add_e (k+m) h45 h50 (by omega) (by omega) (by omega)) ?_
 rintro e53 w53 ⟨⟨x53,y53,rfl,h53⟩,g53⟩
 refine ⟨_,rfl,?_⟩
 replace hB:=hB.trans g53
 replace L2:=L2.gr g53
 replace L3:=L3.gr g53
 refine ⟨⟨L2,L3⟩,?_⟩
 simp only [p3,p4]
 refine oe ?_
 have kq57:=g48.kp.trans (g50.kp.trans g53.kp)
 replace ha:=ha.kp kq57
 refine ec 29 (den_i ha) ?_
 rintro e56 w56 ⟨⟨x56,y56,rfl,h56⟩,g56⟩
 refine ⟨_,rfl,?_⟩
 replace hB:=hB.trans g56
 replace L2:=L2.gr g56
 replace L3:=L3.gr g56
 refine ⟨⟨L2,L3⟩,?_⟩
 simp only [p3,p4]
 refine oe ?_
 have kq60:=g50.kp.trans (g53.kp.trans g56.kp)
 replace hb:=hb.kp kq60
 refine ec 31 (den_i hb) ?_
 rintro e59 w59 ⟨⟨x59,y59,rfl,h59⟩,g59⟩
 refine ⟨_,rfl,?_⟩
 replace hB:=hB.trans g59
 replace L2:=L2.gr g59
 replace L3:=L3.gr g59
 refine ⟨⟨L2,L3⟩,?_⟩
 simp only [p3,p4]
 refine oe ?_
 replace h56:=h56.kp g59.kp
 refine ec 32 (mul_i h56 h59 (by omega)) ?_
 rintro e62 w62 ⟨⟨x62,y62,rfl,h62⟩,g62⟩
 refine ⟨_,rfl,?_⟩
 replace hB:=hB.trans g62
 replace L2:=L2.gr g62
 replace L3:=L3.gr g62
 refine ⟨⟨L2,L3⟩,?_⟩
 simp only [p3,p4]
 refine oe ?_
 have kq65:=g56.kp.trans (g59.kp.trans g62.kp)
 replace h53:=h53.kp kq65
 refine ec 33 (reduced_i ((k+m+1)) h53 h62 (Int.mul_pos (Int.natCast_pos.2 a.den_pos) (Int.natCast_pos.2 b.den_pos)) (by omega) (by omega) (by omega) (by omega)) ?_
 rintro e64 w64 ⟨⟨p64,q64,r64,s64,rfl,h64⟩,g64⟩
 refine ⟨_,rfl,?_⟩
 replace hB:=hB.trans g64
 replace L2:=L2.gr g64
 replace L3:=L3.gr g64
 refine ⟨⟨L2,L3⟩,?_⟩
 simp only [p3,p4]
 refine oe ?_
 replace L4:=L4.gr (g7.trans (g9.trans (gd40.trans (g42.trans (g45.trans (g48.trans (g50.trans (g53.trans (g56.trans (g59.trans (g62.trans g64)))))))))))
 refine es 71 0 (.agg #[p64,q64,r64,s64]) [p64,q64,r64,s64] #[p64,q64,r64,s64] L4 hB q4 ⟨h64.one0,h64.one1,h64.one2,h64.one3,trivial⟩ fun w67 st67 kp67 L4 hB=>?_
 replace L2:=st67.lc L2 ne2_4
 replace L3:=st67.lc L3 ne3_4
 refine ⟨⟨L2,L3⟩,?_⟩
 refine ord_nil ?_
 refine k11 _ _ ?_
 try clear k11 K11
 refine wp_ret ?_
 refine bodyPost_ret (v:=(.agg #[p64,q64,r64,s64])) (ret_cell _ _ _ rfl rfl L4 (by kernel_rfl)) rfl ⟨?_,hB⟩
 replace h64:=h64.kp kp67
 exact ⟨_,_,_,_,rfl,by rw [← rat_add];exact h64⟩

set_option maxRecDepth 100000 in
set_option maxHeartbeats 1000000 in
theorem add_f {k m:Nat} {u0 u1 u2 u3 v0 v1 v2 v3:Value} {a b:Rat} {w:World} (ha:IsRat w k u0 u1 u2 u3 a) (hb:IsRat w m v0 v1 v2 v3 b) (_hk:k+m≤100000) (wa:a.den≠1):
    Calls Tryz.prog 98 #[(.agg #[u0,u1,u2,u3]),(.agg #[v0,v1,v2,v3])] w fun e w'=>(∃ c0 c1 c2 c3,e=.returned (.agg #[c0,c1,c2,c3])∧IsRat w' (k+m+1) c0 c1 c2 c3 (a+b))∧Gr w w':=by
 have hka:=ha.big
 have hkb:=hb.big
 go_enter Tryz.func98,Tryz.ntmps98
 have hB:=Gr.refl w
 refine wp_seq_k (fun K1 k1=>?_)
 refine rg [0,1,2] ?_
 refine se ?_
 refine eb 71 #[u0,u1,u2,u3] 2 hB fun b2 w2 g2 L2 o2 q2 hB=>?_
 simp only [p3,p4]
 refine se ?_
 refine eb 71 #[v0,v1,v2,v3] 3 hB fun b3 w3 g3 L3 o3 q3 hB=>?_
 simp only [p3,p4]
 refine se ?_
 refine ea 71 #[(.bool false),(.slice none 0 0),(.bool false),(.slice none 0 0)] 4 hB fun b4 w4 g4 L4 o4 q4 hB=>?_
 replace L2:=L2.gr g3
 have ne2_4:=L2.ne o4
 have ne3_4:=L3.ne o4
 simp only [p3,p4]
 refine sq_nil ?_
 refine k1 _ _ ?_
 try clear k1 K1
 refine wp_seq_k (fun K5 k5=>?_)
 refine wp_seq_k (fun K6 k6=>?_)
 refine rg [0,1,2,3,4,5] ?_
 replace L2:=L2.gr g4
 refine sw 5 (.agg #[u0,u1,u2,u3]) rfl (rl 71 0 [u0,u1,u2,u3] L2) ?_
 refine se ?_
 have kq8:=g2.kp.trans (g3.kp.trans g4.kp)
 replace ha:=ha.kp kq8
 refine ec 6 (whole_f ha (by omega) wa) ?_
 rintro e7 w7 ⟨rfl,g7⟩
 refine ⟨_,rfl,?_⟩
 replace hB:=hB.trans g7
 simp only [p3,p4]
 refine sv 7 (.bool false) ?_
 refine ss 8 ?_
 refine ss 9 ?_
 refine sv 10 (.bool false) ?_
 refine sq_nil ?_
 refine k6 _ _ ?_
 try clear k6 K6
 refine wp_cond_false rfl ?_
 refine wp_skip ?_
 refine k5 _ _ ?_
 try clear k5 K5
 refine wp_seq_k (fun K9 k9=>?_)
 have gd38:=Gr.drew w7
 replace hB:=hB.trans gd38
 replace L2:=L2.gr (g7.trans gd38)
 replace L3:=L3.gr (g4.trans (g7.trans gd38))
 refine wp_region_ord (fun w'=>Lc w' b2 #[u0,u1,u2,u3] 71∧Lc w' b3 #[v0,v1,v2,v3] 71) [(true,0),(true,1),(true,2),(true,5),(true,6),(true,7),(true,11),(true,13),(false,3),(false,4),(false,8),(false,9),(false,10),(false,12),(false,14),(false,15),(false,16),(false,17)] (by kernel_rfl) (by kernel_rfl) (by kernel_rfl) (by decide) (fun _ _ _ _ _ h=>h) ⟨L2,L3⟩ ?_
 refine ov 17 (.pointer (some ⟨b2,0,none⟩)) ?_
 refine ow 18 (.agg #[u0,u1]) rfl (fun w' hS=>(rl 69 0 [u0,u1] hS.1)) ?_
 refine ow 19 (.agg #[v0,v1,v2,v3]) rfl (fun w' hS=>(rl 71 0 [v0,v1,v2,v3] hS.2)) ?_
 refine ov 22 (.pointer (some ⟨b3,0,none⟩)) ?_
 refine ow 23 (.agg #[v0,v1]) rfl (fun w' hS=>(rl 69 0 [v0,v1] hS.2)) ?_
 refine ow 24 (.agg #[u0,u1,u2,u3]) rfl (fun w' hS=>(rl 71 0 [u0,u1,u2,u3] hS.1)) ?_
 refine ow 28 (.agg #[u0,u1,u2,u3]) rfl (fun w' hS=>(rl 71 0 [u0,u1,u2,u3] hS.1)) ?_
 refine ow 30 (.agg #[v0,v1,v2,v3]) rfl (fun w' hS=>(rl 71 0 [v0,v1,v2,v3] hS.2)) ?_
 refine oe ?_
 have kq41:=g2.kp.trans (g3.kp.trans (g4.kp.trans (g7.kp.trans gd38.kp)))
 replace hb:=hb.kp kq41
 refine ec 20 (den_i hb) ?_
 rintro e40 w40 ⟨⟨x40,y40,rfl,h40⟩,g40⟩
 refine ⟨_,rfl,?_⟩
 replace hB:=hB.trans g40
 replace L2:=L2.gr g40
 replace L3:=L3.gr g40
 refine ⟨⟨L2,L3⟩,?_⟩
 simp only [p3,p4]
 refine oe ?_
 have kq44:=g7.kp.trans (gd38.kp.trans g40.kp)
 replace ha:=ha.kp kq44
 refine ec 21 (mul_i ha.num h40 (by omega)) ?_
 rintro e43 w43 ⟨⟨x43,y43,rfl,h43⟩,g43⟩
 refine ⟨_,rfl,?_⟩
 replace hB:=hB.trans g43
 replace L2:=L2.gr g43
 replace L3:=L3.gr g43
 refine ⟨⟨L2,L3⟩,?_⟩
 simp only [p3,p4]
 refine oe ?_
 replace ha:=ha.kp g43.kp
 refine ec 25 (den_i ha) ?_
 rintro e46 w46 ⟨⟨x46,y46,rfl,h46⟩,g46⟩
 refine ⟨_,rfl,?_⟩
 replace hB:=hB.trans g46
 replace L2:=L2.gr g46
 replace L3:=L3.gr g46
 refine ⟨⟨L2,L3⟩,?_⟩
 simp only [p3,p4]
 refine oe ?_
 have kq49:=g40.kp.trans (g43.kp.trans g46.kp)
 replace hb:=hb.kp kq49
 refine ec 26 (mul_i hb.num h46 (by omega)) ?_
 rintro e48 w48 ⟨⟨x48,y48,rfl,h48⟩,g48⟩
 refine ⟨_,rfl,?_⟩
 replace hB:=hB.trans g48
 replace L2:=L2.gr g48
 replace L3:=L3.gr g48
 refine ⟨⟨L2,L3⟩,?_⟩
 simp only [p3,p4]
 refine oe ?_
 have kq52:=g46.kp.trans g48.kp
 replace h43:=h43.kp kq52
 refine ec 27 (add_e (k+m) h43 h48 (by omega) (by omega) (by omega)) ?_
 rintro e51 w51 ⟨⟨x51,y51,rfl,h51⟩,g51⟩
 refine ⟨_,rfl,?_⟩
 replace hB:=hB.trans g51
 replace L2:=L2.gr g51
 replace L3:=L3.gr g51
 refine ⟨⟨L2,L3⟩,?_⟩
 simp only [p3,p4]
 refine oe ?_
 have kq55:=g46.kp.trans (g48.kp.trans g51.kp)
 replace ha:=ha.kp kq55
 refine ec 29 (den_i ha) ?_
 rintro e54 w54 ⟨⟨x54,y54,rfl,h54⟩,g54⟩
 refine ⟨_,rfl,?_⟩
 replace hB:=hB.trans g54
 replace L2:=L2.gr g54
 replace L3:=L3.gr g54
 refine ⟨⟨L2,L3⟩,?_⟩
 simp only [p3,p4]
 refine oe ?_
 have kq58:=g48.kp.trans (g51.kp.trans g54.kp)
 replace hb:=hb.kp kq58
 refine ec 31 (den_i hb) ?_
 rintro e57 w57 ⟨⟨x57,y57,rfl,h57⟩,g57⟩
 refine ⟨_,rfl,?_⟩
 replace hB:=hB.trans g57
 replace L2:=L2.gr g57
 replace L3:=L3.gr g57
 refine ⟨⟨L2,L3⟩,?_⟩
 simp only [p3,p4]
 refine oe ?_
 replace h54:=h54.kp g57.kp
 refine ec 32 (mul_i h54 h57 (by omega)) ?_
 rintro e60 w60 ⟨⟨x60,y60,rfl,h60⟩,g60⟩
 refine ⟨_,rfl,?_⟩
 replace hB:=hB.trans g60
 replace L2:=L2.gr g60
 replace L3:=L3.gr g60
 refine ⟨⟨L2,L3⟩,?_⟩
 simp only [p3,p4]
 refine oe ?_
 have kq63:=g54.kp.trans (g57.kp.trans g60.kp)
 replace h51:=h51.kp kq63
 refine ec 33 (reduced_i ((k+m+1)) h51 h60 (Int.mul_pos (Int.natCast_pos.2 a.den_pos) (Int.natCast_pos.2 b.den_pos)) (by omega) (by omega) (by omega) (by omega)) ?_
 rintro e62 w62 ⟨⟨p62,q62,r62,s62,rfl,h62⟩,g62⟩
 refine ⟨_,rfl,?_⟩
 replace hB:=hB.trans g62
 replace L2:=L2.gr g62
 replace L3:=L3.gr g62
 refine ⟨⟨L2,L3⟩,?_⟩
 simp only [p3,p4]
 refine oe ?_
 replace L4:=L4.gr (g7.trans (gd38.trans (g40.trans (g43.trans (g46.trans (g48.trans (g51.trans (g54.trans (g57.trans (g60.trans g62))))))))))
 refine es 71 0 (.agg #[p62,q62,r62,s62]) [p62,q62,r62,s62] #[p62,q62,r62,s62] L4 hB q4 ⟨h62.one0,h62.one1,h62.one2,h62.one3,trivial⟩ fun w65 st65 kp65 L4 hB=>?_
 replace L2:=st65.lc L2 ne2_4
 replace L3:=st65.lc L3 ne3_4
 refine ⟨⟨L2,L3⟩,?_⟩
 refine ord_nil ?_
 refine k9 _ _ ?_
 try clear k9 K9
 refine wp_ret ?_
 refine bodyPost_ret (v:=(.agg #[p62,q62,r62,s62])) (ret_cell _ _ _ rfl rfl L4 (by kernel_rfl)) rfl ⟨?_,hB⟩
 replace h62:=h62.kp kp65
 exact ⟨_,_,_,_,rfl,by rw [← rat_add];exact h62⟩

theorem add_r {k m:Nat} {u0 u1 u2 u3 v0 v1 v2 v3:Value} {a b:Rat} {w:World} (ha:IsRat w k u0 u1 u2 u3 a) (hb:IsRat w m v0 v1 v2 v3 b) (hk:k+m≤100000):
    Calls Tryz.prog 98 #[.agg #[u0,u1,u2,u3],.agg #[v0,v1,v2,v3]] w fun e w'=>(∃ c0 c1 c2 c3,e=.returned (.agg #[c0,c1,c2,c3])∧IsRat w' (k+m+1) c0 c1 c2 c3 (a+b))∧Gr w w':=by
  by_cases wa:a.den=1
  · by_cases wb:b.den=1
    · exact add_tt ha hb hk wa wb
    · exact add_tf ha hb hk wa wb
  · exact add_f ha hb hk wa

set_option maxRecDepth 100000 in
set_option maxHeartbeats 1000000 in
theorem mul_tt {k m:Nat} {u0 u1 u2 u3 v0 v1 v2 v3:Value} {a b:Rat} {w:World} (ha:IsRat w k u0 u1 u2 u3 a) (hb:IsRat w m v0 v1 v2 v3 b) (_hk:k+m≤100000) (wa:a.den=1) (wb:b.den=1):
    Calls Tryz.prog 48 #[(.agg #[u0,u1,u2,u3]),(.agg #[v0,v1,v2,v3])] w fun e w'=>(∃ c0 c1 c2 c3,e=.returned (.agg #[c0,c1,c2,c3])∧IsRat w' (k+m) c0 c1 c2 c3 (a*b))∧Gr w w':=by
 have hka:=ha.big
 have hkb:=hb.big
 go_enter Tryz.func48,Tryz.ntmps48
 have hB:=Gr.refl w
 refine wp_seq_k (fun K1 k1=>?_)
 refine rg [0,1,2] ?_
 refine se ?_
 refine eb 71 #[u0,u1,u2,u3] 2 hB fun b2 w2 g2 L2 o2 q2 hB=>?_
 simp only [p3,p4]
 refine se ?_
 refine eb 71 #[v0,v1,v2,v3] 3 hB fun b3 w3 g3 L3 o3 q3 hB=>?_
 simp only [p3,p4]
 refine se ?_
 refine ea 71 #[(.bool false),(.slice none 0 0),(.bool false),(.slice none 0 0)] 4 hB fun b4 w4 g4 L4 o4 q4 hB=>?_
 replace L2:=L2.gr g3
 simp only [p3,p4]
 refine sq_nil ?_
 refine k1 _ _ ?_
 try clear k1 K1
 refine wp_seq_k (fun K5 k5=>?_)
 refine wp_seq_k (fun K6 k6=>?_)
 refine rg [0,1,2,3,4,5] ?_
 replace L2:=L2.gr g4
 refine sw 5 (.agg #[u0,u1,u2,u3]) rfl (rl 71 0 [u0,u1,u2,u3] L2) ?_
 refine se ?_
 have kq8:=g2.kp.trans (g3.kp.trans g4.kp)
 replace ha:=ha.kp kq8
 refine ec 6 (whole_t ha (by omega) wa) ?_
 rintro e7 w7 ⟨rfl,g7⟩
 refine ⟨_,rfl,?_⟩
 replace hB:=hB.trans g7
 simp only [p3,p4]
 refine sv 7 (.bool true) ?_
 replace L3:=L3.gr (g4.trans g7)
 refine sw 8 (.agg #[v0,v1,v2,v3]) rfl (rl 71 0 [v0,v1,v2,v3] L3) ?_
 refine se ?_
 have kq10:=g2.kp.trans (g3.kp.trans (g4.kp.trans g7.kp))
 replace hb:=hb.kp kq10
 refine ec 9 (whole_t hb (by omega) wb) ?_
 rintro e9 w9 ⟨rfl,g9⟩
 refine ⟨_,rfl,?_⟩
 replace hB:=hB.trans g9
 simp only [p3,p4]
 refine sv 10 (.bool true) ?_
 refine sq_nil ?_
 refine k6 _ _ ?_
 try clear k6 K6
 refine wp_cond_true rfl ?_
 refine wp_seq_k (fun K11 k11=>?_)
 refine rg [0,1,2,3,4,5,6] ?_
 refine sv 11 (.pointer (some ⟨b2,0,none⟩)) ?_
 replace L2:=L2.gr (g7.trans g9)
 refine sw 12 (.agg #[u0,u1]) rfl (rl 69 0 [u0,u1] L2) ?_
 refine sv 13 (.pointer (some ⟨b3,0,none⟩)) ?_
 replace L3:=L3.gr g9
 refine sw 14 (.agg #[v0,v1]) rfl (rl 69 0 [v0,v1] L3) ?_
 refine se ?_
 have kq13:=g7.kp.trans g9.kp
 replace ha:=ha.kp kq13
 replace hb:=hb.kp g9.kp
 refine ec 15 (mul_i ha.num hb.num (by omega)) ?_
 rintro e12 w12 ⟨⟨x12,y12,rfl,h12⟩,g12⟩
 refine ⟨_,rfl,?_⟩
 replace hB:=hB.trans g12
 simp only [p3,p4]
 refine sv 16 (.agg #[x12,y12,(.bool false),(.slice none 0 0)]) ?_
 refine se ?_
 replace L4:=L4.gr (g7.trans (g9.trans g12))
 refine es 71 0 (.agg #[x12,y12,(.bool false),(.slice none 0 0)]) [x12,y12,(.bool false),(.slice none 0 0)] #[x12,y12,(.bool false),(.slice none 0 0)] L4 hB q4 ⟨h12.one0,h12.one1,rfl,rfl,trivial⟩ fun w14 st14 kp14 L4 hB=>?_
 refine sq_nil ?_
 refine k11 _ _ ?_
 try clear k11 K11
 refine wp_ret ?_
 simp only [Exit.then]
 refine bodyPost_ret (v:=(.agg #[x12,y12,(.bool false),(.slice none 0 0)])) (ret_cell _ _ _ rfl rfl L4 (by kernel_rfl)) rfl ⟨?_,hB⟩
 replace h12:=h12.kp kp14
 exact ⟨_,_,_,_,rfl,by rw [← rat_int wa,← rat_int wb,← Rat.intCast_mul];exact IsRat.int h12 (by omega)⟩

set_option maxRecDepth 100000 in
set_option maxHeartbeats 1000000 in
theorem mul_tf {k m:Nat} {u0 u1 u2 u3 v0 v1 v2 v3:Value} {a b:Rat} {w:World} (ha:IsRat w k u0 u1 u2 u3 a) (hb:IsRat w m v0 v1 v2 v3 b) (_hk:k+m≤100000) (wa:a.den=1) (wb:b.den≠1):
    Calls Tryz.prog 48 #[(.agg #[u0,u1,u2,u3]),(.agg #[v0,v1,v2,v3])] w fun e w'=>(∃ c0 c1 c2 c3,e=.returned (.agg #[c0,c1,c2,c3])∧IsRat w' (k+m) c0 c1 c2 c3 (a*b))∧Gr w w':=by
 have hka:=ha.big
 have hkb:=hb.big
 go_enter Tryz.func48,Tryz.ntmps48
 have hB:=Gr.refl w
 refine wp_seq_k (fun K1 k1=>?_)
 refine rg [0,1,2] ?_
 refine se ?_
 refine eb 71 #[u0,u1,u2,u3] 2 hB fun b2 w2 g2 L2 o2 q2 hB=>?_
 simp only [p3,p4]
 refine se ?_
 refine eb 71 #[v0,v1,v2,v3] 3 hB fun b3 w3 g3 L3 o3 q3 hB=>?_
 simp only [p3,p4]
 refine se ?_
 refine ea 71 #[(.bool false),(.slice none 0 0),(.bool false),(.slice none 0 0)] 4 hB fun b4 w4 g4 L4 o4 q4 hB=>?_
 replace L2:=L2.gr g3
 have ne2_4:=L2.ne o4
 have ne3_4:=L3.ne o4
 simp only [p3,p4]
 refine sq_nil ?_
 refine k1 _ _ ?_
 try clear k1 K1
 refine wp_seq_k (fun K5 k5=>?_)
 refine wp_seq_k (fun K6 k6=>?_)
 refine rg [0,1,2,3,4,5] ?_
 replace L2:=L2.gr g4
 refine sw 5 (.agg #[u0,u1,u2,u3]) rfl (rl 71 0 [u0,u1,u2,u3] L2) ?_
 refine se ?_
 have kq8:=g2.kp.trans (g3.kp.trans g4.kp)
 replace ha:=ha.kp kq8
 refine ec 6 (whole_t ha (by omega) wa) ?_
 rintro e7 w7 ⟨rfl,g7⟩
 refine ⟨_,rfl,?_⟩
 replace hB:=hB.trans g7
 simp only [p3,p4]
 refine sv 7 (.bool true) ?_
 replace L3:=L3.gr (g4.trans g7)
 refine sw 8 (.agg #[v0,v1,v2,v3]) rfl (rl 71 0 [v0,v1,v2,v3] L3) ?_
 refine se ?_
 have kq10:=g2.kp.trans (g3.kp.trans (g4.kp.trans g7.kp))
 replace hb:=hb.kp kq10
 refine ec 9 (whole_f hb (by omega) wb) ?_
 rintro e9 w9 ⟨rfl,g9⟩
 refine ⟨_,rfl,?_⟩
 replace hB:=hB.trans g9
 simp only [p3,p4]
 refine sv 10 (.bool false) ?_
 refine sq_nil ?_
 refine k6 _ _ ?_
 try clear k6 K6
 refine wp_cond_false rfl ?_
 refine wp_skip ?_
 refine k5 _ _ ?_
 try clear k5 K5
 refine wp_seq_k (fun K11 k11=>?_)
 have gd29:=Gr.drew w9
 replace hB:=hB.trans gd29
 replace L2:=L2.gr (g7.trans (g9.trans gd29))
 replace L3:=L3.gr (g9.trans gd29)
 refine wp_region_ord (fun w'=>Lc w' b2 #[u0,u1,u2,u3] 71∧Lc w' b3 #[v0,v1,v2,v3] 71) [(true,0),(true,1),(true,2),(true,3),(true,5),(true,7),(false,4),(false,6),(false,8),(false,9),(false,10),(false,11)] (by kernel_rfl) (by kernel_rfl) (by kernel_rfl) (by decide) (fun _ _ _ _ _ h=>h) ⟨L2,L3⟩ ?_
 refine ov 17 (.pointer (some ⟨b2,0,none⟩)) ?_
 refine ow 18 (.agg #[u0,u1]) rfl (fun w' hS=>(rl 69 0 [u0,u1] hS.1)) ?_
 refine ov 19 (.pointer (some ⟨b3,0,none⟩)) ?_
 refine ow 20 (.agg #[v0,v1]) rfl (fun w' hS=>(rl 69 0 [v0,v1] hS.2)) ?_
 refine ow 22 (.agg #[u0,u1,u2,u3]) rfl (fun w' hS=>(rl 71 0 [u0,u1,u2,u3] hS.1)) ?_
 refine ow 24 (.agg #[v0,v1,v2,v3]) rfl (fun w' hS=>(rl 71 0 [v0,v1,v2,v3] hS.2)) ?_
 refine oe ?_
 have kq32:=g7.kp.trans (g9.kp.trans gd29.kp)
 replace ha:=ha.kp kq32
 have kq33:=g9.kp.trans gd29.kp
 replace hb:=hb.kp kq33
 refine ec 21 (mul_i ha.num hb.num (by omega)) ?_
 rintro e31 w31 ⟨⟨x31,y31,rfl,h31⟩,g31⟩
 refine ⟨_,rfl,?_⟩
 replace hB:=hB.trans g31
 replace L2:=L2.gr g31
 replace L3:=L3.gr g31
 refine ⟨⟨L2,L3⟩,?_⟩
 simp only [p3,p4]
 refine oe ?_
 replace ha:=ha.kp g31.kp
 refine ec 23 (den_i ha) ?_
 rintro e35 w35 ⟨⟨x35,y35,rfl,h35⟩,g35⟩
 refine ⟨_,rfl,?_⟩
 replace hB:=hB.trans g35
 replace L2:=L2.gr g35
 replace L3:=L3.gr g35
 refine ⟨⟨L2,L3⟩,?_⟩
 simp only [p3,p4]
 refine oe ?_
 have kq38:=g31.kp.trans g35.kp
 replace hb:=hb.kp kq38
 refine ec 25 (den_i hb) ?_
 rintro e37 w37 ⟨⟨x37,y37,rfl,h37⟩,g37⟩
 refine ⟨_,rfl,?_⟩
 replace hB:=hB.trans g37
 replace L2:=L2.gr g37
 replace L3:=L3.gr g37
 refine ⟨⟨L2,L3⟩,?_⟩
 simp only [p3,p4]
 refine oe ?_
 replace h35:=h35.kp g37.kp
 refine ec 26 (mul_i h35 h37 (by omega)) ?_
 rintro e40 w40 ⟨⟨x40,y40,rfl,h40⟩,g40⟩
 refine ⟨_,rfl,?_⟩
 replace hB:=hB.trans g40
 replace L2:=L2.gr g40
 replace L3:=L3.gr g40
 refine ⟨⟨L2,L3⟩,?_⟩
 simp only [p3,p4]
 refine oe ?_
 have kq43:=g35.kp.trans (g37.kp.trans g40.kp)
 replace h31:=h31.kp kq43
 refine ec 27 (reduced_i ((k+m)) h31 h40 (Int.mul_pos (Int.natCast_pos.2 a.den_pos) (Int.natCast_pos.2 b.den_pos)) (by omega) (by omega) (by omega) (by omega)) ?_
 rintro e42 w42 ⟨⟨p42,q42,r42,s42,rfl,h42⟩,g42⟩
 refine ⟨_,rfl,?_⟩
 replace hB:=hB.trans g42
 replace L2:=L2.gr g42
 replace L3:=L3.gr g42
 refine ⟨⟨L2,L3⟩,?_⟩
 simp only [p3,p4]
 refine oe ?_
 replace L4:=L4.gr (g7.trans (g9.trans (gd29.trans (g31.trans (g35.trans (g37.trans (g40.trans g42)))))))
 refine es 71 0 (.agg #[p42,q42,r42,s42]) [p42,q42,r42,s42] #[p42,q42,r42,s42] L4 hB q4 ⟨h42.one0,h42.one1,h42.one2,h42.one3,trivial⟩ fun w45 st45 kp45 L4 hB=>?_
 replace L2:=st45.lc L2 ne2_4
 replace L3:=st45.lc L3 ne3_4
 refine ⟨⟨L2,L3⟩,?_⟩
 refine ord_nil ?_
 refine k11 _ _ ?_
 try clear k11 K11
 refine wp_ret ?_
 refine bodyPost_ret (v:=(.agg #[p42,q42,r42,s42])) (ret_cell _ _ _ rfl rfl L4 (by kernel_rfl)) rfl ⟨?_,hB⟩
 replace h42:=h42.kp kp45
 exact ⟨_,_,_,_,rfl,by rw [← rat_mul];exact h42⟩

set_option maxRecDepth 100000 in
set_option maxHeartbeats 1000000 in
theorem mul_f {k m:Nat} {u0 u1 u2 u3 v0 v1 v2 v3:Value} {a b:Rat} {w:World} (ha:IsRat w k u0 u1 u2 u3 a) (hb:IsRat w m v0 v1 v2 v3 b) (_hk:k+m≤100000) (wa:a.den≠1):
    Calls Tryz.prog 48 #[(.agg #[u0,u1,u2,u3]),(.agg #[v0,v1,v2,v3])] w fun e w'=>(∃ c0 c1 c2 c3,e=.returned (.agg #[c0,c1,c2,c3])∧IsRat w' (k+m) c0 c1 c2 c3 (a*b))∧Gr w w':=by
 have hka:=ha.big
 have hkb:=hb.big
 go_enter Tryz.func48,Tryz.ntmps48
 have hB:=Gr.refl w
 refine wp_seq_k (fun K1 k1=>?_)
 refine rg [0,1,2] ?_
 refine se ?_
 refine eb 71 #[u0,u1,u2,u3] 2 hB fun b2 w2 g2 L2 o2 q2 hB=>?_
 simp only [p3,p4]
 refine se ?_
 refine eb 71 #[v0,v1,v2,v3] 3 hB fun b3 w3 g3 L3 o3 q3 hB=>?_
 simp only [p3,p4]
 refine se ?_
 refine ea 71 #[(.bool false),(.slice none 0 0),(.bool false),(.slice none 0 0)] 4 hB fun b4 w4 g4 L4 o4 q4 hB=>?_
 replace L2:=L2.gr g3
 have ne2_4:=L2.ne o4
 have ne3_4:=L3.ne o4
 simp only [p3,p4]
 refine sq_nil ?_
 refine k1 _ _ ?_
 try clear k1 K1
 refine wp_seq_k (fun K5 k5=>?_)
 refine wp_seq_k (fun K6 k6=>?_)
 refine rg [0,1,2,3,4,5] ?_
 replace L2:=L2.gr g4
 refine sw 5 (.agg #[u0,u1,u2,u3]) rfl (rl 71 0 [u0,u1,u2,u3] L2) ?_
 refine se ?_
 have kq8:=g2.kp.trans (g3.kp.trans g4.kp)
 replace ha:=ha.kp kq8
 refine ec 6 (whole_f ha (by omega) wa) ?_
 rintro e7 w7 ⟨rfl,g7⟩
 refine ⟨_,rfl,?_⟩
 replace hB:=hB.trans g7
 simp only [p3,p4]
 refine sv 7 (.bool false) ?_
 refine ss 8 ?_
 refine ss 9 ?_
 refine sv 10 (.bool false) ?_
 refine sq_nil ?_
 refine k6 _ _ ?_
 try clear k6 K6
 refine wp_cond_false rfl ?_
 refine wp_skip ?_
 refine k5 _ _ ?_
 try clear k5 K5
 refine wp_seq_k (fun K9 k9=>?_)
 have gd27:=Gr.drew w7
 replace hB:=hB.trans gd27
 replace L2:=L2.gr (g7.trans gd27)
 replace L3:=L3.gr (g4.trans (g7.trans gd27))
 refine wp_region_ord (fun w'=>Lc w' b2 #[u0,u1,u2,u3] 71∧Lc w' b3 #[v0,v1,v2,v3] 71) [(true,0),(true,1),(true,2),(true,3),(true,5),(true,7),(false,4),(false,6),(false,8),(false,9),(false,10),(false,11)] (by kernel_rfl) (by kernel_rfl) (by kernel_rfl) (by decide) (fun _ _ _ _ _ h=>h) ⟨L2,L3⟩ ?_
 refine ov 17 (.pointer (some ⟨b2,0,none⟩)) ?_
 refine ow 18 (.agg #[u0,u1]) rfl (fun w' hS=>(rl 69 0 [u0,u1] hS.1)) ?_
 refine ov 19 (.pointer (some ⟨b3,0,none⟩)) ?_
 refine ow 20 (.agg #[v0,v1]) rfl (fun w' hS=>(rl 69 0 [v0,v1] hS.2)) ?_
 refine ow 22 (.agg #[u0,u1,u2,u3]) rfl (fun w' hS=>(rl 71 0 [u0,u1,u2,u3] hS.1)) ?_
 refine ow 24 (.agg #[v0,v1,v2,v3]) rfl (fun w' hS=>(rl 71 0 [v0,v1,v2,v3] hS.2)) ?_
 refine oe ?_
 have kq30:=g7.kp.trans gd27.kp
 replace ha:=ha.kp kq30
 have kq31:=g2.kp.trans (g3.kp.trans (g4.kp.trans (g7.kp.trans gd27.kp)))
 replace hb:=hb.kp kq31
 refine ec 21 (mul_i ha.num hb.num (by omega)) ?_
 rintro e29 w29 ⟨⟨x29,y29,rfl,h29⟩,g29⟩
 refine ⟨_,rfl,?_⟩
 replace hB:=hB.trans g29
 replace L2:=L2.gr g29
 replace L3:=L3.gr g29
 refine ⟨⟨L2,L3⟩,?_⟩
 simp only [p3,p4]
 refine oe ?_
 replace ha:=ha.kp g29.kp
 refine ec 23 (den_i ha) ?_
 rintro e33 w33 ⟨⟨x33,y33,rfl,h33⟩,g33⟩
 refine ⟨_,rfl,?_⟩
 replace hB:=hB.trans g33
 replace L2:=L2.gr g33
 replace L3:=L3.gr g33
 refine ⟨⟨L2,L3⟩,?_⟩
 simp only [p3,p4]
 refine oe ?_
 have kq36:=g29.kp.trans g33.kp
 replace hb:=hb.kp kq36
 refine ec 25 (den_i hb) ?_
 rintro e35 w35 ⟨⟨x35,y35,rfl,h35⟩,g35⟩
 refine ⟨_,rfl,?_⟩
 replace hB:=hB.trans g35
 replace L2:=L2.gr g35
 replace L3:=L3.gr g35
 refine ⟨⟨L2,L3⟩,?_⟩
 simp only [p3,p4]
 refine oe ?_
 replace h33:=h33.kp g35.kp
 refine ec 26 (mul_i h33 h35 (by omega)) ?_
 rintro e38 w38 ⟨⟨x38,y38,rfl,h38⟩,g38⟩
 refine ⟨_,rfl,?_⟩
 replace hB:=hB.trans g38
 replace L2:=L2.gr g38
 replace L3:=L3.gr g38
 refine ⟨⟨L2,L3⟩,?_⟩
 simp only [p3,p4]
 refine oe ?_
 have kq41:=g33.kp.trans (g35.kp.trans g38.kp)
 replace h29:=h29.kp kq41
 refine ec 27 (reduced_i ((k+m)) h29 h38 (Int.mul_pos (Int.natCast_pos.2 a.den_pos) (Int.natCast_pos.2 b.den_pos)) (by omega) (by omega) (by omega) (by omega)) ?_
 rintro e40 w40 ⟨⟨p40,q40,r40,s40,rfl,h40⟩,g40⟩
 refine ⟨_,rfl,?_⟩
 replace hB:=hB.trans g40
 replace L2:=L2.gr g40
 replace L3:=L3.gr g40
 refine ⟨⟨L2,L3⟩,?_⟩
 simp only [p3,p4]
 refine oe ?_
 replace L4:=L4.gr (g7.trans (gd27.trans (g29.trans (g33.trans (g35.trans (g38.trans g40))))))
 refine es 71 0 (.agg #[p40,q40,r40,s40]) [p40,q40,r40,s40] #[p40,q40,r40,s40] L4 hB q4 ⟨h40.one0,h40.one1,h40.one2,h40.one3,trivial⟩ fun w43 st43 kp43 L4 hB=>?_
 replace L2:=st43.lc L2 ne2_4
 replace L3:=st43.lc L3 ne3_4
 refine ⟨⟨L2,L3⟩,?_⟩
 refine ord_nil ?_
 refine k9 _ _ ?_
 try clear k9 K9
 refine wp_ret ?_
 refine bodyPost_ret (v:=(.agg #[p40,q40,r40,s40])) (ret_cell _ _ _ rfl rfl L4 (by kernel_rfl)) rfl ⟨?_,hB⟩
 replace h40:=h40.kp kp43
 exact ⟨_,_,_,_,rfl,by rw [← rat_mul];exact h40⟩

theorem mul_r {k m:Nat} {u0 u1 u2 u3 v0 v1 v2 v3:Value} {a b:Rat} {w:World} (ha:IsRat w k u0 u1 u2 u3 a) (hb:IsRat w m v0 v1 v2 v3 b) (hk:k+m≤100000):
    Calls Tryz.prog 48 #[.agg #[u0,u1,u2,u3],.agg #[v0,v1,v2,v3]] w fun e w'=>(∃ c0 c1 c2 c3,e=.returned (.agg #[c0,c1,c2,c3])∧IsRat w' (k+m) c0 c1 c2 c3 (a*b))∧Gr w w':=by
  by_cases wa:a.den=1
  · by_cases wb:b.den=1
    · exact mul_tt ha hb hk wa wb
    · exact mul_tf ha hb hk wa wb
  · exact mul_f ha hb hk wa

set_option maxRecDepth 100000 in
set_option maxHeartbeats 1000000 in
theorem neg_r {k:Nat} {u0 u1 u2 u3:Value} {a:Rat} {w:World} (ha:IsRat w k u0 u1 u2 u3 a):
    Calls Tryz.prog 49 #[(.agg #[u0,u1,u2,u3])] w fun e w'=>(∃ c0 c1 c2 c3,e=.returned (.agg #[c0,c1,c2,c3])∧IsRat w' k c0 c1 c2 c3 (-a))∧Gr w w':=by
 go_enter Tryz.func49,Tryz.ntmps49
 have hB:=Gr.refl w
 refine wp_seq_k (fun K1 k1=>?_)
 refine rg [0,1] ?_
 refine se ?_
 refine eb 71 #[u0,u1,u2,u3] 1 hB fun b2 w2 g2 L2 o2 q2 hB=>?_
 simp only [p3,p4]
 refine se ?_
 refine ea 71 #[(.bool false),(.slice none 0 0),(.bool false),(.slice none 0 0)] 2 hB fun b3 w3 g3 L3 o3 q3 hB=>?_
 have ne2_3:=L2.ne o3
 simp only [p3,p4]
 refine sq_nil ?_
 refine k1 _ _ ?_
 try clear k1 K1
 refine wp_seq_k (fun K4 k4=>?_)
 have gd11:=Gr.drew w3
 replace hB:=hB.trans gd11
 replace L2:=L2.gr (g3.trans gd11)
 refine wp_region_ord (fun w'=>Lc w' b2 #[u0,u1,u2,u3] 71) [(true,0),(true,1),(true,3),(true,4),(false,2),(true,5),(false,6)] (by kernel_rfl) (by kernel_rfl) (by kernel_rfl) (by decide) (fun _ _ _ _ _ h=>h) L2 ?_
 refine ov 3 (.pointer (some ⟨b2,0,none⟩)) ?_
 refine ow 4 (.agg #[u0,u1]) rfl (fun w' hS=>(rl 69 0 [u0,u1] hS)) ?_
 refine ov 6 (.pointer (some ⟨b2,2,none⟩)) ?_
 refine ow 7 (.agg #[u2,u3]) rfl (fun w' hS=>(rl 69 2 [u2,u3] hS)) ?_
 refine oe ?_
 have kq14:=g2.kp.trans (g3.kp.trans gd11.kp)
 replace ha:=ha.kp kq14
 refine ec 5 (neg_i ha.num) ?_
 rintro e13 w13 ⟨⟨x13,y13,rfl,h13⟩,g13⟩
 refine ⟨_,rfl,?_⟩
 replace hB:=hB.trans g13
 replace L2:=L2.gr g13
 refine ⟨L2,?_⟩
 simp only [p3,p4]
 refine ov 8 (.agg #[x13,y13,u2,u3]) ?_
 refine oe ?_
 replace L3:=L3.gr (gd11.trans g13)
 refine es 71 0 (.agg #[x13,y13,u2,u3]) [x13,y13,u2,u3] #[x13,y13,u2,u3] L3 hB q3 ⟨h13.one0,h13.one1,ha.one2,ha.one3,trivial⟩ fun w16 st16 kp16 L3 hB=>?_
 replace L2:=st16.lc L2 ne2_3
 refine ⟨L2,?_⟩
 refine ord_nil ?_
 refine k4 _ _ ?_
 try clear k4 K4
 refine wp_ret ?_
 refine bodyPost_ret (v:=(.agg #[x13,y13,u2,u3])) (ret_cell _ _ _ rfl rfl L3 (by kernel_rfl)) rfl ⟨?_,hB⟩
 have kq17:=g13.kp.trans kp16
 replace ha:=ha.kp kq17
 replace h13:=h13.kp kp16
 exact ⟨_,_,_,_,rfl,IsRat.neg ha h13⟩

set_option maxRecDepth 100000 in
set_option maxHeartbeats 1000000 in
theorem sub_r {k m:Nat} {u0 u1 u2 u3 v0 v1 v2 v3:Value} {a b:Rat} {w:World} (ha:IsRat w k u0 u1 u2 u3 a) (hb:IsRat w m v0 v1 v2 v3 b) (_hk:k+m≤100000):
    Calls Tryz.prog 115 #[(.agg #[u0,u1,u2,u3]),(.agg #[v0,v1,v2,v3])] w fun e w'=>(∃ c0 c1 c2 c3,e=.returned (.agg #[c0,c1,c2,c3])∧IsRat w' (k+m+1) c0 c1 c2 c3 (a - b))∧Gr w w':=by
 go_enter Tryz.func115,Tryz.ntmps115
 have hB:=Gr.refl w
 refine wp_seq_k (fun K1 k1=>?_)
 refine rg [0,1,2] ?_
 refine se ?_
 refine eb 71 #[u0,u1,u2,u3] 2 hB fun b2 w2 g2 L2 o2 q2 hB=>?_
 simp only [p3,p4]
 refine se ?_
 refine eb 71 #[v0,v1,v2,v3] 3 hB fun b3 w3 g3 L3 o3 q3 hB=>?_
 simp only [p3,p4]
 refine se ?_
 refine ea 71 #[(.bool false),(.slice none 0 0),(.bool false),(.slice none 0 0)] 4 hB fun b4 w4 g4 L4 o4 q4 hB=>?_
 replace L2:=L2.gr g3
 have ne2_4:=L2.ne o4
 have ne3_4:=L3.ne o4
 simp only [p3,p4]
 refine sq_nil ?_
 refine k1 _ _ ?_
 try clear k1 K1
 refine wp_seq_k (fun K5 k5=>?_)
 have gd15:=Gr.drew w4
 replace hB:=hB.trans gd15
 replace L2:=L2.gr (g4.trans gd15)
 replace L3:=L3.gr (g4.trans gd15)
 refine wp_region_ord (fun w'=>Lc w' b2 #[u0,u1,u2,u3] 71∧Lc w' b3 #[v0,v1,v2,v3] 71) [(true,0),(true,1),(false,2),(false,3),(false,4)] (by kernel_rfl) (by kernel_rfl) (by kernel_rfl) (by decide) (fun _ _ _ _ _ h=>h) ⟨L2,L3⟩ ?_
 refine ow 5 (.agg #[u0,u1,u2,u3]) rfl (fun w' hS=>(rl 71 0 [u0,u1,u2,u3] hS.1)) ?_
 refine ow 6 (.agg #[v0,v1,v2,v3]) rfl (fun w' hS=>(rl 71 0 [v0,v1,v2,v3] hS.2)) ?_
 refine oe ?_
 have kq18:=g2.kp.trans (g3.kp.trans (g4.kp.trans gd15.kp))
 replace hb:=hb.kp kq18
 refine ec 7 (neg_r hb) ?_
 rintro e17 w17 ⟨⟨p17,q17,r17,s17,rfl,h17⟩,g17⟩
 refine ⟨_,rfl,?_⟩
 replace hB:=hB.trans g17
 replace L2:=L2.gr g17
 replace L3:=L3.gr g17
 refine ⟨⟨L2,L3⟩,?_⟩
 simp only [p3,p4]
 refine oe ?_
 have kq21:=g2.kp.trans (g3.kp.trans (g4.kp.trans (gd15.kp.trans g17.kp)))
 replace ha:=ha.kp kq21
 refine ec 8 (add_r ha h17 (by omega)) ?_
 rintro e20 w20 ⟨⟨p20,q20,r20,s20,rfl,h20⟩,g20⟩
 refine ⟨_,rfl,?_⟩
 replace hB:=hB.trans g20
 replace L2:=L2.gr g20
 replace L3:=L3.gr g20
 refine ⟨⟨L2,L3⟩,?_⟩
 simp only [p3,p4]
 refine oe ?_
 replace L4:=L4.gr (gd15.trans (g17.trans g20))
 refine es 71 0 (.agg #[p20,q20,r20,s20]) [p20,q20,r20,s20] #[p20,q20,r20,s20] L4 hB q4 ⟨h20.one0,h20.one1,h20.one2,h20.one3,trivial⟩ fun w23 st23 kp23 L4 hB=>?_
 replace L2:=st23.lc L2 ne2_4
 replace L3:=st23.lc L3 ne3_4
 refine ⟨⟨L2,L3⟩,?_⟩
 refine ord_nil ?_
 refine k5 _ _ ?_
 try clear k5 K5
 refine wp_ret ?_
 refine bodyPost_ret (v:=(.agg #[p20,q20,r20,s20])) (ret_cell _ _ _ rfl rfl L4 (by kernel_rfl)) rfl ⟨?_,hB⟩
 replace h20:=h20.kp kp23
 exact ⟨_,_,_,_,rfl,by rw [Rat.sub_eq_add_neg];exact h20⟩

set_option maxRecDepth 100000 in
set_option maxHeartbeats 1000000 in
theorem sign_r {k:Nat} {u0 u1 u2 u3:Value} {a:Rat} {w:World} (ha:IsRat w k u0 u1 u2 u3 a):
    Calls Tryz.prog 32 #[(.agg #[u0,u1,u2,u3])] w fun e w'=>e=.returned (.int .i64 (sgn a.num))∧Gr w w':=by
 go_enter Tryz.func32,Tryz.ntmps32
 have hB:=Gr.refl w
 refine wp_seq_k (fun K1 k1=>?_)
 refine rg [0,1] ?_
 refine se ?_
 refine eb 71 #[u0,u1,u2,u3] 1 hB fun b2 w2 g2 L2 o2 q2 hB=>?_
 simp only [p3,p4]
 refine sv 2 (.int .i64 0) ?_
 refine sq_nil ?_
 refine k1 _ _ ?_
 try clear k1 K1
 refine wp_seq_k (fun K3 k3=>?_)
 refine rg [0,1,2,3] ?_
 refine sv 3 (.pointer (some ⟨b2,0,none⟩)) ?_
 refine sw 4 (.agg #[u0,u1]) rfl (rl 69 0 [u0,u1] L2) ?_
 refine se ?_
 replace ha:=ha.kp g2.kp
 refine ec 5 (sign_i ha.num) ?_
 rintro e4 w4 ⟨rfl,g4⟩
 refine ⟨_,rfl,?_⟩
 replace hB:=hB.trans g4
 simp only [p3,p4]
 refine sv 2 (.int .i64 (sgn (a.num))) ?_
 refine sq_nil ?_
 refine k3 _ _ ?_
 try clear k3 K3
 refine wp_ret ?_
 refine bodyPost_ret (v:=(.int .i64 (sgn (a.num)))) (ret_tmp rfl rfl) rfl ⟨?_,hB⟩
 exact rfl

set_option maxRecDepth 100000 in
set_option maxHeartbeats 1000000 in
theorem from_r (z:Int) (_h0:-9223372036854775808≤z) (_h1:z≤9223372036854775807) (w:World):
    Calls Tryz.prog 61 #[(.int .i64 (z))] w fun e w'=>(∃ c0 c1 c2 c3,e=.returned (.agg #[c0,c1,c2,c3])∧IsRat w' 64 c0 c1 c2 c3 ((z:Rat)))∧Gr w w':=by
 go_enter Tryz.func61,Tryz.ntmps61
 have hB:=Gr.refl w
 refine wp_seq_k (fun K1 k1=>?_)
 refine rg [0] ?_
 refine se ?_
 refine ea 71 #[(.bool false),(.slice none 0 0),(.bool false),(.slice none 0 0)] 2 hB fun b2 w2 g2 L2 o2 q2 hB=>?_
 simp only [p3,p4]
 refine sq_nil ?_
 refine k1 _ _ ?_
 try clear k1 K1
 refine wp_seq_k (fun K3 k3=>?_)
 refine rg [0,1,2,3] ?_
 refine sv 3 (.int .i64 (z)) ?_
 refine se ?_
 refine ec 4 (from_i (z) (by omega) (by omega) _) ?_
 rintro e4 w4 ⟨⟨x4,y4,rfl,h4⟩,g4⟩
 refine ⟨_,rfl,?_⟩
 replace hB:=hB.trans g4
 simp only [p3,p4]
 refine sv 5 (.agg #[x4,y4,(.bool false),(.slice none 0 0)]) ?_
 refine se ?_
 replace L2:=L2.gr g4
 refine es 71 0 (.agg #[x4,y4,(.bool false),(.slice none 0 0)]) [x4,y4,(.bool false),(.slice none 0 0)] #[x4,y4,(.bool false),(.slice none 0 0)] L2 hB q2 ⟨h4.one0,h4.one1,rfl,rfl,trivial⟩ fun w5 st5 kp5 L2 hB=>?_
 refine sq_nil ?_
 refine k3 _ _ ?_
 try clear k3 K3
 refine wp_ret ?_
 refine bodyPost_ret (v:=(.agg #[x4,y4,(.bool false),(.slice none 0 0)])) (ret_cell _ _ _ rfl rfl L2 (by kernel_rfl)) rfl ⟨?_,hB⟩
 replace h4:=h4.kp kp5
 exact ⟨_,_,_,_,rfl,IsRat.int h4 (by omega)⟩

set_option maxRecDepth 100000 in
set_option maxHeartbeats 1000000 in
theorem rcomp_tt {k m:Nat} {u0 u1 u2 u3 v0 v1 v2 v3:Value} {a b:Rat} {w:World} (ha:IsRat w k u0 u1 u2 u3 a) (hb:IsRat w m v0 v1 v2 v3 b) (_hk:k+m≤100000) (wa:a.den=1) (wb:b.den=1):
    Calls Tryz.prog 47 #[(.agg #[u0,u1,u2,u3]),(.agg #[v0,v1,v2,v3])] w fun e w'=>e=.returned (.int .i64 (rcmp a b))∧Gr w w':=by
 have hka:=ha.big
 have hkb:=hb.big
 go_enter Tryz.func47,Tryz.ntmps47
 have hB:=Gr.refl w
 refine wp_seq_k (fun K1 k1=>?_)
 refine rg [0,1,2] ?_
 refine se ?_
 refine eb 71 #[u0,u1,u2,u3] 2 hB fun b2 w2 g2 L2 o2 q2 hB=>?_
 simp only [p3,p4]
 refine se ?_
 refine eb 71 #[v0,v1,v2,v3] 3 hB fun b3 w3 g3 L3 o3 q3 hB=>?_
 simp only [p3,p4]
 refine sv 4 (.int .i64 0) ?_
 refine sq_nil ?_
 refine k1 _ _ ?_
 try clear k1 K1
 refine wp_seq_k (fun K4 k4=>?_)
 refine wp_seq_k (fun K5 k5=>?_)
 refine rg [0,1,2,3,4,5] ?_
 replace L2:=L2.gr g3
 refine sw 5 (.agg #[u0,u1,u2,u3]) rfl (rl 71 0 [u0,u1,u2,u3] L2) ?_
 refine se ?_
 have kq7:=g2.kp.trans g3.kp
 replace ha:=ha.kp kq7
 refine ec 6 (whole_t ha (by omega) wa) ?_
 rintro e6 w6 ⟨rfl,g6⟩
 refine ⟨_,rfl,?_⟩
 replace hB:=hB.trans g6
 simp only [p3,p4]
 refine sv 7 (.bool true) ?_
 replace L3:=L3.gr g6
 refine sw 8 (.agg #[v0,v1,v2,v3]) rfl (rl 71 0 [v0,v1,v2,v3] L3) ?_
 refine se ?_
 have kq9:=g2.kp.trans (g3.kp.trans g6.kp)
 replace hb:=hb.kp kq9
 refine ec 9 (whole_t hb (by omega) wb) ?_
 rintro e8 w8 ⟨rfl,g8⟩
 refine ⟨_,rfl,?_⟩
 replace hB:=hB.trans g8
 simp only [p3,p4]
 refine sv 10 (.bool true) ?_
 refine sq_nil ?_
 refine k5 _ _ ?_
 try clear k5 K5
 refine wp_cond_true rfl ?_
 refine wp_seq_k (fun K10 k10=>?_)
 refine rg [0,1,2,3,4,5] ?_
 refine sv 11 (.pointer (some ⟨b2,0,none⟩)) ?_
 replace L2:=L2.gr (g6.trans g8)
 refine sw 12 (.agg #[u0,u1]) rfl (rl 69 0 [u0,u1] L2) ?_
 refine sv 13 (.pointer (some ⟨b3,0,none⟩)) ?_
 replace L3:=L3.gr g8
 refine sw 14 (.agg #[v0,v1]) rfl (rl 69 0 [v0,v1] L3) ?_
 refine se ?_
 have kq12:=g6.kp.trans g8.kp
 replace ha:=ha.kp kq12
 replace hb:=hb.kp g8.kp
 refine ec 15 (compare_i ha.num hb.num (by omega) (by omega)) ?_
 rintro e11 w11 ⟨rfl,g11⟩
 refine ⟨_,rfl,?_⟩
 replace hB:=hB.trans g11
 simp only [p3,p4]
 refine sv 4 (.int .i64 (sgn (a.num - b.num))) ?_
 refine sq_nil ?_
 refine k10 _ _ ?_
 try clear k10 K10
 refine wp_ret ?_
 simp only [Exit.then]
 refine bodyPost_ret (v:=(.int .i64 (sgn (a.num - b.num)))) (ret_tmp rfl rfl) rfl ⟨?_,hB⟩
 exact by rw [rcmp_int wa wb]

set_option maxRecDepth 100000 in
set_option maxHeartbeats 1000000 in
theorem rcomp_tf {k m:Nat} {u0 u1 u2 u3 v0 v1 v2 v3:Value} {a b:Rat} {w:World} (ha:IsRat w k u0 u1 u2 u3 a) (hb:IsRat w m v0 v1 v2 v3 b) (_hk:k+m≤100000) (wa:a.den=1) (wb:b.den≠1):
    Calls Tryz.prog 47 #[(.agg #[u0,u1,u2,u3]),(.agg #[v0,v1,v2,v3])] w fun e w'=>e=.returned (.int .i64 (rcmp a b))∧Gr w w':=by
 have hka:=ha.big
 have hkb:=hb.big
 go_enter Tryz.func47,Tryz.ntmps47
 have hB:=Gr.refl w
 refine wp_seq_k (fun K1 k1=>?_)
 refine rg [0,1,2] ?_
 refine se ?_
 refine eb 71 #[u0,u1,u2,u3] 2 hB fun b2 w2 g2 L2 o2 q2 hB=>?_
 simp only [p3,p4]
 refine se ?_
 refine eb 71 #[v0,v1,v2,v3] 3 hB fun b3 w3 g3 L3 o3 q3 hB=>?_
 simp only [p3,p4]
 refine sv 4 (.int .i64 0) ?_
 refine sq_nil ?_
 refine k1 _ _ ?_
 try clear k1 K1
 refine wp_seq_k (fun K4 k4=>?_)
 refine wp_seq_k (fun K5 k5=>?_)
 refine rg [0,1,2,3,4,5] ?_
 replace L2:=L2.gr g3
 refine sw 5 (.agg #[u0,u1,u2,u3]) rfl (rl 71 0 [u0,u1,u2,u3] L2) ?_
 refine se ?_
 have kq7:=g2.kp.trans g3.kp
 replace ha:=ha.kp kq7
 refine ec 6 (whole_t ha (by omega) wa) ?_
 rintro e6 w6 ⟨rfl,g6⟩
 refine ⟨_,rfl,?_⟩
 replace hB:=hB.trans g6
 simp only [p3,p4]
 refine sv 7 (.bool true) ?_
 replace L3:=L3.gr g6
 refine sw 8 (.agg #[v0,v1,v2,v3]) rfl (rl 71 0 [v0,v1,v2,v3] L3) ?_
 refine se ?_
 have kq9:=g2.kp.trans (g3.kp.trans g6.kp)
 replace hb:=hb.kp kq9
 refine ec 9 (whole_f hb (by omega) wb) ?_
 rintro e8 w8 ⟨rfl,g8⟩
 refine ⟨_,rfl,?_⟩
 replace hB:=hB.trans g8
 simp only [p3,p4]
 refine sv 10 (.bool false) ?_
 refine sq_nil ?_
 refine k5 _ _ ?_
 try clear k5 K5
 refine wp_cond_false rfl ?_
 refine wp_skip ?_
 refine k4 _ _ ?_
 try clear k4 K4
 refine wp_seq_k (fun K10 k10=>?_)
 have gd26:=Gr.drew w8
 replace hB:=hB.trans gd26
 replace L2:=L2.gr (g6.trans (g8.trans gd26))
 replace L3:=L3.gr (g8.trans gd26)
 refine wp_region_ord (fun w'=>Lc w' b2 #[u0,u1,u2,u3] 71∧Lc w' b3 #[v0,v1,v2,v3] 71) [(true,0),(true,1),(true,2),(true,5),(true,6),(true,7),(false,3),(false,4),(false,8),(false,9),(false,10),(true,11)] (by kernel_rfl) (by kernel_rfl) (by kernel_rfl) (by decide) (fun _ _ _ _ _ h=>h) ⟨L2,L3⟩ ?_
 refine ov 16 (.pointer (some ⟨b2,0,none⟩)) ?_
 refine ow 17 (.agg #[u0,u1]) rfl (fun w' hS=>(rl 69 0 [u0,u1] hS.1)) ?_
 refine ow 18 (.agg #[v0,v1,v2,v3]) rfl (fun w' hS=>(rl 71 0 [v0,v1,v2,v3] hS.2)) ?_
 refine ov 21 (.pointer (some ⟨b3,0,none⟩)) ?_
 refine ow 22 (.agg #[v0,v1]) rfl (fun w' hS=>(rl 69 0 [v0,v1] hS.2)) ?_
 refine ow 23 (.agg #[u0,u1,u2,u3]) rfl (fun w' hS=>(rl 71 0 [u0,u1,u2,u3] hS.1)) ?_
 refine oe ?_
 have kq29:=g8.kp.trans gd26.kp
 replace hb:=hb.kp kq29
 refine ec 19 (den_i hb) ?_
 rintro e28 w28 ⟨⟨x28,y28,rfl,h28⟩,g28⟩
 refine ⟨_,rfl,?_⟩
 replace hB:=hB.trans g28
 replace L2:=L2.gr g28
 replace L3:=L3.gr g28
 refine ⟨⟨L2,L3⟩,?_⟩
 simp only [p3,p4]
 refine oe ?_
 have kq32:=g6.kp.trans (g8.kp.trans (gd26.kp.trans g28.kp))
 replace ha:=ha.kp kq32
 refine ec 20 (mul_i ha.num h28 (by omega)) ?_
 rintro e31 w31 ⟨⟨x31,y31,rfl,h31⟩,g31⟩
 refine ⟨_,rfl,?_⟩
 replace hB:=hB.trans g31
 replace L2:=L2.gr g31
 replace L3:=L3.gr g31
 refine ⟨⟨L2,L3⟩,?_⟩
 simp only [p3,p4]
 refine oe ?_
 replace ha:=ha.kp g31.kp
 refine ec 24 (den_i ha) ?_
 rintro e34 w34 ⟨⟨x34,y34,rfl,h34⟩,g34⟩
 refine ⟨_,rfl,?_⟩
 replace hB:=hB.trans g34
 replace L2:=L2.gr g34
 replace L3:=L3.gr g34
 refine ⟨⟨L2,L3⟩,?_⟩
 simp only [p3,p4]
 refine oe ?_
 have kq37:=g28.kp.trans (g31.kp.trans g34.kp)
 replace hb:=hb.kp kq37
 refine ec 25 (mul_i hb.num h34 (by omega)) ?_
 rintro e36 w36 ⟨⟨x36,y36,rfl,h36⟩,g36⟩
 refine ⟨_,rfl,?_⟩
 replace hB:=hB.trans g36
 replace L2:=L2.gr g36
 replace L3:=L3.gr g36
 refine ⟨⟨L2,L3⟩,?_⟩
 simp only [p3,p4]
 refine oe ?_
 have kq40:=g34.kp.trans g36.kp
 replace h31:=h31.kp kq40
 refine ec 26 (compare_i h31 h36 (by omega) (by omega)) ?_
 rintro e39 w39 ⟨rfl,g39⟩
 refine ⟨_,rfl,?_⟩
 replace hB:=hB.trans g39
 replace L2:=L2.gr g39
 replace L3:=L3.gr g39
 refine ⟨⟨L2,L3⟩,?_⟩
 simp only [p3,p4]
 refine ov 4 (.int .i64 (sgn ((a.num*(b.den:Int)) - (b.num*(a.den:Int))))) ?_
 refine ord_nil ?_
 refine k10 _ _ ?_
 try clear k10 K10
 refine wp_ret ?_
 refine bodyPost_ret (v:=(.int .i64 (sgn ((a.num*(b.den:Int)) - (b.num*(a.den:Int)))))) (ret_tmp rfl rfl) rfl ⟨?_,hB⟩
 exact rfl

set_option maxRecDepth 100000 in
set_option maxHeartbeats 1000000 in
theorem rcomp_f {k m:Nat} {u0 u1 u2 u3 v0 v1 v2 v3:Value} {a b:Rat} {w:World} (ha:IsRat w k u0 u1 u2 u3 a) (hb:IsRat w m v0 v1 v2 v3 b) (_hk:k+m≤100000) (wa:a.den≠1):
    Calls Tryz.prog 47 #[(.agg #[u0,u1,u2,u3]),(.agg #[v0,v1,v2,v3])] w fun e w'=>e=.returned (.int .i64 (rcmp a b))∧Gr w w':=by
 have hka:=ha.big
 have hkb:=hb.big
 go_enter Tryz.func47,Tryz.ntmps47
 have hB:=Gr.refl w
 refine wp_seq_k (fun K1 k1=>?_)
 refine rg [0,1,2] ?_
 refine se ?_
 refine eb 71 #[u0,u1,u2,u3] 2 hB fun b2 w2 g2 L2 o2 q2 hB=>?_
 simp only [p3,p4]
 refine se ?_
 refine eb 71 #[v0,v1,v2,v3] 3 hB fun b3 w3 g3 L3 o3 q3 hB=>?_
 simp only [p3,p4]
 refine sv 4 (.int .i64 0) ?_
 refine sq_nil ?_
 refine k1 _ _ ?_
 try clear k1 K1
 refine wp_seq_k (fun K4 k4=>?_)
 refine wp_seq_k (fun K5 k5=>?_)
 refine rg [0,1,2,3,4,5] ?_
 replace L2:=L2.gr g3
 refine sw 5 (.agg #[u0,u1,u2,u3]) rfl (rl 71 0 [u0,u1,u2,u3] L2) ?_
 refine se ?_
 have kq7:=g2.kp.trans g3.kp
 replace ha:=ha.kp kq7
 refine ec 6 (whole_f ha (by omega) wa) ?_
 rintro e6 w6 ⟨rfl,g6⟩
 refine ⟨_,rfl,?_⟩
 replace hB:=hB.trans g6
 simp only [p3,p4]
 refine sv 7 (.bool false) ?_
 refine ss 8 ?_
 refine ss 9 ?_
 refine sv 10 (.bool false) ?_
 refine sq_nil ?_
 refine k5 _ _ ?_
 try clear k5 K5
 refine wp_cond_false rfl ?_
 refine wp_skip ?_
 refine k4 _ _ ?_
 try clear k4 K4
 refine wp_seq_k (fun K8 k8=>?_)
 have gd24:=Gr.drew w6
 replace hB:=hB.trans gd24
 replace L2:=L2.gr (g6.trans gd24)
 replace L3:=L3.gr (g6.trans gd24)
 refine wp_region_ord (fun w'=>Lc w' b2 #[u0,u1,u2,u3] 71∧Lc w' b3 #[v0,v1,v2,v3] 71) [(true,0),(true,1),(true,2),(true,5),(true,6),(true,7),(false,3),(false,4),(false,8),(false,9),(false,10),(true,11)] (by kernel_rfl) (by kernel_rfl) (by kernel_rfl) (by decide) (fun _ _ _ _ _ h=>h) ⟨L2,L3⟩ ?_
 refine ov 16 (.pointer (some ⟨b2,0,none⟩)) ?_
 refine ow 17 (.agg #[u0,u1]) rfl (fun w' hS=>(rl 69 0 [u0,u1] hS.1)) ?_
 refine ow 18 (.agg #[v0,v1,v2,v3]) rfl (fun w' hS=>(rl 71 0 [v0,v1,v2,v3] hS.2)) ?_
 refine ov 21 (.pointer (some ⟨b3,0,none⟩)) ?_
 refine ow 22 (.agg #[v0,v1]) rfl (fun w' hS=>(rl 69 0 [v0,v1] hS.2)) ?_
 refine ow 23 (.agg #[u0,u1,u2,u3]) rfl (fun w' hS=>(rl 71 0 [u0,u1,u2,u3] hS.1)) ?_
 refine oe ?_
 have kq27:=g2.kp.trans (g3.kp.trans (g6.kp.trans gd24.kp))
 replace hb:=hb.kp kq27
 refine ec 19 (den_i hb) ?_
 rintro e26 w26 ⟨⟨x26,y26,rfl,h26⟩,g26⟩
 refine ⟨_,rfl,?_⟩
 replace hB:=hB.trans g26
 replace L2:=L2.gr g26
 replace L3:=L3.gr g26
 refine ⟨⟨L2,L3⟩,?_⟩
 simp only [p3,p4]
 refine oe ?_
 have kq30:=g6.kp.trans (gd24.kp.trans g26.kp)
 replace ha:=ha.kp kq30
 refine ec 20 (mul_i ha.num h26 (by omega)) ?_
 rintro e29 w29 ⟨⟨x29,y29,rfl,h29⟩,g29⟩
 refine ⟨_,rfl,?_⟩
 replace hB:=hB.trans g29
 replace L2:=L2.gr g29
 replace L3:=L3.gr g29
 refine ⟨⟨L2,L3⟩,?_⟩
 simp only [p3,p4]
 refine oe ?_
 replace ha:=ha.kp g29.kp
 refine ec 24 (den_i ha) ?_
 rintro e32 w32 ⟨⟨x32,y32,rfl,h32⟩,g32⟩
 refine ⟨_,rfl,?_⟩
 replace hB:=hB.trans g32
 replace L2:=L2.gr g32
 replace L3:=L3.gr g32
 refine ⟨⟨L2,L3⟩,?_⟩
 simp only [p3,p4]
 refine oe ?_
 have kq35:=g26.kp.trans (g29.kp.trans g32.kp)
 replace hb:=hb.kp kq35
 refine ec 25 (mul_i hb.num h32 (by omega)) ?_
 rintro e34 w34 ⟨⟨x34,y34,rfl,h34⟩,g34⟩
 refine ⟨_,rfl,?_⟩
 replace hB:=hB.trans g34
 replace L2:=L2.gr g34
 replace L3:=L3.gr g34
 refine ⟨⟨L2,L3⟩,?_⟩
 simp only [p3,p4]
 refine oe ?_
 have kq38:=g32.kp.trans g34.kp
 replace h29:=h29.kp kq38
 refine ec 26 (compare_i h29 h34 (by omega) (by omega)) ?_
 rintro e37 w37 ⟨rfl,g37⟩
 refine ⟨_,rfl,?_⟩
 replace hB:=hB.trans g37
 replace L2:=L2.gr g37
 replace L3:=L3.gr g37
 refine ⟨⟨L2,L3⟩,?_⟩
 simp only [p3,p4]
 refine ov 4 (.int .i64 (sgn ((a.num*(b.den:Int)) - (b.num*(a.den:Int))))) ?_
 refine ord_nil ?_
 refine k8 _ _ ?_
 try clear k8 K8
 refine wp_ret ?_
 refine bodyPost_ret (v:=(.int .i64 (sgn ((a.num*(b.den:Int)) - (b.num*(a.den:Int)))))) (ret_tmp rfl rfl) rfl ⟨?_,hB⟩
 exact rfl

theorem compare_r {k m:Nat} {u0 u1 u2 u3 v0 v1 v2 v3:Value} {a b:Rat} {w:World} (ha:IsRat w k u0 u1 u2 u3 a) (hb:IsRat w m v0 v1 v2 v3 b) (hk:k+m≤100000):
    Calls Tryz.prog 47 #[.agg #[u0,u1,u2,u3],.agg #[v0,v1,v2,v3]] w fun e w'=>e=.returned (.int .i64 (rcmp a b))∧Gr w w':=by
  by_cases wa:a.den=1
  · by_cases wb:b.den=1
    · exact rcomp_tt ha hb hk wa wb
    · exact rcomp_tf ha hb hk wa wb
  · exact rcomp_f ha hb hk wa

section
variable {α:Type}
/-- the values of a function at 0 .. n - 1 -/
def tb (f:Nat→α) (n:Nat):List α:=(List.range n).map f
theorem tb_len {f:Nat→α} {n:Nat}:(tb f n).length=n:=by simp [tb]
theorem tb_lenz {f:Nat→α} {n:Nat} {z:Int} (h:(n:Int)=z):((tb f n).length:Int)=z:=by rw [tb_len];exact h
theorem tb_get {f:Nat→α} {n i:Nat} (h:i<n):(tb f n)[i]?=some (f i):=by simp [tb,h]
theorem tb_snoc {f:Nat→α} {n:Nat} {x:α} (h:x=f n):tb f n++[x]=tb f (n+1):=by subst h;simp [tb,List.range_succ]
theorem tb_congr {f g:Nat→α} {n:Nat} (h:∀ i,i<n→f i=g i):tb f n=tb g n:=by
  unfold tb
  exact List.map_congr_left fun i hi=>h i (List.mem_range.1 hi)
/-- the first k elements done,the others as they were made -/
def fil (f:Nat→α) (d:α) (n k:Nat):List α:=tb f k++List.replicate (n - k) d
theorem fil_zero {f:Nat→α} {d:α} {n:Nat}:List.replicate n d=fil f d n 0:=by simp [fil,tb]
theorem fil_len {f:Nat→α} {d:α} {n k:Nat} (hk:k≤n):(fil f d n k).length=n:=by
  unfold fil;rw [List.length_append,tb_len,List.length_replicate];omega
theorem fil_lt {f:Nat→α} {d:α} {n k i:Nat} (hk:k≤n) (h:i<n):i<(fil f d n k).length:=by rw [fil_len hk];exact h
theorem fil_set {f:Nat→α} {d:α} {n k:Nat} {x:α} (h:k<n) (hx:x=f k):(fil f d n k).set k x=fil f d n (k+1):=by
  unfold fil
  have h2:List.replicate (n - k) d=d::List.replicate (n - (k+1)) d:=by
    rw [show n - k=(n - (k+1))+1 by omega,List.replicate_succ]
  rw [List.set_append_right _ _ (by rw [tb_len];omega),tb_len,Nat.sub_self,h2,List.set_cons_zero,← tb_snoc hx,List.append_assoc]
  rfl
theorem fil_all {f:Nat→α} {d:α} {n:Nat}:fil f d n n=tb f n:=by simp [fil]
theorem set_tb {f:Nat→α} {n i:Nat} {x:α}:(tb f n).set i x=tb (fun j=>if j=i then x else f j) n:=by
  apply List.ext_getElem?
  intro j
  rw [List.getElem?_set]
  by_cases hj:j<n
  · rw [tb_get hj,tb_get hj,tb_len]
    by_cases e:i=j
    · subst e;simp [hj]
    · rw [if_neg e,if_neg (Ne.symm e)]
  · rw [List.getElem?_eq_none (by rw [tb_len];omega),List.getElem?_eq_none (by rw [tb_len];omega),tb_len]
    simp;omega
theorem rep_tb {d:α} {n:Nat}:List.replicate n d=tb (fun _=>d) n:=by
  apply List.ext_getElem?
  intro j
  by_cases hj:j<n
  · rw [tb_get hj];simp [hj]
  · rw [List.getElem?_eq_none (by rw [List.length_replicate];omega),List.getElem?_eq_none (by rw [tb_len];omega)]

theorem Sl.cast {E:World→α→List Value→Prop} {T:TypeId} {c:Nat} {w:World} {v:Value} {xs ys:List α} (h:Sl E T c w v xs) (e:xs=ys):Sl E T c w v ys:=e ▸ h
theorem Mk.cast {E:World→α→List Value→Prop} {T:TypeId} {c:Nat} {w:World} {b:Nat} {xs ys:List α} (h:Mk E T c w b xs) (e:xs=ys):Mk E T c w b ys:=e ▸ h
theorem Ow.cast {E:World→α→List Value→Prop} {T:TypeId} {c B:Nat} {w:World} {v:Value} {xs ys:List α} (h:Ow E T c w B v xs) (e:xs=ys):Ow E T c w B v ys:=e ▸ h
variable {P:Program} {a:Act} {o:Oper} {w:World} {Q:Exit→Act→World→Prop} {K:Act→World→Prop} {ops:Array Oper}
theorem rv_lenn {E:World→α→List Value→Prop} {T:TypeId} {c:Nat} {v:Value} {xs:List α} {w0:World} {z:Int} (h:Sl E T c w0 v xs) (hz:(xs.length:Int)=z) (x:Operand) (t:TypeId) (hop:o.op=.call {callee:=.builtin .len,args:=#[x],argTypes:=#[t]}) (hx:a.eval x=v) {e:TypeId} (hu:P.underlying t=some (.slice e)):
    RunV P a o w (.int .i64 z):=by subst hz;exact rv_len h x t hop hx hu
theorem rv_idxn {E:World→α→List Value→Prop} {T:TypeId} {c:Nat} {v:Value} {xs:List α} {w0:World} {n:Nat} (h:Sl E T c w0 v xs) (hn:xs.length=n) (hc:0<c) (i:Nat) (hi:i<n) (t:TypeId) (x y:Operand) (hop:o.op=.indexAddr t x y) (hx:a.eval x=v) (hy:a.eval y=.int .i64 (i:Int))
    {e:TypeId} (hu:P.underlying t=some (.slice e)) (hs:(P.info? e).map (·.size)=some c):RunV P a o w (adr v (i*c)):=rv_idx h hc i (by omega) t x y hop hx hy hu hs
/-- append of one element:every world from which the slice is new has grown -/
theorem eff_apg {E:World→α→List Value→Prop} {ts:List TypeId} (hS:Stab E ts) (s x:Operand) (t:TypeId) (T B:Nat) (z:Value) (v:Value) (xs:List α) (b:Nat) (us:List Value) (x0:α) (c cx:Nat) (d:Option Tmp) (bytes:Nat) (hd:o.dst=d)
    (ho:o.op=.call {callee:=.builtin .append,args:=#[s,x],argTypes:=#[t,t]}) (hs:a.eval s=v) (hx:a.eval x=.slice (some ⟨b,0,none⟩) 1 cx)
    (hown:Ow E T c w B v xs) (hL:Lc w b us.toArray T) (hu:One1 us) (hl:us.length=c) (hE:E w x0 us) (hBw:B≤w.heap.size) (hn:xs.length≤1000000) (hbytes:bytes≤1000)
    (ht:P.underlying t=some (.slice T)) (hi:(P.info? T).map (fun i=>(i.zero,i.size,i.bytes))=some (some z,c,bytes)) (hzs:z.cells.size=c∧0<c) (hT:(ts.all fun t=>t !=T)=true)
    (h:∀ v' w',Ow E T c w' B v' (xs++[x0])→Wt T w w'→(∀ w0,Gr w0 w→w0.heap.size≤B→Gr w0 w')→K (a.put d v') w'):o.wp P a w K Q:=by
  subst hd
  obtain ⟨ys,hown,hEl⟩:=hown
  obtain ⟨i,hi,hz,hsize,hby⟩:=info_parts hi
  have hb1:(xs.length+1)*bytes≤1000001*1000:=Nat.mul_le_mul (by omega) hbytes
  refine wp_append_own w s x t ho B T i z c bytes ht hi hz hsize hby hzs.1 hzs.2 v xs.length ys hs hown ⟨b,0,none⟩ 1 cx us hx (by omega) (fun j y hj=>?_) hu.all (by unfold maxLen;omega) (by omega) hBw ?_
  · have e:(⟨b,0,none⟩:Addr).add j=⟨b,j,none⟩:=by by_cases h0:j=0<;>simp [Addr.add,h0]
    rw [e,cells_of hL];simpa using hj
  · intro v' w' h2 hg _
    have hown':=hown
    have hnew:∀ k,v.ownBlock=some k→B≤k∧∃ cur,w.heap[k]?=some (.cells cur T (0,0)):=by
      intro k hk
      rcases hown'.2 with ⟨rfl,_⟩ | ⟨g,cap,cur,rfl,hb,hgg,_⟩
      · simp [Value.ownBlock] at hk
      · simp [Value.ownBlock] at hk
        subst hk;exact ⟨hb,cur,hgg⟩
    have hwt:Wt T w w':=⟨hg.os,hg.tape,hg.output,hg.size,fun k cs t fr ht hk=>by
      rw [hg.block k (heap_lt hk) (fun e=>?_)]
      · exact hk
      · obtain ⟨_,cur,hc⟩:=hnew k e.symm
        rw [hk] at hc
        simp only [Option.some.injEq,Obj.cells.injEq] at hc
        exact ht hc.2.1⟩
    refine h v' w' ⟨_,by simpa using h2,(hEl.snoc hl hE).kts hS (hwt.kts hT)⟩ hwt fun w0 hB hB0=>?_
    refine Below.trans hB ⟨hg.os,hg.tape,hg.output,hg.size,fun k hk=>hg.block k (Nat.lt_of_lt_of_le hk hB.size) (fun e=>?_)⟩
    have:=(hnew k e.symm).1
    omega
end
theorem IsRat.resz {w:World} {k m:Nat} {c0 c1 c2 c3:Value} {q:Rat} (h:IsRat w k c0 c1 c2 c3 q) (hs:Sz m q.num∧Sz m (q.den:Int)) (hm:64≤m):IsRat w m c0 c1 c2 c3 q:=by
  obtain ⟨h1,⟨D,h2,h3⟩,h4⟩:=h
  refine ⟨h1.resz hs.1,⟨D,h2.resz ?_,h3⟩,hm⟩
  rcases h3 with rfl | ⟨rfl,_⟩
  · exact hs.2
  · unfold Sz;simp;exact Nat.pow_pos (by omega)
end Go.Proofs.YtepgkcimmdmgcaaGreatDoor
namespace Go.Proofs.YtepgkcimmdmgcaaGreatDoor
/-- the sum of the first n values -/
def sm:Nat→(Nat→Rat)→Rat
  | 0,_=>0
  | n+1,f=>sm n f+f n
theorem sm_congr:∀ {n:Nat} {f g:Nat→Rat},(∀ i,i<n→f i=g i)→sm n f=sm n g
  | 0,_,_,_=>rfl
  | n+1,f,g,h=>by unfold sm;rw [sm_congr fun i hi=>h i (by omega),h n (by omega)]
theorem sm_zero:∀ {n:Nat} {f:Nat→Rat},(∀ i,i<n→f i=0)→sm n f=0
  | 0,_,_=>rfl
  | n+1,f,h=>by unfold sm;rw [sm_zero fun i hi=>h i (by omega),h n (by omega)];grind
theorem sm_add:∀ (n:Nat) (f g:Nat→Rat),sm n (fun i=>f i+g i)=sm n f+sm n g
  | 0,_,_=>by unfold sm;grind
  | n+1,f,g=>by unfold sm;rw [sm_add n f g];grind
theorem sm_mul:∀ (n:Nat) (c:Rat) (f:Nat→Rat),sm n (fun i=>c*f i)=c*sm n f
  | 0,_,_=>by unfold sm;grind
  | n+1,c,f=>by unfold sm;rw [sm_mul n c f];grind
theorem sm_mul' (n:Nat) (c:Rat) (f:Nat→Rat):sm n (fun i=>f i*c)=sm n f*c:=by
  rw [sm_congr (g:=fun i=>c*f i) fun i _=>Rat.mul_comm _ _,sm_mul,Rat.mul_comm]
theorem sm_comm:∀ (n m:Nat) (f:Nat→Nat→Rat),sm n (fun i=>sm m (f i))=sm m (fun j=>sm n (fun i=>f i j))
  | 0,m,f=>(sm_zero fun _ _=>rfl).symm
  | n+1,m,f=>by
    show sm n (fun i=>sm m (f i))+sm m (f n)=_
    rw [sm_comm n m f,← sm_add];rfl
theorem sm_one:∀ {n:Nat} {i:Nat} {f:Nat→Rat},i<n→(∀ j,j<n→j≠i→f j=0)→sm n f=f i
  | 0,_,_,h,_=>absurd h (Nat.not_lt_zero _)
  | n+1,i,f,hi,h=>by
    unfold sm
    by_cases e:i=n
    · subst e;rw [sm_zero fun j hj=>h j (by omega) (by omega)];grind
    · rw [sm_one (i:=i) (by omega) fun j hj=>h j (by omega),h n (by omega) (Ne.symm e)];grind
theorem sm_sub (n:Nat) (f g:Nat→Rat):sm n (fun i=>f i - g i)=sm n f - sm n g:=by
  have:=sm_add n f (fun i=>(-1)*g i)
  rw [sm_mul] at this
  rw [sm_congr (g:=fun i=>f i+(-1)*g i) fun i _=>by grind,this];grind
abbrev Mx_:=Nat→Nat→Rat
/-- the rows of b are combinations of the first R rows of a -/
def Comb (R S:Nat) (a b:Mx_):Prop:=∃ P:Mx_,∀ i,i<S→∀ k,b i k=sm R (fun j=>P i j*a j k)
theorem Comb.refl (R:Nat) (a:Mx_):Comb R R a a:=⟨fun i j=>if j=i then 1 else 0,fun i hi k=>by
  rw [sm_one (i:=i) hi fun j _ hj=>by dsimp only;rw [if_neg hj];grind];dsimp only;rw [if_pos rfl];grind⟩
theorem Comb.trans {R S T:Nat} {a b c:Mx_} (h:Comb R S a b) (g:Comb S T b c):Comb R T a c:=by
  obtain ⟨P,hP⟩:=h
  obtain ⟨Q,hQ⟩:=g
  refine ⟨fun i j=>sm S (fun t=>Q i t*P t j),fun i hi k=>?_⟩
  rw [hQ i hi k]
  have e1:sm S (fun j=>Q i j*b j k)=sm S (fun t=>sm R (fun j=>Q i t*P t j*a j k)):=sm_congr fun t ht=>by
    rw [hP t ht k,← sm_mul]
    exact sm_congr fun j _=>by rw [Rat.mul_assoc]
  rw [e1,sm_comm]
  exact sm_congr fun j _=>sm_mul' S (a j k) _
/-- both ways -/
structure Eqv (R:Nat) (a b:Mx_):Prop where
  lr:Comb R R a b
  rl:Comb R R b a
theorem Eqv.refl (R:Nat) (a:Mx_):Eqv R a a:=⟨.refl R a,.refl R a⟩
theorem Eqv.trans {R:Nat} {a b c:Mx_} (h:Eqv R a b) (g:Eqv R b c):Eqv R a c:=⟨h.lr.trans g.lr,g.rl.trans h.rl⟩
theorem Eqv.symm {R:Nat} {a b:Mx_} (h:Eqv R a b):Eqv R b a:=⟨h.rl,h.lr⟩
/-- two rows exchanged -/
def swp (a:Mx_) (i r:Nat):Mx_:=fun j k=>if j=i then a r k else if j=r then a i k else a j k
theorem swp_comb {R:Nat} (a:Mx_) {i r:Nat} (hi:i<R) (hr:r<R):Comb R R a (swp a i r):=
  ⟨fun j t=>if t=(if j=i then r else if j=r then i else j) then 1 else 0,fun j hj k=>by
    have hlt:(if j=i then r else if j=r then i else j)<R:=by split<;>(try split)<;>omega
    rw [sm_one hlt fun t _ ht=>by dsimp only;rw [if_neg ht];grind]
    dsimp only
    rw [if_pos rfl]
    unfold swp
    split
    · grind
    · split<;>grind⟩
theorem swp_swp (a:Mx_) (i r:Nat):swp (swp a i r) i r=a:=by
  funext j k
  unfold swp
  grind
theorem swp_eqv {R:Nat} (a:Mx_) {i r:Nat} (hi:i<R) (hr:r<R):Eqv R a (swp a i r):=
  ⟨swp_comb a hi hr,by have:=swp_comb (swp a i r) hi hr;rwa [swp_swp] at this⟩
/-- a row times a number -/
def scl (a:Mx_) (r:Nat) (c:Rat):Mx_:=fun j k=>if j=r then a r k*c else a j k
theorem scl_comb {R:Nat} (a:Mx_) (r:Nat) (c:Rat):Comb R R a (scl a r c):=
  ⟨fun j t=>if t=j then (if j=r then c else 1) else 0,fun j hj k=>by
    rw [sm_one hj fun t _ ht=>by dsimp only;rw [if_neg ht];grind]
    dsimp only
    rw [if_pos rfl]
    unfold scl
    split
    · next e=>subst e;grind
    · grind⟩
theorem scl_eqv {R:Nat} (a:Mx_) (r:Nat) {c:Rat} (hc:c≠0):Eqv R a (scl a r c):=
  ⟨scl_comb a r c,by
    have:=scl_comb (R:=R) (scl a r c) r (1/c)
    have e:scl (scl a r c) r (1/c)=a:=by
      funext j k
      unfold scl
      split
      · next e=>subst e;rw [if_pos rfl];grind
      · rfl
    rwa [e] at this⟩
/-- multiples of row r added to the other rows -/
def clr (a:Mx_) (r:Nat) (c:Nat→Rat):Mx_:=fun j k=>if j=r then a r k else a j k - c j*a r k
theorem sm_two {n i r:Nat} {f:Nat→Rat} (hi:i<n) (hr:r<n) (hne:i≠r) (h:∀ j,j<n→j≠i→j≠r→f j=0):sm n f=f i+f r:=by
  have e:=sm_add n (fun j=>if j=i then f i else 0) (fun j=>if j=r then f r else 0)
  rw [sm_one (i:=i) hi fun j _ hj=>if_neg hj,sm_one (i:=r) hr fun j _ hj=>if_neg hj] at e
  rw [if_pos rfl,if_pos rfl] at e
  rw [← e]
  refine sm_congr fun j hj=>?_
  by_cases h1:j=i
  · subst h1;rw [if_pos rfl,if_neg hne];grind
  · by_cases h2:j=r
    · subst h2;rw [if_pos rfl,if_neg h1];grind
    · rw [if_neg h1,if_neg h2,h j hj h1 h2];grind
theorem clr_comb {R:Nat} (a:Mx_) {r:Nat} (hr:r<R) (c:Nat→Rat):Comb R R a (clr a r c):=
  ⟨fun j t=>if t=j then 1 else if t=r then - c j else 0,fun j hj k=>by
    unfold clr
    by_cases e:j=r
    · subst e
      rw [sm_one hj fun t _ ht=>by dsimp only;rw [if_neg ht,if_neg ht];grind];dsimp only;rw [if_pos rfl,if_pos rfl];grind
    · rw [sm_two hj hr e fun t _ h1 h2=>by dsimp only;rw [if_neg h1,if_neg h2];grind];dsimp only;rw [if_pos rfl,if_neg (Ne.symm e),if_pos rfl,if_neg e];grind⟩
theorem clr_eqv {R:Nat} (a:Mx_) {r:Nat} (hr:r<R) (c:Nat→Rat):Eqv R a (clr a r c):=
  ⟨clr_comb a hr c,by
    have:=clr_comb (clr a r c) hr (fun j=>- c j)
    have e:clr (clr a r c) r (fun j=>- c j)=a:=by
      funext j k
      unfold clr
      split
      · next e=>rw [if_pos rfl,e]
      · rw [if_pos rfl];grind
    rwa [e] at this⟩
end Go.Proofs.YtepgkcimmdmgcaaGreatDoor
namespace Go.Proofs.YtepgkcimmdmgcaaGreatDoor
open Go.RowKit

theorem sgn_nz {q:Rat} (h:(sgn q.num !=(0:Int))=false):q=0:=by
  have h1:sgn q.num=0:=by simpa using h
  have h2:q.num=0:=by
    unfold sgn at h1
    split at h1
    · omega
    · split at h1<;>omega
  exact Rat.num_eq_zero.1 h2
theorem sm_same {n:Nat} {f:Nat→Rat} (h:f n=0):sm n f=sm (n+1) f:=by
  show _=sm n f+f n
  rw [h,Rat.add_zero]
theorem IsRat.castq {w:World} {k:Nat} {c0 c1 c2 c3:Value} {q r:Rat} (h:IsRat w k c0 c1 c2 c3 q) (e:q=r):IsRat w k c0 c1 c2 c3 r:=e ▸ h
set_option maxRecDepth 100000 in
set_option maxHeartbeats 1000000 in
theorem mx_dot {K L N:Nat} {va vb:Value} {x y:Nat→Rat} {w:World} (ha:Sl (ERat K) 71 4 w va (tb (fun z1=>(x z1)) N)) (hb:Sl (ERat L) 71 4 w vb (tb (fun z1=>(y z1)) N)) (hS:N*(K+L+1)≤90000) (_hN:N≤100000):
    Calls Tryz.prog 65 #[va,vb] w fun e w'=>(∃ c0 c1 c2 c3,e=.returned (.agg #[c0,c1,c2,c3])∧IsRat w' (64+N*(K+L+1)) c0 c1 c2 c3 (sm N fun i=>x i*y i))∧Gr w w':=by
 go_enter Tryz.func65,Tryz.ntmps65
 have hB:=Gr.refl w
 refine wp_seq_k (fun K10 k10=>?_)
 refine rg [0] ?_
 refine se ?_
 refine ea 71 #[(.bool false),(.slice none 0 0),(.bool false),(.slice none 0 0)] 4 hB fun b11 w11 g11 L11 o11 q11 hB=>?_
 simp only [p3,p4]
 refine sq_nil ?_
 refine k10 _ _ ?_
 try clear k10 K10
 refine wp_seq_k (fun K12 k12=>?_)
 refine rg [0] ?_
 refine se ?_
 refine ea 71 #[(.bool false),(.slice none 0 0),(.bool false),(.slice none 0 0)] 5 hB fun b13 w13 g13 L13 o13 q13 hB=>?_
 have ne11_13:=L11.ne o13
 simp only [p3,p4]
 refine sq_nil ?_
 refine k12 _ _ ?_
 try clear k12 K12
 refine wp_seq_k (fun K14 k14=>?_)
 refine wp_seq_k (fun K15 k15=>?_)
 refine rg [0,1,2] ?_
 refine sv 7 va ?_
 refine sw 8 (.int .i64 ((N:Int))) rfl (rv_lenn (e:=71) ha (tb_lenz rfl) _ _ rfl rfl (by kernel_rfl)) ?_
 refine sv 9 (.int .i64 0) ?_
 refine sq_nil ?_
 refine k15 _ _ ?_
 try clear k15 K15
 refine wp_block ?_
 replace L11:=L11.gr g13
 refine wp_loop_inv (a:=⟨List.toArray ?l16,[]⟩) (fun n a w'=>∃ (k:Nat) (c0:Value) (c1:Value) (c2:Value) (c3:Value) (u16:Nat→Value),N - k=n∧a=⟨[va,vb,undef,undef,(.pointer (some ⟨b11,0,none⟩)),(.pointer (some ⟨b13,0,none⟩)),(u16 6),(u16 7),(.int .i64 ((N:Int))),(.int .i64 ((k:Int))),(u16 10),(u16 11),(u16 12),(u16 13),(u16 14),(u16 15),(u16 16),(u16 17),(u16 18),(u16 19),(u16 20),(u16 21),(u16 22),(u16 23),(u16 24),(u16 25),(u16 26),(u16 27),(u16 28),(u16 29),(u16 30),(u16 31),(u16 32),(u16 33),(u16 34),(u16 35),(u16 36),(u16 37),undef].toArray,[]⟩∧k≤N∧IsRat w' (64+k*(K+L+1)) c0 c1 c2 c3 (sm k fun i=>x i*y i)∧Lc w' b11 #[(.bool false),(.slice none 0 0),(.bool false),(.slice none 0 0)] 71∧Lc w' b13 #[c0,c1,c2,c3] 71∧Gr w w') (N - 0) ?_ ?_
 ·exact ⟨0,(.bool false),(.slice none 0 0),(.bool false),(.slice none 0 0),(fun i=>List.getD ?l16 i undef),rfl,rfl,(Nat.zero_le _),(IsRat.zero _ (by omega)),L11,L13,hB⟩
 rintro n16 a16 w16 ⟨k,c0,c1,c2,c3,u16,rfl,rfl,hkk,hd,L11,L13,hB⟩ K16 k16
 have hm1:k<N→k*(K+L+1)+(K+L+1)≤N*(K+L+1):=fun h=>by have:=Nat.mul_le_mul_right (K+L+1) h;rw [Nat.succ_mul] at this;exact this
 refine wp_seq_k (fun K17 k17=>?_)
 refine rg [0] ?_
 refine sv 10 (.bool (decide ((k:Int)<(N:Int)))) ?_
 refine sq_nil ?_
 refine k17 _ _ ?_
 try clear k17 K17
 refine wp_seq_k (fun K18 k18=>?_)
 refine wp_cond_split (t:=decide ((k:Int)<(N:Int))) rfl (fun hb19=>?_) (fun hb19=>?_)
 ·have hlk:k<N:=by have:=of_decide_eq_true hb19;omega
  refine wp_skip ?_
  refine k18 _ _ ?_
  try clear k18 K18
  refine wp_seq_k (fun K20 k20=>?_)
  refine wp_block ?_
  refine wp_seq_k (fun K21 k21=>?_)
  refine rg [0,1] ?_
  refine sv 11 (.int .i64 ((k:Int))) ?_
  refine sv 6 (.int .i64 ((k:Int))) ?_
  refine sq_nil ?_
  refine k21 _ _ ?_
  try clear k21 K21
  refine wp_seq_k (fun K22 k22=>?_)
  refine rg [0,1,2,3,4,5,6,7,8,9,10,11,12,13] ?_
  refine sv 12 va ?_
  refine sv 13 (.int .i64 ((k:Int))) ?_
  refine sw 14 (adr va (k*4)) rfl (rv_idxn (e:=71) ha tb_len (by decide) k (by omega) _ _ _ rfl rfl rfl (by kernel_rfl) (by kernel_rfl)) ?_
  obtain ⟨_,_,⟨cA23,cB23,cC23,cD23,rfl,h23⟩,at23⟩:=Sl.get ha (by decide) (tb_get (f:=(fun z1=>(x z1))) (n:=N) (i:=k) (by omega))
  refine sw 15 (.agg #[cA23,cB23,cC23,cD23]) rfl (rv_ldn [cA23,cB23,cC23,cD23] (at23.gr hB) _ _ rfl rfl (by kernel_rfl)) ?_
  refine se ?_
  refine ec 16 (sign_r (h23.kp hB.kp)) ?_
  rintro e24 w24 ⟨rfl,g24⟩
  refine ⟨_,rfl,?_⟩
  replace hB:=hB.trans g24
  simp only [p3,p4]
  refine sv 17 (.bool ((sgn ((x k)).num !=(0:Int)))) ?_
  rcases Bool.eq_false_or_eq_true ((sgn ((x k)).num !=(0:Int))) with hb25 | hb25
  ·refine sw 18 (.bool true) rfl (RunV.bool (x:=(sgn ((x k)).num !=(0:Int))) (rvk (by kernel_rfl)) hb25) ?_
   refine sv 19 vb ?_
   refine sv 20 (.int .i64 ((k:Int))) ?_
   refine sw 21 (adr vb (k*4)) rfl (rv_idxn (e:=71) hb tb_len (by decide) k (by omega) _ _ _ rfl rfl rfl (by kernel_rfl) (by kernel_rfl)) ?_
   obtain ⟨_,_,⟨cA26,cB26,cC26,cD26,rfl,h26⟩,at26⟩:=Sl.get hb (by decide) (tb_get (f:=(fun z1=>(y z1))) (n:=N) (i:=k) (by omega))
   refine sw 22 (.agg #[cA26,cB26,cC26,cD26]) rfl (rv_ldn [cA26,cB26,cC26,cD26] (at26.gr hB) _ _ rfl rfl (by kernel_rfl)) ?_
   refine se ?_
   refine ec 23 (sign_r (h26.kp hB.kp)) ?_
   rintro e27 w27 ⟨rfl,g27⟩
   refine ⟨_,rfl,?_⟩
   replace hB:=hB.trans g27
   simp only [p3,p4]
   refine sv 24 (.bool ((sgn ((y k)).num !=(0:Int)))) ?_
   refine sv 25 (.bool ((sgn ((y k)).num !=(0:Int)))) ?_
   refine sq_nil ?_
   refine k22 _ _ ?_
   try clear k22 K22
   refine wp_cond_split (t:=(sgn ((y k)).num !=(0:Int))) rfl (fun hb28=>?_) (fun hb28=>?_)
   ·have gd38:=Gr.drew w27
    replace hB:=hB.trans gd38
    replace L13:=L13.gr (g24.trans (g27.trans gd38))
    refine wp_region_ort (fun w'=>AtV w' va (k*4) [cA23,cB23,cC23,cD23]∧AtV w' vb (k*4) [cA26,cB26,cC26,cD26]) [([11],(fun w'=>Lc w' b13 #[c0,c1,c2,c3] 71))] [(true,0),(true,1),(true,2),(true,3),(true,4),(true,5),(true,6),(true,7),(true,8),(false,9),(false,10),(false,11)] (by kernel_rfl) (by kernel_rfl) (by kernel_rfl) (by decide) (fun _ _ _ _ _ h=>h) ⟨(at23.gr hB),(at26.gr hB)⟩ ⟨fun _=>L13,trivial⟩ ?_
    refine tw 26 (.agg #[c0,c1,c2,c3]) rfl (fun w' hS=>(rl 71 0 [c0,c1,c2,c3] (hS.2.1 (by kernel_rfl)))) ?_
    refine tv 27 va ?_
    refine tv 28 (.int .i64 ((k:Int))) ?_
    refine tw 29 (adr va (k*4)) rfl (fun w' hS=>(rv_idxn (e:=71) ha tb_len (by decide) k (by omega) _ _ _ rfl rfl rfl (by kernel_rfl) (by kernel_rfl))) ?_
    refine tw 30 (.agg #[cA23,cB23,cC23,cD23]) rfl (fun w' hS=>(rv_ldn [cA23,cB23,cC23,cD23] hS.1.1 _ _ rfl rfl (by kernel_rfl))) ?_
    refine tv 31 vb ?_
    refine tv 32 (.int .i64 ((k:Int))) ?_
    refine tw 33 (adr vb (k*4)) rfl (fun w' hS=>(rv_idxn (e:=71) hb tb_len (by decide) k (by omega) _ _ _ rfl rfl rfl (by kernel_rfl) (by kernel_rfl))) ?_
    refine tw 34 (.agg #[cA26,cB26,cC26,cD26]) rfl (fun w' hS=>(rv_ldn [cA26,cB26,cC26,cD26] hS.1.2 _ _ rfl rfl (by kernel_rfl))) ?_
    refine te ?_
    refine ec 35 (mul_r (h23.kp hB.kp) (h26.kp hB.kp) (by omega)) ?_
    rintro e40 w40 ⟨⟨p40,q40,r40,s40,rfl,h40⟩,g40⟩
    refine ⟨_,rfl,?_⟩
    replace hB:=hB.trans g40
    replace L13:=L13.gr g40
    refine ⟨⟨(at23.gr hB),(at26.gr hB)⟩,⟨fun _=>L13,trivial⟩,?_⟩
    simp only [p3,p4]
    refine te ?_
    have kq43:=g24.kp.trans (g27.kp.trans (gd38.kp.trans g40.kp))
    replace hd:=hd.kp kq43
    refine ec 36 (add_r hd h40 (by omega)) ?_
    rintro e42 w42 ⟨⟨p42,q42,r42,s42,rfl,h42⟩,g42⟩
    refine ⟨_,rfl,?_⟩
    replace hB:=hB.trans g42
    replace L13:=L13.gr g42
    refine ⟨⟨(at23.gr hB),(at26.gr hB)⟩,⟨fun _=>L13,trivial⟩,?_⟩
    simp only [p3,p4]
    refine te ?_
    have lo45:=L13
    refine es 71 0 (.agg #[p42,q42,r42,s42]) [p42,q42,r42,s42] #[p42,q42,r42,s42] L13 hB q13 ⟨h42.one0,h42.one1,h42.one2,h42.one3,trivial⟩ fun w45 st45 kp45 L13 hB=>?_
    refine ⟨⟨(at23.gr hB),(at26.gr hB)⟩,⟨cameT (by kernel_rfl),trivial⟩,?_⟩
    refine ort_nil ?_
    refine k20 _ _ ?_
    try clear k20 K20
    refine rg [0,1] ?_
    refine sw 37 (.int .i64 (((k:Int)+1))) rfl (RunV.int (x:=IntKind.i64.wrap (((k:Int)+1))) (y:=((k:Int)+1)) (rvk (by kernel_rfl)) (by first | rfl | (rw [IntKind.wrap_i64];omega))) ?_
    refine sv 9 (.int .i64 (((k:Int)+1))) ?_
    refine sq_nil ?_
    replace h42:=h42.kp kp45
    replace L11:=st45.lc (L11.gr (g24.trans (g27.trans (gd38.trans (g40.trans g42))))) ne11_13
    refine k16 (N - (k+1)) ⟨List.toArray ?l46,[]⟩ _ (by omega) ?_
    exact ⟨k+1,p42,q42,r42,s42,(fun i=>List.getD ?l46 i undef),rfl,rfl,(by omega),(h42.mono (by rw [Nat.succ_mul];omega)),L11,L13,hB⟩
   ·refine wp_skip ?_
    refine k20 _ _ ?_
    try clear k20 K20
    refine rg [0,1] ?_
    refine sw 37 (.int .i64 (((k:Int)+1))) rfl (RunV.int (x:=IntKind.i64.wrap (((k:Int)+1))) (y:=((k:Int)+1)) (rvk (by kernel_rfl)) (by first | rfl | (rw [IntKind.wrap_i64];omega))) ?_
    refine sv 9 (.int .i64 (((k:Int)+1))) ?_
    refine sq_nil ?_
    have kq47:=g24.kp.trans g27.kp
    replace hd:=hd.kp kq47
    replace L11:=L11.gr (g24.trans g27)
    replace L13:=L13.gr (g24.trans g27)
    refine k16 (N - (k+1)) ⟨List.toArray ?l48,[]⟩ _ (by omega) ?_
    exact ⟨k+1,c0,c1,c2,c3,(fun i=>List.getD ?l48 i undef),rfl,rfl,(by omega),((hd.mono (by rw [Nat.succ_mul];omega)).castq (sm_same (by rw [sgn_nz hb28];grind))),L11,L13,hB⟩
  ·refine sw 18 (.bool false) rfl (RunV.bool (x:=(sgn ((x k)).num !=(0:Int))) (rvk (by kernel_rfl)) hb25) ?_
   refine ss 19 ?_
   refine ss 20 ?_
   refine ss 21 ?_
   refine ss 22 ?_
   refine ss 23 ?_
   refine ss 24 ?_
   refine sv 25 (.bool false) ?_
   refine sq_nil ?_
   refine k22 _ _ ?_
   try clear k22 K22
   refine wp_cond_false rfl ?_
   refine wp_skip ?_
   refine k20 _ _ ?_
   try clear k20 K20
   refine rg [0,1] ?_
   refine sw 37 (.int .i64 (((k:Int)+1))) rfl (RunV.int (x:=IntKind.i64.wrap (((k:Int)+1))) (y:=((k:Int)+1)) (rvk (by kernel_rfl)) (by first | rfl | (rw [IntKind.wrap_i64];omega))) ?_
   refine sv 9 (.int .i64 (((k:Int)+1))) ?_
   refine sq_nil ?_
   replace hd:=hd.kp g24.kp
   replace L11:=L11.gr g24
   replace L13:=L13.gr g24
   refine k16 (N - (k+1)) ⟨List.toArray ?l49,[]⟩ _ (by omega) ?_
   exact ⟨k+1,c0,c1,c2,c3,(fun i=>List.getD ?l49 i undef),rfl,rfl,(by omega),((hd.mono (by rw [Nat.succ_mul];omega)).castq (sm_same (by rw [sgn_nz hb25];grind))),L11,L13,hB⟩
 ·have hek:N=k:=by have:=of_decide_eq_false hb19;omega
  subst hek
  refine wp_exit ?_
  simp only [Exit.then,Exit.inBlock,↓reduceIte]
  refine k14 _ _ ?_
  try clear k14 K14
  refine wp_seq_k (fun K50 k50=>?_)
  refine rg [0,1] ?_
  refine sw 38 (.agg #[c0,c1,c2,c3]) rfl (rl 71 0 [c0,c1,c2,c3] L13) ?_
  refine se ?_
  have lo51:=L11
  refine es 71 0 (.agg #[c0,c1,c2,c3]) [c0,c1,c2,c3] #[c0,c1,c2,c3] L11 hB q11 ⟨hd.one0,hd.one1,hd.one2,hd.one3,trivial⟩ fun w51 st51 kp51 L11 hB=>?_
  refine sq_nil ?_
  refine k50 _ _ ?_
  try clear k50 K50
  refine wp_ret ?_
  refine bodyPost_ret (v:=(.agg #[c0,c1,c2,c3])) (ret_cell _ _ _ rfl rfl L11 (by kernel_rfl)) rfl ⟨?_,hB⟩
  replace hd:=hd.kp kp51
  exact ⟨_,_,_,_,rfl,hd⟩

set_option maxRecDepth 100000 in
set_option maxHeartbeats 1000000 in
theorem mx_columns {K R N:Nat} {v:Value} {m:Nat→Nat→Rat} {w:World} (hs:Sl (ERw (ERat K) 71 4) 49 1 w v (tb (fun z0=>tb (fun z1=>(m z0 z1)) N) R)):
    Calls Tryz.prog 53 #[v] w fun e w'=>e=.returned (.int .i64 (if R=0 then 0 else (N:Int)))∧Gr w w':=by
 go_enter Tryz.func53,Tryz.ntmps53
 have hB:=Gr.refl w
 refine wp_seq_k (fun K10 k10=>?_)
 refine rg [0] ?_
 refine sv 2 (.int .i64 0) ?_
 refine sq_nil ?_
 refine k10 _ _ ?_
 try clear k10 K10
 refine wp_seq_k (fun K11 k11=>?_)
 refine wp_seq_k (fun K12 k12=>?_)
 refine rg [0,1,2] ?_
 refine sv 3 v ?_
 refine sw 4 (.int .i64 ((R:Int))) rfl (rv_lenn (e:=49) hs (tb_lenz rfl) _ _ rfl rfl (by kernel_rfl)) ?_
 refine sv 5 (.bool (((R:Int)==(0:Int)))) ?_
 refine sq_nil ?_
 refine k12 _ _ ?_
 try clear k12 K12
 refine wp_cond_split (t:=((R:Int)==(0:Int))) rfl (fun hb13=>?_) (fun hb13=>?_)
 ·have hq14:(R:Int)=(0:Int):=by have:=hb13;simp at this;omega
  refine wp_seq_k (fun K15 k15=>?_)
  refine rg [0] ?_
  refine sv 2 (.int .i64 0) ?_
  refine sq_nil ?_
  refine k15 _ _ ?_
  try clear k15 K15
  refine wp_ret ?_
  simp only [Exit.then]
  refine bodyPost_ret (v:=(.int .i64 0)) (ret_tmp rfl rfl) rfl ⟨?_,hB⟩
  exact (by rw [if_pos (show R=0 by omega)])
 ·have hq16:¬ (R:Int)=(0:Int):=by have:=hb13;simp at this;omega
  refine wp_skip ?_
  refine k11 _ _ ?_
  try clear k11 K11
  refine wp_seq_k (fun K17 k17=>?_)
  refine rg [0,1,2,3,4] ?_
  refine sv 6 v ?_
  refine sw 7 (adr v (0*1)) rfl (rv_idxn (e:=49) hs tb_len (by decide) 0 (by omega) _ _ _ rfl rfl rfl (by kernel_rfl) (by kernel_rfl)) ?_
  obtain ⟨_,_,⟨u18,rfl,hr18⟩,at18⟩:=Sl.get hs (by decide) (tb_get (f:=(fun z0=>tb (fun z1=>(m z0 z1)) N)) (n:=R) (i:=0) (by omega))
  refine sw 8 u18 rfl (rv_ld1 u18 (at18.gr hB) _ _ rfl rfl (by kernel_rfl)) ?_
  refine sw 9 (.int .i64 ((N:Int))) rfl (rv_lenn (e:=71) hr18 (tb_lenz rfl) _ _ rfl rfl (by kernel_rfl)) ?_
  refine sv 2 (.int .i64 ((N:Int))) ?_
  refine sq_nil ?_
  refine k17 _ _ ?_
  try clear k17 K17
  refine wp_ret ?_
  refine bodyPost_ret (v:=(.int .i64 ((N:Int)))) (ret_tmp rfl rfl) rfl ⟨?_,hB⟩
  exact (by rw [if_neg (show ¬ R=0 by omega)])

theorem mx_columnsR {K R N:Nat} {v:Value} {m:Nat→Nat→Rat} {w:World} (hs:Sl (ERw (ERat K) 71 4) 49 1 w v (tb (fun z0=>tb (fun z1=>(m z0 z1)) N) R)) (hR:0<R):Calls Tryz.prog 53 #[v] w fun e w'=>e=.returned (.int .i64 (N:Int))∧Gr w w':=by
  have:=mx_columns hs
  rw [if_neg (show ¬ R=0 by omega)] at this;exact this
theorem mx_columnsp {K R N:Nat} {v:Value} {m:Nat→Nat→Rat} {w:World} (hs:Sl (ERw (ERat K) 71 4) 49 1 w v (tb (fun z0=>tb (fun z1=>(m z0 z1)) N) R)) (hR:R=0→N=0):Calls Tryz.prog 53 #[v] w fun e w'=>e=.returned (.int .i64 (N:Int))∧Gr w w':=by
  have:=mx_columns hs
  by_cases h:R=0
  · rw [if_pos h] at this;rw [hR h];exact this
  · rw [if_neg h] at this;exact this
set_option maxRecDepth 100000 in
set_option maxHeartbeats 1000000 in
theorem mx_transposed {K R N:Nat} {v:Value} {m:Nat→Nat→Rat} (hR:R=0→N=0) (hK:64≤K) (_hR2:R≤100000) (_hN2:N≤100000) {w:World} (hs:Sl (ERw (ERat K) 71 4) 49 1 w v (tb (fun z0=>tb (fun z1=>(m z0 z1)) N) R)):
    Calls Tryz.prog 74 #[v] w fun e w'=>(∃ u,e=.returned u∧Sl (ERw (ERat K) 71 4) 49 1 w' u (tb (fun z0=>tb (fun z1=>(m z1 z0)) R) N))∧Gr w w':=by
 go_enter Tryz.func74,Tryz.ntmps74
 have hB:=Gr.refl w
 refine wp_seq_k (fun K10 k10=>?_)
 refine rg [0] ?_
 refine sv 2 (.slice none 0 0) ?_
 refine sq_nil ?_
 refine k10 _ _ ?_
 try clear k10 K10
 refine wp_seq_k (fun K11 k11=>?_)
 refine rg [0] ?_
 refine sv 3 (.slice none 0 0) ?_
 refine sq_nil ?_
 refine k11 _ _ ?_
 try clear k11 K11
 refine wp_seq_k (fun K12 k12=>?_)
 refine wp_seq_k (fun K13 k13=>?_)
 refine rg [0,1,2] ?_
 refine sv 7 v ?_
 refine se ?_
 refine ec 8 (mx_columnsp (hs.gr (stab_rw (stab_rat K) 71 4) hB) hR) ?_
 rintro e14 w14 ⟨rfl,g14⟩
 refine ⟨_,rfl,?_⟩
 replace hB:=hB.trans g14
 simp only [p3,p4]
 refine sv 9 (.int .i64 0) ?_
 refine sq_nil ?_
 refine k13 _ _ ?_
 try clear k13 K13
 refine wp_block ?_
 refine wp_loop_inv (a:=⟨List.toArray ?l15,[]⟩) (fun n a w'=>∃ (k:Nat) (vo:Value) (u15:Nat→Value),N - k=n∧a=⟨[v,undef,(.slice none 0 0),vo,(u15 4),(u15 5),(u15 6),(u15 7),(.int .i64 ((N:Int))),(.int .i64 ((k:Int))),(u15 10),(u15 11),(u15 12),(u15 13),(u15 14),(u15 15),(u15 16),(u15 17),(u15 18),(u15 19),(u15 20),(u15 21),(u15 22),(u15 23),(u15 24),(u15 25),(u15 26),(u15 27),(u15 28),(u15 29),(u15 30),(u15 31),(u15 32),(u15 33),(u15 34),(u15 35),undef].toArray,[]⟩∧k≤N∧Ow (ERw (ERat K) 71 4) 49 1 w' w.heap.size vo (tb (fun z0=>tb (fun z1=>(m z1 z0)) R) k)∧Gr w w') (N - 0) ?_ ?_
 ·exact ⟨0,(.slice none 0 0),(fun i=>List.getD ?l15 i undef),rfl,rfl,(Nat.zero_le _),(Ow.nil _ _ _ _ _),hB⟩
 rintro n15 a15 w15 ⟨k,vo,u15,rfl,rfl,hkk,ow,hB⟩ K15 k15
 have lehC:=Below.size hB
 have hC:=Gr.refl w15
 refine wp_seq_k (fun K16 k16=>?_)
 refine rg [0] ?_
 refine sv 10 (.bool (decide ((k:Int)<(N:Int)))) ?_
 refine sq_nil ?_
 refine k16 _ _ ?_
 try clear k16 K16
 refine wp_seq_k (fun K17 k17=>?_)
 refine wp_cond_split (t:=decide ((k:Int)<(N:Int))) rfl (fun hb18=>?_) (fun hb18=>?_)
 ·have hlk:k<N:=by have:=of_decide_eq_true hb18;omega
  refine wp_skip ?_
  refine k17 _ _ ?_
  try clear k17 K17
  refine wp_seq_k (fun K19 k19=>?_)
  refine wp_block ?_
  refine wp_seq_k (fun K20 k20=>?_)
  refine rg [0,1] ?_
  refine sv 11 (.int .i64 ((k:Int))) ?_
  refine sv 4 (.int .i64 ((k:Int))) ?_
  refine sq_nil ?_
  refine k20 _ _ ?_
  try clear k20 K20
  refine wp_seq_k (fun K21 k21=>?_)
  refine rg [0,1,2,3] ?_
  refine sv 12 v ?_
  refine sw 13 (.int .i64 ((R:Int))) rfl (rv_lenn (e:=49) hs (tb_lenz rfl) _ _ rfl rfl (by kernel_rfl)) ?_
  refine se ?_
  refine eff_mk (E:=(ERat K)) (0:Rat) 49 71 (.agg #[(.bool false),(.slice none 0 0),(.bool false),(.slice none 0 0)]) R 4 64 (some 14) rfl rfl rfl rfl (by kernel_rfl) (by kernel_rfl) (by decide) (by omega) (by decide) (fun w2=>erat_zero K hK w2) (fun b22 w22 g22 mk22 q22=>?_)
  have q22_hC:=Nat.le_trans (Below.size hC) q22
  replace q22:=Nat.le_trans (Below.size hB) q22
  replace hB:=hB.trans g22
  replace hC:=hC.trans g22
  simp only [putl,p3,p4]
  refine sv 5 (.slice (some ⟨b22,0,none⟩) R R) ?_
  refine sq_nil ?_
  refine k21 _ _ ?_
  try clear k21 K21
  refine wp_seq_k (fun K23 k23=>?_)
  refine wp_seq_k (fun K24 k24=>?_)
  refine rg [0,1,2] ?_
  refine sv 15 v ?_
  refine sw 16 (.int .i64 ((R:Int))) rfl (rv_lenn (e:=49) hs (tb_lenz rfl) _ _ rfl rfl (by kernel_rfl)) ?_
  refine sv 17 (.int .i64 0) ?_
  refine sq_nil ?_
  refine k24 _ _ ?_
  try clear k24 K24
  refine wp_block ?_
  refine wp_loop_inv (a:=⟨List.toArray ?l25,[]⟩) (fun n a w'=>∃ (j:Nat) (u25:Nat→Value),R - j=n∧a=⟨[v,undef,(.slice none 0 0),vo,(.int .i64 ((k:Int))),(.slice (some ⟨b22,0,none⟩) R R),(u25 6),(u25 7),(.int .i64 ((N:Int))),(.int .i64 ((k:Int))),(.bool (decide ((k:Int)<(N:Int)))),(u25 11),(u25 12),(u25 13),(u25 14),(u25 15),(.int .i64 ((R:Int))),(.int .i64 ((j:Int))),(u25 18),(u25 19),(u25 20),(u25 21),(u25 22),(u25 23),(u25 24),(u25 25),(u25 26),(u25 27),(u25 28),(u25 29),(u25 30),(u25 31),(u25 32),(u25 33),(u25 34),(u25 35),undef].toArray,[]⟩∧j≤R∧Mk (ERat K) 71 4 w' b22 (fil (fun z1=>(m z1 k)) (0:Rat) R j)∧Gr w15 w'∧Gr w w') (R - 0) ?_ ?_
  ·exact ⟨0,(fun i=>List.getD ?l25 i undef),rfl,rfl,(Nat.zero_le _),(mk22.cast fil_zero),hC,hB⟩
  rintro n25 a25 w25 ⟨j,u25,rfl,rfl,hkj,mj,hC,hB⟩ K25 k25
  refine wp_seq_k (fun K26 k26=>?_)
  refine rg [0] ?_
  refine sv 18 (.bool (decide ((j:Int)<(R:Int)))) ?_
  refine sq_nil ?_
  refine k26 _ _ ?_
  try clear k26 K26
  refine wp_seq_k (fun K27 k27=>?_)
  refine wp_cond_split (t:=decide ((j:Int)<(R:Int))) rfl (fun hb28=>?_) (fun hb28=>?_)
  ·have hlj:j<R:=by have:=of_decide_eq_true hb28;omega
   refine wp_skip ?_
   refine k27 _ _ ?_
   try clear k27 K27
   refine wp_seq_k (fun K29 k29=>?_)
   refine wp_block ?_
   refine wp_seq_k (fun K30 k30=>?_)
   refine rg [0,1] ?_
   refine sv 19 (.int .i64 ((j:Int))) ?_
   refine sv 6 (.int .i64 ((j:Int))) ?_
   refine sq_nil ?_
   refine k30 _ _ ?_
   try clear k30 K30
   refine rg [0,1,2,3,4,5,6,7,8,9,10] ?_
   refine sv 20 (.slice (some ⟨b22,0,none⟩) R R) ?_
   refine sv 21 (.int .i64 ((j:Int))) ?_
   refine sv 22 v ?_
   refine sv 23 (.int .i64 ((j:Int))) ?_
   refine sw 24 (adr v (j*1)) rfl (rv_idxn (e:=49) hs tb_len (by decide) j (by omega) _ _ _ rfl rfl rfl (by kernel_rfl) (by kernel_rfl)) ?_
   obtain ⟨_,_,⟨u31,rfl,hr31⟩,at31⟩:=Sl.get hs (by decide) (tb_get (f:=(fun z0=>tb (fun z1=>(m z0 z1)) N)) (n:=R) (i:=j) (by omega))
   refine sw 25 u31 rfl (rv_ld1 u31 (at31.gr hB) _ _ rfl rfl (by kernel_rfl)) ?_
   refine sv 26 (.int .i64 ((k:Int))) ?_
   refine sw 27 (adr u31 (k*4)) rfl (rv_idxn (e:=71) hr31 tb_len (by decide) k (by omega) _ _ _ rfl rfl rfl (by kernel_rfl) (by kernel_rfl)) ?_
   obtain ⟨_,_,⟨cA32,cB32,cC32,cD32,rfl,h32⟩,at32⟩:=Sl.get hr31 (by decide) (tb_get (f:=(fun z1=>(m j z1))) (n:=N) (i:=k) (by omega))
   refine sw 28 (.agg #[cA32,cB32,cC32,cD32]) rfl (rv_ldn [cA32,cB32,cC32,cD32] (at32.gr hB) _ _ rfl rfl (by kernel_rfl)) ?_
   refine sw 29 (adr (.slice (some ⟨b22,0,none⟩) R R) (j*4)) rfl (rv_idxn (e:=71) (n:=R) (mj.sl_n (n:=R) (cap:=R) (fil_len (by omega)) (Nat.le_refl _)) (fil_len (by omega)) (by decide) j (by omega) _ _ _ rfl rfl rfl (by kernel_rfl) (by kernel_rfl)) ?_
   refine se ?_
   refine eff_stm (stab_rat K) mj j (fil_lt (by omega) (by omega)) ((m j k)) (.agg #[cA32,cB32,cC32,cD32]) [cA32,cB32,cC32,cD32] (R) (R) 71 _ _ rfl rfl rfl rfl rfl (by kernel_rfl) rfl ⟨h32.one0,h32.one1,h32.one2,h32.one3,trivial⟩ ⟨_,_,_,_,rfl,(h32.kp hB.kp).mono (by omega)⟩ (by decide) (fun w33 st33 kt33 mk33=>?_)
   replace hB:=st33.gr hB q22
   replace hC:=st33.gr hC q22_hC
   refine sq_nil ?_
   refine k29 _ _ ?_
   try clear k29 K29
   refine rg [0,1] ?_
   refine sw 30 (.int .i64 (((j:Int)+1))) rfl (RunV.int (x:=IntKind.i64.wrap (((j:Int)+1))) (y:=((j:Int)+1)) (rvk (by kernel_rfl)) (by first | rfl | (rw [IntKind.wrap_i64];omega))) ?_
   refine sv 17 (.int .i64 (((j:Int)+1))) ?_
   refine sq_nil ?_
   refine k25 (R - (j+1)) ⟨List.toArray ?l34,[]⟩ _ (by omega) ?_
   exact ⟨j+1,(fun i=>List.getD ?l34 i undef),rfl,rfl,(by omega),(mk33.cast (fil_set hlj (by first | rfl | exact fil_all))),hC,hB⟩
  ·have hej:R=j:=by have:=of_decide_eq_false hb28;omega
   subst hej
   refine wp_exit ?_
   simp only [Exit.then,Exit.inBlock,↓reduceIte]
   refine k23 _ _ ?_
   try clear k23 K23
   refine rg [0,1,2,3,4] ?_
   refine sv 31 vo ?_
   refine sv 32 (.slice (some ⟨b22,0,none⟩) R R) ?_
   refine se ?_
   refine eff_bs 49 1 #[(.slice (some ⟨b22,0,none⟩) R R)] (some 33) rfl (fun _=>by kernel_rfl) (fun b35 w35 g35 L35 q35=>?_)
   have q35_hC:=Nat.le_trans (Below.size hC) q35
   replace hB:=hB.trans g35
   replace hC:=hC.trans g35
   simp only [putl,p3,p4]
   refine se ?_
   replace mj:=mj.gr (stab_rat K) g35
   refine eff_apg (stab_rw (stab_rat K) 71 4) _ _ 29 49 w.heap.size (.slice none 0 0) vo (tb (fun z0=>tb (fun z1=>(m z1 z0)) R) k) b35 [(.slice (some ⟨b22,0,none⟩) R R)] (fil (fun z1=>(m z1 k)) (0:Rat) R R) 1 1 (some 34) 24 rfl rfl rfl rfl (ow.gr (stab_rw (stab_rat K) 71 4) hC) L35 ⟨rfl,trivial⟩ rfl ⟨_,rfl,(mj.sl_n (fil_len (by omega)) (Nat.le_refl _))⟩ (Below.size hB) (by rw [tb_len];omega) (by decide) (by kernel_rfl) (by kernel_rfl) (by decide) (by decide) (fun v36 w36 ow36 wt36 hg36=>?_)
   replace hB:=hg36 _ hB (Nat.le_refl _)
   replace ow36:=ow36.cast (tb_snoc (f:=(fun z0=>tb (fun z1=>(m z1 z0)) R)) (n:=k) (by first | rfl | exact fil_all))
   simp only [putl,p3,p4]
   refine sv 3 v36 ?_
   refine sq_nil ?_
   refine k19 _ _ ?_
   try clear k19 K19
   refine rg [0,1] ?_
   refine sw 35 (.int .i64 (((k:Int)+1))) rfl (RunV.int (x:=IntKind.i64.wrap (((k:Int)+1))) (y:=((k:Int)+1)) (rvk (by kernel_rfl)) (by first | rfl | (rw [IntKind.wrap_i64];omega))) ?_
   refine sv 9 (.int .i64 (((k:Int)+1))) ?_
   refine sq_nil ?_
   refine k15 (N - (k+1)) ⟨List.toArray ?l37,[]⟩ _ (by omega) ?_
   exact ⟨k+1,v36,(fun i=>List.getD ?l37 i undef),rfl,rfl,(by omega),ow36,hB⟩
 ·have hek:N=k:=by have:=of_decide_eq_false hb18;omega
  subst hek
  refine wp_exit ?_
  simp only [Exit.then,Exit.inBlock,↓reduceIte]
  refine k12 _ _ ?_
  try clear k12 K12
  refine wp_seq_k (fun K38 k38=>?_)
  refine rg [0,1] ?_
  refine sv 36 vo ?_
  refine sv 2 vo ?_
  refine sq_nil ?_
  refine k38 _ _ ?_
  try clear k38 K38
  refine wp_ret ?_
  refine bodyPost_ret (v:=vo) (ret_tmp rfl rfl) rfl ⟨?_,hB⟩
  exact ⟨_,rfl,((ow.gr (stab_rw (stab_rat K) 71 4) hC).sl)⟩

section
variable {α:Type} {P:Program} {a:Act} {o:Oper} {w:World} {Q:Exit→Act→World→Prop} {K:Act→World→Prop}
theorem take_put {ys vs cur:List Value} {n off:Nat} (h:cur.take n=ys) (hl:ys.length=n) (ho:off+vs.length≤n):(cur.take off++vs++cur.drop (off+vs.length)).take n=ys.take off++vs++ys.drop (off+vs.length):=by
  subst h
  have hn:n≤cur.length:=by rw [List.length_take] at hl;omega
  rw [List.take_append,List.take_of_length_le (by rw [List.length_append,List.length_take];omega),List.length_append,List.length_take,Nat.min_eq_left (by omega),List.take_take,Nat.min_eq_left (by omega),List.drop_take]
/-- a store at an element of a slice of the call's own -/
theorem eff_sto {E:World→α→List Value→Prop} {ts:List TypeId} (hS:Stab E ts) {T:TypeId} {c B:Nat} {v:Value} {xs:List α} (hM:Ow E T c w B v xs) (i:Nat) (hi:i<xs.length) (x0:α) (u:Value) (vs:List Value) (t:TypeId) (x y:Operand)
    (hop:o.op=.store t x y) (hd:o.dst=none) (hx:a.eval x=adr v (i*c)) (hy:a.eval y=u) (hv:u.cells=vs.toArray) (hs:(P.info? t).map (·.size)=some c) (hc:vs.length=c) (h1:One1 vs) (hE:E w x0 vs) (hT:(ts.all fun t=>t !=T)=true)
    (h:∀ w',Ow E T c w' B v (xs.set i x0)→Wt T w w'→(∀ w0,Gr w0 w→w0.heap.size≤B→Gr w0 w')→K a w'):o.wp P a w K Q:=by
  obtain ⟨ys,hown,hEl⟩:=hM
  subst hc
  have hle:i*vs.length+vs.length≤ys.length:=by
    rw [hEl.1]
    have:=Nat.mul_le_mul_right vs.length (show i+1≤xs.length by omega)
    rw [Nat.add_mul] at this;omega
  rcases hown.2 with ⟨_,h0⟩ | ⟨g,cap,cur,rfl,hb,hg,h3,h4,h5,h6⟩
  · omega
  have hx':a.eval x=.pointer (some ⟨g,i*vs.length,none⟩):=by rw [hx];simp [adr]
  have hyl:ys.length=xs.length*vs.length:=hown.1
  have hcl:xs.length*vs.length≤cur.size:=by rw [h5];exact Nat.mul_le_mul_right _ h3
  refine eff_store t x y g (i*vs.length) u vs cur _ T hop hd hx' hy hv hg hs (by omega) h1 rfl (fun w' st L'=>?_)
  have e:writeAt cur (i*vs.length) vs=(cur.toList.take (i*vs.length)++vs++cur.toList.drop (i*vs.length+vs.length)).toArray:=by
    have:=writeAt_list vs (i*vs.length) cur.toList (by simp;omega)
    rwa [Array.toArray_toList] at this
  rw [e] at L'
  have hwt:Wt T w w':=⟨st.os,st.tape,st.output,Nat.le_of_eq st.size.symm,fun k cs t fr ht hk=>by
    rw [st.block k (fun e=>?_)]
    · exact hk
    · subst e
      rw [show w.heap[k]?=_ from hg] at hk
      simp only [Option.some.injEq,Obj.cells.injEq] at hk
      exact ht hk.2.1.symm⟩
  have hEl2:=(hEl.set hi rfl hE).kts hS (hwt.kts hT)
  refine h w' ⟨_,⟨?_,.inr ⟨g,cap,_,?_,hb,L',?_,h4,?_,?_⟩⟩,hEl2⟩ hwt fun w0 hB hB0=>st.gr hB (Nat.le_trans hB0 hb)
  · have:=hEl2.1;rw [this]
  · rw [List.length_set]
  · rw [List.length_set];exact h3
  · rw [← h5];simp only [List.size_toArray,List.length_append,List.length_take,List.length_drop,Array.length_toList];omega
  · rw [List.length_set]
    exact take_put h6 hyl (by omega)

/-- a part of a slice -/
def subv (v:Value) (l h c:Nat):Value:=
  match v with
  | .slice ao _ cap=>sliced ao l h cap c
  | _=>undef
theorem Sl.sub {E:World→α→List Value→Prop} {T:TypeId} {c:Nat} {v:Value} {xs:List α} (h:Sl E T c w v xs) {l k:Nat} (h1:l≤k) (h2:k≤xs.length):Sl E T c w (subv v l k c) ((xs.drop l).take (k - l)):=by
  obtain ⟨ys,⟨ao,cap,rfl,hn,hc⟩,hE⟩:=h
  have hl:((xs.drop l).take (k - l)).length=k - l:=by rw [List.length_take,List.length_drop];omega
  have hm1:l*c≤k*c:=Nat.mul_le_mul_right c h1
  have hm2:k*c≤xs.length*c:=Nat.mul_le_mul_right c h2
  have hsub:(k - l)*c=k*c - l*c:=Nat.sub_mul k l c
  have hyl:((ys.drop (l*c)).take ((k - l)*c)).length=(k - l)*c:=by rw [List.length_take,List.length_drop,hE.1,Nat.sub_mul];omega
  refine ⟨(ys.drop (l*c)).take ((k - l)*c),⟨if cap=l then ao else ao.map (·.add (l*c)),cap - l,?_,?_,fun hp=>?_⟩,?_,fun i x hx=>?_⟩
  · rw [hl];rfl
  · rw [hl];omega
  · rw [hyl] at hp
    have hkl:l<k:=by
      rcases Nat.lt_or_ge l k with h | h
      · exact h
      · rw [show k - l=0 by omega,Nat.zero_mul] at hp;exact absurd hp (Nat.lt_irrefl 0)
    obtain ⟨b,off,cs,fr,rfl,h4,h5⟩:=hc (by rw [hE.1];omega)
    refine ⟨b,off+l*c,cs,fr,?_,h4,fun j hj=>?_⟩
    · rw [if_neg (show ¬ cap=l by omega)]
      by_cases h0:l*c=0<;>simp [Addr.add,h0]
    · rw [hyl] at hj
      rw [Nat.add_assoc,h5 (l*c+j) (by rw [hE.1];omega),List.getElem?_take_of_lt hj,List.getElem?_drop]
  · rw [hyl,hl]
  · have hi:i<k - l:=by have:=(List.getElem?_eq_some_iff.1 hx).1;omega
    rw [List.getElem?_take_of_lt hi,List.getElem?_drop] at hx
    have h3:=hE.2 (l+i) x hx
    have hm3:i*c+c≤(k - l)*c:=by have:=Nat.mul_le_mul_right c (show i+1≤k - l by omega);rw [Nat.add_mul] at this;omega
    rw [List.drop_take,List.drop_drop,List.take_take,Nat.min_eq_left (by omega),← Nat.add_mul]
    exact h3
theorem tb_sub {f:Nat→α} {n l k:Nat} (h:k≤n):((tb f n).drop l).take (k - l)=tb (fun i=>f (l+i)) (k - l):=by
  apply List.ext_getElem?
  intro j
  by_cases hj:j<k - l
  · rw [List.getElem?_take_of_lt hj,List.getElem?_drop,tb_get (by omega),tb_get hj]
  · rw [List.getElem?_eq_none (by rw [List.length_take];omega),List.getElem?_eq_none (by rw [tb_len];omega)]
theorem tb_sub0 {f:Nat→α} {n:Nat}:tb (fun i=>f (0+i)) (n - 0)=tb f n:=by rw [Nat.sub_zero];exact tb_congr fun i _=>by rw [Nat.zero_add]
theorem Sl.subt {E:World→α→List Value→Prop} {T:TypeId} {c:Nat} {v:Value} {f:Nat→α} {n:Nat} (h:Sl E T c w v (tb f n)) {l k:Nat} (h1:l≤k) (h2:k≤n):Sl E T c w (subv v l k c) (tb (fun i=>f (l+i)) (k - l)):=
  (h.sub h1 (by rw [tb_len];exact h2)).cast (tb_sub h2)
theorem rv_sub {E:World→α→List Value→Prop} {T:TypeId} {c:Nat} {v:Value} {xs:List α} {w0:World} (h:Sl E T c w0 v xs) (l k:Nat) (h1:l≤k) (h2:k≤xs.length) (t:TypeId) (x:Operand) (lo hi:Option Operand) (hop:o.op=.slice t x lo hi none) (hx:a.eval x=v)
    (hlo:(lo.map a.eval=none∧l=0)∨lo.map a.eval=some (.int .i64 (l:Int))) (hhi:(hi.map a.eval=none∧k=xs.length)∨hi.map a.eval=some (.int .i64 (k:Int))) {e:TypeId} (hu:P.underlying t=some (.slice e)) (hs:(P.info? e).map (·.size)=some c):
    RunV P a o w (subv v l k c):=by
  obtain ⟨ao,cap,rfl,hcap⟩:=h.form
  obtain ⟨i,hi',hsz⟩:=Option.map_eq_some_iff.1 hs
  unfold RunV execOp
  simp only [hop,hx]
  have b1:∀ y:Nat,k≤y→(Instr.sliceBound (.int .i64 (k:Int)) y .sliceAcap).run P w=.ok k w:=fun y hy=>by simp [Instr.sliceBound,asIntOf];omega
  have b2:(Instr.sliceBound (.int .i64 (l:Int)) k .sliceB).run P w=.ok l w:=by simp [Instr.sliceBound,asIntOf];omega
  rcases hlo with ⟨e1,rfl⟩ | e1<;>rcases hhi with ⟨e2,rfl⟩ | e2<;>rw [e1,e2]<;>
    simp [Instr.sliceAt,Instr.slice,run_underlying hu,Instr.sliceBounds,sizeOf,typeInfo,hi',hsz,subv,sliced,b1 cap (by omega),b2]
theorem rv_subt {E:World→α→List Value→Prop} {T:TypeId} {c:Nat} {v:Value} {f:Nat→α} {n:Nat} {w0:World} (h:Sl E T c w0 v (tb f n)) (l k:Nat) (h1:l≤k) (h2:k≤n) (t:TypeId) (x:Operand) (lo hi:Option Operand) (hop:o.op=.slice t x lo hi none) (hx:a.eval x=v)
    (hlo:(lo.map a.eval=none∧l=0)∨lo.map a.eval=some (.int .i64 (l:Int))) (hhi:(hi.map a.eval=none∧k=n)∨hi.map a.eval=some (.int .i64 (k:Int))) {e:TypeId} (hu:P.underlying t=some (.slice e)) (hs:(P.info? e).map (·.size)=some c):
    RunV P a o w (subv v l k c):=rv_sub h l k h1 (by rw [tb_len];exact h2) t x lo hi hop hx hlo (by rwa [tb_len]) hu hs
/-- nothing is appended -/
theorem run_app0 (w:World) (t ty e:TypeId) (i:TypeInfo) (ht:P.underlying t=some (.slice e)) (hi:P.info? e=some i) (base ao:Option Addr) (n cap c:Nat) (hle:n≤cap):
    (Builtin.append_ #[t,t] ty #[.slice base n cap,.slice ao 0 c]).run P w=.ok (.slice base n cap) w:=by
  cases base<;>cases ao<;>simp [Builtin.append_,run_underlying ht,sizeOf,typeInfo,hi,Builtin.lenOf,Builtin.firstCells,loadCells,loadCellsFrom,hle,storeCells]
/-- append of all elements of a slice of any length -/
theorem eff_aps {E:World→α→List Value→Prop} {ts:List TypeId} (hS:Stab E ts) (s x:Operand) (t:TypeId) (T B T2:Nat) (z:Value) (v:Value) (xs:List α) (u:Value) (xs2:List α) (c:Nat) (d:Option Tmp) (bytes:Nat) (hd:o.dst=d)
    (ho:o.op=.call {callee:=.builtin .append,args:=#[s,x],argTypes:=#[t,t]}) (hs:a.eval s=v) (hx:a.eval x=u)
    (hown:Ow E T c w B v xs) (hu:Sl E T2 c w u xs2) (h1:∀ x vs,E w x vs→∀ y ∈ vs,y.oneCell'=true) (hBw:B≤w.heap.size) (hn:xs.length+xs2.length≤1000000) (hbytes:bytes≤1000)
    (ht:P.underlying t=some (.slice T)) (hi:(P.info? T).map (fun i=>(i.zero,i.size,i.bytes))=some (some z,c,bytes)) (hzs:z.cells.size=c∧0<c) (hT:(ts.all fun t=>t !=T)=true)
    (h:∀ v' w',Ow E T c w' B v' (xs++xs2)→Wt T w w'→(∀ w0,Gr w0 w→w0.heap.size≤B→Gr w0 w')→(∀ k cs t,(∀ g n cap,v=.slice (some ⟨g,0,none⟩) n cap→k≠g)→Lc w k cs t→Lc w' k cs t)→K (a.put d v') w'):o.wp P a w K Q:=by
  rcases hu.cases hzs.2 with rfl | ⟨hpos,bx,ox,cx,hux⟩
  · obtain ⟨ao,cap,rfl,_⟩:=hu.form
    obtain ⟨i,hi,hz,hsize,hby⟩:=info_parts hi
    have hv:∃ base n cap,v=.slice base n cap∧n≤cap:=by
      obtain ⟨ys,h1,_⟩:=hown
      rcases h1.2 with ⟨rfl,_⟩ | ⟨g,cap,cur,rfl,_,_,h3,_⟩
      · exact ⟨_,_,_,rfl,Nat.le_refl _⟩
      · exact ⟨_,_,_,rfl,h3⟩
    obtain ⟨base,n,cp,rfl,hle⟩:=hv
    subst hd
    unfold Oper.wp execOp
    simp only [ho,resolve,invoke,builtin,Sem.run_bind,Sem.run_pure,Result.andThen_ok,List.map_toArray,List.map_cons,List.map_nil,hs,hx,List.length_nil,run_app0 w t _ T i ht hi base ao n cp cap hle]
    exact h _ _ (by rw [List.append_nil];exact hown) ⟨rfl,rfl,rfl,Nat.le_refl _,fun _ _ _ _ _ h=>h⟩ (fun _ h _=>h) fun _ _ _ _ h=>h
  subst hd
  obtain ⟨ys,hown,hEl⟩:=hown
  obtain ⟨i,hi,hz,hsize,hby⟩:=info_parts hi
  have hb1:(xs.length+xs2.length)*bytes≤1000000*1000:=Nat.mul_le_mul (by omega) hbytes
  subst hux
  obtain ⟨us,⟨ao,cap,hsl,hcap,hraw⟩,hE2⟩:=hu
  simp only [Value.slice.injEq] at hsl
  obtain ⟨rfl,_,rfl⟩:=hsl
  refine wp_append_own w s x t ho B T i z c bytes ht hi hz hsize hby hzs.1 hzs.2 v xs.length ys hs hown ⟨bx,ox,none⟩ xs2.length cx us hx hE2.1 (fun j y hj=>?_) (fun y hy=>?_) (by unfold maxLen;omega) (by omega) hBw ?_
  · have hj':=(List.getElem?_eq_some_iff.1 hj).1
    obtain ⟨b,off,cs,fr,had,hbk,hcells⟩:=hraw (by omega)
    simp only [Option.some.injEq,Addr.mk.injEq,and_true] at had
    obtain ⟨rfl,rfl⟩:=had
    have e:(⟨bx,ox,none⟩:Addr).add j=⟨bx,ox+j,none⟩:=by by_cases h0:j=0<;>simp [Addr.add,h0]
    rw [e,cells_of hbk,hcells j hj'];exact hj
  · obtain ⟨j,hj,rfl⟩:=List.mem_iff_getElem.1 hy
    have hjc:j/c<xs2.length:=by rw [hE2.1] at hj;exact Nat.div_lt_of_lt_mul (by rw [Nat.mul_comm];exact hj)
    have:=hE2.2 (j/c) xs2[j/c] (List.getElem?_eq_getElem hjc)
    refine h1 _ _ this _ ?_
    have hm:j % c<c:=Nat.mod_lt _ hzs.2
    have hd:j/c*c+j % c=j:=by rw [Nat.mul_comm];exact Nat.div_add_mod j c
    refine List.mem_iff_getElem?.2 ⟨j % c,?_⟩
    rw [List.getElem?_take_of_lt hm,List.getElem?_drop,hd,List.getElem?_eq_getElem hj]
  · intro v' w' h2 hg _
    have hown':=hown
    have hnew:∀ k,v.ownBlock=some k→B≤k∧∃ cur,w.heap[k]?=some (.cells cur T (0,0)):=by
      intro k hk
      rcases hown'.2 with ⟨rfl,_⟩ | ⟨g,cap,cur,rfl,hb,hgg,_⟩
      · simp [Value.ownBlock] at hk
      · simp [Value.ownBlock] at hk
        subst hk;exact ⟨hb,cur,hgg⟩
    have hwt:Wt T w w':=⟨hg.os,hg.tape,hg.output,hg.size,fun k cs t fr ht hk=>by
      rw [hg.block k (heap_lt hk) (fun e=>?_)]
      · exact hk
      · obtain ⟨_,cur,hc⟩:=hnew k e.symm
        rw [hk] at hc
        simp only [Option.some.injEq,Obj.cells.injEq] at hc
        exact ht hc.2.1⟩
    have hboth:Els E c w (ys++us) (xs++xs2):=by
      refine ⟨by rw [List.length_append,List.length_append,hEl.1,hE2.1,Nat.add_mul],fun k y hy=>?_⟩
      rcases Nat.lt_or_ge k xs.length with hk | hk
      · rw [List.getElem?_append_left hk] at hy
        have h3:k*c+c≤ys.length:=by
          rw [hEl.1]
          have:=Nat.mul_le_mul_right c (show k+1≤xs.length by omega)
          rw [Nat.add_mul] at this;omega
        rw [List.drop_append_of_le_length (by omega),List.take_append_of_le_length (by rw [List.length_drop];omega)]
        exact hEl.2 k y hy
      · rw [List.getElem?_append_right hk] at hy
        have h3:xs.length*c≤k*c:=Nat.mul_le_mul_right c hk
        rw [List.drop_append,hEl.1,List.drop_eq_nil_of_le (by rw [hEl.1];exact h3),List.nil_append,← Nat.sub_mul]
        exact hE2.2 _ y hy
    refine h v' w' ⟨_,by simpa using h2,hboth.kts hS (hwt.kts hT)⟩ hwt (fun w0 hB hB0=>?_) fun k cs t hk hL=>(hg.block k (heap_lt hL) (fun e2=>by
      rcases hown'.2 with ⟨rfl,_⟩ | ⟨g,cap,cur,rfl,_⟩
      · simp [Value.ownBlock] at e2
      · simp [Value.ownBlock] at e2
        exact hk g _ _ rfl e2)).trans hL
    refine Below.trans hB ⟨hg.os,hg.tape,hg.output,hg.size,fun k hk=>hg.block k (Nat.lt_of_lt_of_le hk hB.size) (fun e=>?_)⟩
    have:=(hnew k e.symm).1
    omega
theorem one_rat {k:Nat} (w:World):∀ x vs,ERat k w x vs→∀ y ∈ vs,y.oneCell'=true:=fun x vs h y hy=>by
  obtain ⟨c0,c1,c2,c3,rfl,hq⟩:=h
  simp only [List.mem_cons,List.not_mem_nil,or_false] at hy
  rcases hy with rfl | rfl | rfl | rfl
  · exact hq.one0
  · exact hq.one1
  · exact hq.one2
  · exact hq.one3
theorem ret_tmp3 {P:Program} {w:World} {fn:Func} {tmps:Array Value} {t u s:Tmp} {v x y:Value} (h:fn.results=#[.tmp t,.tmp u,.tmp s]) (hv:tmps.getD t undef=v) (hx:tmps.getD u undef=x) (hy:tmps.getD s undef=y):(results fn tmps).run P w=.ok (.tuple #[v,x,y]) w:=by
  subst hv hx hy;simp [results,h]
theorem ret_tmp2_cell {P:Program} {w:World} {fn:Func} {tmps:Array Value} {p u s:Tmp} {t:TypeId} {v x:Value} (b:Nat) (cs:Array Value) (tt:TypeId) (h:fn.results=#[.tmp u,.tmp s,.cell p t]) (hv:tmps.getD u undef=v) (hx:tmps.getD s undef=x) (hp:tmps.getD p undef=.pointer (some ⟨b,0,none⟩)) (hL:Lc w b cs tt) (hs:aggSize P t=some cs.size):
    (results fn tmps).run P w=.ok (.tuple #[v,x,.agg cs]) w:=by
  subst hv hx
  have:=run_load_lc hL hs
  simp only [Array.getD_eq_getD_getElem?] at hp ⊢
  simp [results,h,asAddr,hp,this]
theorem clone_none {α:Type} {E:World→α→List Value→Prop} {T:TypeId} {c B n cx:Nat} {w:World} {F:Nat→α} (h:Sl E T c w (.slice none n cx) (tb F n)) (hc:0<c:=by decide):Ow E T c w B (.slice none 0 0) (tb F n):=by
  rcases h.cases hc with h0 | ⟨_,b,off,cap,hv⟩
  · rw [h0];exact Ow.nil _ _ _ _ _
  · cases hv
/-- whether an int is one of a list -/
def hasI (P:Nat→Int) (n:Nat) (z:Int):Bool:=(List.range n).any fun i=>P i==z
theorem hasI_true {P:Nat→Int} {n i:Nat} {z:Int} (hi:i<n) (h:P i=z):hasI P n z=true:=by
  unfold hasI;rw [List.any_eq_true];exact ⟨i,List.mem_range.2 hi,by simpa using h⟩
theorem hasI_false {P:Nat→Int} {n:Nat} {z:Int} (h:∀ j,j<n→¬ P j=z):hasI P n z=false:=by
  unfold hasI;rw [List.any_eq_false];intro i hi;have:=h i (List.mem_range.1 hi);simpa using this
theorem hasI_yes {P:Nat→Int} {n k:Nat} {z:Int} (hk:k<n) (h:z=P k):decide ((0:Int)≤(k:Int))=hasI P n z:=by
  rw [hasI_true hk h.symm];simp
theorem hasI_no {P:Nat→Int} {n:Nat} {z:Int} (h:∀ j,j<n→¬ P j=z):decide ((0:Int)≤-1)=hasI P n z:=by
  rw [hasI_false h];decide
theorem hall_succ2 {P:Nat→Int} {k:Nat} {z:Int} (h:∀ j,j<k→¬ P j=z) (hk:¬ P k=z):∀ j,j<k+1→¬ P j=z:=fun j hj=>by
  rcases Nat.lt_or_eq_of_le (Nat.le_of_lt_succ hj) with h1 | rfl
  · exact h j h1
  · exact hk
theorem hall_succ {P:Nat→Int} {k:Nat} {z:Int} (h:∀ j,j<k→¬ P j=z) (hk:¬ z=P k):∀ j,j<k+1→¬ P j=z:=hall_succ2 h fun e=>hk e.symm
/-- what holds of the block of a slice that has elements -/
def Avp (p:Nat→Prop) (u:Value) (x:List α):Prop:=x≠[]→∀ g off o n cap,u=.slice (some ⟨g,off,o⟩) n cap→p g
/-- an element that is a slice in such a block -/
def ERp (p:Nat→Prop) (E:World→α→List Value→Prop) (T:TypeId) (c:Nat) (w:World) (x:List α) (vs:List Value):Prop:=∃ u,vs=[u]∧Sl E T c w u x∧Avp p u x
theorem stab_rp {p:Nat→Prop} {E:World→α→List Value→Prop} {ts:List TypeId} (hS:Stab E ts) (T:TypeId) (c:Nat):Stab (ERp p E T c) (T::ts):=fun _ _ _ _ hk h=>by
  obtain ⟨u,hu,hs,ha⟩:=h
  exact ⟨u,hu,hs.kts hS hk,ha⟩
theorem one_rp {p:Nat→Prop} {E:World→α→List Value→Prop} {T:TypeId} {c:Nat} (w:World):∀ x vs,ERp p E T c w x vs→∀ y ∈ vs,y.oneCell'=true:=fun x vs h y hy=>by
  obtain ⟨u,rfl,hs,_⟩:=h
  rw [List.mem_singleton.1 hy]
  exact hs.one
theorem ERp.rw {p:Nat→Prop} {E:World→α→List Value→Prop} {T:TypeId} {c:Nat} {w:World} {x:List α} {vs:List Value} (h:ERp p E T c w x vs):ERw E T c w x vs:=by
  obtain ⟨u,hu,hs,_⟩:=h
  exact ⟨u,hu,hs⟩
theorem Sl.lt_rows {E:World→α→List Value→Prop} {T TW:TypeId} {c cw:Nat} {v:Value} {xs:List (List α)} (h:Sl (ERw E T c) TW cw w v xs) (hc:0<c):Sl (ERp (fun g=>g<w.heap.size) E T c) TW cw w v xs:=h.mono fun x vs hx=>by
  obtain ⟨u,hu,hs⟩:=hx
  refine ⟨u,hu,hs,fun hne g off o n cap e=>?_⟩
  obtain ⟨ys,⟨ao,cp,h1,h2,h3⟩,h4⟩:=hs
  have hl:0<x.length:=List.length_pos_iff.2 hne
  obtain ⟨b,of,cs,fr,e1,e2,_⟩:=h3 (by rw [h4.1];exact Nat.mul_pos hl hc)
  rw [h1,e1] at e
  simp only [Value.slice.injEq,Option.some.injEq,Addr.mk.injEq] at e
  rw [← e.1.1];exact heap_lt e2
theorem Ow.mono_e {E F:World→α→List Value→Prop} {T:TypeId} {c B:Nat} {v:Value} {xs:List α} (h:Ow E T c w B v xs) (hf:∀ x vs,E w x vs→F w x vs):Ow F T c w B v xs:=by
  obtain ⟨ys,h1,h2⟩:=h
  exact ⟨ys,h1,h2.mono hf⟩
theorem ERp.mono {p q:Nat→Prop} {E:World→α→List Value→Prop} {T:TypeId} {c:Nat} {w:World} (hpq:∀ g,p g→q g):∀ x vs,ERp p E T c w x vs→ERp q E T c w x vs:=fun x vs h=>by
  obtain ⟨u,hu,hs,ha⟩:=h
  exact ⟨u,hu,hs,fun hne g off o n cap e=>hpq g (ha hne g off o n cap e)⟩
/-- a store into a block that bears none of the rows -/
theorem Ow.stav {b:Nat} {p:Nat→Prop} {E:World→α→List Value→Prop} {ts:List TypeId} {T TW:TypeId} {c cw B:Nat} {w w':World} {v:Value} {xs:List (List α)} {cs:Array Value} (h:Ow (ERp p E T c) TW cw w B v xs) (hp:∀ g,p g→g≠b) (hS:Stab E ts) (st:St w w' b) (hL:Lc w b cs T)
    (hT:(TW !=T)=true) (hts:(ts.all fun t=>t !=T)=true):Ow (ERp p E T c) TW cw w' B v xs:=by
  obtain ⟨ys,h1,h2⟩:=h
  have hk:Kts ts w w':=st.kts hL hts
  refine ⟨ys,ownsRow_gr h1 (st.kt hL (by simpa using hT)),h2.1,fun i x hx=>?_⟩
  obtain ⟨u,hu,⟨zs,⟨ao,cp,e1,e2,e3⟩,e4⟩,ha⟩:=h2.2 i x hx
  refine ⟨u,hu,⟨zs,⟨ao,cp,e1,e2,fun hq=>?_⟩,e4.kts hS hk⟩,ha⟩
  obtain ⟨g,off,ds,fr,a1,a2,a3⟩:=e3 hq
  have hne:x≠[]:=fun e=>by subst e;rw [e4.1] at hq;simp at hq
  have:=hp g (ha hne g off none _ _ (by rw [e1,a1]))
  exact ⟨g,off,ds,fr,a1,(st.block g this).trans a2,a3⟩
/-- the slice lies in a block that is new -/
def Nw (B:Nat) (u:Value):Prop:=∀ g off o n cap,u=.slice (some ⟨g,off,o⟩) n cap→B≤g
theorem Nw.av {B:Nat} {p:Nat→Prop} {u:Value} {x:List α} (h:Nw B u) (hb:∀ g,B≤g→p g):Avp p u x:=fun _ g off o n cap e=>hb g (h g off o n cap e)
theorem Nw.mk {B b n cap:Nat} (h:B≤b):Nw B (.slice (some ⟨b,0,none⟩) n cap):=fun g off o n' cap' e=>by cases e;exact h
section
variable {P:Program} {Q:Exit→Act→World→Prop} {a:Act} {w:World}
theorem wp_seq_cut {x y:Code} (J:Act→World→Prop) (h1:∀ K:Act→World→Prop,(∀ a w,J a w→K a w)→x.wp P (Exit.then K Q) a w) (h2:∀ a w,J a w→y.wp P Q a w):(x.seq y).wp P Q a w:=
  wp_seq_k fun K hK=>h1 K (fun a w hj=>hK a w (h2 a w hj))
end
end
theorem cells_one {u:Value} (h:u.oneCell'=true):u.cells=[u].toArray:=by
  cases u<;>first | rfl | cases h
section
variable {P:Program} {Q:Exit→Act→World→Prop} {ops:Array Oper} {w:World} {ds:List Deferred} {l:List Value} {o:Oper}
/-- operations that are passed over -/
def setA:List Value→List (Nat × Nat)→List Value
  | l,[]=>l
  | l,(_,d)::r=>setA (l.set d undef) r
theorem setA_nil (l:List Value):setA l []=l:=rfl
theorem setA_cons (l:List Value) (i d:Nat) (r:List (Nat × Nat)):setA l ((i,d)::r)=setA (l.set d undef) r:=rfl
def skipOK (ops:Array Oper):List Value→List (Nat × Nat)→Bool
  | _,[]=>true
  | l,(i,d)::r=>(match ops[i]? with
    | some o=>o.dst==some d&&!Region.wanted o (yielded ops l.toArray)
    | none=>false)&&skipOK ops (l.set d undef) r
theorem sks:∀ (sk:List (Nat × Nat)) {l:List Value} {rest:List Nat},skipOK ops l sk=true→wpOps P ops Q rest ⟨(setA l sk).toArray,ds⟩ w→wpOps P ops Q (sk.map Prod.fst++rest) ⟨l.toArray,ds⟩ w
  | [],_,_,_,h=>h
  | (i,d)::r,l,rest,hk,h=>by
    simp only [skipOK,Bool.and_eq_true] at hk
    obtain ⟨h1,h2⟩:=hk
    split at h1
    · next o ho=>
      simp only [Bool.and_eq_true,beq_iff_eq,Bool.not_eq_true'] at h1
      exact ss (P:=P) d (sks r h2 h) rfl ho h1.1 h1.2
    · cases h1
theorem swk {i:Nat} {rest:List Nat} (d:Nat) (v:Value) (sk:List (Nat × Nat)) {l':List Value} (ho:ops[i]?=some o) (hv:RunV P ⟨l.toArray,ds⟩ o w v) (h:wpOps P ops Q rest ⟨l'.toArray,ds⟩ w) (hl:setA (l.set d v) sk=l':=by simp only [setA_cons,setA_nil,p3,p4]<;>rfl) (hd:o.dst=some d:=by rfl)
    (hw:Region.wanted o (yielded ops (⟨l.toArray,ds⟩:Act).tmps)=true:=by kernel_rfl) (hk:skipOK ops (l.set d v) sk=true:=by kernel_rfl):wpOps P ops Q (i::(sk.map Prod.fst++rest)) ⟨l.toArray,ds⟩ w:=
  sw d v ho hv (sks sk hk (by rw [hl];exact h)) rfl hd hw
end
section
variable {P:Program} {ops:Array Oper} {Q:Exit→Act→World→Prop} {S:World→Prop}
def QTwo (Q:Exit→Act→World→Prop) (A:Act→World→Prop):Exit→Act→World→Prop
  | .normal=>A
  | e=>Q e
theorem ord_two {A:Act→World→Prop} {a:Act} {w:World} (h:A a w):wpOrd P ops (QTwo Q A) S [] a w:=h
end
section
variable {α:Type} {P:Program} {a:Act} {o:Oper} {w:World} {Q:Exit→Act→World→Prop} {K:Act→World→Prop}
/-- a slice that is made of one slice,of two slices -/
theorem eff_bs1 (t e:TypeId) {x:Operand} (u:Value) (d:Option Tmp) (hd:o.dst=d) (hop:o.op=.buildSlice t 1 #[(0,x)]) (hx:a.eval x=u) (hu:∃ ao n cap,u=.slice ao n cap)
    (hrun:∀ ao n cap (w:World),(Instr.buildSlice t 1 #[(0,.slice ao n cap)]).run P w=.ok (.slice (some ⟨w.heap.size,0,none⟩) 1 1) (w.alloc (.cells #[.slice ao n cap] e)))
    (h:∀ b w',Gr w w'→Lc w' b #[u] e→w.heap.size≤b→K (a.put d (.slice (some ⟨b,0,none⟩) 1 1)) w'):o.wp P a w K Q:=by
  obtain ⟨ao,n,cap,rfl⟩:=hu
  refine eff_bs e 1 _ d hd (fun w=>?_) h
  unfold execOp
  simp [hop,hx,hrun]
theorem Sl.forms {E:World→α→List Value→Prop} {T:TypeId} {c:Nat} {v:Value} {xs:List α} (h:Sl E T c w v xs):∃ ao n cap,v=.slice ao n cap:=by
  obtain ⟨ao,cap,e,_⟩:=h.form
  exact ⟨ao,_,cap,e⟩
end
section
variable {α:Type} {P:Program} {a:Act} {o:Oper} {w:World} {Q:Exit→Act→World→Prop} {K:Act→World→Prop}
end
theorem rcmp_self (x:Rat):rcmp x x=0:=rcmp_zero.2 rfl
section
variable {P:Program} {ops:Array Oper} {Q:Exit→Act→World→Prop} {S:World→Prop}
/-- orders that part in two,again and again -/
inductive OT where
  | fin (l:List (Bool × Nat))
  | two (l:List (Bool × Nat)) (i j:Nat) (t s:OT)
def okPre (ops:Array Oper) (C:Array Bool→Bool):List (Bool × Nat)→Array Bool→Bool
  | [],ls=>C ls
  | (true,k)::rest,ls=>(Region.ready .any ops ls).contains k&&Region.free .any ops ls k&&okPre ops C rest (ls.setIfInBounds k true)
  | (false,k)::rest,ls=>decide (Region.ready .any ops ls=[k])&&okPre ops C rest (ls.setIfInBounds k true)
def okOT (ops:Array Oper):OT→Array Bool→Bool
  | .fin l,ls=>okOrd ops l ls
  | .two l i j t s,ls=>okPre ops (fun ls=>decide (Region.ready .any ops ls=[i,j])&&okOT ops t (ls.setIfInBounds i true)&&okOT ops s (ls.setIfInBounds j true)) l ls
def OT.dep:OT→Nat
  | .fin l=>l.length
  | .two l _ _ t s=>l.length+(1+max t.dep s.dep)
def wpOT (P:Program) (ops:Array Oper) (Q:Exit→Act→World→Prop) (S:World→Prop):OT→Act→World→Prop
  | .fin l=>wpOrd P ops Q S l
  | .two l i j t s=>wpOrd P ops (QTwo Q fun a w=>wpOrd P ops (QTwo Q (wpOT P ops Q S t)) S [(false,i)] a w∧wpOrd P ops (QTwo Q (wpOT P ops Q S s)) S [(false,j)] a w) S l
theorem wpOp_two {i:Nat} {a:Act} {w:World} {K A:Act→World→Prop}:wpOp P ops (QTwo Q A) i K a w=wpOp P ops Q i K a w:=by
  unfold wpOp
  split<;>rfl
theorem pre_sound (hs:Region.noSelect ops=true) (hQ:∀ c (a:Act) (d:Tmp) v w,Q (.panic c) (a.put (some d) v) w→Q (.panic c) a w) (C:Array Bool→Bool) (A:Act→World→Prop) (n:Nat)
    (hA:∀ (fuel:Nat) (ls:Array Bool) (a:Act) (w:World),n≤fuel→C ls=true→S w→A a w→wpAnyH P .any ops Q S fuel ls a w):
    ∀ (l:List (Bool × Nat)) (fuel:Nat) (ls:Array Bool) (a:Act) (w:World),l.length+n≤fuel→okPre ops C l ls=true→S w→wpOrd P ops (QTwo Q A) S l a w→wpAnyH P .any ops Q S fuel ls a w:=by
  intro l
  induction l with
  | nil=>exact fun fuel ls a w hl hok hS h=>hA fuel ls a w (by simpa using hl) hok hS h
  | cons x rest ih=>
    intro fuel ls a w hl hok hS h
    obtain ⟨fuel,rfl⟩:∃ n,fuel=n+1:=⟨fuel - 1,by simp at hl;omega⟩
    obtain ⟨b,k⟩:=x
    simp only [List.length_cons] at hl
    cases b with
    | true=>
      simp only [okPre,Bool.and_eq_true] at hok
      obtain ⟨o,v,ho,hy,hr⟩:=h
      exact wpAnyH_take ho hs hok.1.2 hok.1.1 (fun c a w h=>by cases hd:o.dst with | none=>rw [hd] at h;exact h | some d=>rw [hd] at h;exact hQ c a d _ w h) hy hS (ih fuel _ _ _ (by omega) hok.2 hS hr)
    | false=>
      simp only [okPre,Bool.and_eq_true,decide_eq_true_eq] at hok
      refine wpAnyH_all hok.1 (by simp) (fun j hj=>?_)
      obtain rfl:j=k:=by simpa using hj
      have h:wpOp P ops (QTwo Q A) j _ a w:=h
      rw [wpOp_two] at h
      refine wpOp_mono (fun a' w' h'=>?_) h
      exact ⟨h'.1,ih fuel _ _ _ (by omega) hok.2 h'.1 h'.2⟩
theorem wpOT_sound (hs:Region.noSelect ops=true) (hQ:∀ c (a:Act) (d:Tmp) v w,Q (.panic c) (a.put (some d) v) w→Q (.panic c) a w):
    ∀ (t:OT) (fuel:Nat) (ls:Array Bool) (a:Act) (w:World),t.dep≤fuel→okOT ops t ls=true→S w→wpOT P ops Q S t a w→wpAnyH P .any ops Q S fuel ls a w
  | .fin l,fuel,ls,a,w,hl,hok,hS,h=>wpOrd_sound hs hQ l fuel ls a w hl hok hS h
  | .two l i j t s,fuel,ls,a,w,hl,hok,hS,h=>by
    refine pre_sound hs hQ _ _ (1+max t.dep s.dep) (fun fuel ls a w hl hok hS h=>?_) l fuel ls a w hl hok hS h
    obtain ⟨fuel,rfl⟩:∃ n,fuel=n+1:=⟨fuel - 1,by omega⟩
    simp only [Bool.and_eq_true,decide_eq_true_eq] at hok
    obtain ⟨ha,hb⟩:=h
    refine wpAnyH_all hok.1.1 (by simp) (fun k hk=>?_)
    simp only [List.mem_cons,List.not_mem_nil,or_false] at hk
    rcases hk with rfl | rfl
    · have ha:wpOp P ops (QTwo Q (wpOT P ops Q S t)) k _ a w:=ha
      rw [wpOp_two] at ha
      refine wpOp_mono (fun a' w' h'=>?_) ha
      exact ⟨h'.1,wpOT_sound hs hQ t fuel _ _ _ (by omega) hok.1.2 h'.1 h'.2⟩
    · have hb:wpOp P ops (QTwo Q (wpOT P ops Q S s)) k _ a w:=hb
      rw [wpOp_two] at hb
      refine wpOp_mono (fun a' w' h'=>?_) hb
      exact ⟨h'.1,wpOT_sound hs hQ s fuel _ _ _ (by omega) hok.2 h'.1 h'.2⟩
theorem wp_region_tree {id:Nat} {a:Act} {w:World} (S:World→Prop) (t:OT) (hm:P.follows .mixedOrders=true) (hs:Region.noSelect ops=true) (hok:okOT ops t (Array.replicate ops.size false)=true) (hl:t.dep≤ops.size)
    (hQ:∀ c (a:Act) (d:Tmp) v w,Q (.panic c) (a.put (some d) v) w→Q (.panic c) a w) (hS:S w.drew) (h:wpOT P ops Q S t a w.drew):(Code.region id ops true).wp P Q a w:=
  wp_region_held hm (wpOT_sound hs hQ t _ _ _ _ hl hok hS h)
end
section
variable {α:Type} {E:World→α→List Value→Prop} {T:TypeId} {c B:Nat} {w:World}
/-- the block of an own slice is there -/
theorem Ow.blk {v:Value} {xs:List α} (h:Ow E T c w B v xs) {g n cap:Nat} (e:v=.slice (some ⟨g,0,none⟩) n cap):B≤g∧g<w.heap.size:=by
  obtain ⟨ys,h1,_⟩:=h
  rcases h1.2 with ⟨hn,_⟩ | ⟨g',cap',cur,he,hb,hg,_⟩
  · rw [hn] at e;cases e
  · rw [he] at e;cases e
    exact ⟨hb,heap_lt hg⟩
end
end Go.Proofs.YtepgkcimmdmgcaaGreatDoor
namespace Go.Proofs.YtepgkcimmdmgcaaGreatDoor
/-- the first row from i on,of n,whose number in column k is not 0 -/
def fnd (m:Mx_) (k:Nat):Nat→Nat→Option Nat
  | 0,_=>none
  | n+1,i=>if m i k=0 then fnd m k n (i+1) else some i
theorem fnd_some {m:Mx_} {k:Nat}:∀ {n i j:Nat},fnd m k n i=some j→i≤j∧j<i+n∧m j k≠0∧∀ t,i≤t→t<j→m t k=0
  | 0,_,_,h=>by cases h
  | n+1,i,j,h=>by
    unfold fnd at h
    split at h
    · next e=>
      obtain ⟨h1,h2,h3,h4⟩:=fnd_some h
      refine ⟨by omega,by omega,h3,fun t ht hj=>?_⟩
      rcases Nat.eq_or_lt_of_le ht with rfl | h5
      · exact e
      · exact h4 t h5 hj
    · next e=>cases h;exact ⟨Nat.le_refl _,by omega,e,fun _ h1 h2=>absurd h2 (by omega)⟩
theorem fnd_none {m:Mx_} {k:Nat}:∀ {n i:Nat},fnd m k n i=none→∀ t,i≤t→t<i+n→m t k=0
  | 0,_,_,_,h1,h2=>absurd h2 (by omega)
  | n+1,i,h,t,h1,h2=>by
    unfold fnd at h
    split at h
    · next e=>
      rcases Nat.eq_or_lt_of_le h1 with rfl | h5
      · exact e
      · exact fnd_none h t h5 (by omega)
    · cases h
/-- rows,pivots,the determinant of the steps -/
structure Rd where
  m:Mx_
  p:List Nat
  d:Rat
def stepR (R k:Nat) (s:Rd):Rd:=match fnd s.m k (R - s.p.length) s.p.length with
  | none=>s
  | some i=>
    let a:=swp s.m i s.p.length
    ⟨clr (scl a s.p.length (1/a s.p.length k)) s.p.length (fun j=>a j k),s.p++[k],(if i=s.p.length then s.d else - s.d)*a s.p.length k⟩
def redR (R:Nat):Nat→Rd→Rd
  | 0,s=>s
  | k+1,s=>stepR R k (redR R k s)
def pv (s:Rd) (t:Nat):Nat:=s.p.getD t 0
structure Inv (R:Nat) (m0:Mx_) (K:Nat) (s:Rd):Prop where
  eqv:Eqv R m0 s.m
  len:s.p.length≤R
  lt:∀ t,t<s.p.length→pv s t<K
  inc:∀ t u,t<u→u<s.p.length→pv s t<pv s u
  unit:∀ t,t<s.p.length→∀ i,i<R→s.m i (pv s t)=if i=t then 1 else 0
  zero:∀ i,s.p.length≤i→i<R→∀ k,k<K→s.m i k=0
  ech:∀ t,t<s.p.length→∀ k,k<pv s t→s.m t k=0
theorem Inv.start (R:Nat) (m:Mx_) (d:Rat):Inv R m 0 ⟨m,[],d⟩:=
  ⟨.refl R m,Nat.zero_le _,fun t h=>absurd h (Nat.not_lt_zero t),fun _ u _ h=>absurd h (Nat.not_lt_zero u),fun t h=>absurd h (Nat.not_lt_zero t),fun _ _ _ k h=>absurd h (Nat.not_lt_zero k),fun t h=>absurd h (Nat.not_lt_zero t)⟩
theorem pv_old {s:Rd} {k t:Nat} {m:Mx_} {d:Rat} (h:t<s.p.length):pv ⟨m,s.p++[k],d⟩ t=pv s t:=by
  unfold pv
  simp only [List.getD_eq_getElem?_getD]
  rw [List.getElem?_append_left h]
theorem pv_new {s:Rd} {k:Nat} {m:Mx_} {d:Rat}:pv ⟨m,s.p++[k],d⟩ s.p.length=k:=by
  unfold pv
  simp
theorem Inv.step {R:Nat} {m0:Mx_} {K:Nat} {s:Rd} (h:Inv R m0 K s):Inv R m0 (K+1) (stepR R K s):=by
  unfold stepR
  split
  · next e=>
    refine ⟨h.eqv,h.len,fun t ht=>Nat.lt_succ_of_lt (h.lt t ht),h.inc,h.unit,fun i h1 h2 k hk=>?_,h.ech⟩
    rcases Nat.eq_or_lt_of_le (Nat.le_of_lt_succ hk) with rfl | hk
    · exact fnd_none e i h1 (by omega)
    · exact h.zero i h1 h2 k hk
  · next i e=>
    obtain ⟨h1,h2,h3,_⟩:=fnd_some e
    have hr:s.p.length<R:=by omega
    have hi:i<R:=by omega
    generalize hq:s.p.length=r at*
    have ha:swp s.m i r r K≠0:=by
      unfold swp
      by_cases e1:r=i
      · rw [if_pos e1];rw [e1];exact h3
      · rw [if_neg e1,if_pos rfl];exact h3
    have hrow:∀ j k,j<r→swp s.m i r j k=s.m j k:=fun j k hj=>by
      unfold swp
      rw [if_neg (by omega),if_neg (by omega)]
    have hlow:∀ j k,r≤j→j<R→k<K→swp s.m i r j k=0:=fun j k hj hR hk=>by
      unfold swp
      split
      · exact h.zero r (by omega) hr k hk
      · split
        · exact h.zero i (by omega) hi k hk
        · exact h.zero j (by omega) hR k hk
    generalize hA:swp s.m i r=a at*
    have hval:∀ j k,clr (scl a r (1/a r K)) r (fun j=>a j K) j k=if j=r then a r k*(1/a r K) else a j k - a j K*(a r k*(1/a r K)):=fun j k=>by
      unfold clr scl
      split
      · rw [if_pos rfl]
      · rw [if_pos rfl]
    have hK:∀ j,clr (scl a r (1/a r K)) r (fun j=>a j K) j K=if j=r then 1 else 0:=fun j=>by
      rw [hval]
      split<;>grind
    have hold:∀ j k,k<K→j<R→clr (scl a r (1/a r K)) r (fun j=>a j K) j k=if j<r then s.m j k else 0:=fun j k hk hj=>by
      rw [hval,hlow r k (Nat.le_refl _) hr hk]
      by_cases e1:j=r
      · rw [if_pos e1,if_neg (by omega)];grind
      · rw [if_neg e1]
        by_cases e2:j<r
        · rw [if_pos e2,hrow j k e2];grind
        · rw [if_neg e2,hlow j k (by omega) hj hk];grind
    have hlen:(s.p++[K]).length=r+1:=by simp [hq]
    refine ⟨?_,by rw [hlen];omega,fun t ht=>?_,fun t u htu hu=>?_,fun t ht j hj=>?_,fun j h4 hj k hk=>?_,fun t ht k hk=>?_⟩
    · refine h.eqv.trans ?_
      have e1:Eqv R s.m a:=by rw [← hA];exact swp_eqv s.m hi hr
      exact (e1.trans (scl_eqv a r (by grind))).trans (clr_eqv _ hr _)
    · rw [hlen] at ht
      rcases Nat.eq_or_lt_of_le (Nat.le_of_lt_succ ht) with rfl | ht
      · rw [← hq,pv_new];omega
      · rw [pv_old (by omega)];exact Nat.lt_succ_of_lt (h.lt t (by omega))
    · rw [hlen] at hu
      rw [pv_old (s:=s) (t:=t) (by omega)]
      rcases Nat.eq_or_lt_of_le (Nat.le_of_lt_succ hu) with rfl | hu
      · have:=h.lt t (by omega)
        rw [← hq,pv_new];exact this
      · rw [pv_old (s:=s) (t:=u) (by omega)];exact h.inc t u htu (by omega)
    · rw [hlen] at ht
      rcases Nat.eq_or_lt_of_le (Nat.le_of_lt_succ ht) with rfl | ht
      · have e2:pv ⟨clr (scl a t (1/a t K)) t (fun j=>a j K),s.p++[K],(if i=t then s.d else - s.d)*a t K⟩ t=K:=by
          have:=pv_new (s:=s) (k:=K) (m:=clr (scl a t (1/a t K)) t (fun j=>a j K)) (d:=(if i=t then s.d else - s.d)*a t K)
          rwa [hq] at this
        rw [e2];exact hK j
      · rw [pv_old (by omega)]
        have hl:=h.lt t (by omega)
        show clr (scl a r (1/a r K)) r (fun j=>a j K) j (pv s t)=_
        rw [hold j _ hl hj]
        by_cases e2:j<r
        · rw [if_pos e2];exact h.unit t (by omega) j hj
        · rw [if_neg e2,if_neg (by omega)]
    · rw [hlen] at h4
      show clr (scl a r (1/a r K)) r (fun j=>a j K) j k=0
      rcases Nat.eq_or_lt_of_le (Nat.le_of_lt_succ hk) with rfl | hk
      · rw [hK,if_neg (by omega)]
      · rw [hold j k hk hj,if_neg (by omega)]
    · rw [hlen] at ht
      show clr (scl a r (1/a r K)) r (fun j=>a j K) t k=0
      rcases Nat.eq_or_lt_of_le (Nat.le_of_lt_succ ht) with rfl | ht
      · have e2:pv ⟨clr (scl a t (1/a t K)) t (fun j=>a j K),s.p++[K],(if i=t then s.d else - s.d)*a t K⟩ t=K:=by
          have:=pv_new (s:=s) (k:=K) (m:=clr (scl a t (1/a t K)) t (fun j=>a j K)) (d:=(if i=t then s.d else - s.d)*a t K)
          rwa [hq] at this
        rw [e2] at hk
        rw [hold t k hk hr,if_neg (by omega)]
      · rw [pv_old (by omega)] at hk
        have hl:=h.lt t (by omega)
        rw [hold t k (by omega) (by omega),if_pos ht]
        exact h.ech t (by omega) k hk
theorem red_inv (R:Nat) (m:Mx_) (d:Rat):∀ K,Inv R m K (redR R K ⟨m,[],d⟩)
  | 0=>.start R m d
  | K+1=>(red_inv R m d K).step
end Go.Proofs.YtepgkcimmdmgcaaGreatDoor
namespace Go.Proofs.YtepgkcimmdmgcaaGreatDoor
theorem sm_swp (n:Nat) (f:Nat→Rat) {i r:Nat} (hi:i<n) (hr:r<n):sm n (fun j=>f (if j=i then r else if j=r then i else j))=sm n f:=by
  by_cases e:i=r
  · subst e
    refine sm_congr fun j _=>?_
    split
    · next h=>rw [h]
    · rfl
  · have h:=sm_sub n (fun j=>f (if j=i then r else if j=r then i else j)) f
    rw [sm_two hi hr e fun j _ h1 h2=>by rw [if_neg h1,if_neg h2];grind] at h
    rw [if_pos rfl,if_neg (Ne.symm e),if_pos rfl] at h
    grind
/-- more vectors than coordinates:some combination is 0 -/
theorem dep:∀ (r k:Nat) (C:Mx_),r<k→∃ c:Nat→Rat,(∃ i,i<k∧c i≠0)∧∀ j,j<r→sm k (fun i=>c i*C i j)=0
  | 0,k,_,h=>⟨fun _=>1,⟨0,h,by decide⟩,fun j hj=>absurd hj (Nat.not_lt_zero j)⟩
  | r+1,k,C,h=>by
    by_cases hz:∀ i,i<k→C i r=0
    · obtain ⟨c,hc,h0⟩:=dep r k C (by omega)
      refine ⟨c,hc,fun j hj=>?_⟩
      rcases Nat.eq_or_lt_of_le (Nat.le_of_lt_succ hj) with rfl | hj
      · exact sm_zero fun i hi=>by rw [hz i hi];grind
      · exact h0 j hj
    · obtain ⟨i0,hi0,hne⟩:∃ i,i<k∧C i r≠0:=by
        apply Classical.byContradiction
        intro hn
        exact hz fun i hi=>Classical.byContradiction fun he=>hn ⟨i,hi,he⟩
      obtain ⟨q,rfl⟩:∃ q,k=q+1:=⟨k - 1,by omega⟩
      -- the row in question put last
      let σ:Nat→Nat:=fun j=>if j=i0 then q else if j=q then i0 else j
      have hσ:∀ j,j<q+1→σ j<q+1:=fun j hj=>by dsimp only [σ];split<;>(try split)<;>omega
      have hσσ:∀ j,σ (σ j)=j:=fun j=>by dsimp only [σ];grind
      have hp:C (σ q) r≠0:=by
        have:σ q=i0:=by dsimp only [σ];split<;>first | (next e=>exact e) | simp
        rw [this];exact hne
      obtain ⟨c,⟨i,hi,hci⟩,h0⟩:=dep r q (fun i j=>C (σ i) j - C (σ i) r/C (σ q) r*C (σ q) j) (by omega)
      let d:Nat→Rat:=fun i=>if i<q then c i else - sm q (fun t=>c t*(C (σ t) r/C (σ q) r))
      have hd:∀ j,j<r+1→sm (q+1) (fun i=>d i*C (σ i) j)=0:=fun j hj=>by
        have e1:sm (q+1) (fun i=>d i*C (σ i) j)=sm q (fun i=>c i*C (σ i) j)+- sm q (fun t=>c t*(C (σ t) r/C (σ q) r))*C (σ q) j:=by
          show sm q _+d q*C (σ q) j=_
          rw [sm_congr (g:=fun i=>c i*C (σ i) j) fun i hi=>by show d i*_=_;dsimp only [d];rw [if_pos hi]]
          congr 1
          dsimp only [d]
          rw [if_neg (Nat.lt_irrefl q)]
        have e2:sm q (fun i=>c i*(C (σ i) j - C (σ i) r/C (σ q) r*C (σ q) j))=sm q (fun i=>c i*C (σ i) j) - sm q (fun t=>c t*(C (σ t) r/C (σ q) r))*C (σ q) j:=by
          rw [← sm_mul',← sm_sub]
          exact sm_congr fun i _=>by grind
        rw [e1]
        rcases Nat.eq_or_lt_of_le (Nat.le_of_lt_succ hj) with rfl | hj
        · have e3:sm q (fun i=>c i*(C (σ i) j - C (σ i) j/C (σ q) j*C (σ q) j))=0:=sm_zero fun i _=>by grind
          rw [e2] at e3;grind
        · have:=h0 j hj
          rw [e2] at this;grind
      refine ⟨fun i=>d (σ i),⟨σ i,hσ i (by omega),by dsimp only;rw [hσσ];dsimp only [d];rw [if_pos hi];exact hci⟩,fun j hj=>?_⟩
      have e:=sm_swp (q+1) (fun i=>d i*C (σ i) j) hi0 (Nat.lt_succ_self q)
      rw [hd j hj] at e
      rw [← e]
      refine sm_congr fun i _=>?_
      show d (σ i)*C i j=d (σ i)*C (σ (σ i)) j
      rw [hσσ]
/-- what the kernel's vector of column f holds -/
def kv (s:Rd) (f k:Nat):Rat:=if k=f then 1 else sm s.p.length fun t=>if pv s t=k then - s.m t f else 0
end Go.Proofs.YtepgkcimmdmgcaaGreatDoor
namespace Go.Proofs.YtepgkcimmdmgcaaGreatDoor
theorem stepR_p (R K:Nat) (s:Rd):(stepR R K s).p=s.p∨(stepR R K s).p=s.p++[K]:=by
  unfold stepR
  split
  · exact .inl rfl
  · exact .inr rfl
/-- what solves the reduced equations -/
def sol (s:Rd) (n k:Nat):Rat:=sm s.p.length fun t=>if pv s t=k then s.m t n else 0
end Go.Proofs.YtepgkcimmdmgcaaGreatDoor
namespace Go.Proofs.YtepgkcimmdmgcaaGreatDoor
def updm (m:Mx_) (i:Nat) (u:Nat→Rat):Mx_:=fun a b=>if a=i then u b else m a b
theorem updm_self (m:Mx_) (i:Nat):updm m i (m i)=m:=by
  funext a b
  unfold updm
  split
  · next e=>rw [e]
  · rfl
theorem updm_comm (m:Mx_) {i j:Nat} (h:i≠j) (u v:Nat→Rat):updm (updm m i u) j v=updm (updm m j v) i u:=by
  funext a b
  unfold updm
  grind
/-- linear in each row,0 where two neighbours are equal -/
structure Alt (R:Nat) (G:Mx_→Rat):Prop where
  lin:∀ (m:Mx_) (i:Nat),i<R→∀ (u v:Nat→Rat) (c:Rat),G (updm m i (fun k=>u k+c*v k))=G (updm m i u)+c*G (updm m i v)
  adj:∀ (m:Mx_) (i:Nat),i+1<R→(∀ k,m i k=m (i+1) k)→G m=0
  ext:∀ m m':Mx_,(∀ i,i<R→∀ k,m i k=m' i k)→G m=G m'
section
variable {R:Nat} {G:Mx_→Rat} (h:Alt R G)
include h
theorem Alt.zero {m:Mx_} {i:Nat} (hi:i<R) (hz:∀ k,m i k=0):G m=0:=by
  have:=h.lin m i hi (m i) (m i) (-1)
  rw [updm_self] at this
  have e:updm m i (fun k=>m i k+-1*m i k)=m:=by
    funext a b
    unfold updm
    split
    · next e=>rw [e,hz b];grind
    · rfl
  rw [e] at this
  grind
theorem Alt.nswp (m:Mx_) {i:Nat} (hi:i+1<R):G (swp m i (i+1))=- G m:=by
  let u:=m i;let v:=m (i+1)
  have key:∀ x y:Nat→Rat,(∀ k,x k=y k)→G (updm (updm m i x) (i+1) y)=0:=fun x y hxy=>h.adj _ i hi fun k=>by
    unfold updm
    rw [if_neg (by omega),if_pos rfl,if_pos rfl,hxy k]
  have l1:∀ x:Nat→Rat,G (updm (updm m i x) (i+1) (fun k=>u k+1*v k))=G (updm (updm m i x) (i+1) u)+1*G (updm (updm m i x) (i+1) v):=fun x=>h.lin _ _ hi u v 1
  have l2:∀ y:Nat→Rat,G (updm (updm m i (fun k=>u k+1*v k)) (i+1) y)=G (updm (updm m i u) (i+1) y)+1*G (updm (updm m i v) (i+1) y):=fun y=>by
    rw [updm_comm _ (show i≠i+1 by omega),updm_comm _ (show i≠i+1 by omega) u,updm_comm _ (show i≠i+1 by omega) v]
    exact h.lin _ _ (by omega) u v 1
  have k0:=key (fun k=>u k+1*v k) (fun k=>u k+1*v k) fun _=>rfl
  have k1:=key u u fun _=>rfl
  have k2:=key v v fun _=>rfl
  rw [l1,l2,l2,k1,k2] at k0
  have e1:updm (updm m i u) (i+1) v=m:=by rw [updm_self,updm_self]
  have e2:updm (updm m i v) (i+1) u=swp m i (i+1):=by
    funext a b
    unfold updm swp
    grind
  rw [e1,e2] at k0
  grind
theorem Alt.same:∀ (n:Nat) {m:Mx_} {i:Nat},i+1+n<R→(∀ k,m i k=m (i+1+n) k)→G m=0
  | 0,m,i,hi,he=>h.adj m i hi he
  | n+1,m,i,hi,he=>by
    have e:=Alt.same n (m:=swp m (i+1+n) (i+1+n+1)) (i:=i) (by omega) fun k=>by
      unfold swp
      rw [if_neg (by omega),if_neg (by omega),if_pos rfl];exact he k
    rw [h.nswp m (by omega)] at e
    grind
theorem Alt.eq {m:Mx_} {i j:Nat} (hi:i<R) (hj:j<R) (hne:i≠j) (he:∀ k,m i k=m j k):G m=0:=by
  rcases Nat.lt_or_gt_of_ne hne with hl | hl
  · obtain ⟨n,rfl⟩:∃ n,j=i+1+n:=⟨j - i - 1,by omega⟩
    exact h.same n hj he
  · obtain ⟨n,rfl⟩:∃ n,i=j+1+n:=⟨i - j - 1,by omega⟩
    exact h.same n hi fun k=>(he k).symm
theorem Alt.swp (m:Mx_) {i j:Nat} (hi:i<R) (hj:j<R) (hne:i≠j):G (swp m i j)=- G m:=by
  let u:=m i;let v:=m j
  have key:∀ x:Nat→Rat,G (updm (updm m i x) j x)=0:=fun x=>h.eq hi hj hne fun k=>by
    unfold updm
    rw [if_neg hne,if_pos rfl,if_pos rfl]
  have l1:∀ x:Nat→Rat,G (updm (updm m i x) j (fun k=>u k+1*v k))=G (updm (updm m i x) j u)+1*G (updm (updm m i x) j v):=fun x=>h.lin _ _ hj u v 1
  have l2:∀ y:Nat→Rat,G (updm (updm m i (fun k=>u k+1*v k)) j y)=G (updm (updm m i u) j y)+1*G (updm (updm m i v) j y):=fun y=>by
    rw [updm_comm _ hne,updm_comm _ hne u,updm_comm _ hne v]
    exact h.lin _ _ hi u v 1
  have k0:=key (fun k=>u k+1*v k)
  have k1:=key u
  have k2:=key v
  rw [l1,l2,l2,k1,k2] at k0
  have e1:updm (updm m i u) j v=m:=by rw [updm_self,updm_self]
  have e2:updm (updm m i v) j u=Go.Proofs.YtepgkcimmdmgcaaGreatDoor.swp m i j:=by
    funext a b
    unfold updm Go.Proofs.YtepgkcimmdmgcaaGreatDoor.swp
    grind
  rw [e1,e2] at k0
  grind
theorem Alt.scl (m:Mx_) {r:Nat} (hr:r<R) (c:Rat):G (scl m r c)=c*G m:=by
  have l:=h.lin m r hr (fun _=>0) (m r) c
  rw [updm_self,h.zero hr (m:=updm m r fun _=>0) fun k=>by unfold updm;rw [if_pos rfl]] at l
  have e:updm m r (fun k=>0+c*m r k)=Go.Proofs.YtepgkcimmdmgcaaGreatDoor.scl m r c:=by
    funext a b
    unfold updm Go.Proofs.YtepgkcimmdmgcaaGreatDoor.scl
    split<;>grind
  rw [e] at l
  rw [l];grind
theorem Alt.add (m:Mx_) {j r:Nat} (hj:j<R) (hr:r<R) (hne:j≠r) (c:Rat):G (updm m j (fun k=>m j k+c*m r k))=G m:=by
  rw [h.lin m j hj,updm_self,h.eq (m:=updm m j (m r)) hj hr hne fun k=>by unfold updm;rw [if_pos rfl,if_neg (Ne.symm hne)]]
  grind
theorem Alt.clr (m:Mx_) {r:Nat} (hr:r<R) (c:Nat→Rat):G (clr m r c)=G m:=by
  have go:∀ n,n≤R→G (fun j k=>if j<n then Go.Proofs.YtepgkcimmdmgcaaGreatDoor.clr m r c j k else m j k)=G m:=by
    intro n
    induction n with
    | zero=>exact fun _=>h.ext _ _ fun i _ k=>if_neg (Nat.not_lt_zero i)
    | succ n ih=>
      intro hn
      rw [← ih (by omega)]
      by_cases e:n=r
      · refine h.ext _ _ fun i _ k=>?_
        by_cases h1:i<n
        · rw [if_pos h1,if_pos (by omega)]
        · rw [if_neg h1]
          by_cases h2:i<n+1
          · rw [if_pos h2]
            have:i=r:=by omega
            unfold Go.Proofs.YtepgkcimmdmgcaaGreatDoor.clr
            rw [if_pos this,this]
          · rw [if_neg h2]
      · have:=h.add (fun j k=>if j<n then Go.Proofs.YtepgkcimmdmgcaaGreatDoor.clr m r c j k else m j k) (j:=n) (r:=r) (by omega) hr e (- c n)
        rw [← this]
        refine h.ext _ _ fun i _ k=>?_
        have er:(if r<n then Go.Proofs.YtepgkcimmdmgcaaGreatDoor.clr m r c r k else m r k)=m r k:=by
          split
          · unfold Go.Proofs.YtepgkcimmdmgcaaGreatDoor.clr;rw [if_pos rfl]
          · rfl
        unfold updm
        dsimp only
        rw [er,if_neg (Nat.lt_irrefl n)]
        by_cases h1:i=n
        · subst h1
          rw [if_pos (Nat.lt_succ_self i),if_pos rfl]
          unfold Go.Proofs.YtepgkcimmdmgcaaGreatDoor.clr
          rw [if_neg e];grind
        · rw [if_neg h1]
          by_cases h2:i<n
          · rw [if_pos (by omega),if_pos h2]
          · rw [if_neg (by omega),if_neg h2]
  rw [← go R (Nat.le_refl _)]
  exact h.ext _ _ fun i hi k=>(if_pos hi).symm
/-- the determinant of the steps -/
theorem Alt.step (K:Nat) {s:Rd} (hs:s.p.length≤R) {g:Rat} (hg:g=s.d*G s.m):g=(stepR R K s).d*G (stepR R K s).m:=by
  unfold stepR
  split
  · exact hg
  · next i e=>
    obtain ⟨h1,h2,h3,_⟩:=fnd_some e
    have hr:s.p.length<R:=by omega
    have hi:i<R:=by omega
    dsimp only
    have ha:Go.Proofs.YtepgkcimmdmgcaaGreatDoor.swp s.m i s.p.length s.p.length K≠0:=by
      unfold Go.Proofs.YtepgkcimmdmgcaaGreatDoor.swp
      by_cases e1:s.p.length=i
      · rw [if_pos e1,e1];exact h3
      · rw [if_neg e1,if_pos rfl];exact h3
    rw [h.clr _ hr,h.scl _ hr]
    generalize Go.Proofs.YtepgkcimmdmgcaaGreatDoor.swp s.m i s.p.length s.p.length K=x at ha
    by_cases e2:i=s.p.length
    · have e3:Go.Proofs.YtepgkcimmdmgcaaGreatDoor.swp s.m i s.p.length=s.m:=by
        rw [e2];funext a b;unfold Go.Proofs.YtepgkcimmdmgcaaGreatDoor.swp;grind
      rw [if_pos e2,e3,hg];grind
    · rw [if_neg e2,h.swp _ hi hr e2,hg];grind
theorem Alt.red (m:Mx_) (d:Rat):∀ K,d*G m=(redR R K ⟨m,[],d⟩).d*G (redR R K ⟨m,[],d⟩).m
  | 0=>rfl
  | K+1=>h.step K (red_inv R m d K).len (Alt.red m d K)
end
end Go.Proofs.YtepgkcimmdmgcaaGreatDoor
namespace Go.Proofs.YtepgkcimmdmgcaaGreatDoor
/-- all indices but k -/
def skp (k b:Nat):Nat:=if b<k then b else b+1
/-- the first row and column k left out -/
def mnr (m:Mx_) (k:Nat):Mx_:=fun a b=>m (a+1) (skp k b)
def sgk (k:Nat):Rat:=if k % 2=1 then -1 else 1
/-- the expansion by the first row -/
def Dr:Nat→Mx_→Rat
  | 0,_=>1
  | n+1,m=>sm (n+1) fun k=>sgk k*(m 0 k*Dr n (mnr m k))
def one_:Mx_:=fun i k=>if i=k then 1 else 0
end Go.Proofs.YtepgkcimmdmgcaaGreatDoor
namespace Go.Proofs.YtepgkcimmdmgcaaGreatDoor
open Go.RowKit

set_option maxRecDepth 100000 in
set_option maxHeartbeats 1000000 in
theorem mx_size {K R N:Nat} {v:Value} {m:Nat→Nat→Rat} {w:World} (_hR2:R≤256) (_hN2:N≤96) (hs:Sl (ERw (ERat K) 71 4) 49 1 w v (tb (fun z0=>tb (fun z1=>(m z0 z1)) N) R)):
    Calls Tryz.prog 51 #[v] w fun e w'=>e=.returned (.int .i64 0)∧Gr w w':=by
 go_enter Tryz.func51,Tryz.ntmps51
 have hB:=Gr.refl w
 refine wp_seq_k (fun K10 k10=>?_)
 refine rg [0] ?_
 refine sv 2 (.int .i64 0) ?_
 refine sq_nil ?_
 refine k10 _ _ ?_
 try clear k10 K10
 refine wp_seq_k (fun K11 k11=>?_)
 refine wp_seq_k (fun K12 k12=>?_)
 refine rg [0,1,2] ?_
 refine sv 5 v ?_
 refine sw 6 (.int .i64 ((R:Int))) rfl (rv_lenn (e:=49) hs (tb_lenz rfl) _ _ rfl rfl (by kernel_rfl)) ?_
 have hb13:(decide ((256:Int)<(R:Int)))=false:=(by simp only [decide_eq_false_iff_not];omega)
 refine sw 7 (.bool false) rfl (RunV.bool (x:=decide ((256:Int)<(R:Int))) (rvk (by kernel_rfl)) hb13) ?_
 refine sq_nil ?_
 refine k12 _ _ ?_
 try clear k12 K12
 refine wp_cond_false rfl ?_
 refine wp_skip ?_
 refine k11 _ _ ?_
 try clear k11 K11
 refine wp_seq_k (fun K14 k14=>?_)
 refine wp_seq_k (fun K15 k15=>?_)
 refine rg [0,1,2] ?_
 refine sv 8 v ?_
 refine sw 9 (.int .i64 ((R:Int))) rfl (rv_lenn (e:=49) hs (tb_lenz rfl) _ _ rfl rfl (by kernel_rfl)) ?_
 refine sv 10 (.int .i64 0) ?_
 refine sq_nil ?_
 refine k15 _ _ ?_
 try clear k15 K15
 refine wp_block ?_
 refine wp_loop_inv (a:=⟨List.toArray ?l16,[]⟩) (fun n a w'=>∃ (k:Nat) (u16:Nat→Value),R - k=n∧a=⟨[v,undef,(u16 2),undef,(u16 4),(u16 5),(u16 6),(.bool false),v,(.int .i64 ((R:Int))),(.int .i64 ((k:Int))),(u16 11),(u16 12),(u16 13),(u16 14),(u16 15),(u16 16),(u16 17),(u16 18),(u16 19),(u16 20),(u16 21),(u16 22),(u16 23),(u16 24)].toArray,[]⟩∧k≤R∧Gr w w') (R - 0) ?_ ?_
 ·exact ⟨0,(fun i=>List.getD ?l16 i undef),rfl,rfl,(Nat.zero_le _),hB⟩
 rintro n16 a16 w16 ⟨k,u16,rfl,rfl,hkk,hB⟩ K16 k16
 refine wp_seq_k (fun K17 k17=>?_)
 refine rg [0] ?_
 refine sv 11 (.bool (decide ((k:Int)<(R:Int)))) ?_
 refine sq_nil ?_
 refine k17 _ _ ?_
 try clear k17 K17
 refine wp_seq_k (fun K18 k18=>?_)
 refine wp_cond_split (t:=decide ((k:Int)<(R:Int))) rfl (fun hb19=>?_) (fun hb19=>?_)
 ·have hlk:k<R:=by have:=of_decide_eq_true hb19;omega
  refine wp_skip ?_
  refine k18 _ _ ?_
  try clear k18 K18
  refine wp_seq_k (fun K20 k20=>?_)
  refine wp_block ?_
  refine wp_seq_k (fun K21 k21=>?_)
  refine rg [0,1,2] ?_
  refine sw 12 (adr v (k*1)) rfl (rv_idxn (e:=49) hs tb_len (by decide) k (by omega) _ _ _ rfl rfl rfl (by kernel_rfl) (by kernel_rfl)) ?_
  obtain ⟨_,_,⟨u22,rfl,hr22⟩,at22⟩:=Sl.get hs (by decide) (tb_get (f:=(fun z0=>tb (fun z1=>(m z0 z1)) N)) (n:=R) (i:=k) (by omega))
  refine sw 13 u22 rfl (rv_ld1 u22 (at22.gr hB) _ _ rfl rfl (by kernel_rfl)) ?_
  refine sv 4 u22 ?_
  refine sq_nil ?_
  refine k21 _ _ ?_
  try clear k21 K21
  refine wp_seq_k (fun K23 k23=>?_)
  refine wp_seq_k (fun K24 k24=>?_)
  refine rg [0,1,2] ?_
  refine sv 14 u22 ?_
  refine sw 15 (.int .i64 ((N:Int))) rfl (rv_lenn (e:=71) hr22 (tb_lenz rfl) _ _ rfl rfl (by kernel_rfl)) ?_
  have hb25:(decide ((96:Int)<(N:Int)))=false:=(by simp only [decide_eq_false_iff_not];omega)
  refine sw 16 (.bool false) rfl (RunV.bool (x:=decide ((96:Int)<(N:Int))) (rvk (by kernel_rfl)) hb25) ?_
  refine sq_nil ?_
  refine k24 _ _ ?_
  try clear k24 K24
  refine wp_cond_false rfl ?_
  refine wp_skip ?_
  refine k23 _ _ ?_
  try clear k23 K23
  refine wp_seq_k (fun K26 k26=>?_)
  refine rg [0,1,2,3,4,5,6] ?_
  refine sv 17 u22 ?_
  refine sw 18 (.int .i64 ((N:Int))) rfl (rv_lenn (e:=71) hr22 (tb_lenz rfl) _ _ rfl rfl (by kernel_rfl)) ?_
  refine sv 19 v ?_
  refine sw 20 (adr v (0*1)) rfl (rv_idxn (e:=49) hs tb_len (by decide) 0 (by omega) _ _ _ rfl rfl rfl (by kernel_rfl) (by kernel_rfl)) ?_
  obtain ⟨_,_,⟨u27,rfl,hr27⟩,at27⟩:=Sl.get hs (by decide) (tb_get (f:=(fun z0=>tb (fun z1=>(m z0 z1)) N)) (n:=R) (i:=0) (by omega))
  refine sw 21 u27 rfl (rv_ld1 u27 (at27.gr hB) _ _ rfl rfl (by kernel_rfl)) ?_
  refine sw 22 (.int .i64 ((N:Int))) rfl (rv_lenn (e:=71) hr27 (tb_lenz rfl) _ _ rfl rfl (by kernel_rfl)) ?_
  refine sw 23 (.bool false) rfl (RunV.bool (x:=((N:Int) !=(N:Int))) (rvk (by kernel_rfl)) (by simp)) ?_
  refine sq_nil ?_
  refine k26 _ _ ?_
  try clear k26 K26
  refine wp_cond_false rfl ?_
  refine wp_skip ?_
  refine k20 _ _ ?_
  try clear k20 K20
  refine rg [0,1] ?_
  refine sw 24 (.int .i64 (((k:Int)+1))) rfl (RunV.int (x:=IntKind.i64.wrap (((k:Int)+1))) (y:=((k:Int)+1)) (rvk (by kernel_rfl)) (by first | rfl | (rw [IntKind.wrap_i64];omega))) ?_
  refine sv 10 (.int .i64 (((k:Int)+1))) ?_
  refine sq_nil ?_
  refine k16 (R - (k+1)) ⟨List.toArray ?l28,[]⟩ _ (by omega) ?_
  exact ⟨k+1,(fun i=>List.getD ?l28 i undef),rfl,rfl,(by omega),hB⟩
 ·have hek:R=k:=by have:=of_decide_eq_false hb19;omega
  subst hek
  refine wp_exit ?_
  simp only [Exit.then,Exit.inBlock,↓reduceIte]
  refine k14 _ _ ?_
  try clear k14 K14
  refine wp_seq_k (fun K29 k29=>?_)
  refine rg [0] ?_
  refine sv 2 (.int .i64 0) ?_
  refine sq_nil ?_
  refine k29 _ _ ?_
  try clear k29 K29
  refine wp_ret ?_
  refine bodyPost_ret (v:=(.int .i64 0)) (ret_tmp rfl rfl) rfl ⟨?_,hB⟩
  exact rfl

set_option maxRecDepth 100000 in
set_option maxHeartbeats 1000000 in
theorem mx_Transpose {K R N:Nat} {v:Value} {m:Nat→Nat→Rat} (hR:R=0→N=0) (hK:64≤K) (_hR2:R≤256) (_hN2:N≤96) {w:World} (hs:Sl (ERw (ERat K) 71 4) 49 1 w v (tb (fun z0=>tb (fun z1=>(m z0 z1)) N) R)):
    Calls Tryz.prog 31 #[v] w fun e w'=>(∃ u,e=.returned (.tuple #[u,.int .i64 0])∧Sl (ERw (ERat K) 71 4) 49 1 w' u (tb (fun z0=>tb (fun z1=>(m z1 z0)) R) N))∧Gr w w':=by
 go_enter Tryz.func31,Tryz.ntmps31
 have hB:=Gr.refl w
 refine wp_seq_k (fun K10 k10=>?_)
 refine rg [0,1] ?_
 refine sv 2 (.slice none 0 0) ?_
 refine sv 3 (.int .i64 0) ?_
 refine sq_nil ?_
 refine k10 _ _ ?_
 try clear k10 K10
 refine wp_seq_k (fun K11 k11=>?_)
 refine wp_seq_k (fun K12 k12=>?_)
 refine rg [0,1,2] ?_
 refine sv 5 v ?_
 refine se ?_
 refine ec 6 (mx_size (by omega) (by omega) (hs.gr (stab_rw (stab_rat K) 71 4) hB)) ?_
 rintro e13 w13 ⟨rfl,g13⟩
 refine ⟨_,rfl,?_⟩
 replace hB:=hB.trans g13
 simp only [p3,p4]
 refine sv 4 (.int .i64 0) ?_
 refine sq_nil ?_
 refine k12 _ _ ?_
 try clear k12 K12
 refine wp_seq_k (fun K14 k14=>?_)
 refine rg [0,1] ?_
 refine sv 7 (.int .i64 0) ?_
 refine sv 8 (.bool false) ?_
 refine sq_nil ?_
 refine k14 _ _ ?_
 try clear k14 K14
 refine wp_cond_false rfl ?_
 refine wp_skip ?_
 refine k11 _ _ ?_
 try clear k11 K11
 refine wp_seq_k (fun K15 k15=>?_)
 refine rg [0,1,2,3] ?_
 refine sv 10 v ?_
 refine se ?_
 refine ec 11 (mx_transposed hR hK (by omega) (by omega) (hs.gr (stab_rw (stab_rat K) 71 4) hB)) ?_
 rintro e16 w16 ⟨⟨u16,rfl,hs16⟩,g16⟩
 refine ⟨_,rfl,?_⟩
 replace hB:=hB.trans g16
 simp only [p3,p4]
 refine sv 2 u16 ?_
 refine sv 3 (.int .i64 0) ?_
 refine sq_nil ?_
 refine k15 _ _ ?_
 try clear k15 K15
 refine wp_ret ?_
 refine bodyPost_ret (v:=(.tuple #[u16,(.int .i64 0)])) (ret_tmp2 rfl rfl rfl) rfl ⟨?_,hB⟩
 exact ⟨_,rfl,hs16⟩

set_option maxRecDepth 100000 in
set_option maxHeartbeats 1000000 in
theorem mx_Apply {K L R N:Nat} {v u:Value} {m:Nat→Nat→Rat} {x:Nat→Rat} (_hR2:R≤256) (_hN2:N≤96) (_hS:N*(K+L+1)≤90000) {w:World} (hs:Sl (ERw (ERat K) 71 4) 49 1 w v (tb (fun z0=>tb (fun z1=>(m z0 z1)) N) R)) (hx:Sl (ERat L) 71 4 w u (tb (fun z1=>(x z1)) N)):
    Calls Tryz.prog 26 #[v,u] w fun e w'=>(∃ u,e=.returned (.tuple #[u,.int .i64 0])∧Sl (ERat (64+N*(K+L+1))) 71 4 w' u (tb (fun z1=>(sm N fun k=>m z1 k*x k)) R))∧Gr w w':=by
 go_enter Tryz.func26,Tryz.ntmps26
 have hB:=Gr.refl w
 refine wp_seq_k (fun K10 k10=>?_)
 refine rg [0,1] ?_
 refine sv 4 (.slice none 0 0) ?_
 refine sv 5 (.int .i64 0) ?_
 refine sq_nil ?_
 refine k10 _ _ ?_
 try clear k10 K10
 refine wp_seq_k (fun K11 k11=>?_)
 refine wp_seq_k (fun K12 k12=>?_)
 refine rg [0,1,2] ?_
 refine sv 10 v ?_
 refine se ?_
 refine ec 11 (mx_size (by omega) (by omega) (hs.gr (stab_rw (stab_rat K) 71 4) hB)) ?_
 rintro e13 w13 ⟨rfl,g13⟩
 refine ⟨_,rfl,?_⟩
 replace hB:=hB.trans g13
 simp only [p3,p4]
 refine sv 6 (.int .i64 0) ?_
 refine sq_nil ?_
 refine k12 _ _ ?_
 try clear k12 K12
 refine wp_seq_k (fun K14 k14=>?_)
 refine rg [0,1] ?_
 refine sv 12 (.int .i64 0) ?_
 refine sv 13 (.bool false) ?_
 refine sq_nil ?_
 refine k14 _ _ ?_
 try clear k14 K14
 refine wp_cond_false rfl ?_
 refine wp_skip ?_
 refine k11 _ _ ?_
 try clear k11 K11
 refine wp_seq_k (fun K15 k15=>?_)
 refine wp_seq_k (fun K16 k16=>?_)
 refine rg [0,1,2,3,4,5,6,7,8,9] ?_
 refine sv 15 v ?_
 refine sw 16 (.int .i64 ((R:Int))) rfl (rv_lenn (e:=49) hs (tb_lenz rfl) _ _ rfl rfl (by kernel_rfl)) ?_
 refine sv 17 (.bool (decide ((0:Int)<(R:Int)))) ?_
 rcases Bool.eq_false_or_eq_true (decide ((0:Int)<(R:Int))) with hb17 | hb17
 ·have hq18:((0:Int)<(R:Int)):=of_decide_eq_true hb17
  refine sw 18 (.bool true) rfl (RunV.bool (x:=decide ((0:Int)<(R:Int))) (rvk (by kernel_rfl)) hb17) ?_
  refine sv 19 v ?_
  refine se ?_
  refine ec 20 (mx_columnsR (hs.gr (stab_rw (stab_rat K) 71 4) hB) (by omega)) ?_
  rintro e19 w19 ⟨rfl,g19⟩
  refine ⟨_,rfl,?_⟩
  replace hB:=hB.trans g19
  simp only [p3,p4]
  refine sv 21 u ?_
  refine sw 22 (.int .i64 ((N:Int))) rfl (rv_lenn (e:=71) hx (tb_lenz rfl) _ _ rfl rfl (by kernel_rfl)) ?_
  refine sw 23 (.bool false) rfl (RunV.bool (x:=((N:Int) !=(N:Int))) (rvk (by kernel_rfl)) (by simp)) ?_
  refine sv 24 (.bool false) ?_
  refine sq_nil ?_
  refine k16 _ _ ?_
  try clear k16 K16
  refine wp_cond_false rfl ?_
  refine wp_skip ?_
  refine k15 _ _ ?_
  try clear k15 K15
  refine wp_seq_k (fun K20 k20=>?_)
  refine rg [0] ?_
  refine sv 7 (.slice none 0 0) ?_
  refine sq_nil ?_
  refine k20 _ _ ?_
  try clear k20 K20
  refine wp_seq_k (fun K21 k21=>?_)
  refine wp_seq_k (fun K22 k22=>?_)
  refine rg [0,1,2] ?_
  refine sv 25 v ?_
  refine sw 26 (.int .i64 ((R:Int))) rfl (rv_lenn (e:=49) hs (tb_lenz rfl) _ _ rfl rfl (by kernel_rfl)) ?_
  refine sv 27 (.int .i64 0) ?_
  refine sq_nil ?_
  refine k22 _ _ ?_
  try clear k22 K22
  refine wp_block ?_
  refine wp_loop_inv (a:=⟨List.toArray ?l23,[]⟩) (fun n a w'=>∃ (j:Nat) (vo:Value) (u23:Nat→Value),R - j=n∧a=⟨[v,u,undef,undef,(.slice none 0 0),(.int .i64 0),(.int .i64 0),vo,undef,(u23 9),(u23 10),(u23 11),(u23 12),(.bool false),undef,(u23 15),(u23 16),(u23 17),(u23 18),(u23 19),(u23 20),(u23 21),(u23 22),(u23 23),(.bool false),v,(.int .i64 ((R:Int))),(.int .i64 ((j:Int))),(u23 28),(u23 29),(u23 30),(u23 31),(u23 32),(u23 33),(u23 34),(u23 35),(u23 36),(u23 37),undef].toArray,[]⟩∧j≤R∧Ow (ERat (64+N*(K+L+1))) 71 4 w' w.heap.size vo (tb (fun z1=>(sm N fun k=>m z1 k*x k)) j)∧Gr w w') (R - 0) ?_ ?_
  ·exact ⟨0,(.slice none 0 0),(fun i=>List.getD ?l23 i undef),rfl,rfl,(Nat.zero_le _),(Ow.nil _ _ _ _ _),hB⟩
  rintro n23 a23 w23 ⟨j,vo,u23,rfl,rfl,hkj,ow,hB⟩ K23 k23
  have lehC:=Below.size hB
  have hC:=Gr.refl w23
  refine wp_seq_k (fun K24 k24=>?_)
  refine rg [0] ?_
  refine sv 28 (.bool (decide ((j:Int)<(R:Int)))) ?_
  refine sq_nil ?_
  refine k24 _ _ ?_
  try clear k24 K24
  refine wp_seq_k (fun K25 k25=>?_)
  refine wp_cond_split (t:=decide ((j:Int)<(R:Int))) rfl (fun hb26=>?_) (fun hb26=>?_)
  ·have hlj:j<R:=by have:=of_decide_eq_true hb26;omega
   refine wp_skip ?_
   refine k25 _ _ ?_
   try clear k25 K25
   refine wp_seq_k (fun K27 k27=>?_)
   refine wp_block ?_
   refine wp_seq_k (fun K28 k28=>?_)
   refine rg [0,1,2] ?_
   refine sw 29 (adr v (j*1)) rfl (rv_idxn (e:=49) hs tb_len (by decide) j (by omega) _ _ _ rfl rfl rfl (by kernel_rfl) (by kernel_rfl)) ?_
   obtain ⟨_,_,⟨u29,rfl,hr29⟩,at29⟩:=Sl.get hs (by decide) (tb_get (f:=(fun z0=>tb (fun z1=>(m z0 z1)) N)) (n:=R) (i:=j) (by omega))
   refine sw 30 u29 rfl (rv_ld1 u29 (at29.gr hB) _ _ rfl rfl (by kernel_rfl)) ?_
   refine sv 9 u29 ?_
   refine sq_nil ?_
   refine k28 _ _ ?_
   try clear k28 K28
   refine rg [0,1,2,3,4,5,6] ?_
   refine sv 31 vo ?_
   refine sv 32 u29 ?_
   refine sv 33 u ?_
   refine se ?_
   refine ec 34 (mx_dot (hr29.gr (stab_rat K) hB) (hx.gr (stab_rat L) hB) (by omega) (by omega)) ?_
   rintro e30 w30 ⟨⟨p30,q30,r30,s30,rfl,h30⟩,g30⟩
   refine ⟨_,rfl,?_⟩
   replace hB:=hB.trans g30
   replace hC:=hC.trans g30
   simp only [p3,p4]
   refine se ?_
   refine eff_bs 71 1 #[p30,q30,r30,s30] (some 35) rfl (fun _=>by kernel_rfl) (fun b31 w31 g31 L31 q31=>?_)
   have q31_hC:=Nat.le_trans (Below.size hC) q31
   replace hB:=hB.trans g31
   replace hC:=hC.trans g31
   simp only [putl,p3,p4]
   refine se ?_
   replace h30:=h30.kp g31.kp
   refine eff_apg (stab_rat (64+N*(K+L+1))) _ _ 49 71 w.heap.size (.agg #[(.bool false),(.slice none 0 0),(.bool false),(.slice none 0 0)]) vo (tb (fun z1=>(sm N fun k=>m z1 k*x k)) j) b31 [p30,q30,r30,s30] ((sm N fun z9=>(m j z9)*(x z9))) 4 1 (some 36) 64 rfl rfl rfl rfl (ow.gr (stab_rat (64+N*(K+L+1))) hC) L31 ⟨h30.one0,h30.one1,h30.one2,h30.one3,trivial⟩ rfl ⟨_,_,_,_,rfl,h30.mono (by omega)⟩ (Below.size hB) (by rw [tb_len];omega) (by decide) (by kernel_rfl) (by kernel_rfl) (by decide) (by decide) (fun v32 w32 ow32 wt32 hg32=>?_)
   replace hB:=hg32 _ hB (Nat.le_refl _)
   replace ow32:=ow32.cast (tb_snoc (f:=(fun z1=>(sm N fun k=>m z1 k*x k))) (n:=j) (by first | rfl | exact fil_all))
   simp only [putl,p3,p4]
   refine sv 7 v32 ?_
   refine sq_nil ?_
   refine k27 _ _ ?_
   try clear k27 K27
   refine rg [0,1] ?_
   refine sw 37 (.int .i64 (((j:Int)+1))) rfl (RunV.int (x:=IntKind.i64.wrap (((j:Int)+1))) (y:=((j:Int)+1)) (rvk (by kernel_rfl)) (by first | rfl | (rw [IntKind.wrap_i64];omega))) ?_
   refine sv 27 (.int .i64 (((j:Int)+1))) ?_
   refine sq_nil ?_
   refine k23 (R - (j+1)) ⟨List.toArray ?l33,[]⟩ _ (by omega) ?_
   exact ⟨j+1,v32,(fun i=>List.getD ?l33 i undef),rfl,rfl,(by omega),ow32,hB⟩
  ·have hej:R=j:=by have:=of_decide_eq_false hb26;omega
   subst hej
   refine wp_exit ?_
   simp only [Exit.then,Exit.inBlock,↓reduceIte]
   refine k21 _ _ ?_
   try clear k21 K21
   refine wp_seq_k (fun K34 k34=>?_)
   refine rg [0,1,2] ?_
   refine sv 38 vo ?_
   refine sv 4 vo ?_
   refine sv 5 (.int .i64 0) ?_
   refine sq_nil ?_
   refine k34 _ _ ?_
   try clear k34 K34
   refine wp_ret ?_
   refine bodyPost_ret (v:=(.tuple #[vo,(.int .i64 0)])) (ret_tmp2 rfl rfl rfl) rfl ⟨?_,hB⟩
   exact ⟨_,rfl,((ow.gr (stab_rat (64+N*(K+L+1))) hC).sl)⟩
 ·have hq35:¬ ((0:Int)<(R:Int)):=of_decide_eq_false hb17
  refine sw 18 (.bool false) rfl (RunV.bool (x:=decide ((0:Int)<(R:Int))) (rvk (by kernel_rfl)) hb17) ?_
  refine ss 19 ?_
  refine ss 20 ?_
  refine ss 21 ?_
  refine ss 22 ?_
  refine ss 23 ?_
  refine sv 24 (.bool false) ?_
  refine sq_nil ?_
  refine k16 _ _ ?_
  try clear k16 K16
  refine wp_cond_false rfl ?_
  refine wp_skip ?_
  refine k15 _ _ ?_
  try clear k15 K15
  refine wp_seq_k (fun K36 k36=>?_)
  refine rg [0] ?_
  refine sv 7 (.slice none 0 0) ?_
  refine sq_nil ?_
  refine k36 _ _ ?_
  try clear k36 K36
  refine wp_seq_k (fun K37 k37=>?_)
  refine wp_seq_k (fun K38 k38=>?_)
  refine rg [0,1,2] ?_
  refine sv 25 v ?_
  refine sw 26 (.int .i64 ((R:Int))) rfl (rv_lenn (e:=49) hs (tb_lenz rfl) _ _ rfl rfl (by kernel_rfl)) ?_
  refine sv 27 (.int .i64 0) ?_
  refine sq_nil ?_
  refine k38 _ _ ?_
  try clear k38 K38
  refine wp_block ?_
  refine wp_loop_inv (a:=⟨List.toArray ?l39,[]⟩) (fun n a w'=>∃ (j:Nat) (vo:Value) (u39:Nat→Value),R - j=n∧a=⟨[v,u,undef,undef,(.slice none 0 0),(.int .i64 0),(.int .i64 0),vo,undef,(u39 9),(u39 10),(u39 11),(u39 12),(.bool false),undef,(u39 15),(u39 16),(u39 17),(u39 18),undef,undef,undef,undef,undef,(.bool false),v,(.int .i64 ((R:Int))),(.int .i64 ((j:Int))),(u39 28),(u39 29),(u39 30),(u39 31),(u39 32),(u39 33),(u39 34),(u39 35),(u39 36),(u39 37),undef].toArray,[]⟩∧j≤R∧Ow (ERat (64+N*(K+L+1))) 71 4 w' w.heap.size vo (tb (fun z1=>(sm N fun k=>m z1 k*x k)) j)∧Gr w w') (R - 0) ?_ ?_
  ·exact ⟨0,(.slice none 0 0),(fun i=>List.getD ?l39 i undef),rfl,rfl,(Nat.zero_le _),(Ow.nil _ _ _ _ _),hB⟩
  rintro n39 a39 w39 ⟨j,vo,u39,rfl,rfl,hkj,ow,hB⟩ K39 k39
  have lehC:=Below.size hB
  have hC:=Gr.refl w39
  refine wp_seq_k (fun K40 k40=>?_)
  refine rg [0] ?_
  refine sv 28 (.bool (decide ((j:Int)<(R:Int)))) ?_
  refine sq_nil ?_
  refine k40 _ _ ?_
  try clear k40 K40
  refine wp_seq_k (fun K41 k41=>?_)
  refine wp_cond_split (t:=decide ((j:Int)<(R:Int))) rfl (fun hb42=>?_) (fun hb42=>?_)
  ·have hlj:j<R:=by have:=of_decide_eq_true hb42;omega
   refine wp_skip ?_
   refine k41 _ _ ?_
   try clear k41 K41
   refine wp_seq_k (fun K43 k43=>?_)
   refine wp_block ?_
   refine wp_seq_k (fun K44 k44=>?_)
   refine rg [0,1,2] ?_
   refine sw 29 (adr v (j*1)) rfl (rv_idxn (e:=49) hs tb_len (by decide) j (by omega) _ _ _ rfl rfl rfl (by kernel_rfl) (by kernel_rfl)) ?_
   obtain ⟨_,_,⟨u45,rfl,hr45⟩,at45⟩:=Sl.get hs (by decide) (tb_get (f:=(fun z0=>tb (fun z1=>(m z0 z1)) N)) (n:=R) (i:=j) (by omega))
   refine sw 30 u45 rfl (rv_ld1 u45 (at45.gr hB) _ _ rfl rfl (by kernel_rfl)) ?_
   refine sv 9 u45 ?_
   refine sq_nil ?_
   refine k44 _ _ ?_
   try clear k44 K44
   refine rg [0,1,2,3,4,5,6] ?_
   refine sv 31 vo ?_
   refine sv 32 u45 ?_
   refine sv 33 u ?_
   refine se ?_
   refine ec 34 (mx_dot (hr45.gr (stab_rat K) hB) (hx.gr (stab_rat L) hB) (by omega) (by omega)) ?_
   rintro e46 w46 ⟨⟨p46,q46,r46,s46,rfl,h46⟩,g46⟩
   refine ⟨_,rfl,?_⟩
   replace hB:=hB.trans g46
   replace hC:=hC.trans g46
   simp only [p3,p4]
   refine se ?_
   refine eff_bs 71 1 #[p46,q46,r46,s46] (some 35) rfl (fun _=>by kernel_rfl) (fun b47 w47 g47 L47 q47=>?_)
   have q47_hC:=Nat.le_trans (Below.size hC) q47
   replace hB:=hB.trans g47
   replace hC:=hC.trans g47
   simp only [putl,p3,p4]
   refine se ?_
   replace h46:=h46.kp g47.kp
   refine eff_apg (stab_rat (64+N*(K+L+1))) _ _ 49 71 w.heap.size (.agg #[(.bool false),(.slice none 0 0),(.bool false),(.slice none 0 0)]) vo (tb (fun z1=>(sm N fun k=>m z1 k*x k)) j) b47 [p46,q46,r46,s46] ((sm N fun z9=>(m j z9)*(x z9))) 4 1 (some 36) 64 rfl rfl rfl rfl (ow.gr (stab_rat (64+N*(K+L+1))) hC) L47 ⟨h46.one0,h46.one1,h46.one2,h46.one3,trivial⟩ rfl ⟨_,_,_,_,rfl,h46.mono (by omega)⟩ (Below.size hB) (by rw [tb_len];omega) (by decide) (by kernel_rfl) (by kernel_rfl) (by decide) (by decide) (fun v48 w48 ow48 wt48 hg48=>?_)
   replace hB:=hg48 _ hB (Nat.le_refl _)
   replace ow48:=ow48.cast (tb_snoc (f:=(fun z1=>(sm N fun k=>m z1 k*x k))) (n:=j) (by first | rfl | exact fil_all))
   simp only [putl,p3,p4]
   refine sv 7 v48 ?_
   refine sq_nil ?_
   refine k43 _ _ ?_
   try clear k43 K43
   refine rg [0,1] ?_
   refine sw 37 (.int .i64 (((j:Int)+1))) rfl (RunV.int (x:=IntKind.i64.wrap (((j:Int)+1))) (y:=((j:Int)+1)) (rvk (by kernel_rfl)) (by first | rfl | (rw [IntKind.wrap_i64];omega))) ?_
   refine sv 27 (.int .i64 (((j:Int)+1))) ?_
   refine sq_nil ?_
   refine k39 (R - (j+1)) ⟨List.toArray ?l49,[]⟩ _ (by omega) ?_
   exact ⟨j+1,v48,(fun i=>List.getD ?l49 i undef),rfl,rfl,(by omega),ow48,hB⟩
  ·have hej:R=j:=by have:=of_decide_eq_false hb42;omega
   subst hej
   refine wp_exit ?_
   simp only [Exit.then,Exit.inBlock,↓reduceIte]
   refine k37 _ _ ?_
   try clear k37 K37
   refine wp_seq_k (fun K50 k50=>?_)
   refine rg [0,1,2] ?_
   refine sv 38 vo ?_
   refine sv 4 vo ?_
   refine sv 5 (.int .i64 0) ?_
   refine sq_nil ?_
   refine k50 _ _ ?_
   try clear k50 K50
   refine wp_ret ?_
   refine bodyPost_ret (v:=(.tuple #[vo,(.int .i64 0)])) (ret_tmp2 rfl rfl rfl) rfl ⟨?_,hB⟩
   exact ⟨_,rfl,((ow.gr (stab_rat (64+N*(K+L+1))) hC).sl)⟩

set_option maxRecDepth 100000 in
set_option maxHeartbeats 1000000 in
theorem mx_Mul {K L R S N:Nat} {va vb:Value} {ma mb:Nat→Nat→Rat} (hSN:S=0→N=0) (hL:64≤L) (_hR2:R≤256) (_hS2:S≤96) (_hN2:N≤96) (_hSz:S*(K+L+1)≤90000) {w:World} (ha:Sl (ERw (ERat K) 71 4) 49 1 w va (tb (fun z0=>tb (fun z1=>(ma z0 z1)) S) R)) (hb:Sl (ERw (ERat L) 71 4) 49 1 w vb (tb (fun z0=>tb (fun z1=>(mb z0 z1)) N) S)):
    Calls Tryz.prog 44 #[va,vb] w fun e w'=>(∃ u,e=.returned (.tuple #[u,.int .i64 0])∧Sl (ERw (ERat (64+S*(K+L+1))) 71 4) 49 1 w' u (tb (fun z0=>tb (fun z1=>(sm S fun j=>ma z0 j*mb j z1)) N) R))∧Gr w w':=by
 go_enter Tryz.func44,Tryz.ntmps44
 have hB:=Gr.refl w
 refine wp_seq_k (fun K10 k10=>?_)
 refine rg [0,1] ?_
 refine sv 4 (.slice none 0 0) ?_
 refine sv 5 (.int .i64 0) ?_
 refine sq_nil ?_
 refine k10 _ _ ?_
 try clear k10 K10
 refine wp_seq_k (fun K11 k11=>?_)
 refine wp_seq_k (fun K12 k12=>?_)
 refine rg [0,1,2] ?_
 refine sv 15 va ?_
 refine se ?_
 refine ec 16 (mx_size (by omega) (by omega) (ha.gr (stab_rw (stab_rat K) 71 4) hB)) ?_
 rintro e13 w13 ⟨rfl,g13⟩
 refine ⟨_,rfl,?_⟩
 replace hB:=hB.trans g13
 simp only [p3,p4]
 refine sv 6 (.int .i64 0) ?_
 refine sq_nil ?_
 refine k12 _ _ ?_
 try clear k12 K12
 refine wp_seq_k (fun K14 k14=>?_)
 refine rg [0,1] ?_
 refine sv 17 (.int .i64 0) ?_
 refine sv 18 (.bool false) ?_
 refine sq_nil ?_
 refine k14 _ _ ?_
 try clear k14 K14
 refine wp_cond_false rfl ?_
 refine wp_skip ?_
 refine k11 _ _ ?_
 try clear k11 K11
 refine wp_seq_k (fun K15 k15=>?_)
 refine wp_seq_k (fun K16 k16=>?_)
 refine rg [0,1,2] ?_
 refine sv 20 vb ?_
 refine se ?_
 refine ec 21 (mx_size (by omega) (by omega) (hb.gr (stab_rw (stab_rat L) 71 4) hB)) ?_
 rintro e17 w17 ⟨rfl,g17⟩
 refine ⟨_,rfl,?_⟩
 replace hB:=hB.trans g17
 simp only [p3,p4]
 refine sv 7 (.int .i64 0) ?_
 refine sq_nil ?_
 refine k16 _ _ ?_
 try clear k16 K16
 refine wp_seq_k (fun K18 k18=>?_)
 refine rg [0,1] ?_
 refine sv 22 (.int .i64 0) ?_
 refine sv 23 (.bool false) ?_
 refine sq_nil ?_
 refine k18 _ _ ?_
 try clear k18 K18
 refine wp_cond_false rfl ?_
 refine wp_skip ?_
 refine k15 _ _ ?_
 try clear k15 K15
 refine wp_seq_k (fun K19 k19=>?_)
 refine wp_seq_k (fun K20 k20=>?_)
 refine rg [0,1,2,3,4,5,6,7,8,9] ?_
 refine sv 25 va ?_
 refine sw 26 (.int .i64 ((R:Int))) rfl (rv_lenn (e:=49) ha (tb_lenz rfl) _ _ rfl rfl (by kernel_rfl)) ?_
 refine sv 27 (.bool (decide ((0:Int)<(R:Int)))) ?_
 rcases Bool.eq_false_or_eq_true (decide ((0:Int)<(R:Int))) with hb21 | hb21
 ·have hq22:((0:Int)<(R:Int)):=of_decide_eq_true hb21
  refine sw 28 (.bool true) rfl (RunV.bool (x:=decide ((0:Int)<(R:Int))) (rvk (by kernel_rfl)) hb21) ?_
  refine sv 29 va ?_
  refine se ?_
  refine ec 30 (mx_columnsR (ha.gr (stab_rw (stab_rat K) 71 4) hB) (by omega)) ?_
  rintro e23 w23 ⟨rfl,g23⟩
  refine ⟨_,rfl,?_⟩
  replace hB:=hB.trans g23
  simp only [p3,p4]
  refine sv 31 vb ?_
  refine sw 32 (.int .i64 ((S:Int))) rfl (rv_lenn (e:=49) hb (tb_lenz rfl) _ _ rfl rfl (by kernel_rfl)) ?_
  have hb24:(((S:Int) !=(S:Int)))=false:=(by simp)
  refine sw 33 (.bool false) rfl (RunV.bool (x:=((S:Int) !=(S:Int))) (rvk (by kernel_rfl)) hb24) ?_
  refine sv 34 (.bool false) ?_
  refine sq_nil ?_
  refine k20 _ _ ?_
  try clear k20 K20
  refine wp_cond_false rfl ?_
  refine wp_skip ?_
  refine k19 _ _ ?_
  try clear k19 K19
  refine wp_seq_k (fun K25 k25=>?_)
  refine rg [0,1,2] ?_
  refine sv 35 vb ?_
  refine se ?_
  refine ec 36 (mx_transposed hSN hL (by omega) (by omega) (hb.gr (stab_rw (stab_rat L) 71 4) hB)) ?_
  rintro e26 w26 ⟨⟨u26,rfl,hs26⟩,g26⟩
  refine ⟨_,rfl,?_⟩
  replace hB:=hB.trans g26
  have lehc26:=Below.size hB
  have hc26:=Gr.refl w26
  simp only [p3,p4]
  refine sv 8 u26 ?_
  refine sq_nil ?_
  refine k25 _ _ ?_
  try clear k25 K25
  refine wp_seq_k (fun K27 k27=>?_)
  refine rg [0] ?_
  refine sv 9 (.slice none 0 0) ?_
  refine sq_nil ?_
  refine k27 _ _ ?_
  try clear k27 K27
  refine wp_seq_k (fun K28 k28=>?_)
  refine wp_seq_k (fun K29 k29=>?_)
  refine rg [0,1,2] ?_
  refine sv 37 va ?_
  refine sw 38 (.int .i64 ((R:Int))) rfl (rv_lenn (e:=49) ha (tb_lenz rfl) _ _ rfl rfl (by kernel_rfl)) ?_
  refine sv 39 (.int .i64 0) ?_
  refine sq_nil ?_
  refine k29 _ _ ?_
  try clear k29 K29
  refine wp_block ?_
  refine wp_loop_inv (a:=⟨List.toArray ?l30,[]⟩) (fun n a w'=>∃ (i:Nat) (vo:Value) (u30:Nat→Value),R - i=n∧a=⟨[va,vb,undef,undef,(.slice none 0 0),(.int .i64 0),(.int .i64 0),(.int .i64 0),u26,vo,undef,(u30 11),(u30 12),(u30 13),(u30 14),(u30 15),(u30 16),(u30 17),(.bool false),undef,(u30 20),(u30 21),(u30 22),(.bool false),undef,(u30 25),(u30 26),(u30 27),(u30 28),(u30 29),(u30 30),(u30 31),(u30 32),(u30 33),(.bool false),(u30 35),(u30 36),va,(.int .i64 ((R:Int))),(.int .i64 ((i:Int))),(u30 40),(u30 41),(u30 42),(u30 43),(u30 44),(u30 45),(u30 46),(u30 47),(u30 48),(u30 49),(u30 50),(u30 51),(u30 52),(u30 53),(u30 54),(u30 55),(u30 56),(u30 57),(u30 58),(u30 59),(u30 60),(u30 61),(u30 62),(u30 63),(u30 64),undef].toArray,[]⟩∧i≤R∧Ow (ERw (ERat (64+S*(K+L+1))) 71 4) 49 1 w' w26.heap.size vo (tb (fun z0=>tb (fun z1=>(sm S fun j=>ma z0 j*mb j z1)) N) i)∧Gr w26 w'∧Gr w w') (R - 0) ?_ ?_
  ·exact ⟨0,(.slice none 0 0),(fun i=>List.getD ?l30 i undef),rfl,rfl,(Nat.zero_le _),(Ow.nil _ _ _ _ _),hc26,hB⟩
  rintro n30 a30 w30 ⟨i,vo,u30,rfl,rfl,hki,ow,hc26,hB⟩ K30 k30
  have lehC:=Below.size hB
  have lehC_hc26:=Below.size hc26
  have hC:=Gr.refl w30
  refine wp_seq_k (fun K31 k31=>?_)
  refine rg [0] ?_
  refine sv 40 (.bool (decide ((i:Int)<(R:Int)))) ?_
  refine sq_nil ?_
  refine k31 _ _ ?_
  try clear k31 K31
  refine wp_seq_k (fun K32 k32=>?_)
  refine wp_cond_split (t:=decide ((i:Int)<(R:Int))) rfl (fun hb33=>?_) (fun hb33=>?_)
  ·have hli:i<R:=by have:=of_decide_eq_true hb33;omega
   refine wp_skip ?_
   refine k32 _ _ ?_
   try clear k32 K32
   refine wp_seq_k (fun K34 k34=>?_)
   refine wp_block ?_
   refine wp_seq_k (fun K35 k35=>?_)
   refine rg [0,1,2] ?_
   refine sw 41 (adr va (i*1)) rfl (rv_idxn (e:=49) ha tb_len (by decide) i (by omega) _ _ _ rfl rfl rfl (by kernel_rfl) (by kernel_rfl)) ?_
   obtain ⟨_,_,⟨u36,rfl,hr36⟩,at36⟩:=Sl.get ha (by decide) (tb_get (f:=(fun z0=>tb (fun z1=>(ma z0 z1)) S)) (n:=R) (i:=i) (by omega))
   refine sw 42 u36 rfl (rv_ld1 u36 (at36.gr hB) _ _ rfl rfl (by kernel_rfl)) ?_
   refine sv 11 u36 ?_
   refine sq_nil ?_
   refine k35 _ _ ?_
   try clear k35 K35
   refine wp_seq_k (fun K37 k37=>?_)
   refine rg [0,1,2,3] ?_
   refine sv 43 u26 ?_
   refine sw 44 (.int .i64 ((N:Int))) rfl (rv_lenn (e:=49) hs26 (tb_lenz rfl) _ _ rfl rfl (by kernel_rfl)) ?_
   refine se ?_
   refine eff_mk (E:=(ERat (64+S*(K+L+1)))) (0:Rat) 49 71 (.agg #[(.bool false),(.slice none 0 0),(.bool false),(.slice none 0 0)]) N 4 64 (some 45) rfl rfl rfl rfl (by kernel_rfl) (by kernel_rfl) (by decide) (by omega) (by decide) (fun w2=>erat_zero (64+S*(K+L+1)) (by omega) w2) (fun b38 w38 g38 mk38 q38=>?_)
   have q38_hc26:=Nat.le_trans (Below.size hc26) q38
   have q38_hC:=Nat.le_trans (Below.size hC) q38
   replace q38:=Nat.le_trans (Below.size hB) q38
   replace hB:=hB.trans g38
   replace hc26:=hc26.trans g38
   replace hC:=hC.trans g38
   simp only [putl,p3,p4]
   refine sv 12 (.slice (some ⟨b38,0,none⟩) N N) ?_
   refine sq_nil ?_
   refine k37 _ _ ?_
   try clear k37 K37
   refine wp_seq_k (fun K39 k39=>?_)
   refine wp_seq_k (fun K40 k40=>?_)
   refine rg [0,1,2] ?_
   refine sv 46 u26 ?_
   refine sw 47 (.int .i64 ((N:Int))) rfl (rv_lenn (e:=49) hs26 (tb_lenz rfl) _ _ rfl rfl (by kernel_rfl)) ?_
   refine sv 48 (.int .i64 0) ?_
   refine sq_nil ?_
   refine k40 _ _ ?_
   try clear k40 K40
   refine wp_block ?_
   refine wp_loop_inv (a:=⟨List.toArray ?l41,[]⟩) (fun n a w'=>∃ (k:Nat) (u41:Nat→Value),N - k=n∧a=⟨[va,vb,undef,undef,(.slice none 0 0),(.int .i64 0),(.int .i64 0),(.int .i64 0),u26,vo,undef,u36,(.slice (some ⟨b38,0,none⟩) N N),(u41 13),(u41 14),(u41 15),(u41 16),(u41 17),(.bool false),undef,(u41 20),(u41 21),(u41 22),(.bool false),undef,(u41 25),(u41 26),(u41 27),(u41 28),(u41 29),(u41 30),(u41 31),(u41 32),(u41 33),(.bool false),(u41 35),(u41 36),va,(.int .i64 ((R:Int))),(.int .i64 ((i:Int))),(.bool (decide ((i:Int)<(R:Int)))),(u41 41),(u41 42),(u41 43),(u41 44),(u41 45),u26,(.int .i64 ((N:Int))),(.int .i64 ((k:Int))),(u41 49),(u41 50),(u41 51),(u41 52),(u41 53),(u41 54),(u41 55),(u41 56),(u41 57),(u41 58),(u41 59),(u41 60),(u41 61),(u41 62),(u41 63),(u41 64),undef].toArray,[]⟩∧k≤N∧Mk (ERat (64+S*(K+L+1))) 71 4 w' b38 (fil (fun z1=>(sm S fun j=>ma i j*mb j z1)) (0:Rat) N k)∧Gr w26 w'∧Gr w30 w'∧Gr w w') (N - 0) ?_ ?_
   ·exact ⟨0,(fun i=>List.getD ?l41 i undef),rfl,rfl,(Nat.zero_le _),(mk38.cast fil_zero),hc26,hC,hB⟩
   rintro n41 a41 w41 ⟨k,u41,rfl,rfl,hkk,mk,hc26,hC,hB⟩ K41 k41
   refine wp_seq_k (fun K42 k42=>?_)
   refine rg [0] ?_
   refine sv 49 (.bool (decide ((k:Int)<(N:Int)))) ?_
   refine sq_nil ?_
   refine k42 _ _ ?_
   try clear k42 K42
   refine wp_seq_k (fun K43 k43=>?_)
   refine wp_cond_split (t:=decide ((k:Int)<(N:Int))) rfl (fun hb44=>?_) (fun hb44=>?_)
   ·have hlk:k<N:=by have:=of_decide_eq_true hb44;omega
    refine wp_skip ?_
    refine k43 _ _ ?_
    try clear k43 K43
    refine wp_seq_k (fun K45 k45=>?_)
    refine wp_block ?_
    refine wp_seq_k (fun K46 k46=>?_)
    refine rg [0,1,2,3,4] ?_
    refine sv 50 (.int .i64 ((k:Int))) ?_
    refine sw 51 (adr u26 (k*1)) rfl (rv_idxn (e:=49) hs26 tb_len (by decide) k (by omega) _ _ _ rfl rfl rfl (by kernel_rfl) (by kernel_rfl)) ?_
    obtain ⟨_,_,⟨u47,rfl,hr47⟩,at47⟩:=Sl.get hs26 (by decide) (tb_get (f:=(fun z0=>tb (fun z1=>(mb z1 z0)) S)) (n:=N) (i:=k) (by omega))
    refine sw 52 u47 rfl (rv_ld1 u47 (at47.gr hc26) _ _ rfl rfl (by kernel_rfl)) ?_
    refine sv 13 (.int .i64 ((k:Int))) ?_
    refine sv 14 u47 ?_
    refine sq_nil ?_
    refine k46 _ _ ?_
    try clear k46 K46
    refine rg [0,1,2,3,4,5,6] ?_
    refine sv 53 (.slice (some ⟨b38,0,none⟩) N N) ?_
    refine sv 54 (.int .i64 ((k:Int))) ?_
    refine sv 55 u36 ?_
    refine sv 56 u47 ?_
    refine se ?_
    refine ec 57 (mx_dot (hr36.gr (stab_rat K) hB) (hr47.gr (stab_rat L) hc26) (by omega) (by omega)) ?_
    rintro e48 w48 ⟨⟨p48,q48,r48,s48,rfl,h48⟩,g48⟩
    refine ⟨_,rfl,?_⟩
    replace hB:=hB.trans g48
    replace hc26:=hc26.trans g48
    replace hC:=hC.trans g48
    simp only [p3,p4]
    refine sw 58 (adr (.slice (some ⟨b38,0,none⟩) N N) (k*4)) rfl (rv_idxn (e:=71) (n:=N) (mk.sl_n (n:=N) (cap:=N) (fil_len (by omega)) (Nat.le_refl _)) (fil_len (by omega)) (by decide) k (by omega) _ _ _ rfl rfl rfl (by kernel_rfl) (by kernel_rfl)) ?_
    refine se ?_
    replace mk:=mk.gr (stab_rat (64+S*(K+L+1))) g48
    refine eff_stm (stab_rat (64+S*(K+L+1))) mk k (fil_lt (by omega) (by omega)) ((sm S fun z9=>(ma i z9)*(mb z9 k))) (.agg #[p48,q48,r48,s48]) [p48,q48,r48,s48] (N) (N) 71 _ _ rfl rfl rfl rfl rfl (by kernel_rfl) rfl ⟨h48.one0,h48.one1,h48.one2,h48.one3,trivial⟩ ⟨_,_,_,_,rfl,h48.mono (by omega)⟩ (by decide) (fun w49 st49 kt49 mk49=>?_)
    replace hB:=st49.gr hB q38
    replace hc26:=st49.gr hc26 q38_hc26
    replace hC:=st49.gr hC q38_hC
    refine sq_nil ?_
    refine k45 _ _ ?_
    try clear k45 K45
    refine rg [0,1] ?_
    refine sw 59 (.int .i64 (((k:Int)+1))) rfl (RunV.int (x:=IntKind.i64.wrap (((k:Int)+1))) (y:=((k:Int)+1)) (rvk (by kernel_rfl)) (by first | rfl | (rw [IntKind.wrap_i64];omega))) ?_
    refine sv 48 (.int .i64 (((k:Int)+1))) ?_
    refine sq_nil ?_
    refine k41 (N - (k+1)) ⟨List.toArray ?l50,[]⟩ _ (by omega) ?_
    exact ⟨k+1,(fun i=>List.getD ?l50 i undef),rfl,rfl,(by omega),(mk49.cast (fil_set hlk (by first | rfl | exact fil_all))),hc26,hC,hB⟩
   ·have hek:N=k:=by have:=of_decide_eq_false hb44;omega
    subst hek
    refine wp_exit ?_
    simp only [Exit.then,Exit.inBlock,↓reduceIte]
    refine k39 _ _ ?_
    try clear k39 K39
    refine rg [0,1,2,3,4] ?_
    refine sv 60 vo ?_
    refine sv 61 (.slice (some ⟨b38,0,none⟩) N N) ?_
    refine se ?_
    refine eff_bs 49 1 #[(.slice (some ⟨b38,0,none⟩) N N)] (some 62) rfl (fun _=>by kernel_rfl) (fun b51 w51 g51 L51 q51=>?_)
    have q51_hc26:=Nat.le_trans (Below.size hc26) q51
    have q51_hC:=Nat.le_trans (Below.size hC) q51
    replace hB:=hB.trans g51
    replace hc26:=hc26.trans g51
    replace hC:=hC.trans g51
    simp only [putl,p3,p4]
    refine se ?_
    replace mk:=mk.gr (stab_rat (64+S*(K+L+1))) g51
    refine eff_apg (stab_rw (stab_rat (64+S*(K+L+1))) 71 4) _ _ 29 49 w26.heap.size (.slice none 0 0) vo (tb (fun z0=>tb (fun z1=>(sm S fun j=>ma z0 j*mb j z1)) N) i) b51 [(.slice (some ⟨b38,0,none⟩) N N)] (fil (fun z1=>(sm S fun j=>ma i j*mb j z1)) (0:Rat) N N) 1 1 (some 63) 24 rfl rfl rfl rfl (ow.gr (stab_rw (stab_rat (64+S*(K+L+1))) 71 4) hC) L51 ⟨rfl,trivial⟩ rfl ⟨_,rfl,(mk.sl_n (fil_len (by omega)) (Nat.le_refl _))⟩ (Below.size hc26) (by rw [tb_len];omega) (by decide) (by kernel_rfl) (by kernel_rfl) (by decide) (by decide) (fun v52 w52 ow52 wt52 hg52=>?_)
    replace hB:=hg52 _ hB lehc26
    replace hc26:=hg52 _ hc26 (Nat.le_refl _)
    replace ow52:=ow52.cast (tb_snoc (f:=(fun z0=>tb (fun z1=>(sm S fun j=>ma z0 j*mb j z1)) N)) (n:=i) (by first | rfl | exact fil_all))
    simp only [putl,p3,p4]
    refine sv 9 v52 ?_
    refine sq_nil ?_
    refine k34 _ _ ?_
    try clear k34 K34
    refine rg [0,1] ?_
    refine sw 64 (.int .i64 (((i:Int)+1))) rfl (RunV.int (x:=IntKind.i64.wrap (((i:Int)+1))) (y:=((i:Int)+1)) (rvk (by kernel_rfl)) (by first | rfl | (rw [IntKind.wrap_i64];omega))) ?_
    refine sv 39 (.int .i64 (((i:Int)+1))) ?_
    refine sq_nil ?_
    refine k30 (R - (i+1)) ⟨List.toArray ?l53,[]⟩ _ (by omega) ?_
    exact ⟨i+1,v52,(fun i=>List.getD ?l53 i undef),rfl,rfl,(by omega),ow52,hc26,hB⟩
  ·have hei:R=i:=by have:=of_decide_eq_false hb33;omega
   subst hei
   refine wp_exit ?_
   simp only [Exit.then,Exit.inBlock,↓reduceIte]
   refine k28 _ _ ?_
   try clear k28 K28
   refine wp_seq_k (fun K54 k54=>?_)
   refine rg [0,1,2] ?_
   refine sv 65 vo ?_
   refine sv 4 vo ?_
   refine sv 5 (.int .i64 0) ?_
   refine sq_nil ?_
   refine k54 _ _ ?_
   try clear k54 K54
   refine wp_ret ?_
   refine bodyPost_ret (v:=(.tuple #[vo,(.int .i64 0)])) (ret_tmp2 rfl rfl rfl) rfl ⟨?_,hB⟩
   exact ⟨_,rfl,((ow.gr (stab_rw (stab_rat (64+S*(K+L+1))) 71 4) hC).sl)⟩
 ·have hq55:¬ ((0:Int)<(R:Int)):=of_decide_eq_false hb21
  refine swk 28 (.bool false) [(4,29),(5,30),(6,31),(7,32),(8,33)] rfl (RunV.bool (x:=decide ((0:Int)<(R:Int))) (rvk (by kernel_rfl)) hb21) ?_
  refine sv 34 (.bool false) ?_
  refine sq_nil ?_
  refine k20 _ _ ?_
  try clear k20 K20
  refine wp_cond_false rfl ?_
  refine wp_skip ?_
  refine k19 _ _ ?_
  try clear k19 K19
  refine wp_seq_k (fun K56 k56=>?_)
  refine rg [0,1,2] ?_
  refine sv 35 vb ?_
  refine se ?_
  refine ec 36 (mx_transposed hSN hL (by omega) (by omega) (hb.gr (stab_rw (stab_rat L) 71 4) hB)) ?_
  rintro e57 w57 ⟨⟨u57,rfl,hs57⟩,g57⟩
  refine ⟨_,rfl,?_⟩
  replace hB:=hB.trans g57
  have lehc57:=Below.size hB
  have hc57:=Gr.refl w57
  simp only [p3,p4]
  refine sv 8 u57 ?_
  refine sq_nil ?_
  refine k56 _ _ ?_
  try clear k56 K56
  refine wp_seq_k (fun K58 k58=>?_)
  refine rg [0] ?_
  refine sv 9 (.slice none 0 0) ?_
  refine sq_nil ?_
  refine k58 _ _ ?_
  try clear k58 K58
  refine wp_seq_k (fun K59 k59=>?_)
  refine wp_seq_k (fun K60 k60=>?_)
  refine rg [0,1,2] ?_
  refine sv 37 va ?_
  refine sw 38 (.int .i64 ((R:Int))) rfl (rv_lenn (e:=49) ha (tb_lenz rfl) _ _ rfl rfl (by kernel_rfl)) ?_
  refine sv 39 (.int .i64 0) ?_
  refine sq_nil ?_
  refine k60 _ _ ?_
  try clear k60 K60
  refine wp_block ?_
  refine wp_loop_inv (a:=⟨List.toArray ?l61,[]⟩) (fun n a w'=>∃ (i:Nat) (vo:Value) (u61:Nat→Value),R - i=n∧a=⟨[va,vb,undef,undef,(.slice none 0 0),(.int .i64 0),(.int .i64 0),(.int .i64 0),u57,vo,undef,(u61 11),(u61 12),(u61 13),(u61 14),(u61 15),(u61 16),(u61 17),(.bool false),undef,(u61 20),(u61 21),(u61 22),(.bool false),undef,(u61 25),(u61 26),(u61 27),(u61 28),undef,undef,undef,undef,undef,(.bool false),(u61 35),(u61 36),va,(.int .i64 ((R:Int))),(.int .i64 ((i:Int))),(u61 40),(u61 41),(u61 42),(u61 43),(u61 44),(u61 45),(u61 46),(u61 47),(u61 48),(u61 49),(u61 50),(u61 51),(u61 52),(u61 53),(u61 54),(u61 55),(u61 56),(u61 57),(u61 58),(u61 59),(u61 60),(u61 61),(u61 62),(u61 63),(u61 64),undef].toArray,[]⟩∧i≤R∧Ow (ERw (ERat (64+S*(K+L+1))) 71 4) 49 1 w' w57.heap.size vo (tb (fun z0=>tb (fun z1=>(sm S fun j=>ma z0 j*mb j z1)) N) i)∧Gr w57 w'∧Gr w w') (R - 0) ?_ ?_
  ·exact ⟨0,(.slice none 0 0),(fun i=>List.getD ?l61 i undef),rfl,rfl,(Nat.zero_le _),(Ow.nil _ _ _ _ _),hc57,hB⟩
  rintro n61 a61 w61 ⟨i,vo,u61,rfl,rfl,hki,ow,hc57,hB⟩ K61 k61
  have lehC:=Below.size hB
  have lehC_hc57:=Below.size hc57
  have hC:=Gr.refl w61
  refine wp_seq_k (fun K62 k62=>?_)
  refine rg [0] ?_
  refine sv 40 (.bool (decide ((i:Int)<(R:Int)))) ?_
  refine sq_nil ?_
  refine k62 _ _ ?_
  try clear k62 K62
  refine wp_seq_k (fun K63 k63=>?_)
  refine wp_cond_split (t:=decide ((i:Int)<(R:Int))) rfl (fun hb64=>?_) (fun hb64=>?_)
  ·have hli:i<R:=by have:=of_decide_eq_true hb64;omega
   refine wp_skip ?_
   refine k63 _ _ ?_
   try clear k63 K63
   refine wp_seq_k (fun K65 k65=>?_)
   refine wp_block ?_
   refine wp_seq_k (fun K66 k66=>?_)
   refine rg [0,1,2] ?_
   refine sw 41 (adr va (i*1)) rfl (rv_idxn (e:=49) ha tb_len (by decide) i (by omega) _ _ _ rfl rfl rfl (by kernel_rfl) (by kernel_rfl)) ?_
   obtain ⟨_,_,⟨u67,rfl,hr67⟩,at67⟩:=Sl.get ha (by decide) (tb_get (f:=(fun z0=>tb (fun z1=>(ma z0 z1)) S)) (n:=R) (i:=i) (by omega))
   refine sw 42 u67 rfl (rv_ld1 u67 (at67.gr hB) _ _ rfl rfl (by kernel_rfl)) ?_
   refine sv 11 u67 ?_
   refine sq_nil ?_
   refine k66 _ _ ?_
   try clear k66 K66
   refine wp_seq_k (fun K68 k68=>?_)
   refine rg [0,1,2,3] ?_
   refine sv 43 u57 ?_
   refine sw 44 (.int .i64 ((N:Int))) rfl (rv_lenn (e:=49) hs57 (tb_lenz rfl) _ _ rfl rfl (by kernel_rfl)) ?_
   refine se ?_
   refine eff_mk (E:=(ERat (64+S*(K+L+1)))) (0:Rat) 49 71 (.agg #[(.bool false),(.slice none 0 0),(.bool false),(.slice none 0 0)]) N 4 64 (some 45) rfl rfl rfl rfl (by kernel_rfl) (by kernel_rfl) (by decide) (by omega) (by decide) (fun w2=>erat_zero (64+S*(K+L+1)) (by omega) w2) (fun b69 w69 g69 mk69 q69=>?_)
   have q69_hc57:=Nat.le_trans (Below.size hc57) q69
   have q69_hC:=Nat.le_trans (Below.size hC) q69
   replace q69:=Nat.le_trans (Below.size hB) q69
   replace hB:=hB.trans g69
   replace hc57:=hc57.trans g69
   replace hC:=hC.trans g69
   simp only [putl,p3,p4]
   refine sv 12 (.slice (some ⟨b69,0,none⟩) N N) ?_
   refine sq_nil ?_
   refine k68 _ _ ?_
   try clear k68 K68
   refine wp_seq_k (fun K70 k70=>?_)
   refine wp_seq_k (fun K71 k71=>?_)
   refine rg [0,1,2] ?_
   refine sv 46 u57 ?_
   refine sw 47 (.int .i64 ((N:Int))) rfl (rv_lenn (e:=49) hs57 (tb_lenz rfl) _ _ rfl rfl (by kernel_rfl)) ?_
   refine sv 48 (.int .i64 0) ?_
   refine sq_nil ?_
   refine k71 _ _ ?_
   try clear k71 K71
   refine wp_block ?_
   refine wp_loop_inv (a:=⟨List.toArray ?l72,[]⟩) (fun n a w'=>∃ (k:Nat) (u72:Nat→Value),N - k=n∧a=⟨[va,vb,undef,undef,(.slice none 0 0),(.int .i64 0),(.int .i64 0),(.int .i64 0),u57,vo,undef,u67,(.slice (some ⟨b69,0,none⟩) N N),(u72 13),(u72 14),(u72 15),(u72 16),(u72 17),(.bool false),undef,(u72 20),(u72 21),(u72 22),(.bool false),undef,(u72 25),(u72 26),(u72 27),(u72 28),undef,undef,undef,undef,undef,(.bool false),(u72 35),(u72 36),va,(.int .i64 ((R:Int))),(.int .i64 ((i:Int))),(.bool (decide ((i:Int)<(R:Int)))),(u72 41),(u72 42),(u72 43),(u72 44),(u72 45),u57,(.int .i64 ((N:Int))),(.int .i64 ((k:Int))),(u72 49),(u72 50),(u72 51),(u72 52),(u72 53),(u72 54),(u72 55),(u72 56),(u72 57),(u72 58),(u72 59),(u72 60),(u72 61),(u72 62),(u72 63),(u72 64),undef].toArray,[]⟩∧k≤N∧Mk (ERat (64+S*(K+L+1))) 71 4 w' b69 (fil (fun z1=>(sm S fun j=>ma i j*mb j z1)) (0:Rat) N k)∧Gr w57 w'∧Gr w61 w'∧Gr w w') (N - 0) ?_ ?_
   ·exact ⟨0,(fun i=>List.getD ?l72 i undef),rfl,rfl,(Nat.zero_le _),(mk69.cast fil_zero),hc57,hC,hB⟩
   rintro n72 a72 w72 ⟨k,u72,rfl,rfl,hkk,mk,hc57,hC,hB⟩ K72 k72
   refine wp_seq_k (fun K73 k73=>?_)
   refine rg [0] ?_
   refine sv 49 (.bool (decide ((k:Int)<(N:Int)))) ?_
   refine sq_nil ?_
   refine k73 _ _ ?_
   try clear k73 K73
   refine wp_seq_k (fun K74 k74=>?_)
   refine wp_cond_split (t:=decide ((k:Int)<(N:Int))) rfl (fun hb75=>?_) (fun hb75=>?_)
   ·have hlk:k<N:=by have:=of_decide_eq_true hb75;omega
    refine wp_skip ?_
    refine k74 _ _ ?_
    try clear k74 K74
    refine wp_seq_k (fun K76 k76=>?_)
    refine wp_block ?_
    refine wp_seq_k (fun K77 k77=>?_)
    refine rg [0,1,2,3,4] ?_
    refine sv 50 (.int .i64 ((k:Int))) ?_
    refine sw 51 (adr u57 (k*1)) rfl (rv_idxn (e:=49) hs57 tb_len (by decide) k (by omega) _ _ _ rfl rfl rfl (by kernel_rfl) (by kernel_rfl)) ?_
    obtain ⟨_,_,⟨u78,rfl,hr78⟩,at78⟩:=Sl.get hs57 (by decide) (tb_get (f:=(fun z0=>tb (fun z1=>(mb z1 z0)) S)) (n:=N) (i:=k) (by omega))
    refine sw 52 u78 rfl (rv_ld1 u78 (at78.gr hc57) _ _ rfl rfl (by kernel_rfl)) ?_
    refine sv 13 (.int .i64 ((k:Int))) ?_
    refine sv 14 u78 ?_
    refine sq_nil ?_
    refine k77 _ _ ?_
    try clear k77 K77
    refine rg [0,1,2,3,4,5,6] ?_
    refine sv 53 (.slice (some ⟨b69,0,none⟩) N N) ?_
    refine sv 54 (.int .i64 ((k:Int))) ?_
    refine sv 55 u67 ?_
    refine sv 56 u78 ?_
    refine se ?_
    refine ec 57 (mx_dot (hr67.gr (stab_rat K) hB) (hr78.gr (stab_rat L) hc57) (by omega) (by omega)) ?_
    rintro e79 w79 ⟨⟨p79,q79,r79,s79,rfl,h79⟩,g79⟩
    refine ⟨_,rfl,?_⟩
    replace hB:=hB.trans g79
    replace hc57:=hc57.trans g79
    replace hC:=hC.trans g79
    simp only [p3,p4]
    refine sw 58 (adr (.slice (some ⟨b69,0,none⟩) N N) (k*4)) rfl (rv_idxn (e:=71) (n:=N) (mk.sl_n (n:=N) (cap:=N) (fil_len (by omega)) (Nat.le_refl _)) (fil_len (by omega)) (by decide) k (by omega) _ _ _ rfl rfl rfl (by kernel_rfl) (by kernel_rfl)) ?_
    refine se ?_
    replace mk:=mk.gr (stab_rat (64+S*(K+L+1))) g79
    refine eff_stm (stab_rat (64+S*(K+L+1))) mk k (fil_lt (by omega) (by omega)) ((sm S fun z9=>(ma i z9)*(mb z9 k))) (.agg #[p79,q79,r79,s79]) [p79,q79,r79,s79] (N) (N) 71 _ _ rfl rfl rfl rfl rfl (by kernel_rfl) rfl ⟨h79.one0,h79.one1,h79.one2,h79.one3,trivial⟩ ⟨_,_,_,_,rfl,h79.mono (by omega)⟩ (by decide) (fun w80 st80 kt80 mk80=>?_)
    replace hB:=st80.gr hB q69
    replace hc57:=st80.gr hc57 q69_hc57
    replace hC:=st80.gr hC q69_hC
    refine sq_nil ?_
    refine k76 _ _ ?_
    try clear k76 K76
    refine rg [0,1] ?_
    refine sw 59 (.int .i64 (((k:Int)+1))) rfl (RunV.int (x:=IntKind.i64.wrap (((k:Int)+1))) (y:=((k:Int)+1)) (rvk (by kernel_rfl)) (by first | rfl | (rw [IntKind.wrap_i64];omega))) ?_
    refine sv 48 (.int .i64 (((k:Int)+1))) ?_
    refine sq_nil ?_
    refine k72 (N - (k+1)) ⟨List.toArray ?l81,[]⟩ _ (by omega) ?_
    exact ⟨k+1,(fun i=>List.getD ?l81 i undef),rfl,rfl,(by omega),(mk80.cast (fil_set hlk (by first | rfl | exact fil_all))),hc57,hC,hB⟩
   ·have hek:N=k:=by have:=of_decide_eq_false hb75;omega
    subst hek
    refine wp_exit ?_
    simp only [Exit.then,Exit.inBlock,↓reduceIte]
    refine k70 _ _ ?_
    try clear k70 K70
    refine rg [0,1,2,3,4] ?_
    refine sv 60 vo ?_
    refine sv 61 (.slice (some ⟨b69,0,none⟩) N N) ?_
    refine se ?_
    refine eff_bs 49 1 #[(.slice (some ⟨b69,0,none⟩) N N)] (some 62) rfl (fun _=>by kernel_rfl) (fun b82 w82 g82 L82 q82=>?_)
    have q82_hc57:=Nat.le_trans (Below.size hc57) q82
    have q82_hC:=Nat.le_trans (Below.size hC) q82
    replace hB:=hB.trans g82
    replace hc57:=hc57.trans g82
    replace hC:=hC.trans g82
    simp only [putl,p3,p4]
    refine se ?_
    replace mk:=mk.gr (stab_rat (64+S*(K+L+1))) g82
    refine eff_apg (stab_rw (stab_rat (64+S*(K+L+1))) 71 4) _ _ 29 49 w57.heap.size (.slice none 0 0) vo (tb (fun z0=>tb (fun z1=>(sm S fun j=>ma z0 j*mb j z1)) N) i) b82 [(.slice (some ⟨b69,0,none⟩) N N)] (fil (fun z1=>(sm S fun j=>ma i j*mb j z1)) (0:Rat) N N) 1 1 (some 63) 24 rfl rfl rfl rfl (ow.gr (stab_rw (stab_rat (64+S*(K+L+1))) 71 4) hC) L82 ⟨rfl,trivial⟩ rfl ⟨_,rfl,(mk.sl_n (fil_len (by omega)) (Nat.le_refl _))⟩ (Below.size hc57) (by rw [tb_len];omega) (by decide) (by kernel_rfl) (by kernel_rfl) (by decide) (by decide) (fun v83 w83 ow83 wt83 hg83=>?_)
    replace hB:=hg83 _ hB lehc57
    replace hc57:=hg83 _ hc57 (Nat.le_refl _)
    replace ow83:=ow83.cast (tb_snoc (f:=(fun z0=>tb (fun z1=>(sm S fun j=>ma z0 j*mb j z1)) N)) (n:=i) (by first | rfl | exact fil_all))
    simp only [putl,p3,p4]
    refine sv 9 v83 ?_
    refine sq_nil ?_
    refine k65 _ _ ?_
    try clear k65 K65
    refine rg [0,1] ?_
    refine sw 64 (.int .i64 (((i:Int)+1))) rfl (RunV.int (x:=IntKind.i64.wrap (((i:Int)+1))) (y:=((i:Int)+1)) (rvk (by kernel_rfl)) (by first | rfl | (rw [IntKind.wrap_i64];omega))) ?_
    refine sv 39 (.int .i64 (((i:Int)+1))) ?_
    refine sq_nil ?_
    refine k61 (R - (i+1)) ⟨List.toArray ?l84,[]⟩ _ (by omega) ?_
    exact ⟨i+1,v83,(fun i=>List.getD ?l84 i undef),rfl,rfl,(by omega),ow83,hc57,hB⟩
  ·have hei:R=i:=by have:=of_decide_eq_false hb64;omega
   subst hei
   refine wp_exit ?_
   simp only [Exit.then,Exit.inBlock,↓reduceIte]
   refine k59 _ _ ?_
   try clear k59 K59
   refine wp_seq_k (fun K85 k85=>?_)
   refine rg [0,1,2] ?_
   refine sv 65 vo ?_
   refine sv 4 vo ?_
   refine sv 5 (.int .i64 0) ?_
   refine sq_nil ?_
   refine k85 _ _ ?_
   try clear k85 K85
   refine wp_ret ?_
   refine bodyPost_ret (v:=(.tuple #[vo,(.int .i64 0)])) (ret_tmp2 rfl rfl rfl) rfl ⟨?_,hB⟩
   exact ⟨_,rfl,((ow.gr (stab_rw (stab_rat (64+S*(K+L+1))) 71 4) hC).sl)⟩

end Go.Proofs.YtepgkcimmdmgcaaGreatDoor
namespace Go.Proofs.YtepgkcimmdmgcaaGreatDoor
/-- the determinant by elimination -/
def dtE (R:Nat) (m:Mx_):Rat:=if (redR R R ⟨m,[],1⟩).p.length<R then 0 else (redR R R ⟨m,[],1⟩).d
end Go.Proofs.YtepgkcimmdmgcaaGreatDoor
namespace Go.Proofs.YtepgkcimmdmgcaaGreatDoor
theorem step_no {R K:Nat} {s:Rd} (h:∀ i,s.p.length≤i→i<R→s.m i K=0):stepR R K s=s:=by
  have hf:fnd s.m K (R - s.p.length) s.p.length=none:=by
    cases e:fnd s.m K (R - s.p.length) s.p.length with
    | none=>rfl
    | some i=>
      obtain ⟨e1,e2,e3,_⟩:=fnd_some e
      exact absurd (h i e1 (by omega)) e3
  unfold stepR
  rw [hf]
theorem step_yes {R K i:Nat} {s:Rd} (h1:s.p.length≤i) (h2:i<R) (h3:s.m i K≠0):(stepR R K s).p=s.p++[K]:=by
  unfold stepR
  split
  · next e=>exact absurd (fnd_none e i h1 (by omega)) h3
  · rfl
/-- the equations fit exactly where the last column bears no pivot -/
theorem fit_iff {R n:Nat} {w:Mx_} (d:Rat):n ∈ (redR R (n+1) ⟨w,[],d⟩).p↔¬ ∀ i,(redR R n ⟨w,[],d⟩).p.length≤i→i<R→(redR R n ⟨w,[],d⟩).m i n=0:=by
  have hI:=red_inv R w d n
  show n ∈ (stepR R n (redR R n ⟨w,[],d⟩)).p↔_
  generalize redR R n ⟨w,[],d⟩=s at*
  constructor
  · intro hm hz
    rw [step_no hz] at hm
    obtain ⟨t,ht,e⟩:=List.mem_iff_getElem.1 hm
    have:=hI.lt t ht
    unfold pv at this
    rw [List.getD_eq_getElem?_getD,List.getElem?_eq_getElem ht,Option.getD_some,e] at this
    exact absurd this (Nat.lt_irrefl n)
  · intro hn
    obtain ⟨i,hi⟩:∃ i,¬ (s.p.length≤i→i<R→s.m i n=0):=Classical.byContradiction fun h=>hn fun i=>Classical.byContradiction fun h2=>h ⟨i,h2⟩
    have h1:s.p.length≤i:=Classical.byContradiction fun h=>hi fun a=>absurd a h
    have h2:i<R:=Classical.byContradiction fun h=>hi fun _ a=>absurd a h
    have h3:s.m i n≠0:=fun h=>hi fun _ _=>h
    rw [step_yes h1 h2 h3]
    simp
theorem red_full {R:Nat} {s:Rd} {K:Nat} (h:(redR R K s).p.length=R):∀ j,redR R (K+j) s=redR R K s
  | 0=>rfl
  | j+1=>by
    show stepR R (K+j) (redR R (K+j) s)=_
    rw [red_full h j]
    exact step_no fun i h1 h2=>absurd h1 (by omega)
end Go.Proofs.YtepgkcimmdmgcaaGreatDoor
namespace Go.Proofs.YtepgkcimmdmgcaaGreatDoor

/-- What is left of n behind its lowest i digits. -/
def tn (n:Int):Nat→Int
  | 0=>n
  | i+1=>tn n i/10
/-- Digit number i of n. -/
def td (n:Int) (i:Nat):Int:=tn n i % 10
theorem tn_zero (n:Int):tn n 0=n:=rfl
theorem tn_succ (n:Int) (i:Nat):tn n (i+1)=tn n i/10:=rfl
theorem td_nonneg (n:Int) (i:Nat):0≤td n i:=by unfold td;omega
theorem td_lt (n:Int) (i:Nat):td n i<10:=by unfold td;omega
theorem tn_split (n:Int) (i:Nat):tn n i=10*tn n (i+1)+td n i:=by unfold td;rw [tn_succ];omega
theorem tn_nonneg {n:Int} (h:0≤n):∀ i,0≤tn n i
  | 0=>h
  | i+1=>by have:=tn_nonneg h i;rw [tn_succ];omega
theorem tn_mono {a b:Int} (h:a≤b):∀ i,tn a i≤tn b i
  | 0=>h
  | i+1=>by have:=tn_mono h i;rw [tn_succ,tn_succ];omega
theorem tn_add (n:Int) (i:Nat):∀ k,tn n (i+k)=tn (tn n i) k
  | 0=>rfl
  | k+1=>by rw [← Nat.add_assoc,tn_succ,tn_add n i k,tn_succ]
theorem tn_zero_n:∀ i,tn 0 i=0
  | 0=>rfl
  | i+1=>by rw [tn_succ,tn_zero_n i];rfl
theorem tn_ge {n:Int} {i k:Nat} (h:tn n i=0) (hk:i≤k):tn n k=0:=by
  obtain ⟨j,rfl⟩:=Nat.le.dest hk
  rw [tn_add,h,tn_zero_n]
theorem td_zero_of {n:Int} {i k:Nat} (h:tn n i=0) (hk:i≤k):td n k=0:=by unfold td;rw [tn_ge h hk];rfl
/-- n has len digits,and no zeros at the end. -/
structure NX (n:Int) (len:Nat):Prop where
  nonneg:0≤n
  top:tn n len=0
  full:0<len→tn n (len - 1)≠0
theorem NX.zero:NX 0 0:=⟨Int.le_refl _,rfl,by omega⟩
theorem NX.len_zero {n:Int} {len:Nat} (h:NX n len):len=0↔n=0:=by
  constructor
  · rintro rfl;exact h.top
  · rintro rfl
    have:=h.full
    rw [tn_zero_n] at this
    omega
theorem NX.topdig {n:Int} {len:Nat} (h:NX n len) (hl:0<len):td n (len - 1)=tn n (len - 1)∧0<td n (len - 1):=by
  have h1:=h.top
  have h2:=tn_split n (len - 1)
  rw [show len - 1+1=len by omega,h1] at h2
  have h3:=h.full hl
  have h4:=tn_nonneg h.nonneg (len - 1)
  omega
/-- From digits whose highest one is not 0. -/
theorem NX.mk' {n:Int} {len:Nat} (h0:0≤n) (h1:tn n len=0) (h2:0<len→td n (len - 1)≠0):NX n len:=by
  refine ⟨h0,h1,fun hl h3=>h2 hl ?_⟩
  unfold td;rw [h3];rfl
/-- Fewer digits,if those behind are 0. -/
theorem tn_trim {n:Int} {len:Nat} (h1:tn n len=0) (k:Nat) (hk:k≤len) (hz:∀ j,k≤j→j<len→td n j=0):tn n k=0:=by
  obtain ⟨j,rfl⟩:=Nat.le.dest hk
  clear hk
  induction j with
  | zero=>exact h1
  | succ j ih=>
    refine ih ?_ (fun i h2 h3=>hz i h2 (by omega))
    have h2:=tn_split n (k+j)
    have h3:=hz (k+j) (by omega) (by omega)
    have h4:tn n (k+j+1)=0:=h1
    omega
/-- The number of digits orders. -/
theorem NX.lt_of_len {a b:Int} {la lb:Nat} (ha:NX a la) (hb:NX b lb) (h:la<lb):a<b:=by
  refine Int.lt_of_not_ge fun hge=>?_
  have h1:=tn_mono hge (lb - 1)
  have h2:=tn_ge ha.top (show la≤lb - 1 by omega)
  have h3:=hb.full (by omega)
  have h4:=tn_nonneg hb.nonneg (lb - 1)
  omega
theorem NX.len_unique {a:Int} {la lb:Nat} (ha:NX a la) (hb:NX a lb):la=lb:=by
  rcases Nat.lt_trichotomy la lb with h | h | h
  · have:=ha.lt_of_len hb h;omega
  · exact h
  · have:=hb.lt_of_len ha h;omega
theorem NX.len_le {a b:Int} {la lb:Nat} (ha:NX a la) (hb:NX b lb) (h:a≤b):la≤lb:=by
  rcases Nat.lt_or_ge lb la with h1 | h1
  · have:=hb.lt_of_len ha h1;omega
  · exact h1
theorem plus_stepx {a b c:Int} {i:Nat} (h:tn (a+b) i=tn a i+tn b i+c) (h0:0≤c) (h1:c≤1):
    td (a+b) i=(c+td a i+td b i) % 10∧tn (a+b) (i+1)=tn a (i+1)+tn b (i+1)+(c+td a i+td b i)/10∧
      0≤(c+td a i+td b i)/10∧(c+td a i+td b i)/10≤1:=by
  unfold td;simp only [tn_succ];omega
/-- a digit behind the end of b counts as 0 -/
theorem plus_step0x {a b c:Int} {i:Nat} (h:tn (a+b) i=tn a i+tn b i+c) (h0:0≤c) (h1:c≤1) (hb:tn b i=0):
    td (a+b) i=(c+td a i) % 10∧tn (a+b) (i+1)=tn a (i+1)+tn b (i+1)+(c+td a i)/10∧
      0≤(c+td a i)/10∧(c+td a i)/10≤1:=by
  unfold td;simp only [tn_succ];omega
theorem minus_stepx {a b c:Int} {i:Nat} (h:tn (a - b) i=tn a i - tn b i - c) (h0:0≤c) (h1:c≤1):
    td (a - b) i=(td a i - c - td b i) % 10∧tn (a - b) (i+1)=tn a (i+1) - tn b (i+1) - (if td a i - c - td b i<0 then 1 else 0):=by
  unfold td;simp only [tn_succ];split<;>omega
theorem minus_step0x {a b c:Int} {i:Nat} (h:tn (a - b) i=tn a i - tn b i - c) (h0:0≤c) (h1:c≤1) (hb:tn b i=0):
    td (a - b) i=(td a i - c) % 10∧tn (a - b) (i+1)=tn a (i+1) - tn b (i+1) - (if td a i - c<0 then 1 else 0):=by
  unfold td;simp only [tn_succ];split<;>omega
theorem tn_div (n x:Int) (hx:0<x):∀ i,tn (n/x) i=tn n i/x
  | 0=>rfl
  | i+1=>by
    rw [tn_succ,tn_succ,tn_div n x hx i,Int.ediv_ediv_of_nonneg (by omega),Int.ediv_ediv_of_nonneg (by omega),Int.mul_comm]
theorem short_stepx (n x:Int) (i:Nat) (hx:0<x):
    td (n/x) i=(tn n (i+1) % x*10+td n i)/x∧tn n i % x=(tn n (i+1) % x*10+td n i) % x∧
      (tn n (i+1) % x*10+td n i)/x<10∧0≤(tn n (i+1) % x*10+td n i)/x:=by
  have hs:=tn_split n i
  have hd0:=td_nonneg n i
  have hd:=td_lt n i
  have h1:=Int.emod_add_mul_ediv (tn n (i+1)) x
  have h2:=Int.emod_nonneg (tn n (i+1)) (show x≠0 by omega)
  have h3:=Int.emod_lt_of_pos (tn n (i+1)) hx
  have e:tn n i=(tn n (i+1) % x*10+td n i)+x*(10*(tn n (i+1)/x)):=by rw [hs];grind
  have e1:tn (n/x) i=(tn n (i+1) % x*10+td n i)/x+10*(tn n (i+1)/x):=by
    rw [tn_div n x hx,e,Int.add_mul_ediv_left _ _ (show x≠0 by omega)]
  have h4:(tn n (i+1) % x*10+td n i)/x<10:=by
    apply Int.ediv_lt_of_lt_mul hx
    omega
  have h5:0≤(tn n (i+1) % x*10+td n i)/x:=Int.ediv_nonneg (by omega) (by omega)
  refine ⟨?_,?_,h4,h5⟩
  · have hdd:td (n/x) i=tn (n/x) i % 10:=rfl
    rw [hdd,e1]
    omega
  · rw [e,Int.add_mul_emod_self_left]
theorem tn_addmul (r m:Int):∀ i,tn (r+m*10 ^ i) i=tn r i+m
  | 0=>by simp [tn_zero]
  | i+1=>by
    have e:r+m*10 ^ (i+1)=r+(m*10)*10 ^ i:=by rw [Int.pow_succ];grind
    rw [e,tn_succ,tn_addmul r (m*10) i,tn_succ]
    omega
theorem td_addmul (r m:Int) {i j:Nat} (hj:j<i):td (r+m*10 ^ i) j=td r j:=by
  obtain ⟨k,rfl⟩:=Nat.le.dest hj
  have e:r+m*10 ^ (j+1+k)=r+(m*10 ^ k*10)*10 ^ j:=by
    rw [Int.pow_add,Int.pow_add];grind
  unfold td
  rw [e,tn_addmul]
  omega
/-- what the lowest i digits of a make,times b -/
def tlow (a:Int) (i:Nat):Int:=a - tn a i*10 ^ i
theorem tlow_zero (a:Int):tlow a 0=0:=by simp [tlow,tn_zero]
theorem tlow_succ (a:Int) (i:Nat):tlow a (i+1)=tlow a i+td a i*10 ^ i:=by
  have:=tn_split a i
  unfold tlow
  rw [Int.pow_succ]
  grind
theorem tlow_top {a:Int} {len:Nat} (h:tn a len=0):tlow a len=a:=by simp [tlow,h]
/-- The inner round of the product:r is the product till now,x the digit,b the other number. -/
theorem mul_stepx {r x b c:Int} {i k:Nat} (h:tn (r+x*b*10 ^ i) (i+k)=tn r (i+k)+x*tn b k+c) (h0:0≤c) (h1:c<10)
    (hx0:0≤x) (hx:x<10):
    td (r+x*b*10 ^ i) (i+k)=(c+(x*td b k+td r (i+k))) % 10∧
      tn (r+x*b*10 ^ i) (i+(k+1))=tn r (i+(k+1))+x*tn b (k+1)+(c+(x*td b k+td r (i+k)))/10∧
      0≤(c+(x*td b k+td r (i+k)))/10∧(c+(x*td b k+td r (i+k)))/10<10∧0≤x*td b k∧x*td b k≤81:=by
  have hs:=tn_split b k
  have hd0:=td_nonneg b k
  have hd:=td_lt b k
  have hr:=tn_split r (i+k)
  have hr0:=td_nonneg r (i+k)
  have hr1:=td_lt r (i+k)
  have e:x*tn b k=10*(x*tn b (k+1))+x*td b k:=by rw [hs];grind
  have hp0:0≤x*td b k:=Int.mul_nonneg hx0 hd0
  have hp:x*td b k≤9*9:=Int.mul_le_mul (by omega) (by omega) hd0 (by omega)
  have hdd:td (r+x*b*10 ^ i) (i+k)=tn (r+x*b*10 ^ i) (i+k) % 10:=rfl
  rw [hdd,← Nat.add_assoc,tn_succ,h,e]
  generalize x*td b k=u at*
  generalize x*tn b (k+1)=v at*
  omega
end Go.Proofs.YtepgkcimmdmgcaaGreatDoor
