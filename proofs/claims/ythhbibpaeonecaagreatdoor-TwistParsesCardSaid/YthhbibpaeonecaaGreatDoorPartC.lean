/- Joined of: Gen4, Txt, Gen12, Nbr, R2a, R2b, R2c, R2d, R2e, Scale, Pa1, Pa2, Rd1, Rd2, Gen32, Rat2, Gen34, Rd3, Rda, Gen36, Ok2. -/
import Derived.Test.YthhbibpaeonecaaGreatDoorPartB
import Derived.Test.YthhbibpaeonecaaGreatDoorPartA
import Derived.Lib.SmallJoins
import Derived.Laws.RangeString
import Derived.Shelf.Strings.SlTrimAscii
namespace Go.Proofs.YthhbibpaeonecaaGreatDoor
open Go.RowKit

set_option maxRecDepth 100000 in
set_option maxHeartbeats 1000000 in
theorem add_tt {k m:Nat} {u0 u1 u2 u3 v0 v1 v2 v3:Value} {a b:Rat} {w:World} (ha:IsRat w k u0 u1 u2 u3 a) (hb:IsRat w m v0 v1 v2 v3 b) (_hk:k+m≤100000) (wa:a.den=1) (wb:b.den=1):
    Calls Tryz.prog 46 #[(.agg #[u0,u1,u2,u3]),(.agg #[v0,v1,v2,v3])] w fun e w'=>(∃ c0 c1 c2 c3,e=.returned (.agg #[c0,c1,c2,c3])∧IsRat w' (k+m+1) c0 c1 c2 c3 (a+b))∧Gr w w':=by
 have hka:=ha.big
 have hkb:=hb.big
 go_enter Tryz.func46,Tryz.ntmps46
 have hB:=Gr.refl w
 refine wp_seq_k (fun K1 k1=>?_)
 refine rg [0,1,2] ?_
 refine se ?_
 refine eb 33 #[u0,u1,u2,u3] 2 hB fun b2 w2 g2 L2 o2 q2 hB=>?_
 simp only [p3,p4]
 refine se ?_
 refine eb 33 #[v0,v1,v2,v3] 3 hB fun b3 w3 g3 L3 o3 q3 hB=>?_
 simp only [p3,p4]
 refine se ?_
 refine ea 33 #[(.bool false),(.slice none 0 0),(.bool false),(.slice none 0 0)] 4 hB fun b4 w4 g4 L4 o4 q4 hB=>?_
 replace L2:=L2.gr g3
 simp only [p3,p4]
 refine sq_nil ?_
 refine k1 _ _ ?_
 try clear k1 K1
 refine wp_seq_k (fun K5 k5=>?_)
 refine wp_seq_k (fun K6 k6=>?_)
 refine rg [0,1,2,3,4,5] ?_
 replace L2:=L2.gr g4
 refine sw 5 (.agg #[u0,u1,u2,u3]) rfl (rl 33 0 [u0,u1,u2,u3] L2) ?_
 refine se ?_
 have kq8:=g2.kp.trans (g3.kp.trans g4.kp)
 replace ha:=ha.kp kq8
 refine ec 6 (whole_t ha (by omega) wa) ?_
 rintro e7 w7 ⟨rfl,g7⟩
 refine ⟨_,rfl,?_⟩
 replace hB:=hB.trans g7
 simp only [p3,p4]
 refine sv 7 (.bool true) ?_
 replace L3:=L3.gr (g4.trans g7)
 refine sw 8 (.agg #[v0,v1,v2,v3]) rfl (rl 33 0 [v0,v1,v2,v3] L3) ?_
 refine se ?_
 have kq10:=g2.kp.trans (g3.kp.trans (g4.kp.trans g7.kp))
 replace hb:=hb.kp kq10
 refine ec 9 (whole_t hb (by omega) wb) ?_
 rintro e9 w9 ⟨rfl,g9⟩
 refine ⟨_,rfl,?_⟩
 replace hB:=hB.trans g9
 simp only [p3,p4]
 refine sv 10 (.bool true) ?_
 refine sq_nil ?_
 refine k6 _ _ ?_
 try clear k6 K6
 refine wp_cond_true rfl ?_
 refine wp_seq_k (fun K11 k11=>?_)
 refine rg [0,1,2,3,4,5,6] ?_
 refine sv 11 (.pointer (some ⟨b2,0,none⟩)) ?_
 replace L2:=L2.gr (g7.trans g9)
 refine sw 12 (.agg #[u0,u1]) rfl (rl 31 0 [u0,u1] L2) ?_
 refine sv 13 (.pointer (some ⟨b3,0,none⟩)) ?_
 replace L3:=L3.gr g9
 refine sw 14 (.agg #[v0,v1]) rfl (rl 31 0 [v0,v1] L3) ?_
 refine se ?_
 have kq13:=g7.kp.trans g9.kp
 replace ha:=ha.kp kq13
 replace hb:=hb.kp g9.kp
 refine ec 15 (add_e (k+m) ha.num hb.num (by omega) (by omega) (by omega)) ?_
 rintro e12 w12 ⟨⟨x12,y12,rfl,h12⟩,g12⟩
 refine ⟨_,rfl,?_⟩
 replace hB:=hB.trans g12
 simp only [p3,p4]
 refine sv 16 (.agg #[x12,y12,(.bool false),(.slice none 0 0)]) ?_
 refine se ?_
 replace L4:=L4.gr (g7.trans (g9.trans g12))
 refine es 33 0 (.agg #[x12,y12,(.bool false),(.slice none 0 0)]) [x12,y12,(.bool false),(.slice none 0 0)] #[x12,y12,(.bool false),(.slice none 0 0)] L4 hB q4 ⟨h12.one0,h12.one1,rfl,rfl,trivial⟩ fun w14 st14 kp14 L4 hB=>?_
 refine sq_nil ?_
 refine k11 _ _ ?_
 try clear k11 K11
 refine wp_ret ?_
 simp only [Exit.then]
 refine bodyPost_ret (v:=(.agg #[x12,y12,(.bool false),(.slice none 0 0)])) (ret_cell _ _ _ rfl rfl L4 (by kernel_rfl)) rfl ⟨?_,hB⟩
 replace h12:=h12.kp kp14
 exact ⟨_,_,_,_,rfl,by rw [← rat_int wa,← rat_int wb,← Rat.intCast_add];exact IsRat.int h12 (by omega)⟩

set_option maxRecDepth 100000 in
set_option maxHeartbeats 1000000 in
theorem add_tf {k m:Nat} {u0 u1 u2 u3 v0 v1 v2 v3:Value} {a b:Rat} {w:World} (ha:IsRat w k u0 u1 u2 u3 a) (hb:IsRat w m v0 v1 v2 v3 b) (_hk:k+m≤100000) (wa:a.den=1) (wb:b.den≠1):
    Calls Tryz.prog 46 #[(.agg #[u0,u1,u2,u3]),(.agg #[v0,v1,v2,v3])] w fun e w'=>(∃ c0 c1 c2 c3,e=.returned (.agg #[c0,c1,c2,c3])∧IsRat w' (k+m+1) c0 c1 c2 c3 (a+b))∧Gr w w':=by
 have hka:=ha.big
 have hkb:=hb.big
 go_enter Tryz.func46,Tryz.ntmps46
 have hB:=Gr.refl w
 refine wp_seq_k (fun K1 k1=>?_)
 refine rg [0,1,2] ?_
 refine se ?_
 refine eb 33 #[u0,u1,u2,u3] 2 hB fun b2 w2 g2 L2 o2 q2 hB=>?_
 simp only [p3,p4]
 refine se ?_
 refine eb 33 #[v0,v1,v2,v3] 3 hB fun b3 w3 g3 L3 o3 q3 hB=>?_
 simp only [p3,p4]
 refine se ?_
 refine ea 33 #[(.bool false),(.slice none 0 0),(.bool false),(.slice none 0 0)] 4 hB fun b4 w4 g4 L4 o4 q4 hB=>?_
 replace L2:=L2.gr g3
 have ne2_4:=L2.ne o4
 have ne3_4:=L3.ne o4
 simp only [p3,p4]
 refine sq_nil ?_
 refine k1 _ _ ?_
 try clear k1 K1
 refine wp_seq_k (fun K5 k5=>?_)
 refine wp_seq_k (fun K6 k6=>?_)
 refine rg [0,1,2,3,4,5] ?_
 replace L2:=L2.gr g4
 refine sw 5 (.agg #[u0,u1,u2,u3]) rfl (rl 33 0 [u0,u1,u2,u3] L2) ?_
 refine se ?_
 have kq8:=g2.kp.trans (g3.kp.trans g4.kp)
 replace ha:=ha.kp kq8
 refine ec 6 (whole_t ha (by omega) wa) ?_
 rintro e7 w7 ⟨rfl,g7⟩
 refine ⟨_,rfl,?_⟩
 replace hB:=hB.trans g7
 simp only [p3,p4]
 refine sv 7 (.bool true) ?_
 replace L3:=L3.gr (g4.trans g7)
 refine sw 8 (.agg #[v0,v1,v2,v3]) rfl (rl 33 0 [v0,v1,v2,v3] L3) ?_
 refine se ?_
 have kq10:=g2.kp.trans (g3.kp.trans (g4.kp.trans g7.kp))
 replace hb:=hb.kp kq10
 refine ec 9 (whole_f hb (by omega) wb) ?_
 rintro e9 w9 ⟨rfl,g9⟩
 refine ⟨_,rfl,?_⟩
 replace hB:=hB.trans g9
 simp only [p3,p4]
 refine sv 10 (.bool false) ?_
 refine sq_nil ?_
 refine k6 _ _ ?_
 try clear k6 K6
 refine wp_cond_false rfl ?_
 refine wp_skip ?_
 refine k5 _ _ ?_
 try clear k5 K5
 refine wp_seq_k (fun K11 k11=>?_)
 have gd40:=Gr.drew w9
 replace hB:=hB.trans gd40
 replace L2:=L2.gr (g7.trans (g9.trans gd40))
 replace L3:=L3.gr (g9.trans gd40)
 refine wp_region_ord (fun w'=>Lc w' b2 #[u0,u1,u2,u3] 33∧Lc w' b3 #[v0,v1,v2,v3] 33) [(true,0),(true,1),(true,2),(true,5),(true,6),(true,7),(true,11),(true,13),(false,3),(false,4),(false,8),(false,9),(false,10),(false,12),(false,14),(false,15),(false,16),(false,17)] (by kernel_rfl) (by kernel_rfl) (by kernel_rfl) (by decide) (fun _ _ _ _ _ h=>h) ⟨L2,L3⟩ ?_
 refine ov 17 (.pointer (some ⟨b2,0,none⟩)) ?_
 refine ow 18 (.agg #[u0,u1]) rfl (fun w' hS=>(rl 31 0 [u0,u1] hS.1)) ?_
 refine ow 19 (.agg #[v0,v1,v2,v3]) rfl (fun w' hS=>(rl 33 0 [v0,v1,v2,v3] hS.2)) ?_
 refine ov 22 (.pointer (some ⟨b3,0,none⟩)) ?_
 refine ow 23 (.agg #[v0,v1]) rfl (fun w' hS=>(rl 31 0 [v0,v1] hS.2)) ?_
 refine ow 24 (.agg #[u0,u1,u2,u3]) rfl (fun w' hS=>(rl 33 0 [u0,u1,u2,u3] hS.1)) ?_
 refine ow 28 (.agg #[u0,u1,u2,u3]) rfl (fun w' hS=>(rl 33 0 [u0,u1,u2,u3] hS.1)) ?_
 refine ow 30 (.agg #[v0,v1,v2,v3]) rfl (fun w' hS=>(rl 33 0 [v0,v1,v2,v3] hS.2)) ?_
 refine oe ?_
 have kq43:=g9.kp.trans gd40.kp
 replace hb:=hb.kp kq43
 refine ec 20 (den_i hb) ?_
 rintro e42 w42 ⟨⟨x42,y42,rfl,h42⟩,g42⟩
 refine ⟨_,rfl,?_⟩
 replace hB:=hB.trans g42
 replace L2:=L2.gr g42
 replace L3:=L3.gr g42
 refine ⟨⟨L2,L3⟩,?_⟩
 simp only [p3,p4]
 refine oe ?_
 have kq46:=g7.kp.trans (g9.kp.trans (gd40.kp.trans g42.kp))
 replace ha:=ha.kp kq46
 refine ec 21 (mul_i ha.num h42 (by omega)) ?_
 rintro e45 w45 ⟨⟨x45,y45,rfl,h45⟩,g45⟩
 refine ⟨_,rfl,?_⟩
 replace hB:=hB.trans g45
 replace L2:=L2.gr g45
 replace L3:=L3.gr g45
 refine ⟨⟨L2,L3⟩,?_⟩
 simp only [p3,p4]
 refine oe ?_
 replace ha:=ha.kp g45.kp
 refine ec 25 (den_i ha) ?_
 rintro e48 w48 ⟨⟨x48,y48,rfl,h48⟩,g48⟩
 refine ⟨_,rfl,?_⟩
 replace hB:=hB.trans g48
 replace L2:=L2.gr g48
 replace L3:=L3.gr g48
 refine ⟨⟨L2,L3⟩,?_⟩
 simp only [p3,p4]
 refine oe ?_
 have kq51:=g42.kp.trans (g45.kp.trans g48.kp)
 replace hb:=hb.kp kq51
 refine ec 26 (mul_i hb.num h48 (by omega)) ?_
 rintro e50 w50 ⟨⟨x50,y50,rfl,h50⟩,g50⟩
 refine ⟨_,rfl,?_⟩
 replace hB:=hB.trans g50
 replace L2:=L2.gr g50
 replace L3:=L3.gr g50
 refine ⟨⟨L2,L3⟩,?_⟩
 simp only [p3,p4]
 refine oe ?_
 have kq54:=g48.kp.trans g50.kp
 replace h45:=h45.kp kq54
 refine ec 27 (add_e (k+m) h45 h50 (by omega) (by omega) (by omega)) ?_
 rintro e53 w53 ⟨⟨x53,y53,rfl,h53⟩,g53⟩
 refine ⟨_,rfl,?_⟩
 replace hB:=hB.trans g53
 replace L2:=L2.gr g53
 replace L3:=L3.gr g53
 refine ⟨⟨L2,L3⟩,?_⟩
 simp only [p3,p4]
 refine oe ?_
 have kq57:=g48.kp.trans (g50.kp.trans g53.kp)
 replace ha:=ha.kp kq57
 refine ec 29 (den_i ha) ?_
 rintro e56 w56 ⟨⟨x56,y56,rfl,h56⟩,g56⟩
 refine ⟨_,rfl,?_⟩
 replace hB:=hB.trans g56
 replace L2:=L2.gr g56
 replace L3:=L3.gr g56
 refine ⟨⟨L2,L3⟩,?_⟩
 simp only [p3,p4]
 refine oe ?_
 have kq60:=g50.kp.trans (g53.kp.trans g56.kp)
 replace hb:=hb.kp kq60
 refine ec 31 (den_i hb) ?_
 rintro e59 w59 ⟨⟨x59,y59,rfl,h59⟩,g59⟩
 refine ⟨_,rfl,?_⟩
 replace hB:=hB.trans g59
 replace L2:=L2.gr g59
 replace L3:=L3.gr g59
 refine ⟨⟨L2,L3⟩,?_⟩
 simp only [p3,p4]
 refine oe ?_
 replace h56:=h56.kp g59.kp
 refine ec 32 (mul_i h56 h59 (by omega)) ?_
 rintro e62 w62 ⟨⟨x62,y62,rfl,h62⟩,g62⟩
 refine ⟨_,rfl,?_⟩
 replace hB:=hB.trans g62
 replace L2:=L2.gr g62
 replace L3:=L3.gr g62
 refine ⟨⟨L2,L3⟩,?_⟩
 simp only [p3,p4]
 refine oe ?_
 have kq65:=g56.kp.trans (g59.kp.trans g62.kp)
 replace h53:=h53.kp kq65
 refine ec 33 (reduced_i ((k+m+1)) h53 h62 (Int.mul_pos (Int.natCast_pos.2 a.den_pos) (Int.natCast_pos.2 b.den_pos)) (by omega) (by omega) (by omega) (by omega)) ?_
 rintro e64 w64 ⟨⟨p64,q64,r64,s64,rfl,h64⟩,g64⟩
 refine ⟨_,rfl,?_⟩
 replace hB:=hB.trans g64
 replace L2:=L2.gr g64
 replace L3:=L3.gr g64
 refine ⟨⟨L2,L3⟩,?_⟩
 simp only [p3,p4]
 refine oe ?_
 replace L4:=L4.gr (g7.trans (g9.trans (gd40.trans (g42.trans (g45.trans (g48.trans (g50.trans (g53.trans (g56.trans (g59.trans (g62.trans g64)))))))))))
 refine es 33 0 (.agg #[p64,q64,r64,s64]) [p64,q64,r64,s64] #[p64,q64,r64,s64] L4 hB q4 ⟨h64.one0,h64.one1,h64.one2,h64.one3,trivial⟩ fun w67 st67 kp67 L4 hB=>?_
 replace L2:=st67.lc L2 ne2_4
 replace L3:=st67.lc L3 ne3_4
 refine ⟨⟨L2,L3⟩,?_⟩
 refine ord_nil ?_
 refine k11 _ _ ?_
 try clear k11 K11
 refine wp_ret ?_
 refine bodyPost_ret (v:=(.agg #[p64,q64,r64,s64])) (ret_cell _ _ _ rfl rfl L4 (by kernel_rfl)) rfl ⟨?_,hB⟩
 replace h64:=h64.kp kp67
 exact ⟨_,_,_,_,rfl,by rw [← rat_add];exact h64⟩

set_option maxRecDepth 100000 in
set_option maxHeartbeats 1000000 in
theorem add_f {k m:Nat} {u0 u1 u2 u3 v0 v1 v2 v3:Value} {a b:Rat} {w:World} (ha:IsRat w k u0 u1 u2 u3 a) (hb:IsRat w m v0 v1 v2 v3 b) (_hk:k+m≤100000) (wa:a.den≠1):
    Calls Tryz.prog 46 #[(.agg #[u0,u1,u2,u3]),(.agg #[v0,v1,v2,v3])] w fun e w'=>(∃ c0 c1 c2 c3,e=.returned (.agg #[c0,c1,c2,c3])∧IsRat w' (k+m+1) c0 c1 c2 c3 (a+b))∧Gr w w':=by
 have hka:=ha.big
 have hkb:=hb.big
 go_enter Tryz.func46,Tryz.ntmps46
 have hB:=Gr.refl w
 refine wp_seq_k (fun K1 k1=>?_)
 refine rg [0,1,2] ?_
 refine se ?_
 refine eb 33 #[u0,u1,u2,u3] 2 hB fun b2 w2 g2 L2 o2 q2 hB=>?_
 simp only [p3,p4]
 refine se ?_
 refine eb 33 #[v0,v1,v2,v3] 3 hB fun b3 w3 g3 L3 o3 q3 hB=>?_
 simp only [p3,p4]
 refine se ?_
 refine ea 33 #[(.bool false),(.slice none 0 0),(.bool false),(.slice none 0 0)] 4 hB fun b4 w4 g4 L4 o4 q4 hB=>?_
 replace L2:=L2.gr g3
 have ne2_4:=L2.ne o4
 have ne3_4:=L3.ne o4
 simp only [p3,p4]
 refine sq_nil ?_
 refine k1 _ _ ?_
 try clear k1 K1
 refine wp_seq_k (fun K5 k5=>?_)
 refine wp_seq_k (fun K6 k6=>?_)
 refine rg [0,1,2,3,4,5] ?_
 replace L2:=L2.gr g4
 refine sw 5 (.agg #[u0,u1,u2,u3]) rfl (rl 33 0 [u0,u1,u2,u3] L2) ?_
 refine se ?_
 have kq8:=g2.kp.trans (g3.kp.trans g4.kp)
 replace ha:=ha.kp kq8
 refine ec 6 (whole_f ha (by omega) wa) ?_
 rintro e7 w7 ⟨rfl,g7⟩
 refine ⟨_,rfl,?_⟩
 replace hB:=hB.trans g7
 simp only [p3,p4]
 refine sv 7 (.bool false) ?_
 refine ss 8 ?_
 refine ss 9 ?_
 refine sv 10 (.bool false) ?_
 refine sq_nil ?_
 refine k6 _ _ ?_
 try clear k6 K6
 refine wp_cond_false rfl ?_
 refine wp_skip ?_
 refine k5 _ _ ?_
 try clear k5 K5
 refine wp_seq_k (fun K9 k9=>?_)
 have gd38:=Gr.drew w7
 replace hB:=hB.trans gd38
 replace L2:=L2.gr (g7.trans gd38)
 replace L3:=L3.gr (g4.trans (g7.trans gd38))
 refine wp_region_ord (fun w'=>Lc w' b2 #[u0,u1,u2,u3] 33∧Lc w' b3 #[v0,v1,v2,v3] 33) [(true,0),(true,1),(true,2),(true,5),(true,6),(true,7),(true,11),(true,13),(false,3),(false,4),(false,8),(false,9),(false,10),(false,12),(false,14),(false,15),(false,16),(false,17)] (by kernel_rfl) (by kernel_rfl) (by kernel_rfl) (by decide) (fun _ _ _ _ _ h=>h) ⟨L2,L3⟩ ?_
 refine ov 17 (.pointer (some ⟨b2,0,none⟩)) ?_
 refine ow 18 (.agg #[u0,u1]) rfl (fun w' hS=>(rl 31 0 [u0,u1] hS.1)) ?_
 refine ow 19 (.agg #[v0,v1,v2,v3]) rfl (fun w' hS=>(rl 33 0 [v0,v1,v2,v3] hS.2)) ?_
 refine ov 22 (.pointer (some ⟨b3,0,none⟩)) ?_
 refine ow 23 (.agg #[v0,v1]) rfl (fun w' hS=>(rl 31 0 [v0,v1] hS.2)) ?_
 refine ow 24 (.agg #[u0,u1,u2,u3]) rfl (fun w' hS=>(rl 33 0 [u0,u1,u2,u3] hS.1)) ?_
 refine ow 28 (.agg #[u0,u1,u2,u3]) rfl (fun w' hS=>(rl 33 0 [u0,u1,u2,u3] hS.1)) ?_
 refine ow 30 (.agg #[v0,v1,v2,v3]) rfl (fun w' hS=>(rl 33 0 [v0,v1,v2,v3] hS.2)) ?_
 refine oe ?_
 have kq41:=g2.kp.trans (g3.kp.trans (g4.kp.trans (g7.kp.trans gd38.kp)))
 replace hb:=hb.kp kq41
 refine ec 20 (den_i hb) ?_
 rintro e40 w40 ⟨⟨x40,y40,rfl,h40⟩,g40⟩
 refine ⟨_,rfl,?_⟩
 replace hB:=hB.trans g40
 replace L2:=L2.gr g40
 replace L3:=L3.gr g40
 refine ⟨⟨L2,L3⟩,?_⟩
 simp only [p3,p4]
 refine oe ?_
 have kq44:=g7.kp.trans (gd38.kp.trans g40.kp)
 replace ha:=ha.kp kq44
 refine ec 21 (mul_i ha.num h40 (by omega)) ?_
 rintro e43 w43 ⟨⟨x43,y43,rfl,h43⟩,g43⟩
 refine ⟨_,rfl,?_⟩
 replace hB:=hB.trans g43
 replace L2:=L2.gr g43
 replace L3:=L3.gr g43
 refine ⟨⟨L2,L3⟩,?_⟩
 simp only [p3,p4]
 refine oe ?_
 replace ha:=ha.kp g43.kp
 refine ec 25 (den_i ha) ?_
 rintro e46 w46 ⟨⟨x46,y46,rfl,h46⟩,g46⟩
 refine ⟨_,rfl,?_⟩
 replace hB:=hB.trans g46
 replace L2:=L2.gr g46
 replace L3:=L3.gr g46
 refine ⟨⟨L2,L3⟩,?_⟩
 simp only [p3,p4]
 refine oe ?_
 have kq49:=g40.kp.trans (g43.kp.trans g46.kp)
 replace hb:=hb.kp kq49
 refine ec 26 (mul_i hb.num h46 (by omega)) ?_
 rintro e48 w48 ⟨⟨x48,y48,rfl,h48⟩,g48⟩
 refine ⟨_,rfl,?_⟩
 replace hB:=hB.trans g48
 replace L2:=L2.gr g48
 replace L3:=L3.gr g48
 refine ⟨⟨L2,L3⟩,?_⟩
 simp only [p3,p4]
 refine oe ?_
 have kq52:=g46.kp.trans g48.kp
 replace h43:=h43.kp kq52
 refine ec 27 (add_e (k+m) h43 h48 (by omega) (by omega) (by omega)) ?_
 rintro e51 w51 ⟨⟨x51,y51,rfl,h51⟩,g51⟩
 refine ⟨_,rfl,?_⟩
 replace hB:=hB.trans g51
 replace L2:=L2.gr g51
 replace L3:=L3.gr g51
 refine ⟨⟨L2,L3⟩,?_⟩
 simp only [p3,p4]
 refine oe ?_
 have kq55:=g46.kp.trans (g48.kp.trans g51.kp)
 replace ha:=ha.kp kq55
 refine ec 29 (den_i ha) ?_
 rintro e54 w54 ⟨⟨x54,y54,rfl,h54⟩,g54⟩
 refine ⟨_,rfl,?_⟩
 replace hB:=hB.trans g54
 replace L2:=L2.gr g54
 replace L3:=L3.gr g54
 refine ⟨⟨L2,L3⟩,?_⟩
 simp only [p3,p4]
 refine oe ?_
 have kq58:=g48.kp.trans (g51.kp.trans g54.kp)
 replace hb:=hb.kp kq58
 refine ec 31 (den_i hb) ?_
 rintro e57 w57 ⟨⟨x57,y57,rfl,h57⟩,g57⟩
 refine ⟨_,rfl,?_⟩
 replace hB:=hB.trans g57
 replace L2:=L2.gr g57
 replace L3:=L3.gr g57
 refine ⟨⟨L2,L3⟩,?_⟩
 simp only [p3,p4]
 refine oe ?_
 replace h54:=h54.kp g57.kp
 refine ec 32 (mul_i h54 h57 (by omega)) ?_
 rintro e60 w60 ⟨⟨x60,y60,rfl,h60⟩,g60⟩
 refine ⟨_,rfl,?_⟩
 replace hB:=hB.trans g60
 replace L2:=L2.gr g60
 replace L3:=L3.gr g60
 refine ⟨⟨L2,L3⟩,?_⟩
 simp only [p3,p4]
 refine oe ?_
 have kq63:=g54.kp.trans (g57.kp.trans g60.kp)
 replace h51:=h51.kp kq63
 refine ec 33 (reduced_i ((k+m+1)) h51 h60 (Int.mul_pos (Int.natCast_pos.2 a.den_pos) (Int.natCast_pos.2 b.den_pos)) (by omega) (by omega) (by omega) (by omega)) ?_
 rintro e62 w62 ⟨⟨p62,q62,r62,s62,rfl,h62⟩,g62⟩
 refine ⟨_,rfl,?_⟩
 replace hB:=hB.trans g62
 replace L2:=L2.gr g62
 replace L3:=L3.gr g62
 refine ⟨⟨L2,L3⟩,?_⟩
 simp only [p3,p4]
 refine oe ?_
 replace L4:=L4.gr (g7.trans (gd38.trans (g40.trans (g43.trans (g46.trans (g48.trans (g51.trans (g54.trans (g57.trans (g60.trans g62))))))))))
 refine es 33 0 (.agg #[p62,q62,r62,s62]) [p62,q62,r62,s62] #[p62,q62,r62,s62] L4 hB q4 ⟨h62.one0,h62.one1,h62.one2,h62.one3,trivial⟩ fun w65 st65 kp65 L4 hB=>?_
 replace L2:=st65.lc L2 ne2_4
 replace L3:=st65.lc L3 ne3_4
 refine ⟨⟨L2,L3⟩,?_⟩
 refine ord_nil ?_
 refine k9 _ _ ?_
 try clear k9 K9
 refine wp_ret ?_
 refine bodyPost_ret (v:=(.agg #[p62,q62,r62,s62])) (ret_cell _ _ _ rfl rfl L4 (by kernel_rfl)) rfl ⟨?_,hB⟩
 replace h62:=h62.kp kp65
 exact ⟨_,_,_,_,rfl,by rw [← rat_add];exact h62⟩

theorem add_r {k m:Nat} {u0 u1 u2 u3 v0 v1 v2 v3:Value} {a b:Rat} {w:World} (ha:IsRat w k u0 u1 u2 u3 a) (hb:IsRat w m v0 v1 v2 v3 b) (hk:k+m≤100000):
    Calls Tryz.prog 46 #[.agg #[u0,u1,u2,u3],.agg #[v0,v1,v2,v3]] w fun e w'=>(∃ c0 c1 c2 c3,e=.returned (.agg #[c0,c1,c2,c3])∧IsRat w' (k+m+1) c0 c1 c2 c3 (a+b))∧Gr w w':=by
  by_cases wa:a.den=1
  · by_cases wb:b.den=1
    · exact add_tt ha hb hk wa wb
    · exact add_tf ha hb hk wa wb
  · exact add_f ha hb hk wa

set_option maxRecDepth 100000 in
set_option maxHeartbeats 1000000 in
theorem mul_tt {k m:Nat} {u0 u1 u2 u3 v0 v1 v2 v3:Value} {a b:Rat} {w:World} (ha:IsRat w k u0 u1 u2 u3 a) (hb:IsRat w m v0 v1 v2 v3 b) (_hk:k+m≤100000) (wa:a.den=1) (wb:b.den=1):
    Calls Tryz.prog 53 #[(.agg #[u0,u1,u2,u3]),(.agg #[v0,v1,v2,v3])] w fun e w'=>(∃ c0 c1 c2 c3,e=.returned (.agg #[c0,c1,c2,c3])∧IsRat w' (k+m) c0 c1 c2 c3 (a*b))∧Gr w w':=by
 have hka:=ha.big
 have hkb:=hb.big
 go_enter Tryz.func53,Tryz.ntmps53
 have hB:=Gr.refl w
 refine wp_seq_k (fun K1 k1=>?_)
 refine rg [0,1,2] ?_
 refine se ?_
 refine eb 33 #[u0,u1,u2,u3] 2 hB fun b2 w2 g2 L2 o2 q2 hB=>?_
 simp only [p3,p4]
 refine se ?_
 refine eb 33 #[v0,v1,v2,v3] 3 hB fun b3 w3 g3 L3 o3 q3 hB=>?_
 simp only [p3,p4]
 refine se ?_
 refine ea 33 #[(.bool false),(.slice none 0 0),(.bool false),(.slice none 0 0)] 4 hB fun b4 w4 g4 L4 o4 q4 hB=>?_
 replace L2:=L2.gr g3
 simp only [p3,p4]
 refine sq_nil ?_
 refine k1 _ _ ?_
 try clear k1 K1
 refine wp_seq_k (fun K5 k5=>?_)
 refine wp_seq_k (fun K6 k6=>?_)
 refine rg [0,1,2,3,4,5] ?_
 replace L2:=L2.gr g4
 refine sw 5 (.agg #[u0,u1,u2,u3]) rfl (rl 33 0 [u0,u1,u2,u3] L2) ?_
 refine se ?_
 have kq8:=g2.kp.trans (g3.kp.trans g4.kp)
 replace ha:=ha.kp kq8
 refine ec 6 (whole_t ha (by omega) wa) ?_
 rintro e7 w7 ⟨rfl,g7⟩
 refine ⟨_,rfl,?_⟩
 replace hB:=hB.trans g7
 simp only [p3,p4]
 refine sv 7 (.bool true) ?_
 replace L3:=L3.gr (g4.trans g7)
 refine sw 8 (.agg #[v0,v1,v2,v3]) rfl (rl 33 0 [v0,v1,v2,v3] L3) ?_
 refine se ?_
 have kq10:=g2.kp.trans (g3.kp.trans (g4.kp.trans g7.kp))
 replace hb:=hb.kp kq10
 refine ec 9 (whole_t hb (by omega) wb) ?_
 rintro e9 w9 ⟨rfl,g9⟩
 refine ⟨_,rfl,?_⟩
 replace hB:=hB.trans g9
 simp only [p3,p4]
 refine sv 10 (.bool true) ?_
 refine sq_nil ?_
 refine k6 _ _ ?_
 try clear k6 K6
 refine wp_cond_true rfl ?_
 refine wp_seq_k (fun K11 k11=>?_)
 refine rg [0,1,2,3,4,5,6] ?_
 refine sv 11 (.pointer (some ⟨b2,0,none⟩)) ?_
 replace L2:=L2.gr (g7.trans g9)
 refine sw 12 (.agg #[u0,u1]) rfl (rl 31 0 [u0,u1] L2) ?_
 refine sv 13 (.pointer (some ⟨b3,0,none⟩)) ?_
 replace L3:=L3.gr g9
 refine sw 14 (.agg #[v0,v1]) rfl (rl 31 0 [v0,v1] L3) ?_
 refine se ?_
 have kq13:=g7.kp.trans g9.kp
 replace ha:=ha.kp kq13
 replace hb:=hb.kp g9.kp
 refine ec 15 (mul_i ha.num hb.num (by omega)) ?_
 rintro e12 w12 ⟨⟨x12,y12,rfl,h12⟩,g12⟩
 refine ⟨_,rfl,?_⟩
 replace hB:=hB.trans g12
 simp only [p3,p4]
 refine sv 16 (.agg #[x12,y12,(.bool false),(.slice none 0 0)]) ?_
 refine se ?_
 replace L4:=L4.gr (g7.trans (g9.trans g12))
 refine es 33 0 (.agg #[x12,y12,(.bool false),(.slice none 0 0)]) [x12,y12,(.bool false),(.slice none 0 0)] #[x12,y12,(.bool false),(.slice none 0 0)] L4 hB q4 ⟨h12.one0,h12.one1,rfl,rfl,trivial⟩ fun w14 st14 kp14 L4 hB=>?_
 refine sq_nil ?_
 refine k11 _ _ ?_
 try clear k11 K11
 refine wp_ret ?_
 simp only [Exit.then]
 refine bodyPost_ret (v:=(.agg #[x12,y12,(.bool false),(.slice none 0 0)])) (ret_cell _ _ _ rfl rfl L4 (by kernel_rfl)) rfl ⟨?_,hB⟩
 replace h12:=h12.kp kp14
 exact ⟨_,_,_,_,rfl,by rw [← rat_int wa,← rat_int wb,← Rat.intCast_mul];exact IsRat.int h12 (by omega)⟩

set_option maxRecDepth 100000 in
set_option maxHeartbeats 1000000 in
theorem mul_tf {k m:Nat} {u0 u1 u2 u3 v0 v1 v2 v3:Value} {a b:Rat} {w:World} (ha:IsRat w k u0 u1 u2 u3 a) (hb:IsRat w m v0 v1 v2 v3 b) (_hk:k+m≤100000) (wa:a.den=1) (wb:b.den≠1):
    Calls Tryz.prog 53 #[(.agg #[u0,u1,u2,u3]),(.agg #[v0,v1,v2,v3])] w fun e w'=>(∃ c0 c1 c2 c3,e=.returned (.agg #[c0,c1,c2,c3])∧IsRat w' (k+m) c0 c1 c2 c3 (a*b))∧Gr w w':=by
 have hka:=ha.big
 have hkb:=hb.big
 go_enter Tryz.func53,Tryz.ntmps53
 have hB:=Gr.refl w
 refine wp_seq_k (fun K1 k1=>?_)
 refine rg [0,1,2] ?_
 refine se ?_
 refine eb 33 #[u0,u1,u2,u3] 2 hB fun b2 w2 g2 L2 o2 q2 hB=>?_
 simp only [p3,p4]
 refine se ?_
 refine eb 33 #[v0,v1,v2,v3] 3 hB fun b3 w3 g3 L3 o3 q3 hB=>?_
 simp only [p3,p4]
 refine se ?_
 refine ea 33 #[(.bool false),(.slice none 0 0),(.bool false),(.slice none 0 0)] 4 hB fun b4 w4 g4 L4 o4 q4 hB=>?_
 replace L2:=L2.gr g3
 have ne2_4:=L2.ne o4
 have ne3_4:=L3.ne o4
 simp only [p3,p4]
 refine sq_nil ?_
 refine k1 _ _ ?_
 try clear k1 K1
 refine wp_seq_k (fun K5 k5=>?_)
 refine wp_seq_k (fun K6 k6=>?_)
 refine rg [0,1,2,3,4,5] ?_
 replace L2:=L2.gr g4
 refine sw 5 (.agg #[u0,u1,u2,u3]) rfl (rl 33 0 [u0,u1,u2,u3] L2) ?_
 refine se ?_
 have kq8:=g2.kp.trans (g3.kp.trans g4.kp)
 replace ha:=ha.kp kq8
 refine ec 6 (whole_t ha (by omega) wa) ?_
 rintro e7 w7 ⟨rfl,g7⟩
 refine ⟨_,rfl,?_⟩
 replace hB:=hB.trans g7
 simp only [p3,p4]
 refine sv 7 (.bool true) ?_
 replace L3:=L3.gr (g4.trans g7)
 refine sw 8 (.agg #[v0,v1,v2,v3]) rfl (rl 33 0 [v0,v1,v2,v3] L3) ?_
 refine se ?_
 have kq10:=g2.kp.trans (g3.kp.trans (g4.kp.trans g7.kp))
 replace hb:=hb.kp kq10
 refine ec 9 (whole_f hb (by omega) wb) ?_
 rintro e9 w9 ⟨rfl,g9⟩
 refine ⟨_,rfl,?_⟩
 replace hB:=hB.trans g9
 simp only [p3,p4]
 refine sv 10 (.bool false) ?_
 refine sq_nil ?_
 refine k6 _ _ ?_
 try clear k6 K6
 refine wp_cond_false rfl ?_
 refine wp_skip ?_
 refine k5 _ _ ?_
 try clear k5 K5
 refine wp_seq_k (fun K11 k11=>?_)
 have gd29:=Gr.drew w9
 replace hB:=hB.trans gd29
 replace L2:=L2.gr (g7.trans (g9.trans gd29))
 replace L3:=L3.gr (g9.trans gd29)
 refine wp_region_ord (fun w'=>Lc w' b2 #[u0,u1,u2,u3] 33∧Lc w' b3 #[v0,v1,v2,v3] 33) [(true,0),(true,1),(true,2),(true,3),(true,5),(true,7),(false,4),(false,6),(false,8),(false,9),(false,10),(false,11)] (by kernel_rfl) (by kernel_rfl) (by kernel_rfl) (by decide) (fun _ _ _ _ _ h=>h) ⟨L2,L3⟩ ?_
 refine ov 17 (.pointer (some ⟨b2,0,none⟩)) ?_
 refine ow 18 (.agg #[u0,u1]) rfl (fun w' hS=>(rl 31 0 [u0,u1] hS.1)) ?_
 refine ov 19 (.pointer (some ⟨b3,0,none⟩)) ?_
 refine ow 20 (.agg #[v0,v1]) rfl (fun w' hS=>(rl 31 0 [v0,v1] hS.2)) ?_
 refine ow 22 (.agg #[u0,u1,u2,u3]) rfl (fun w' hS=>(rl 33 0 [u0,u1,u2,u3] hS.1)) ?_
 refine ow 24 (.agg #[v0,v1,v2,v3]) rfl (fun w' hS=>(rl 33 0 [v0,v1,v2,v3] hS.2)) ?_
 refine oe ?_
 have kq32:=g7.kp.trans (g9.kp.trans gd29.kp)
 replace ha:=ha.kp kq32
 have kq33:=g9.kp.trans gd29.kp
 replace hb:=hb.kp kq33
 refine ec 21 (mul_i ha.num hb.num (by omega)) ?_
 rintro e31 w31 ⟨⟨x31,y31,rfl,h31⟩,g31⟩
 refine ⟨_,rfl,?_⟩
 replace hB:=hB.trans g31
 replace L2:=L2.gr g31
 replace L3:=L3.gr g31
 refine ⟨⟨L2,L3⟩,?_⟩
 simp only [p3,p4]
 refine oe ?_
 replace ha:=ha.kp g31.kp
 refine ec 23 (den_i ha) ?_
 rintro e35 w35 ⟨⟨x35,y35,rfl,h35⟩,g35⟩
 refine ⟨_,rfl,?_⟩
 replace hB:=hB.trans g35
 replace L2:=L2.gr g35
 replace L3:=L3.gr g35
 refine ⟨⟨L2,L3⟩,?_⟩
 simp only [p3,p4]
 refine oe ?_
 have kq38:=g31.kp.trans g35.kp
 replace hb:=hb.kp kq38
 refine ec 25 (den_i hb) ?_
 rintro e37 w37 ⟨⟨x37,y37,rfl,h37⟩,g37⟩
 refine ⟨_,rfl,?_⟩
 replace hB:=hB.trans g37
 replace L2:=L2.gr g37
 replace L3:=L3.gr g37
 refine ⟨⟨L2,L3⟩,?_⟩
 simp only [p3,p4]
 refine oe ?_
 replace h35:=h35.kp g37.kp
 refine ec 26 (mul_i h35 h37 (by omega)) ?_
 rintro e40 w40 ⟨⟨x40,y40,rfl,h40⟩,g40⟩
 refine ⟨_,rfl,?_⟩
 replace hB:=hB.trans g40
 replace L2:=L2.gr g40
 replace L3:=L3.gr g40
 refine ⟨⟨L2,L3⟩,?_⟩
 simp only [p3,p4]
 refine oe ?_
 have kq43:=g35.kp.trans (g37.kp.trans g40.kp)
 replace h31:=h31.kp kq43
 refine ec 27 (reduced_i ((k+m)) h31 h40 (Int.mul_pos (Int.natCast_pos.2 a.den_pos) (Int.natCast_pos.2 b.den_pos)) (by omega) (by omega) (by omega) (by omega)) ?_
 rintro e42 w42 ⟨⟨p42,q42,r42,s42,rfl,h42⟩,g42⟩
 refine ⟨_,rfl,?_⟩
 replace hB:=hB.trans g42
 replace L2:=L2.gr g42
 replace L3:=L3.gr g42
 refine ⟨⟨L2,L3⟩,?_⟩
 simp only [p3,p4]
 refine oe ?_
 replace L4:=L4.gr (g7.trans (g9.trans (gd29.trans (g31.trans (g35.trans (g37.trans (g40.trans g42)))))))
 refine es 33 0 (.agg #[p42,q42,r42,s42]) [p42,q42,r42,s42] #[p42,q42,r42,s42] L4 hB q4 ⟨h42.one0,h42.one1,h42.one2,h42.one3,trivial⟩ fun w45 st45 kp45 L4 hB=>?_
 replace L2:=st45.lc L2 ne2_4
 replace L3:=st45.lc L3 ne3_4
 refine ⟨⟨L2,L3⟩,?_⟩
 refine ord_nil ?_
 refine k11 _ _ ?_
 try clear k11 K11
 refine wp_ret ?_
 refine bodyPost_ret (v:=(.agg #[p42,q42,r42,s42])) (ret_cell _ _ _ rfl rfl L4 (by kernel_rfl)) rfl ⟨?_,hB⟩
 replace h42:=h42.kp kp45
 exact ⟨_,_,_,_,rfl,by rw [← rat_mul];exact h42⟩

set_option maxRecDepth 100000 in
set_option maxHeartbeats 1000000 in
theorem mul_f {k m:Nat} {u0 u1 u2 u3 v0 v1 v2 v3:Value} {a b:Rat} {w:World} (ha:IsRat w k u0 u1 u2 u3 a) (hb:IsRat w m v0 v1 v2 v3 b) (_hk:k+m≤100000) (wa:a.den≠1):
    Calls Tryz.prog 53 #[(.agg #[u0,u1,u2,u3]),(.agg #[v0,v1,v2,v3])] w fun e w'=>(∃ c0 c1 c2 c3,e=.returned (.agg #[c0,c1,c2,c3])∧IsRat w' (k+m) c0 c1 c2 c3 (a*b))∧Gr w w':=by
 have hka:=ha.big
 have hkb:=hb.big
 go_enter Tryz.func53,Tryz.ntmps53
 have hB:=Gr.refl w
 refine wp_seq_k (fun K1 k1=>?_)
 refine rg [0,1,2] ?_
 refine se ?_
 refine eb 33 #[u0,u1,u2,u3] 2 hB fun b2 w2 g2 L2 o2 q2 hB=>?_
 simp only [p3,p4]
 refine se ?_
 refine eb 33 #[v0,v1,v2,v3] 3 hB fun b3 w3 g3 L3 o3 q3 hB=>?_
 simp only [p3,p4]
 refine se ?_
 refine ea 33 #[(.bool false),(.slice none 0 0),(.bool false),(.slice none 0 0)] 4 hB fun b4 w4 g4 L4 o4 q4 hB=>?_
 replace L2:=L2.gr g3
 have ne2_4:=L2.ne o4
 have ne3_4:=L3.ne o4
 simp only [p3,p4]
 refine sq_nil ?_
 refine k1 _ _ ?_
 try clear k1 K1
 refine wp_seq_k (fun K5 k5=>?_)
 refine wp_seq_k (fun K6 k6=>?_)
 refine rg [0,1,2,3,4,5] ?_
 replace L2:=L2.gr g4
 refine sw 5 (.agg #[u0,u1,u2,u3]) rfl (rl 33 0 [u0,u1,u2,u3] L2) ?_
 refine se ?_
 have kq8:=g2.kp.trans (g3.kp.trans g4.kp)
 replace ha:=ha.kp kq8
 refine ec 6 (whole_f ha (by omega) wa) ?_
 rintro e7 w7 ⟨rfl,g7⟩
 refine ⟨_,rfl,?_⟩
 replace hB:=hB.trans g7
 simp only [p3,p4]
 refine sv 7 (.bool false) ?_
 refine ss 8 ?_
 refine ss 9 ?_
 refine sv 10 (.bool false) ?_
 refine sq_nil ?_
 refine k6 _ _ ?_
 try clear k6 K6
 refine wp_cond_false rfl ?_
 refine wp_skip ?_
 refine k5 _ _ ?_
 try clear k5 K5
 refine wp_seq_k (fun K9 k9=>?_)
 have gd27:=Gr.drew w7
 replace hB:=hB.trans gd27
 replace L2:=L2.gr (g7.trans gd27)
 replace L3:=L3.gr (g4.trans (g7.trans gd27))
 refine wp_region_ord (fun w'=>Lc w' b2 #[u0,u1,u2,u3] 33∧Lc w' b3 #[v0,v1,v2,v3] 33) [(true,0),(true,1),(true,2),(true,3),(true,5),(true,7),(false,4),(false,6),(false,8),(false,9),(false,10),(false,11)] (by kernel_rfl) (by kernel_rfl) (by kernel_rfl) (by decide) (fun _ _ _ _ _ h=>h) ⟨L2,L3⟩ ?_
 refine ov 17 (.pointer (some ⟨b2,0,none⟩)) ?_
 refine ow 18 (.agg #[u0,u1]) rfl (fun w' hS=>(rl 31 0 [u0,u1] hS.1)) ?_
 refine ov 19 (.pointer (some ⟨b3,0,none⟩)) ?_
 refine ow 20 (.agg #[v0,v1]) rfl (fun w' hS=>(rl 31 0 [v0,v1] hS.2)) ?_
 refine ow 22 (.agg #[u0,u1,u2,u3]) rfl (fun w' hS=>(rl 33 0 [u0,u1,u2,u3] hS.1)) ?_
 refine ow 24 (.agg #[v0,v1,v2,v3]) rfl (fun w' hS=>(rl 33 0 [v0,v1,v2,v3] hS.2)) ?_
 refine oe ?_
 have kq30:=g7.kp.trans gd27.kp
 replace ha:=ha.kp kq30
 have kq31:=g2.kp.trans (g3.kp.trans (g4.kp.trans (g7.kp.trans gd27.kp)))
 replace hb:=hb.kp kq31
 refine ec 21 (mul_i ha.num hb.num (by omega)) ?_
 rintro e29 w29 ⟨⟨x29,y29,rfl,h29⟩,g29⟩
 refine ⟨_,rfl,?_⟩
 replace hB:=hB.trans g29
 replace L2:=L2.gr g29
 replace L3:=L3.gr g29
 refine ⟨⟨L2,L3⟩,?_⟩
 simp only [p3,p4]
 refine oe ?_
 replace ha:=ha.kp g29.kp
 refine ec 23 (den_i ha) ?_
 rintro e33 w33 ⟨⟨x33,y33,rfl,h33⟩,g33⟩
 refine ⟨_,rfl,?_⟩
 replace hB:=hB.trans g33
 replace L2:=L2.gr g33
 replace L3:=L3.gr g33
 refine ⟨⟨L2,L3⟩,?_⟩
 simp only [p3,p4]
 refine oe ?_
 have kq36:=g29.kp.trans g33.kp
 replace hb:=hb.kp kq36
 refine ec 25 (den_i hb) ?_
 rintro e35 w35 ⟨⟨x35,y35,rfl,h35⟩,g35⟩
 refine ⟨_,rfl,?_⟩
 replace hB:=hB.trans g35
 replace L2:=L2.gr g35
 replace L3:=L3.gr g35
 refine ⟨⟨L2,L3⟩,?_⟩
 simp only [p3,p4]
 refine oe ?_
 replace h33:=h33.kp g35.kp
 refine ec 26 (mul_i h33 h35 (by omega)) ?_
 rintro e38 w38 ⟨⟨x38,y38,rfl,h38⟩,g38⟩
 refine ⟨_,rfl,?_⟩
 replace hB:=hB.trans g38
 replace L2:=L2.gr g38
 replace L3:=L3.gr g38
 refine ⟨⟨L2,L3⟩,?_⟩
 simp only [p3,p4]
 refine oe ?_
 have kq41:=g33.kp.trans (g35.kp.trans g38.kp)
 replace h29:=h29.kp kq41
 refine ec 27 (reduced_i ((k+m)) h29 h38 (Int.mul_pos (Int.natCast_pos.2 a.den_pos) (Int.natCast_pos.2 b.den_pos)) (by omega) (by omega) (by omega) (by omega)) ?_
 rintro e40 w40 ⟨⟨p40,q40,r40,s40,rfl,h40⟩,g40⟩
 refine ⟨_,rfl,?_⟩
 replace hB:=hB.trans g40
 replace L2:=L2.gr g40
 replace L3:=L3.gr g40
 refine ⟨⟨L2,L3⟩,?_⟩
 simp only [p3,p4]
 refine oe ?_
 replace L4:=L4.gr (g7.trans (gd27.trans (g29.trans (g33.trans (g35.trans (g38.trans g40))))))
 refine es 33 0 (.agg #[p40,q40,r40,s40]) [p40,q40,r40,s40] #[p40,q40,r40,s40] L4 hB q4 ⟨h40.one0,h40.one1,h40.one2,h40.one3,trivial⟩ fun w43 st43 kp43 L4 hB=>?_
 replace L2:=st43.lc L2 ne2_4
 replace L3:=st43.lc L3 ne3_4
 refine ⟨⟨L2,L3⟩,?_⟩
 refine ord_nil ?_
 refine k9 _ _ ?_
 try clear k9 K9
 refine wp_ret ?_
 refine bodyPost_ret (v:=(.agg #[p40,q40,r40,s40])) (ret_cell _ _ _ rfl rfl L4 (by kernel_rfl)) rfl ⟨?_,hB⟩
 replace h40:=h40.kp kp43
 exact ⟨_,_,_,_,rfl,by rw [← rat_mul];exact h40⟩

theorem mul_r {k m:Nat} {u0 u1 u2 u3 v0 v1 v2 v3:Value} {a b:Rat} {w:World} (ha:IsRat w k u0 u1 u2 u3 a) (hb:IsRat w m v0 v1 v2 v3 b) (hk:k+m≤100000):
    Calls Tryz.prog 53 #[.agg #[u0,u1,u2,u3],.agg #[v0,v1,v2,v3]] w fun e w'=>(∃ c0 c1 c2 c3,e=.returned (.agg #[c0,c1,c2,c3])∧IsRat w' (k+m) c0 c1 c2 c3 (a*b))∧Gr w w':=by
  by_cases wa:a.den=1
  · by_cases wb:b.den=1
    · exact mul_tt ha hb hk wa wb
    · exact mul_tf ha hb hk wa wb
  · exact mul_f ha hb hk wa

set_option maxRecDepth 100000 in
set_option maxHeartbeats 1000000 in
theorem neg_r {k:Nat} {u0 u1 u2 u3:Value} {a:Rat} {w:World} (ha:IsRat w k u0 u1 u2 u3 a):
    Calls Tryz.prog 89 #[(.agg #[u0,u1,u2,u3])] w fun e w'=>(∃ c0 c1 c2 c3,e=.returned (.agg #[c0,c1,c2,c3])∧IsRat w' k c0 c1 c2 c3 (-a))∧Gr w w':=by
 go_enter Tryz.func89,Tryz.ntmps89
 have hB:=Gr.refl w
 refine wp_seq_k (fun K1 k1=>?_)
 refine rg [0,1] ?_
 refine se ?_
 refine eb 33 #[u0,u1,u2,u3] 1 hB fun b2 w2 g2 L2 o2 q2 hB=>?_
 simp only [p3,p4]
 refine se ?_
 refine ea 33 #[(.bool false),(.slice none 0 0),(.bool false),(.slice none 0 0)] 2 hB fun b3 w3 g3 L3 o3 q3 hB=>?_
 have ne2_3:=L2.ne o3
 simp only [p3,p4]
 refine sq_nil ?_
 refine k1 _ _ ?_
 try clear k1 K1
 refine wp_seq_k (fun K4 k4=>?_)
 have gd11:=Gr.drew w3
 replace hB:=hB.trans gd11
 replace L2:=L2.gr (g3.trans gd11)
 refine wp_region_ord (fun w'=>Lc w' b2 #[u0,u1,u2,u3] 33) [(true,0),(true,1),(true,3),(true,4),(false,2),(true,5),(false,6)] (by kernel_rfl) (by kernel_rfl) (by kernel_rfl) (by decide) (fun _ _ _ _ _ h=>h) L2 ?_
 refine ov 3 (.pointer (some ⟨b2,0,none⟩)) ?_
 refine ow 4 (.agg #[u0,u1]) rfl (fun w' hS=>(rl 31 0 [u0,u1] hS)) ?_
 refine ov 6 (.pointer (some ⟨b2,2,none⟩)) ?_
 refine ow 7 (.agg #[u2,u3]) rfl (fun w' hS=>(rl 31 2 [u2,u3] hS)) ?_
 refine oe ?_
 have kq14:=g2.kp.trans (g3.kp.trans gd11.kp)
 replace ha:=ha.kp kq14
 refine ec 5 (neg_i ha.num) ?_
 rintro e13 w13 ⟨⟨x13,y13,rfl,h13⟩,g13⟩
 refine ⟨_,rfl,?_⟩
 replace hB:=hB.trans g13
 replace L2:=L2.gr g13
 refine ⟨L2,?_⟩
 simp only [p3,p4]
 refine ov 8 (.agg #[x13,y13,u2,u3]) ?_
 refine oe ?_
 replace L3:=L3.gr (gd11.trans g13)
 refine es 33 0 (.agg #[x13,y13,u2,u3]) [x13,y13,u2,u3] #[x13,y13,u2,u3] L3 hB q3 ⟨h13.one0,h13.one1,ha.one2,ha.one3,trivial⟩ fun w16 st16 kp16 L3 hB=>?_
 replace L2:=st16.lc L2 ne2_3
 refine ⟨L2,?_⟩
 refine ord_nil ?_
 refine k4 _ _ ?_
 try clear k4 K4
 refine wp_ret ?_
 refine bodyPost_ret (v:=(.agg #[x13,y13,u2,u3])) (ret_cell _ _ _ rfl rfl L3 (by kernel_rfl)) rfl ⟨?_,hB⟩
 have kq17:=g13.kp.trans kp16
 replace ha:=ha.kp kq17
 replace h13:=h13.kp kp16
 exact ⟨_,_,_,_,rfl,IsRat.neg ha h13⟩

set_option maxRecDepth 100000 in
set_option maxHeartbeats 1000000 in
theorem sub_r {k m:Nat} {u0 u1 u2 u3 v0 v1 v2 v3:Value} {a b:Rat} {w:World} (ha:IsRat w k u0 u1 u2 u3 a) (hb:IsRat w m v0 v1 v2 v3 b) (_hk:k+m≤100000):
    Calls Tryz.prog 61 #[(.agg #[u0,u1,u2,u3]),(.agg #[v0,v1,v2,v3])] w fun e w'=>(∃ c0 c1 c2 c3,e=.returned (.agg #[c0,c1,c2,c3])∧IsRat w' (k+m+1) c0 c1 c2 c3 (a - b))∧Gr w w':=by
 go_enter Tryz.func61,Tryz.ntmps61
 have hB:=Gr.refl w
 refine wp_seq_k (fun K1 k1=>?_)
 refine rg [0,1,2] ?_
 refine se ?_
 refine eb 33 #[u0,u1,u2,u3] 2 hB fun b2 w2 g2 L2 o2 q2 hB=>?_
 simp only [p3,p4]
 refine se ?_
 refine eb 33 #[v0,v1,v2,v3] 3 hB fun b3 w3 g3 L3 o3 q3 hB=>?_
 simp only [p3,p4]
 refine se ?_
 refine ea 33 #[(.bool false),(.slice none 0 0),(.bool false),(.slice none 0 0)] 4 hB fun b4 w4 g4 L4 o4 q4 hB=>?_
 replace L2:=L2.gr g3
 have ne2_4:=L2.ne o4
 have ne3_4:=L3.ne o4
 simp only [p3,p4]
 refine sq_nil ?_
 refine k1 _ _ ?_
 try clear k1 K1
 refine wp_seq_k (fun K5 k5=>?_)
 have gd15:=Gr.drew w4
 replace hB:=hB.trans gd15
 replace L2:=L2.gr (g4.trans gd15)
 replace L3:=L3.gr (g4.trans gd15)
 refine wp_region_ord (fun w'=>Lc w' b2 #[u0,u1,u2,u3] 33∧Lc w' b3 #[v0,v1,v2,v3] 33) [(true,0),(true,1),(false,2),(false,3),(false,4)] (by kernel_rfl) (by kernel_rfl) (by kernel_rfl) (by decide) (fun _ _ _ _ _ h=>h) ⟨L2,L3⟩ ?_
 refine ow 5 (.agg #[u0,u1,u2,u3]) rfl (fun w' hS=>(rl 33 0 [u0,u1,u2,u3] hS.1)) ?_
 refine ow 6 (.agg #[v0,v1,v2,v3]) rfl (fun w' hS=>(rl 33 0 [v0,v1,v2,v3] hS.2)) ?_
 refine oe ?_
 have kq18:=g2.kp.trans (g3.kp.trans (g4.kp.trans gd15.kp))
 replace hb:=hb.kp kq18
 refine ec 7 (neg_r hb) ?_
 rintro e17 w17 ⟨⟨p17,q17,r17,s17,rfl,h17⟩,g17⟩
 refine ⟨_,rfl,?_⟩
 replace hB:=hB.trans g17
 replace L2:=L2.gr g17
 replace L3:=L3.gr g17
 refine ⟨⟨L2,L3⟩,?_⟩
 simp only [p3,p4]
 refine oe ?_
 have kq21:=g2.kp.trans (g3.kp.trans (g4.kp.trans (gd15.kp.trans g17.kp)))
 replace ha:=ha.kp kq21
 refine ec 8 (add_r ha h17 (by omega)) ?_
 rintro e20 w20 ⟨⟨p20,q20,r20,s20,rfl,h20⟩,g20⟩
 refine ⟨_,rfl,?_⟩
 replace hB:=hB.trans g20
 replace L2:=L2.gr g20
 replace L3:=L3.gr g20
 refine ⟨⟨L2,L3⟩,?_⟩
 simp only [p3,p4]
 refine oe ?_
 replace L4:=L4.gr (gd15.trans (g17.trans g20))
 refine es 33 0 (.agg #[p20,q20,r20,s20]) [p20,q20,r20,s20] #[p20,q20,r20,s20] L4 hB q4 ⟨h20.one0,h20.one1,h20.one2,h20.one3,trivial⟩ fun w23 st23 kp23 L4 hB=>?_
 replace L2:=st23.lc L2 ne2_4
 replace L3:=st23.lc L3 ne3_4
 refine ⟨⟨L2,L3⟩,?_⟩
 refine ord_nil ?_
 refine k5 _ _ ?_
 try clear k5 K5
 refine wp_ret ?_
 refine bodyPost_ret (v:=(.agg #[p20,q20,r20,s20])) (ret_cell _ _ _ rfl rfl L4 (by kernel_rfl)) rfl ⟨?_,hB⟩
 replace h20:=h20.kp kp23
 exact ⟨_,_,_,_,rfl,by rw [Rat.sub_eq_add_neg];exact h20⟩

set_option maxRecDepth 100000 in
set_option maxHeartbeats 1000000 in
theorem num_r {k:Nat} {u0 u1 u2 u3:Value} {a:Rat} {w:World} (ha:IsRat w k u0 u1 u2 u3 a):
    Calls Tryz.prog 79 #[(.agg #[u0,u1,u2,u3])] w fun e w'=>(∃ x' y',e=.returned (.agg #[x',y'])∧IsInt w' k x' y' (a.num))∧Gr w w':=by
 go_enter Tryz.func79,Tryz.ntmps79
 have hB:=Gr.refl w
 refine wp_seq_k (fun K1 k1=>?_)
 refine rg [0,1] ?_
 refine se ?_
 refine eb 33 #[u0,u1,u2,u3] 1 hB fun b2 w2 g2 L2 o2 q2 hB=>?_
 simp only [p3,p4]
 refine se ?_
 refine ea 31 #[(.bool false),(.slice none 0 0)] 2 hB fun b3 w3 g3 L3 o3 q3 hB=>?_
 simp only [p3,p4]
 refine sq_nil ?_
 refine k1 _ _ ?_
 try clear k1 K1
 refine wp_seq_k (fun K4 k4=>?_)
 refine rg [0,1,2] ?_
 refine sv 3 (.pointer (some ⟨b2,0,none⟩)) ?_
 replace L2:=L2.gr g3
 refine sw 4 (.agg #[u0,u1]) rfl (rl 31 0 [u0,u1] L2) ?_
 refine se ?_
 refine es 31 0 (.agg #[u0,u1]) [u0,u1] #[u0,u1] L3 hB q3 ⟨ha.one0,ha.one1,trivial⟩ fun w5 st5 kp5 L3 hB=>?_
 refine sq_nil ?_
 refine k4 _ _ ?_
 try clear k4 K4
 refine wp_ret ?_
 refine bodyPost_ret (v:=(.agg #[u0,u1])) (ret_cell _ _ _ rfl rfl L3 (by kernel_rfl)) rfl ⟨?_,hB⟩
 have kq6:=g2.kp.trans (g3.kp.trans kp5)
 replace ha:=ha.kp kq6
 exact ⟨_,_,rfl,ha.num⟩

set_option maxRecDepth 100000 in
set_option maxHeartbeats 1000000 in
theorem sign_r {k:Nat} {u0 u1 u2 u3:Value} {a:Rat} {w:World} (ha:IsRat w k u0 u1 u2 u3 a):
    Calls Tryz.prog 54 #[(.agg #[u0,u1,u2,u3])] w fun e w'=>e=.returned (.int .i64 (sgn a.num))∧Gr w w':=by
 go_enter Tryz.func54,Tryz.ntmps54
 have hB:=Gr.refl w
 refine wp_seq_k (fun K1 k1=>?_)
 refine rg [0,1] ?_
 refine se ?_
 refine eb 33 #[u0,u1,u2,u3] 1 hB fun b2 w2 g2 L2 o2 q2 hB=>?_
 simp only [p3,p4]
 refine sv 2 (.int .i64 0) ?_
 refine sq_nil ?_
 refine k1 _ _ ?_
 try clear k1 K1
 refine wp_seq_k (fun K3 k3=>?_)
 refine rg [0,1,2,3] ?_
 refine sv 3 (.pointer (some ⟨b2,0,none⟩)) ?_
 refine sw 4 (.agg #[u0,u1]) rfl (rl 31 0 [u0,u1] L2) ?_
 refine se ?_
 replace ha:=ha.kp g2.kp
 refine ec 5 (sign_i ha.num) ?_
 rintro e4 w4 ⟨rfl,g4⟩
 refine ⟨_,rfl,?_⟩
 replace hB:=hB.trans g4
 simp only [p3,p4]
 refine sv 2 (.int .i64 (sgn (a.num))) ?_
 refine sq_nil ?_
 refine k3 _ _ ?_
 try clear k3 K3
 refine wp_ret ?_
 refine bodyPost_ret (v:=(.int .i64 (sgn (a.num)))) (ret_tmp rfl rfl) rfl ⟨?_,hB⟩
 exact rfl

set_option maxRecDepth 100000 in
set_option maxHeartbeats 1000000 in
theorem from_r (z:Int) (_h0:-9223372036854775808≤z) (_h1:z≤9223372036854775807) (w:World):
    Calls Tryz.prog 42 #[(.int .i64 (z))] w fun e w'=>(∃ c0 c1 c2 c3,e=.returned (.agg #[c0,c1,c2,c3])∧IsRat w' 64 c0 c1 c2 c3 ((z:Rat)))∧Gr w w':=by
 go_enter Tryz.func42,Tryz.ntmps42
 have hB:=Gr.refl w
 refine wp_seq_k (fun K1 k1=>?_)
 refine rg [0] ?_
 refine se ?_
 refine ea 33 #[(.bool false),(.slice none 0 0),(.bool false),(.slice none 0 0)] 2 hB fun b2 w2 g2 L2 o2 q2 hB=>?_
 simp only [p3,p4]
 refine sq_nil ?_
 refine k1 _ _ ?_
 try clear k1 K1
 refine wp_seq_k (fun K3 k3=>?_)
 refine rg [0,1,2,3] ?_
 refine sv 3 (.int .i64 (z)) ?_
 refine se ?_
 refine ec 4 (from_i (z) (by omega) (by omega) _) ?_
 rintro e4 w4 ⟨⟨x4,y4,rfl,h4⟩,g4⟩
 refine ⟨_,rfl,?_⟩
 replace hB:=hB.trans g4
 simp only [p3,p4]
 refine sv 5 (.agg #[x4,y4,(.bool false),(.slice none 0 0)]) ?_
 refine se ?_
 replace L2:=L2.gr g4
 refine es 33 0 (.agg #[x4,y4,(.bool false),(.slice none 0 0)]) [x4,y4,(.bool false),(.slice none 0 0)] #[x4,y4,(.bool false),(.slice none 0 0)] L2 hB q2 ⟨h4.one0,h4.one1,rfl,rfl,trivial⟩ fun w5 st5 kp5 L2 hB=>?_
 refine sq_nil ?_
 refine k3 _ _ ?_
 try clear k3 K3
 refine wp_ret ?_
 refine bodyPost_ret (v:=(.agg #[x4,y4,(.bool false),(.slice none 0 0)])) (ret_cell _ _ _ rfl rfl L2 (by kernel_rfl)) rfl ⟨?_,hB⟩
 replace h4:=h4.kp kp5
 exact ⟨_,_,_,_,rfl,IsRat.int h4 (by omega)⟩

set_option maxRecDepth 100000 in
set_option maxHeartbeats 1000000 in
theorem make_r {k m:Nat} (K:Nat) {n0 n1 d0 d1:Value} {N D:Int} {w:World} (hn:IsInt w k n0 n1 N) (hd:IsInt w m d0 d1 D) (h0:0<D) (_h1:k≤K) (_h2:m≤K) (_h3:64≤K) (_h4:8*K≤1000000):
    Calls Tryz.prog 78 #[(.agg #[n0,n1]),(.agg #[d0,d1])] w fun e w'=>(∃ c0 c1 c2 c3,e=.returned (.tuple #[.agg #[c0,c1,c2,c3],.int .i64 0])∧IsRat w' K c0 c1 c2 c3 (Rat.divInt N D))∧Gr w w':=by
 go_enter Tryz.func78,Tryz.ntmps78
 have hB:=Gr.refl w
 refine wp_seq_k (fun K1 k1=>?_)
 refine rg [0,1,2,3] ?_
 refine se ?_
 refine eb 31 #[n0,n1] 2 hB fun b2 w2 g2 L2 o2 q2 hB=>?_
 simp only [p3,p4]
 refine se ?_
 refine eb 31 #[d0,d1] 3 hB fun b3 w3 g3 L3 o3 q3 hB=>?_
 simp only [p3,p4]
 refine se ?_
 refine ea 33 #[(.bool false),(.slice none 0 0),(.bool false),(.slice none 0 0)] 4 hB fun b4 w4 g4 L4 o4 q4 hB=>?_
 replace L2:=L2.gr g3
 simp only [p3,p4]
 refine sv 5 (.int .i64 0) ?_
 refine sq_nil ?_
 refine k1 _ _ ?_
 try clear k1 K1
 refine wp_seq_k (fun K5 k5=>?_)
 refine wp_seq_k (fun K6 k6=>?_)
 refine rg [0,1,2] ?_
 replace L3:=L3.gr g4
 refine sw 6 (.agg #[d0,d1]) rfl (rl 31 0 [d0,d1] L3) ?_
 refine se ?_
 have kq8:=g2.kp.trans (g3.kp.trans g4.kp)
 replace hd:=hd.kp kq8
 refine ec 7 (sign_pos hd (by omega)) ?_
 rintro e7 w7 ⟨rfl,g7⟩
 refine ⟨_,rfl,?_⟩
 replace hB:=hB.trans g7
 simp only [p3,p4]
 refine sv 8 (.bool false) ?_
 refine sq_nil ?_
 refine k6 _ _ ?_
 try clear k6 K6
 refine wp_cond_false rfl ?_
 refine wp_skip ?_
 refine k5 _ _ ?_
 try clear k5 K5
 refine wp_seq_k (fun K9 k9=>?_)
 refine rg [0,1,2,3,4] ?_
 replace L2:=L2.gr (g4.trans g7)
 refine sw 10 (.agg #[n0,n1]) rfl (rl 31 0 [n0,n1] L2) ?_
 replace L3:=L3.gr g7
 refine sw 11 (.agg #[d0,d1]) rfl (rl 31 0 [d0,d1] L3) ?_
 refine se ?_
 have kq11:=g2.kp.trans (g3.kp.trans (g4.kp.trans g7.kp))
 replace hn:=hn.kp kq11
 replace hd:=hd.kp g7.kp
 refine ec 12 (reduced_i (K) hn hd h0 (by omega) (by omega) (by omega) (by omega)) ?_
 rintro e10 w10 ⟨⟨p10,q10,r10,s10,rfl,h10⟩,g10⟩
 refine ⟨_,rfl,?_⟩
 replace hB:=hB.trans g10
 simp only [p3,p4]
 refine se ?_
 replace L4:=L4.gr (g7.trans g10)
 refine es 33 0 (.agg #[p10,q10,r10,s10]) [p10,q10,r10,s10] #[p10,q10,r10,s10] L4 hB q4 ⟨h10.one0,h10.one1,h10.one2,h10.one3,trivial⟩ fun w12 st12 kp12 L4 hB=>?_
 refine sv 5 (.int .i64 0) ?_
 refine sq_nil ?_
 refine k9 _ _ ?_
 try clear k9 K9
 refine wp_ret ?_
 refine bodyPost_ret (v:=(.tuple #[(.agg #[p10,q10,r10,s10]),(.int .i64 0)])) (ret_cell_tmp' _ _ _ rfl rfl L4 (by kernel_rfl) rfl) rfl ⟨?_,hB⟩
 replace h10:=h10.kp kp12
 exact ⟨_,_,_,_,rfl,h10⟩

theorem sign_rp {k:Nat} {u0 u1 u2 u3:Value} {a:Rat} {w:World} (ha:IsRat w k u0 u1 u2 u3 a) (h:0<a.num):
    Calls Tryz.prog 54 #[.agg #[u0,u1,u2,u3]] w fun e w'=>e=.returned (.int .i64 1)∧Gr w w':=by
  have:=sign_r ha
  rw [sgn_pos h] at this
  exact this

set_option maxRecDepth 100000 in
set_option maxHeartbeats 1000000 in
theorem div_r {k m:Nat} {u0 u1 u2 u3 v0 v1 v2 v3:Value} {a b:Rat} {w:World} (ha:IsRat w k u0 u1 u2 u3 a) (hb:IsRat w m v0 v1 v2 v3 b) (_hk:k+m≤100000) (h0:0<b.num):
    Calls Tryz.prog 41 #[(.agg #[u0,u1,u2,u3]),(.agg #[v0,v1,v2,v3])] w fun e w'=>(∃ c0 c1 c2 c3,e=.returned (.tuple #[.agg #[c0,c1,c2,c3],.int .i64 0])∧IsRat w' (k+m) c0 c1 c2 c3 (a/b))∧Gr w w':=by
 have hka:=ha.big
 have hkb:=hb.big
 go_enter Tryz.func41,Tryz.ntmps41
 have hB:=Gr.refl w
 refine wp_seq_k (fun K1 k1=>?_)
 refine rg [0,1,2,3] ?_
 refine se ?_
 refine eb 33 #[u0,u1,u2,u3] 2 hB fun b2 w2 g2 L2 o2 q2 hB=>?_
 simp only [p3,p4]
 refine se ?_
 refine eb 33 #[v0,v1,v2,v3] 3 hB fun b3 w3 g3 L3 o3 q3 hB=>?_
 simp only [p3,p4]
 refine se ?_
 refine ea 33 #[(.bool false),(.slice none 0 0),(.bool false),(.slice none 0 0)] 4 hB fun b4 w4 g4 L4 o4 q4 hB=>?_
 replace L2:=L2.gr g3
 have ne2_4:=L2.ne o4
 have ne3_4:=L3.ne o4
 simp only [p3,p4]
 refine sv 5 (.int .i64 0) ?_
 refine sq_nil ?_
 refine k1 _ _ ?_
 try clear k1 K1
 refine wp_seq_k (fun K5 k5=>?_)
 refine wp_seq_k (fun K6 k6=>?_)
 refine rg [0,1,2] ?_
 replace L3:=L3.gr g4
 refine sw 6 (.agg #[v0,v1,v2,v3]) rfl (rl 33 0 [v0,v1,v2,v3] L3) ?_
 refine se ?_
 have kq8:=g2.kp.trans (g3.kp.trans g4.kp)
 replace hb:=hb.kp kq8
 refine ec 7 (sign_rp hb h0) ?_
 rintro e7 w7 ⟨rfl,g7⟩
 refine ⟨_,rfl,?_⟩
 replace hB:=hB.trans g7
 simp only [p3,p4]
 refine sv 8 (.bool false) ?_
 refine sq_nil ?_
 refine k6 _ _ ?_
 try clear k6 K6
 refine wp_cond_false rfl ?_
 refine wp_skip ?_
 refine k5 _ _ ?_
 try clear k5 K5
 refine wp_seq_k (fun K9 k9=>?_)
 have gd27:=Gr.drew w7
 replace hB:=hB.trans gd27
 replace L2:=L2.gr (g4.trans (g7.trans gd27))
 replace L3:=L3.gr (g7.trans gd27)
 refine wp_region_ord (fun w'=>Lc w' b2 #[u0,u1,u2,u3] 33∧Lc w' b3 #[v0,v1,v2,v3] 33) [(true,0),(true,1),(true,2),(true,5),(true,7),(true,8),(false,3),(false,4),(false,6),(false,9),(false,10),(false,11),(true,12)] (by kernel_rfl) (by kernel_rfl) (by kernel_rfl) (by decide) (fun _ _ _ _ _ h=>h) ⟨L2,L3⟩ ?_
 refine ov 10 (.pointer (some ⟨b2,0,none⟩)) ?_
 refine ow 11 (.agg #[u0,u1]) rfl (fun w' hS=>(rl 31 0 [u0,u1] hS.1)) ?_
 refine ow 12 (.agg #[v0,v1,v2,v3]) rfl (fun w' hS=>(rl 33 0 [v0,v1,v2,v3] hS.2)) ?_
 refine ow 15 (.agg #[u0,u1,u2,u3]) rfl (fun w' hS=>(rl 33 0 [u0,u1,u2,u3] hS.1)) ?_
 refine ov 17 (.pointer (some ⟨b3,0,none⟩)) ?_
 refine ow 18 (.agg #[v0,v1]) rfl (fun w' hS=>(rl 31 0 [v0,v1] hS.2)) ?_
 refine oe ?_
 have kq30:=g7.kp.trans gd27.kp
 replace hb:=hb.kp kq30
 refine ec 13 (den_i hb) ?_
 rintro e29 w29 ⟨⟨x29,y29,rfl,h29⟩,g29⟩
 refine ⟨_,rfl,?_⟩
 replace hB:=hB.trans g29
 replace L2:=L2.gr g29
 replace L3:=L3.gr g29
 refine ⟨⟨L2,L3⟩,?_⟩
 simp only [p3,p4]
 refine oe ?_
 have kq33:=g2.kp.trans (g3.kp.trans (g4.kp.trans (g7.kp.trans (gd27.kp.trans g29.kp))))
 replace ha:=ha.kp kq33
 refine ec 14 (mul_i ha.num h29 (by omega)) ?_
 rintro e32 w32 ⟨⟨x32,y32,rfl,h32⟩,g32⟩
 refine ⟨_,rfl,?_⟩
 replace hB:=hB.trans g32
 replace L2:=L2.gr g32
 replace L3:=L3.gr g32
 refine ⟨⟨L2,L3⟩,?_⟩
 simp only [p3,p4]
 refine oe ?_
 replace ha:=ha.kp g32.kp
 refine ec 16 (den_i ha) ?_
 rintro e35 w35 ⟨⟨x35,y35,rfl,h35⟩,g35⟩
 refine ⟨_,rfl,?_⟩
 replace hB:=hB.trans g35
 replace L2:=L2.gr g35
 replace L3:=L3.gr g35
 refine ⟨⟨L2,L3⟩,?_⟩
 simp only [p3,p4]
 refine oe ?_
 have kq38:=g29.kp.trans (g32.kp.trans g35.kp)
 replace hb:=hb.kp kq38
 refine ec 19 (mul_i h35 hb.num (by omega)) ?_
 rintro e37 w37 ⟨⟨x37,y37,rfl,h37⟩,g37⟩
 refine ⟨_,rfl,?_⟩
 replace hB:=hB.trans g37
 replace L2:=L2.gr g37
 replace L3:=L3.gr g37
 refine ⟨⟨L2,L3⟩,?_⟩
 simp only [p3,p4]
 refine oe ?_
 have kq41:=g35.kp.trans g37.kp
 replace h32:=h32.kp kq41
 refine ec 20 (reduced_i ((k+m)) h32 h37 (Int.mul_pos (Int.natCast_pos.2 a.den_pos) h0) (by omega) (by omega) (by omega) (by omega)) ?_
 rintro e40 w40 ⟨⟨p40,q40,r40,s40,rfl,h40⟩,g40⟩
 refine ⟨_,rfl,?_⟩
 replace hB:=hB.trans g40
 replace L2:=L2.gr g40
 replace L3:=L3.gr g40
 refine ⟨⟨L2,L3⟩,?_⟩
 simp only [p3,p4]
 refine oe ?_
 replace L4:=L4.gr (g7.trans (gd27.trans (g29.trans (g32.trans (g35.trans (g37.trans g40))))))
 refine es 33 0 (.agg #[p40,q40,r40,s40]) [p40,q40,r40,s40] #[p40,q40,r40,s40] L4 hB q4 ⟨h40.one0,h40.one1,h40.one2,h40.one3,trivial⟩ fun w43 st43 kp43 L4 hB=>?_
 replace L2:=st43.lc L2 ne2_4
 replace L3:=st43.lc L3 ne3_4
 refine ⟨⟨L2,L3⟩,?_⟩
 refine ov 5 (.int .i64 0) ?_
 refine ord_nil ?_
 refine k9 _ _ ?_
 try clear k9 K9
 refine wp_ret ?_
 refine bodyPost_ret (v:=(.tuple #[(.agg #[p40,q40,r40,s40]),(.int .i64 0)])) (ret_cell_tmp' _ _ _ rfl rfl L4 (by kernel_rfl) rfl) rfl ⟨?_,hB⟩
 replace h40:=h40.kp kp43
 exact ⟨_,_,_,_,rfl,by rw [← rat_div];exact h40⟩

set_option maxRecDepth 100000 in
set_option maxHeartbeats 1000000 in
theorem rcomp_tt {k m:Nat} {u0 u1 u2 u3 v0 v1 v2 v3:Value} {a b:Rat} {w:World} (ha:IsRat w k u0 u1 u2 u3 a) (hb:IsRat w m v0 v1 v2 v3 b) (_hk:k+m≤100000) (wa:a.den=1) (wb:b.den=1):
    Calls Tryz.prog 45 #[(.agg #[u0,u1,u2,u3]),(.agg #[v0,v1,v2,v3])] w fun e w'=>e=.returned (.int .i64 (rcmp a b))∧Gr w w':=by
 have hka:=ha.big
 have hkb:=hb.big
 go_enter Tryz.func45,Tryz.ntmps45
 have hB:=Gr.refl w
 refine wp_seq_k (fun K1 k1=>?_)
 refine rg [0,1,2] ?_
 refine se ?_
 refine eb 33 #[u0,u1,u2,u3] 2 hB fun b2 w2 g2 L2 o2 q2 hB=>?_
 simp only [p3,p4]
 refine se ?_
 refine eb 33 #[v0,v1,v2,v3] 3 hB fun b3 w3 g3 L3 o3 q3 hB=>?_
 simp only [p3,p4]
 refine sv 4 (.int .i64 0) ?_
 refine sq_nil ?_
 refine k1 _ _ ?_
 try clear k1 K1
 refine wp_seq_k (fun K4 k4=>?_)
 refine wp_seq_k (fun K5 k5=>?_)
 refine rg [0,1,2,3,4,5] ?_
 replace L2:=L2.gr g3
 refine sw 5 (.agg #[u0,u1,u2,u3]) rfl (rl 33 0 [u0,u1,u2,u3] L2) ?_
 refine se ?_
 have kq7:=g2.kp.trans g3.kp
 replace ha:=ha.kp kq7
 refine ec 6 (whole_t ha (by omega) wa) ?_
 rintro e6 w6 ⟨rfl,g6⟩
 refine ⟨_,rfl,?_⟩
 replace hB:=hB.trans g6
 simp only [p3,p4]
 refine sv 7 (.bool true) ?_
 replace L3:=L3.gr g6
 refine sw 8 (.agg #[v0,v1,v2,v3]) rfl (rl 33 0 [v0,v1,v2,v3] L3) ?_
 refine se ?_
 have kq9:=g2.kp.trans (g3.kp.trans g6.kp)
 replace hb:=hb.kp kq9
 refine ec 9 (whole_t hb (by omega) wb) ?_
 rintro e8 w8 ⟨rfl,g8⟩
 refine ⟨_,rfl,?_⟩
 replace hB:=hB.trans g8
 simp only [p3,p4]
 refine sv 10 (.bool true) ?_
 refine sq_nil ?_
 refine k5 _ _ ?_
 try clear k5 K5
 refine wp_cond_true rfl ?_
 refine wp_seq_k (fun K10 k10=>?_)
 refine rg [0,1,2,3,4,5] ?_
 refine sv 11 (.pointer (some ⟨b2,0,none⟩)) ?_
 replace L2:=L2.gr (g6.trans g8)
 refine sw 12 (.agg #[u0,u1]) rfl (rl 31 0 [u0,u1] L2) ?_
 refine sv 13 (.pointer (some ⟨b3,0,none⟩)) ?_
 replace L3:=L3.gr g8
 refine sw 14 (.agg #[v0,v1]) rfl (rl 31 0 [v0,v1] L3) ?_
 refine se ?_
 have kq12:=g6.kp.trans g8.kp
 replace ha:=ha.kp kq12
 replace hb:=hb.kp g8.kp
 refine ec 15 (compare_i ha.num hb.num (by omega) (by omega)) ?_
 rintro e11 w11 ⟨rfl,g11⟩
 refine ⟨_,rfl,?_⟩
 replace hB:=hB.trans g11
 simp only [p3,p4]
 refine sv 4 (.int .i64 (sgn (a.num - b.num))) ?_
 refine sq_nil ?_
 refine k10 _ _ ?_
 try clear k10 K10
 refine wp_ret ?_
 simp only [Exit.then]
 refine bodyPost_ret (v:=(.int .i64 (sgn (a.num - b.num)))) (ret_tmp rfl rfl) rfl ⟨?_,hB⟩
 exact by rw [rcmp_int wa wb]

set_option maxRecDepth 100000 in
set_option maxHeartbeats 1000000 in
theorem rcomp_tf {k m:Nat} {u0 u1 u2 u3 v0 v1 v2 v3:Value} {a b:Rat} {w:World} (ha:IsRat w k u0 u1 u2 u3 a) (hb:IsRat w m v0 v1 v2 v3 b) (_hk:k+m≤100000) (wa:a.den=1) (wb:b.den≠1):
    Calls Tryz.prog 45 #[(.agg #[u0,u1,u2,u3]),(.agg #[v0,v1,v2,v3])] w fun e w'=>e=.returned (.int .i64 (rcmp a b))∧Gr w w':=by
 have hka:=ha.big
 have hkb:=hb.big
 go_enter Tryz.func45,Tryz.ntmps45
 have hB:=Gr.refl w
 refine wp_seq_k (fun K1 k1=>?_)
 refine rg [0,1,2] ?_
 refine se ?_
 refine eb 33 #[u0,u1,u2,u3] 2 hB fun b2 w2 g2 L2 o2 q2 hB=>?_
 simp only [p3,p4]
 refine se ?_
 refine eb 33 #[v0,v1,v2,v3] 3 hB fun b3 w3 g3 L3 o3 q3 hB=>?_
 simp only [p3,p4]
 refine sv 4 (.int .i64 0) ?_
 refine sq_nil ?_
 refine k1 _ _ ?_
 try clear k1 K1
 refine wp_seq_k (fun K4 k4=>?_)
 refine wp_seq_k (fun K5 k5=>?_)
 refine rg [0,1,2,3,4,5] ?_
 replace L2:=L2.gr g3
 refine sw 5 (.agg #[u0,u1,u2,u3]) rfl (rl 33 0 [u0,u1,u2,u3] L2) ?_
 refine se ?_
 have kq7:=g2.kp.trans g3.kp
 replace ha:=ha.kp kq7
 refine ec 6 (whole_t ha (by omega) wa) ?_
 rintro e6 w6 ⟨rfl,g6⟩
 refine ⟨_,rfl,?_⟩
 replace hB:=hB.trans g6
 simp only [p3,p4]
 refine sv 7 (.bool true) ?_
 replace L3:=L3.gr g6
 refine sw 8 (.agg #[v0,v1,v2,v3]) rfl (rl 33 0 [v0,v1,v2,v3] L3) ?_
 refine se ?_
 have kq9:=g2.kp.trans (g3.kp.trans g6.kp)
 replace hb:=hb.kp kq9
 refine ec 9 (whole_f hb (by omega) wb) ?_
 rintro e8 w8 ⟨rfl,g8⟩
 refine ⟨_,rfl,?_⟩
 replace hB:=hB.trans g8
 simp only [p3,p4]
 refine sv 10 (.bool false) ?_
 refine sq_nil ?_
 refine k5 _ _ ?_
 try clear k5 K5
 refine wp_cond_false rfl ?_
 refine wp_skip ?_
 refine k4 _ _ ?_
 try clear k4 K4
 refine wp_seq_k (fun K10 k10=>?_)
 have gd26:=Gr.drew w8
 replace hB:=hB.trans gd26
 replace L2:=L2.gr (g6.trans (g8.trans gd26))
 replace L3:=L3.gr (g8.trans gd26)
 refine wp_region_ord (fun w'=>Lc w' b2 #[u0,u1,u2,u3] 33∧Lc w' b3 #[v0,v1,v2,v3] 33) [(true,0),(true,1),(true,2),(true,5),(true,6),(true,7),(false,3),(false,4),(false,8),(false,9),(false,10),(true,11)] (by kernel_rfl) (by kernel_rfl) (by kernel_rfl) (by decide) (fun _ _ _ _ _ h=>h) ⟨L2,L3⟩ ?_
 refine ov 16 (.pointer (some ⟨b2,0,none⟩)) ?_
 refine ow 17 (.agg #[u0,u1]) rfl (fun w' hS=>(rl 31 0 [u0,u1] hS.1)) ?_
 refine ow 18 (.agg #[v0,v1,v2,v3]) rfl (fun w' hS=>(rl 33 0 [v0,v1,v2,v3] hS.2)) ?_
 refine ov 21 (.pointer (some ⟨b3,0,none⟩)) ?_
 refine ow 22 (.agg #[v0,v1]) rfl (fun w' hS=>(rl 31 0 [v0,v1] hS.2)) ?_
 refine ow 23 (.agg #[u0,u1,u2,u3]) rfl (fun w' hS=>(rl 33 0 [u0,u1,u2,u3] hS.1)) ?_
 refine oe ?_
 have kq29:=g8.kp.trans gd26.kp
 replace hb:=hb.kp kq29
 refine ec 19 (den_i hb) ?_
 rintro e28 w28 ⟨⟨x28,y28,rfl,h28⟩,g28⟩
 refine ⟨_,rfl,?_⟩
 replace hB:=hB.trans g28
 replace L2:=L2.gr g28
 replace L3:=L3.gr g28
 refine ⟨⟨L2,L3⟩,?_⟩
 simp only [p3,p4]
 refine oe ?_
 have kq32:=g6.kp.trans (g8.kp.trans (gd26.kp.trans g28.kp))
 replace ha:=ha.kp kq32
 refine ec 20 (mul_i ha.num h28 (by omega)) ?_
 rintro e31 w31 ⟨⟨x31,y31,rfl,h31⟩,g31⟩
 refine ⟨_,rfl,?_⟩
 replace hB:=hB.trans g31
 replace L2:=L2.gr g31
 replace L3:=L3.gr g31
 refine ⟨⟨L2,L3⟩,?_⟩
 simp only [p3,p4]
 refine oe ?_
 replace ha:=ha.kp g31.kp
 refine ec 24 (den_i ha) ?_
 rintro e34 w34 ⟨⟨x34,y34,rfl,h34⟩,g34⟩
 refine ⟨_,rfl,?_⟩
 replace hB:=hB.trans g34
 replace L2:=L2.gr g34
 replace L3:=L3.gr g34
 refine ⟨⟨L2,L3⟩,?_⟩
 simp only [p3,p4]
 refine oe ?_
 have kq37:=g28.kp.trans (g31.kp.trans g34.kp)
 replace hb:=hb.kp kq37
 refine ec 25 (mul_i hb.num h34 (by omega)) ?_
 rintro e36 w36 ⟨⟨x36,y36,rfl,h36⟩,g36⟩
 refine ⟨_,rfl,?_⟩
 replace hB:=hB.trans g36
 replace L2:=L2.gr g36
 replace L3:=L3.gr g36
 refine ⟨⟨L2,L3⟩,?_⟩
 simp only [p3,p4]
 refine oe ?_
 have kq40:=g34.kp.trans g36.kp
 replace h31:=h31.kp kq40
 refine ec 26 (compare_i h31 h36 (by omega) (by omega)) ?_
 rintro e39 w39 ⟨rfl,g39⟩
 refine ⟨_,rfl,?_⟩
 replace hB:=hB.trans g39
 replace L2:=L2.gr g39
 replace L3:=L3.gr g39
 refine ⟨⟨L2,L3⟩,?_⟩
 simp only [p3,p4]
 refine ov 4 (.int .i64 (sgn ((a.num*(b.den:Int)) - (b.num*(a.den:Int))))) ?_
 refine ord_nil ?_
 refine k10 _ _ ?_
 try clear k10 K10
 refine wp_ret ?_
 refine bodyPost_ret (v:=(.int .i64 (sgn ((a.num*(b.den:Int)) - (b.num*(a.den:Int)))))) (ret_tmp rfl rfl) rfl ⟨?_,hB⟩
 exact rfl

set_option maxRecDepth 100000 in
set_option maxHeartbeats 1000000 in
theorem rcomp_f {k m:Nat} {u0 u1 u2 u3 v0 v1 v2 v3:Value} {a b:Rat} {w:World} (ha:IsRat w k u0 u1 u2 u3 a) (hb:IsRat w m v0 v1 v2 v3 b) (_hk:k+m≤100000) (wa:a.den≠1):
    Calls Tryz.prog 45 #[(.agg #[u0,u1,u2,u3]),(.agg #[v0,v1,v2,v3])] w fun e w'=>e=.returned (.int .i64 (rcmp a b))∧Gr w w':=by
 have hka:=ha.big
 have hkb:=hb.big
 go_enter Tryz.func45,Tryz.ntmps45
 have hB:=Gr.refl w
 refine wp_seq_k (fun K1 k1=>?_)
 refine rg [0,1,2] ?_
 refine se ?_
 refine eb 33 #[u0,u1,u2,u3] 2 hB fun b2 w2 g2 L2 o2 q2 hB=>?_
 simp only [p3,p4]
 refine se ?_
 refine eb 33 #[v0,v1,v2,v3] 3 hB fun b3 w3 g3 L3 o3 q3 hB=>?_
 simp only [p3,p4]
 refine sv 4 (.int .i64 0) ?_
 refine sq_nil ?_
 refine k1 _ _ ?_
 try clear k1 K1
 refine wp_seq_k (fun K4 k4=>?_)
 refine wp_seq_k (fun K5 k5=>?_)
 refine rg [0,1,2,3,4,5] ?_
 replace L2:=L2.gr g3
 refine sw 5 (.agg #[u0,u1,u2,u3]) rfl (rl 33 0 [u0,u1,u2,u3] L2) ?_
 refine se ?_
 have kq7:=g2.kp.trans g3.kp
 replace ha:=ha.kp kq7
 refine ec 6 (whole_f ha (by omega) wa) ?_
 rintro e6 w6 ⟨rfl,g6⟩
 refine ⟨_,rfl,?_⟩
 replace hB:=hB.trans g6
 simp only [p3,p4]
 refine sv 7 (.bool false) ?_
 refine ss 8 ?_
 refine ss 9 ?_
 refine sv 10 (.bool false) ?_
 refine sq_nil ?_
 refine k5 _ _ ?_
 try clear k5 K5
 refine wp_cond_false rfl ?_
 refine wp_skip ?_
 refine k4 _ _ ?_
 try clear k4 K4
 refine wp_seq_k (fun K8 k8=>?_)
 have gd24:=Gr.drew w6
 replace hB:=hB.trans gd24
 replace L2:=L2.gr (g6.trans gd24)
 replace L3:=L3.gr (g6.trans gd24)
 refine wp_region_ord (fun w'=>Lc w' b2 #[u0,u1,u2,u3] 33∧Lc w' b3 #[v0,v1,v2,v3] 33) [(true,0),(true,1),(true,2),(true,5),(true,6),(true,7),(false,3),(false,4),(false,8),(false,9),(false,10),(true,11)] (by kernel_rfl) (by kernel_rfl) (by kernel_rfl) (by decide) (fun _ _ _ _ _ h=>h) ⟨L2,L3⟩ ?_
 refine ov 16 (.pointer (some ⟨b2,0,none⟩)) ?_
 refine ow 17 (.agg #[u0,u1]) rfl (fun w' hS=>(rl 31 0 [u0,u1] hS.1)) ?_
 refine ow 18 (.agg #[v0,v1,v2,v3]) rfl (fun w' hS=>(rl 33 0 [v0,v1,v2,v3] hS.2)) ?_
 refine ov 21 (.pointer (some ⟨b3,0,none⟩)) ?_
 refine ow 22 (.agg #[v0,v1]) rfl (fun w' hS=>(rl 31 0 [v0,v1] hS.2)) ?_
 refine ow 23 (.agg #[u0,u1,u2,u3]) rfl (fun w' hS=>(rl 33 0 [u0,u1,u2,u3] hS.1)) ?_
 refine oe ?_
 have kq27:=g2.kp.trans (g3.kp.trans (g6.kp.trans gd24.kp))
 replace hb:=hb.kp kq27
 refine ec 19 (den_i hb) ?_
 rintro e26 w26 ⟨⟨x26,y26,rfl,h26⟩,g26⟩
 refine ⟨_,rfl,?_⟩
 replace hB:=hB.trans g26
 replace L2:=L2.gr g26
 replace L3:=L3.gr g26
 refine ⟨⟨L2,L3⟩,?_⟩
 simp only [p3,p4]
 refine oe ?_
 have kq30:=g6.kp.trans (gd24.kp.trans g26.kp)
 replace ha:=ha.kp kq30
 refine ec 20 (mul_i ha.num h26 (by omega)) ?_
 rintro e29 w29 ⟨⟨x29,y29,rfl,h29⟩,g29⟩
 refine ⟨_,rfl,?_⟩
 replace hB:=hB.trans g29
 replace L2:=L2.gr g29
 replace L3:=L3.gr g29
 refine ⟨⟨L2,L3⟩,?_⟩
 simp only [p3,p4]
 refine oe ?_
 replace ha:=ha.kp g29.kp
 refine ec 24 (den_i ha) ?_
 rintro e32 w32 ⟨⟨x32,y32,rfl,h32⟩,g32⟩
 refine ⟨_,rfl,?_⟩
 replace hB:=hB.trans g32
 replace L2:=L2.gr g32
 replace L3:=L3.gr g32
 refine ⟨⟨L2,L3⟩,?_⟩
 simp only [p3,p4]
 refine oe ?_
 have kq35:=g26.kp.trans (g29.kp.trans g32.kp)
 replace hb:=hb.kp kq35
 refine ec 25 (mul_i hb.num h32 (by omega)) ?_
 rintro e34 w34 ⟨⟨x34,y34,rfl,h34⟩,g34⟩
 refine ⟨_,rfl,?_⟩
 replace hB:=hB.trans g34
 replace L2:=L2.gr g34
 replace L3:=L3.gr g34
 refine ⟨⟨L2,L3⟩,?_⟩
 simp only [p3,p4]
 refine oe ?_
 have kq38:=g32.kp.trans g34.kp
 replace h29:=h29.kp kq38
 refine ec 26 (compare_i h29 h34 (by omega) (by omega)) ?_
 rintro e37 w37 ⟨rfl,g37⟩
 refine ⟨_,rfl,?_⟩
 replace hB:=hB.trans g37
 replace L2:=L2.gr g37
 replace L3:=L3.gr g37
 refine ⟨⟨L2,L3⟩,?_⟩
 simp only [p3,p4]
 refine ov 4 (.int .i64 (sgn ((a.num*(b.den:Int)) - (b.num*(a.den:Int))))) ?_
 refine ord_nil ?_
 refine k8 _ _ ?_
 try clear k8 K8
 refine wp_ret ?_
 refine bodyPost_ret (v:=(.int .i64 (sgn ((a.num*(b.den:Int)) - (b.num*(a.den:Int)))))) (ret_tmp rfl rfl) rfl ⟨?_,hB⟩
 exact rfl

theorem compare_r {k m:Nat} {u0 u1 u2 u3 v0 v1 v2 v3:Value} {a b:Rat} {w:World} (ha:IsRat w k u0 u1 u2 u3 a) (hb:IsRat w m v0 v1 v2 v3 b) (hk:k+m≤100000):
    Calls Tryz.prog 45 #[.agg #[u0,u1,u2,u3],.agg #[v0,v1,v2,v3]] w fun e w'=>e=.returned (.int .i64 (rcmp a b))∧Gr w w':=by
  by_cases wa:a.den=1
  · by_cases wb:b.den=1
    · exact rcomp_tt ha hb hk wa wb
    · exact rcomp_tf ha hb hk wa wb
  · exact rcomp_f ha hb hk wa

theorem itoa_n (n:Nat) (h1:n<1000000000) {w:World} (ht:Tab w):
    Calls Tryz.prog 83 #[.int .i64 (n:Int)] w fun e w'=>e=.returned (.string ⟨(Lib.decDigits n).toArray⟩)∧Gr w w':=itoa_t n (by omega) (by omega) ht
theorem short9 {ao:Option Addr} {la ca u:Nat} {w:World} (h:Mag w ao la ca (u:Int)) (hl:la≤1000000):
    Calls Tryz.prog 82 #[.slice ao la ca,.int .u32 1000000000] w fun e w'=>
      (∃ go k cap,e=.returned (.tuple #[.slice go k cap,.int .u32 ((u % 1000000000:Nat):Int)])∧Mag w' go k cap ((u/1000000000:Nat):Int))∧Gr w w':=
  short_c ao la ca u 1000000000 w (by omega) h (by omega) (by omega)
theorem Mag.pos0 {w:World} {ao:Option Addr} {la ca u:Nat} (h:Mag w ao la ca (u:Int)) (hb:decide ((0:Int)<(la:Int))=true):0<u:=by
  have h0:(0:Int)<la:=by simpa using hb
  rcases Nat.eq_zero_or_pos u with e | e
  · have:=h.nl.len_zero.2 (by omega);omega
  · exact e
theorem Mag.zero0 {w:World} {ao:Option Addr} {la ca u:Nat} (h:Mag w ao la ca (u:Int)) (hb:decide ((0:Int)<(la:Int))=false):u=0:=by
  have h0:¬ (0:Int)<la:=by simpa using hb
  have:=h.nl.len_zero.1 (by omega)
  omega
theorem Mag.len9 {w:World} {ao:Option Addr} {la ca u k:Nat} (h:Mag w ao la ca (u:Int)) (hu:u<2 ^ k) (hk:k≤1000000):la≤1000000:=by
  have:=h.nl.len_sz (show Sz k (u:Int) by unfold Sz;simpa using hu)
  omega
set_option maxRecDepth 100000 in
set_option maxHeartbeats 4000000 in
theorem text_pos {k N:Nat} {s:Bool} {ao:Option Addr} {la ca:Nat} {w:World} (ha:Mag w ao la ca (N:Int)) (hN:0<N) (hNk:N<2 ^ k) (_hk:k≤900000) (ht:Tab w):
    Calls Tryz.prog 56 #[(.agg #[(.bool (s)),(.slice ao la ca)])] w fun e w'=>e=.returned (.string ⟨((if s then [45] else [])++Lib.decDigits N).toArray⟩)∧Gr w w':=by
 have hla:0<la:=by
    rcases Nat.eq_zero_or_pos la with e | e
    · have:=ha.nl.len_zero.1 e;omega
    · exact e
 have e0:((la:Int)==(0:Int))=false:=by simp;omega
 go_enter Tryz.func56,Tryz.ntmps56
 have hB:=Gr.refl w
 refine wp_seq_k (fun K1 k1=>?_)
 refine rg [0,1] ?_
 refine se ?_
 refine eb 31 #[(.bool (s)),(.slice ao la ca)] 1 hB fun b2 w2 g2 L2 o2 q2 hB=>?_
 simp only [p3,p4]
 refine sv 2 (.string ⟨([]:List UInt8).toArray⟩) ?_
 refine sq_nil ?_
 refine k1 _ _ ?_
 try clear k1 K1
 refine wp_seq_k (fun K3 k3=>?_)
 refine wp_seq_k (fun K4 k4=>?_)
 refine rg [0,1,2,3] ?_
 refine sv 9 (.pointer (some ⟨b2,1,none⟩)) ?_
 refine sw 10 (.slice ao la ca) rfl (rk 29 1 L2) ?_
 refine sv 11 (.int .i64 ((la:Int))) ?_
 refine sw 12 (.bool false) rfl (RunV.bool (x:=((la:Int)==(0:Int))) (rvk (by kernel_rfl)) e0) ?_
 refine sq_nil ?_
 refine k4 _ _ ?_
 try clear k4 K4
 refine wp_cond_false rfl ?_
 refine wp_skip ?_
 refine k3 _ _ ?_
 try clear k3 K3
 refine wp_seq_k (fun K5 k5=>?_)
 refine rg [0] ?_
 refine sv 3 (.slice none 0 0) ?_
 refine sq_nil ?_
 refine k5 _ _ ?_
 try clear k5 K5
 refine wp_seq_k (fun K6 k6=>?_)
 refine wp_seq_k (fun K7 k7=>?_)
 refine rg [0,1,2] ?_
 refine sv 13 (.pointer (some ⟨b2,1,none⟩)) ?_
 refine sw 14 (.slice ao la ca) rfl (rk 29 1 L2) ?_
 refine sv 4 (.slice ao la ca) ?_
 refine sq_nil ?_
 refine k7 _ _ ?_
 try clear k7 K7
 refine wp_block ?_
 replace ha:=ha.kp g2.kp
 refine wp_loop_inv (a:=⟨List.toArray ?l8,[]⟩) (fun n a w'=>∃ (u:Nat) (L:List (List UInt8)) (v:Value) (mo:Option Addr) (ml:Nat) (mc:Nat) (u8:Nat→Value),u=n∧a=⟨[(u8 0),(.pointer (some ⟨b2,0,none⟩)),(.string ⟨([]:List UInt8).toArray⟩),v,(.slice mo ml mc),(u8 5),(u8 6),(u8 7),undef,(u8 9),(u8 10),(u8 11),(.bool false),(u8 13),(u8 14),(u8 15),(u8 16),(u8 17),(u8 18),(u8 19),(u8 20),(u8 21),(u8 22),(u8 23),(u8 24),(u8 25),(u8 26),(u8 27),(u8 28),(u8 29),(u8 30),(u8 31),(u8 32),(u8 33),(u8 34),(u8 35),(u8 36),(u8 37),(u8 38),(u8 39),undef,undef,undef,undef,undef,undef,undef,undef,undef].toArray,[]⟩∧L++grps u=grps N∧u<2 ^ k∧Mag w' mo ml mc (u:Int)∧OwnS w' 9 w.heap.size v (L.map strV)∧Lc w' b2 #[(.bool (s)),(.slice ao la ca)] 31∧Gr w w') (N) ?_ ?_
 ·exact ⟨N,[],.slice none 0 0,ao,la,ca,(fun i=>List.getD ?l8 i undef),rfl,rfl,(by simp),hNk,ha,(OwnS.nil _ _ _),L2,hB⟩
 rintro n8 a8 w8 ⟨u,L,v,mo,ml,mc,u8,rfl,rfl,hX,hu,hm,hown,L2,hB⟩ K8 k8
 have hln:L.length≤1000000:=by have h1:=grps_len k N hNk;rw [← hX,List.length_append] at h1;omega
 have h9:=dec9 u
 have h9r:(Lib.repeatL [48] (9 - (Lib.decDigits (u % 1000000000)).length)).length≤9:=by rw [Lib.repeatL_length];simp
 refine wp_seq_k (fun K9 k9=>?_)
 refine wp_seq_k (fun K10 k10=>?_)
 refine rg [0,1,2] ?_
 refine sv 15 (.slice mo ml mc) ?_
 refine sv 16 (.int .i64 ((ml:Int))) ?_
 refine sv 17 (.bool (decide ((0:Int)<(ml:Int)))) ?_
 refine sq_nil ?_
 refine k10 _ _ ?_
 try clear k10 K10
 refine wp_cond_split (t:=decide ((0:Int)<(ml:Int))) rfl (fun hb11=>?_) (fun hb11=>?_)
 ·have hu0:=hb11
  refine wp_skip ?_
  refine k9 _ _ ?_
  try clear k9 K9
  refine wp_block ?_
  refine wp_seq_k (fun K12 k12=>?_)
  refine rg [0,1,2,3,4,5,6] ?_
  refine sv 19 (.slice mo ml mc) ?_
  refine se ?_
  refine ec 20 (short9 hm (hm.len9 hu (by omega))) ?_
  rintro e13 w13 ⟨⟨go13,k13,cap13,rfl,h13⟩,g13⟩
  refine ⟨_,rfl,?_⟩
  replace hB:=hB.trans g13
  simp only [p3,p4]
  refine sv 18 (.tuple #[(.slice go13 k13 cap13),(.int .u32 (((u % 1000000000:Nat):Int)))]) ?_
  refine sv 21 (.slice go13 k13 cap13) ?_
  refine sv 22 (.int .u32 (((u % 1000000000:Nat):Int))) ?_
  refine sv 5 (.slice go13 k13 cap13) ?_
  refine sv 6 (.int .u32 (((u % 1000000000:Nat):Int))) ?_
  refine sq_nil ?_
  refine k12 _ _ ?_
  try clear k12 K12
  refine wp_seq_k (fun K14 k14=>?_)
  refine rg [0,1,2,3] ?_
  refine sv 23 (.int .u32 (((u % 1000000000:Nat):Int))) ?_
  refine sw 24 (.int .i64 (((u % 1000000000:Nat):Int))) rfl (RunV.int (x:=IntKind.i64.wrap (((u % 1000000000:Nat):Int))) (y:=((u % 1000000000:Nat):Int)) (rvk (by kernel_rfl)) (by first | rfl | (rw [IntKind.wrap_i64];omega))) ?_
  refine se ?_
  refine ec 25 (itoa_n (u % 1000000000) (by omega) (ht.gr hB)) ?_
  rintro e15 w15 ⟨rfl,g15⟩
  refine ⟨_,rfl,?_⟩
  replace hB:=hB.trans g15
  simp only [p3,p4]
  refine sv 7 (.string ⟨(Lib.decDigits (u % 1000000000):List UInt8).toArray⟩) ?_
  refine sq_nil ?_
  refine k14 _ _ ?_
  try clear k14 K14
  refine wp_seq_k (fun K16 k16=>?_)
  refine wp_seq_k (fun K17 k17=>?_)
  refine rg [0,1,2] ?_
  refine sv 26 (.slice go13 k13 cap13) ?_
  refine sv 27 (.int .i64 ((k13:Int))) ?_
  refine sv 28 (.bool (decide ((0:Int)<(k13:Int)))) ?_
  refine sq_nil ?_
  refine k17 _ _ ?_
  try clear k17 K17
  refine wp_cond_split (t:=decide ((0:Int)<(k13:Int))) rfl (fun hb18=>?_) (fun hb18=>?_)
  ·refine rg [0,1,2,3,4,5,6] ?_
   refine sv 29 (.string ⟨(Lib.decDigits (u % 1000000000):List UInt8).toArray⟩) ?_
   refine sv 30 (.int .i64 (((Lib.decDigits (u % 1000000000)).length:Int))) ?_
   refine sw 31 (.int .i64 ((9 - ((Lib.decDigits (u % 1000000000)).length:Int)))) rfl (RunV.int (x:=IntKind.i64.wrap ((9 - ((Lib.decDigits (u % 1000000000)).length:Int)))) (y:=(9 - ((Lib.decDigits (u % 1000000000)).length:Int))) (rvk (by kernel_rfl)) (by first | rfl | (rw [IntKind.wrap_i64];omega))) ?_
   refine se ?_
   refine ec 32 (repeat9 (Lib.decDigits (u % 1000000000)).length (dec9 u) _) ?_
   rintro e19 w19 ⟨rfl,g19⟩
   refine ⟨_,rfl,?_⟩
   replace hB:=hB.trans g19
   simp only [p3,p4]
   refine sv 33 (.string ⟨(Lib.decDigits (u % 1000000000):List UInt8).toArray⟩) ?_
   refine sw 34 (.string ⟨((Lib.repeatL [48] (9 - (Lib.decDigits (u % 1000000000)).length))++(Lib.decDigits (u % 1000000000)):List UInt8).toArray⟩) rfl (rv_cat 9 9 _ _ (Lib.repeatL [48] (9 - (Lib.decDigits (u % 1000000000)).length)) (Lib.decDigits (u % 1000000000)) rfl rfl rfl (by omega)) ?_
   refine sv 7 (.string ⟨((Lib.repeatL [48] (9 - (Lib.decDigits (u % 1000000000)).length))++(Lib.decDigits (u % 1000000000)):List UInt8).toArray⟩) ?_
   refine sq_nil ?_
   refine k16 _ _ ?_
   try clear k16 K16
   refine wp_seq_k (fun K20 k20=>?_)
   refine rg [0,1,2,3,4] ?_
   refine sv 35 v ?_
   refine sv 36 (.string ⟨((Lib.repeatL [48] (9 - (Lib.decDigits (u % 1000000000)).length))++(Lib.decDigits (u % 1000000000)):List UInt8).toArray⟩) ?_
   refine se ?_
   refine eff_bs 9 1 #[(.string ⟨((Lib.repeatL [48] (9 - (Lib.decDigits (u % 1000000000)).length))++(Lib.decDigits (u % 1000000000)):List UInt8).toArray⟩)] (some 37) rfl (fun _=>by kernel_rfl) (fun b21 w21 g21 L21 q21=>?_)
   replace L2:=L2.gr (g13.trans (g15.trans g19))
   replace hB:=hB.trans g21
   simp only [putl,p3,p4]
   refine se ?_
   replace hown:=hown.gr (g13.trans (g15.trans (g19.trans g21)))
   refine eff_append1 _ _ 135 9 w.heap.size (.string ⟨([]:List UInt8).toArray⟩) v _ b21 (.string ⟨((Lib.repeatL [48] (9 - (Lib.decDigits (u % 1000000000)).length))++(Lib.decDigits (u % 1000000000)):List UInt8).toArray⟩) 1 (some 38) 16 rfl rfl rfl rfl hown L21 rfl w hB (Nat.le_refl _) (Below.size hB) (by rw [List.length_map];exact hln) (by decide) (by kernel_rfl) (by kernel_rfl) rfl (fun v22 w22 own22 wt22 hb22=>?_)
   replace hB:=hb22
   replace own22:=OwnS.snoc (f:=strV) own22
   simp only [putl,p3,p4]
   refine sv 3 v22 ?_
   refine sq_nil ?_
   refine k20 _ _ ?_
   try clear k20 K20
   refine rg [0,1] ?_
   refine sv 39 (.slice go13 k13 cap13) ?_
   refine sv 4 (.slice go13 k13 cap13) ?_
   refine sq_nil ?_
   have kq23:=g15.kp.trans (g19.kp.trans (g21.kp.trans (wt22.kp (by decide))))
   replace h13:=h13.kp kq23
   replace L2:=wt22.lc (L2.gr g21) (by decide)
   refine k8 (u/1000000000) ⟨List.toArray ?l24,[]⟩ _ (Nat.div_lt_self (Mag.pos0 hm hu0) (by omega)) ?_
   exact ⟨u/1000000000,_,v22,go13,k13,cap13,(fun i=>List.getD ?l24 i undef),rfl,rfl,(grps_step hX (Mag.pos0 hm hu0) (grp_hi (Mag.pos0 h13 hb18))),(Nat.lt_of_le_of_lt (Nat.div_le_self _ _) hu),h13,own22,L2,hB⟩
  ·refine wp_skip ?_
   refine k16 _ _ ?_
   try clear k16 K16
   refine wp_seq_k (fun K25 k25=>?_)
   refine rg [0,1,2,3,4] ?_
   refine sv 35 v ?_
   refine sv 36 (.string ⟨(Lib.decDigits (u % 1000000000):List UInt8).toArray⟩) ?_
   refine se ?_
   refine eff_bs 9 1 #[(.string ⟨(Lib.decDigits (u % 1000000000):List UInt8).toArray⟩)] (some 37) rfl (fun _=>by kernel_rfl) (fun b26 w26 g26 L26 q26=>?_)
   replace L2:=L2.gr (g13.trans g15)
   replace hB:=hB.trans g26
   simp only [putl,p3,p4]
   refine se ?_
   replace hown:=hown.gr (g13.trans (g15.trans g26))
   refine eff_append1 _ _ 135 9 w.heap.size (.string ⟨([]:List UInt8).toArray⟩) v _ b26 (.string ⟨(Lib.decDigits (u % 1000000000):List UInt8).toArray⟩) 1 (some 38) 16 rfl rfl rfl rfl hown L26 rfl w hB (Nat.le_refl _) (Below.size hB) (by rw [List.length_map];exact hln) (by decide) (by kernel_rfl) (by kernel_rfl) rfl (fun v27 w27 own27 wt27 hb27=>?_)
   replace hB:=hb27
   replace own27:=OwnS.snoc (f:=strV) own27
   simp only [putl,p3,p4]
   refine sv 3 v27 ?_
   refine sq_nil ?_
   refine k25 _ _ ?_
   try clear k25 K25
   refine rg [0,1] ?_
   refine sv 39 (.slice go13 k13 cap13) ?_
   refine sv 4 (.slice go13 k13 cap13) ?_
   refine sq_nil ?_
   have kq28:=g15.kp.trans (g26.kp.trans (wt27.kp (by decide)))
   replace h13:=h13.kp kq28
   replace L2:=wt27.lc (L2.gr g26) (by decide)
   refine k8 (u/1000000000) ⟨List.toArray ?l29,[]⟩ _ (Nat.div_lt_self (Mag.pos0 hm hu0) (by omega)) ?_
   exact ⟨u/1000000000,_,v27,go13,k13,cap13,(fun i=>List.getD ?l29 i undef),rfl,rfl,(grps_step hX (Mag.pos0 hm hu0) (grp_lo (by rw [Mag.zero0 h13 hb18];omega))),(Nat.lt_of_le_of_lt (Nat.div_le_self _ _) hu),h13,own27,L2,hB⟩
 ·have hz:=Mag.zero0 hm hb11
  subst hz
  rw [grps_zero,List.append_nil] at hX
  have hL0:0<L.length:=by rw [hX];exact grps_len0 hN
  have htx:L.reverse.flatten=Lib.decDigits N:=by rw [hX];exact grps_text N N (Nat.le_refl _) hN
  have hfl:L.reverse.flatten.length≤140737488355328:=by rw [htx];have:=dec_len_bits k N hNk;omega
  refine wp_exit ?_
  simp only [Exit.then,Exit.inBlock,↓reduceIte]
  refine k6 _ _ ?_
  try clear k6 K6
  refine wp_seq_k (fun K30 k30=>?_)
  refine rg [0,1] ?_
  refine sv 40 v ?_
  refine se ?_
  refine eff_call (some 41) rfl (by kernel_rfl) (reverse_own hown hL0) ?_
  rintro e31 w31 ⟨rfl,own31,wt31,hg31⟩
  refine ⟨_,rfl,?_⟩
  replace hB:=hg31 _ hB (Nat.le_refl _)
  simp only [putl,p3,p4]
  refine sq_nil ?_
  refine k30 _ _ ?_
  try clear k30 K30
  refine wp_seq_k (fun K32 k32=>?_)
  refine rg [0,1,2] ?_
  refine sv 42 v ?_
  refine se ?_
  refine ec 43 (join_own own31 (by rw [List.length_reverse];exact hL0) hfl (by rw [List.length_reverse];exact hln)) ?_
  rintro e33 w33 ⟨rfl,g33⟩
  refine ⟨_,rfl,?_⟩
  replace hB:=hB.trans g33
  simp only [p3,p4]
  refine sv 8 (.string ⟨(((L).reverse).flatten:List UInt8).toArray⟩) ?_
  refine sq_nil ?_
  refine k32 _ _ ?_
  try clear k32 K32
  refine wp_seq_k (fun K34 k34=>?_)
  refine wp_seq_k (fun K35 k35=>?_)
  refine rg [0,1] ?_
  refine sv 44 (.pointer (some ⟨b2,0,none⟩)) ?_
  replace L2:=(wt31.lc L2 (by decide)).gr g33
  refine sw 45 (.bool (s)) rfl (rk 4 0 L2) ?_
  refine sq_nil ?_
  refine k35 _ _ ?_
  try clear k35 K35
  refine wp_cond_split (t:=s) rfl (fun hb36=>?_) (fun hb36=>?_)
  ·refine wp_seq_k (fun K37 k37=>?_)
   refine rg [0,1,2] ?_
   refine sv 46 (.string ⟨(((L).reverse).flatten:List UInt8).toArray⟩) ?_
   refine sw 47 (.string ⟨(([45])++(((L).reverse).flatten):List UInt8).toArray⟩) rfl (rv_cat 9 9 _ _ ([45]) (((L).reverse).flatten) rfl rfl rfl (by simp only [List.length_cons,List.length_nil];omega)) ?_
   refine sv 2 (.string ⟨(([45])++(((L).reverse).flatten):List UInt8).toArray⟩) ?_
   refine sq_nil ?_
   refine k37 _ _ ?_
   try clear k37 K37
   refine wp_ret ?_
   simp only [Exit.then]
   refine bodyPost_ret (v:=(.string ⟨(([45])++(((L).reverse).flatten):List UInt8).toArray⟩)) (ret_tmp rfl rfl) rfl ⟨?_,hB⟩
   exact (by rw [hb36];show Ending.returned _=_;rw [htx];rfl)
  ·refine wp_skip ?_
   refine k34 _ _ ?_
   try clear k34 K34
   refine wp_seq_k (fun K38 k38=>?_)
   refine rg [0,1] ?_
   refine sv 48 (.string ⟨(((L).reverse).flatten:List UInt8).toArray⟩) ?_
   refine sv 2 (.string ⟨(((L).reverse).flatten:List UInt8).toArray⟩) ?_
   refine sq_nil ?_
   refine k38 _ _ ?_
   try clear k38 K38
   refine wp_ret ?_
   refine bodyPost_ret (v:=(.string ⟨(((L).reverse).flatten:List UInt8).toArray⟩)) (ret_tmp rfl rfl) rfl ⟨?_,hB⟩
   exact (by rw [hb36];show Ending.returned _=_;rw [htx];rfl)

set_option maxRecDepth 100000 in
set_option maxHeartbeats 1000000 in
theorem text_zero {ao:Option Addr} {ca:Nat} (w:World):
    Calls Tryz.prog 56 #[(.agg #[(.bool false),(.slice ao 0 ca)])] w fun e w'=>e=.returned (.string ⟨#[48]⟩)∧Gr w w':=by
 go_enter Tryz.func56,Tryz.ntmps56
 have hB:=Gr.refl w
 refine wp_seq_k (fun K1 k1=>?_)
 refine rg [0,1] ?_
 refine se ?_
 refine eb 31 #[(.bool false),(.slice ao 0 ca)] 1 hB fun b2 w2 g2 L2 o2 q2 hB=>?_
 simp only [p3,p4]
 refine sv 2 (.string ⟨([]:List UInt8).toArray⟩) ?_
 refine sq_nil ?_
 refine k1 _ _ ?_
 try clear k1 K1
 refine wp_seq_k (fun K3 k3=>?_)
 refine wp_seq_k (fun K4 k4=>?_)
 refine rg [0,1,2,3] ?_
 refine sv 9 (.pointer (some ⟨b2,1,none⟩)) ?_
 refine sw 10 (.slice ao 0 ca) rfl (rk 29 1 L2) ?_
 refine sv 11 (.int .i64 0) ?_
 refine sv 12 (.bool true) ?_
 refine sq_nil ?_
 refine k4 _ _ ?_
 try clear k4 K4
 refine wp_cond_true rfl ?_
 refine wp_seq_k (fun K5 k5=>?_)
 refine rg [0] ?_
 refine sv 2 (.string ⟨([48]:List UInt8).toArray⟩) ?_
 refine sq_nil ?_
 refine k5 _ _ ?_
 try clear k5 K5
 refine wp_ret ?_
 simp only [Exit.then]
 refine bodyPost_ret (v:=(.string ⟨([48]:List UInt8).toArray⟩)) (ret_tmp rfl rfl) rfl ⟨?_,hB⟩
 exact rfl

theorem text_i {k:Nat} {x y:Value} {z:Int} {w:World} (hz:IsInt w k x y z) (hk:k≤900000) (ht:Tab w):
    Calls Tryz.prog 56 #[.agg #[x,y]] w fun e w'=>e=.returned (.string ⟨(Lib.itoa z).toArray⟩)∧Gr w w':=by
  obtain ⟨ao,la,ca,rfl,rfl,ha,hs⟩:=hz
  by_cases h0:z=0
  · subst h0
    have:la=0:=ha.nl.len_zero.2 rfl
    subst this
    have e1:decide ((0:Int)<0)=false:=by decide
    have e2:Lib.itoa 0=[48]:=by unfold Lib.itoa;rw [if_neg (by omega)];exact dec_small (by decide)
    rw [e1,e2]
    exact text_zero w
  · have:=text_pos (s:=decide (z<0)) ha (by omega) (by unfold Sz at hs;exact hs) hk ht
    refine this.mono ?_
    rintro e w1 ⟨he,g⟩
    refine ⟨?_,g⟩
    rw [he]
    unfold Lib.itoa
    by_cases hz:z<0
    · simp [hz]
    · have:z.toNat=z.natAbs:=by omega
      simp [hz,this]

theorem itoa_len {k:Nat} {z:Int} (h:Sz k z):(Lib.itoa z).length≤k+2:=by
  unfold Lib.itoa
  have h1:=dec_len_bits k z.natAbs h
  split
  · simp;omega
  · have:z.toNat=z.natAbs:=by omega
    rw [this];omega
theorem divInt_parts {N D:Int} (h0:0<D):(Rat.divInt N D).num=N/(Int.gcd N D:Int)∧((Rat.divInt N D).den:Int)=D/(Int.gcd N D:Int)∧0<(Int.gcd N D:Int):=by
  refine ⟨by rw [Rat.num_divInt,Int.sign_eq_one_of_pos h0,Int.one_mul,Int.gcd_comm],?_,?_⟩
  · rw [Rat.den_divInt,if_neg (by omega),Int.gcd_comm,Int.natCast_ediv]
    congr 1
    omega
  · have:Int.gcd N D≠0:=by rw [Ne,Int.gcd_eq_zero_iff];omega
    omega
theorem sz_div {k:Nat} {N g:Int} (hN:Sz k N) (hg:0<g):Sz k (N/g):=by
  refine hN.of_le ?_
  rcases Int.lt_or_le N 0 with h | h
  · have h1:N≤N/g:=by
      rw [Int.le_ediv_iff_mul_le hg]
      have:N*g≤N*1:=Int.mul_le_mul_of_nonpos_left (by omega) (by omega)
      omega
    have h2:N/g<0:=Int.ediv_neg_of_neg_of_pos h hg
    omega
  · have h1:N/g≤N:=Int.ediv_le_self _ h
    have h2:0≤N/g:=Int.ediv_nonneg h (by omega)
    omega
section
variable {l:List UInt8} {most:Nat}
end
theorem head48 {D:ByteArray} (h:0<D.size):(D.data.toList[0]?==some 48)=((D[0].toNat:Int)==48):=by
  rw [toList_get h,Bool.eq_iff_iff]
  simp only [beq_iff_eq,Option.some.injEq]
  rw [← UInt8.toNat_inj]
  have:(48:UInt8).toNat=48:=rfl
  omega
theorem ratL_len {k:Nat} {q:Rat} (h1:Sz k q.num) (h2:Sz k (q.den:Int)):(ratL q).length≤2*k+5:=by
  have a:=itoa_len h1
  have b:=itoa_len h2
  unfold ratL
  split
  · omega
  · simp only [List.length_append,List.length_singleton];omega
theorem den_pos_i (q:Rat):0<(q.den:Int):=Int.natCast_pos.2 q.den_pos
theorem den2_pos (a b:Rat):0<(a.den:Int)*(b.den:Int):=Int.mul_pos (den_pos_i a) (den_pos_i b)
theorem rsz_neg {k:Nat} {a:Rat} (h:Sz k a.num∧Sz k (a.den:Int)):Sz k (-a).num∧Sz k ((-a).den:Int):=by
  rw [Rat.neg_num,Rat.neg_den]
  exact ⟨h.1.neg,h.2⟩
-- LEFT OUT:r1_check r1_digits r1_digits_i r1_divmod r1_gcd r1_minus r1_minus_f r1_minus_i r1_mul r1_order r1_order_i r1_plus r1_plus_i r1_sign_i r1_sign_n r1_sign_p r1_sign_v r1_sign_z r1_sub_one r1_text r1_text_s r1_text_z r1_trim r2_check r2_digits r2_parts r2_parts_q r2_slash r2_zeros text_at wpList_makeI
set_option maxRecDepth 100000 in
set_option maxHeartbeats 2000000 in
theorem scale_c (ao:Option Addr) (la ca:Nat) (m x p:Int) (w:World) (hla:la≤900000) (ha:Mag w ao la ca m) (hx0:0≤x) (hx1:x<4294967296) (hp0:0≤p) (hp1:p<4294967296):
    Calls Tryz.prog 108 #[.slice ao la ca,.int .u32 x,.int .u32 p] w fun e w'=>(∃ go k cap,e=.returned (.slice go k cap)∧Mag w' go k cap (m*x+p)∧k≤la+1)∧Gr w w':=by
  go_enter Tryz.func108,Tryz.ntmps108
  go_wp2_with (at_make;refine wpList_make32 _ rfl _ _ rfl _ _ (la+1) rfl rfl (by omega) (by omega) (by omega) ?_)
  intro w1 hO hB hsz
  go_wp2
  go_loopw [8,19] (fun c i wr=>∃ (k:Nat) (cr:Int) (d:Nat→Int),k≤la∧i=.int .i64 k∧c=.int .u64 cr∧0≤cr∧cr<4294967296∧Hid (hi (m*x+p) k=hi m k*x+cr)∧Below w.heap.size w wr∧
      Own wr w.heap.size (la+1) d∧Hid (∀ j,j<k→d j=dg (m*x+p) j)) (fun _ i _=>la - (intOf i).toNat)
  case atStart=>exact ⟨0,p,_,Nat.zero_le _,rfl,rfl,hp0,hp1,by simp [Hid,hi_zero],hB,hO,fun j hj=>by omega⟩
  case round=>
    obtain ⟨k,cr,d,hk,rfl,rfl,hc0,hc1,hz,hB,hO,hd⟩:=hrel
    by_cases hlt:k<la
    · obtain ⟨b1,off1,rfl,hcs1⟩:=(ha.row.below hB).at_ (by omega)
      have hcell1:=hcs1 k hlt
      clear hcs1
      have d0:=dg_nonneg m k
      have d1:=dg_lt m k
      have hcell3:=hO.cell k (by omega)
      have hfree:=hO.free k
      have hs:=scale_step hz.out hc0 hc1 hx0 hx1
      have z0:=hs.2.2.2.2.1
      have z1:=hs.2.2.2.2.2
      have z2:dg m k*x≤18446744065119617025:=by
        have:=Int.mul_le_mul (show dg m k≤4294967295 by omega) (show x≤4294967295 by omega) hx0 (by omega)
        omega
      have HS:=Lib.hid hs
      clear hs
      go_wp2
      have hs:=HS.out
      go_roundw
      case rel=>
        refine ⟨k+1,_,_,by omega,by go_num,rfl,hs.2.2.1,hs.2.2.2.1,hs.2.1,hB.setCell (Nat.le_refl _) _,hO.set (by omega) _,fun j hj=>?_⟩
        by_cases e:j=k
        · subst e;rw [upd_same,hs.1]
        · rw [upd_other _ _ e];exact hd.out j (by omega)
      case measure=>simp [intOf];omega
    · obtain rfl:k=la:=by omega
      have hcell3:=hO.cell k (by omega)
      have hfree:=hO.free k
      have hm0:0≤m*x+p:=by have:=Int.mul_nonneg ha.nl.nonneg hx0;omega
      have htop:hi (m*x+p) (k+1)=0:=by
        have h1:=hz.out
        rw [ha.nl.top,Int.zero_mul] at h1
        rw [hi_succ];omega
      have hdk:dg (m*x+p) k=cr:=by
        have h1:=hz.out
        rw [ha.nl.top,Int.zero_mul] at h1
        unfold dg;omega
      have HT:=Lib.hid htop
      have HD:=Lib.hid hdk
      clear htop hdk
      go_wp2_with fail
      have hO2:=(hO.set (Nat.lt_succ_self k) cr).congr (d':=dg (m*x+p)) (fun j hj=>by
        by_cases e:j=k
        · subst e;rw [upd_same,HD.out]
        · rw [upd_other _ _ e];exact hd.out j (by omega))
      refine (trim_c _ _ _ (m*x+p) _ (by omega) (Nat.le_refl _) hm0 HT.out hO2.row).mono ?_
      rintro e w3 ⟨⟨n,rfl,hm,hn⟩,rfl⟩
      go_wp2
      go_ret
      exact ⟨⟨_,_,_,rfl,hm,hn⟩,hB.setCell (Nat.le_refl _) _⟩
theorem valL_from (l:List UInt8):∀ acc:Nat,l.foldl (fun a c=>a*10+(c.toNat - 48)) acc=acc*10 ^ l.length+valL l:=by
  induction l with
  | nil=>intro acc;simp [valL]
  | cons c l ih=>
    intro acc
    have hv:valL (c::l)=(c.toNat - 48)*10 ^ l.length+valL l:=by
      show l.foldl _ (0*10+(c.toNat - 48))=_
      rw [ih];simp
    rw [List.foldl_cons,ih,hv,List.length_cons,Nat.pow_succ,Nat.add_mul]
    have:acc*10*10 ^ l.length=acc*(10 ^ l.length*10):=by grind
    omega
theorem valL_append (a b:List UInt8):valL (a++b)=valL a*10 ^ b.length+valL b:=by
  show (a++b).foldl _ 0=_
  rw [List.foldl_append,valL_from];rfl
theorem valL_lt (l:List UInt8) (h:∀ c ∈ l,48≤c.toNat∧c.toNat≤57):valL l<10 ^ l.length:=by
  induction l with
  | nil=>simp [valL]
  | cons c l ih=>
    have h1:=valL_append [c] l
    have h2:=ih (fun x hx=>h x (by simp [hx]))
    have h3:=h c (by simp)
    have h4:valL [c]≤9:=by simp [valL];omega
    rw [List.singleton_append] at h1
    rw [h1,List.length_cons,Nat.pow_succ]
    have:=Nat.mul_le_mul_right (10 ^ l.length) h4
    omega
theorem parseM:∀ (l:List UInt8) (acc:Nat),(∀ c ∈ l,48≤c.toNat∧c.toNat≤57)→acc*10 ^ l.length+10 ^ l.length≤1000000000→Lib.parseUintM (2 ^ 32 - 1) acc l=.ok (acc*10 ^ l.length+valL l)
  | [],acc,_,_=>by simp [Lib.parseUintM,valL]
  | c::l,acc,h,hb=>by
    have hc:=h c (by simp)
    have hp:0<10 ^ l.length:=Nat.pow_pos (by omega)
    rw [List.length_cons,Nat.pow_succ] at hb
    have h1:(acc+1)*(10 ^ l.length*10)≤1000000000:=by rw [Nat.add_mul];omega
    have h2:(acc+1)*10≤1000000000:=by
      have:(acc+1)*10≤(acc+1)*(10 ^ l.length*10):=Nat.mul_le_mul_left _ (by omega)
      omega
    have e:acc*(10 ^ l.length*10)=acc*10*10 ^ l.length:=by grind
    have h3:(c.toNat - 48)*10 ^ l.length≤9*10 ^ l.length:=Nat.mul_le_mul_right _ (by omega)
    have ih:=parseM l (acc*10+(c.toNat - 48)) (fun x hx=>h x (by simp [hx])) (by rw [Nat.add_mul];omega)
    unfold Lib.parseUintM
    rw [if_pos hc,if_neg (by omega),if_neg (by omega),ih]
    have h5:=valL_append [c] l
    rw [List.singleton_append] at h5
    have h6:valL [c]=c.toNat - 48:=by simp [valL]
    rw [h5,h6,List.length_cons,Nat.pow_succ,Nat.add_mul,e]
    congr 1
    omega
theorem parse32 {l:List UInt8} (h:∀ c ∈ l,48≤c.toNat∧c.toNat≤57) (h0:l≠[]) (h9:l.length≤9):Lib.parseUintB 32 l=.ok (valL l):=by
  unfold Lib.parseUintB
  rw [if_neg h0,parseM l 0 h (by
    have:10 ^ l.length≤10 ^ 9:=Nat.pow_le_pow_right (by omega) h9
    omega)]
  simp
theorem parse_uint (R:ByteArray) (h:∀ c ∈ R.data.toList,48≤c.toNat∧c.toNat≤57) (h0:0<R.size) (h9:R.size≤9) (w:World):
    Calls Tryz.prog 107 #[.string R,.int .i64 10,.int .i64 32] w fun e w'=>e=.returned (.tuple #[.int .u64 (valL R.data.toList:Int),.nilIface])∧Gr w w':=by
  have hl:R.data.toList.length=R.size:=by simp
  refine (Tryz.strconv_ParseUint_10_at32_ok R (by omega) (valL R.data.toList) (parse32 h (fun e=>by rw [e] at hl;simp at hl;omega) (by omega)) w).mono ?_
  rintro e w1 ⟨he,hw⟩
  refine ⟨he,?_⟩
  rcases hw with rfl | rfl
  · exact Gr.refl _
  · exact Go.Joins.below_bytesWorld _ _ _ _ (Nat.le_refl _)
/-- the closure:is it no digit? -/
theorem nodigit (x:Nat) (w:World):Calls Tryz.prog 106 #[.int .i32 (x:Int)] w fun e w'=>e=.returned (.bool (decide (x<48)||decide (57<x)))∧∃ q,w'=w.drewN q:=by
  by_cases h1:(x:Int)<48
  · have e1:decide (x<48)=true:=by simp;omega
    have E:=Lib.hid e1
    clear e1
    go_enter Tryz.func106,Tryz.ntmps106
    go_wp2
    go_ret
    exact ⟨by rw [E.out];rfl,0,rfl⟩
  · have e1:decide (x<48)=false:=by simp;omega
    by_cases h2:57<(x:Int)
    · have e2:(decide (x<48)||decide (57<x))=true:=by simp;omega
      have E:=Lib.hid e2
      clear e1 e2
      go_enter Tryz.func106,Tryz.ntmps106
      go_wp2
      go_ret
      exact ⟨by rw [E.out];rfl,0,rfl⟩
    · have e2:(decide (x<48)||decide (57<x))=false:=by simp;omega
      have E:=Lib.hid e2
      clear e1 e2
      go_enter Tryz.func106,Tryz.ntmps106
      go_wp2
      go_ret
      exact ⟨by rw [E.out];rfl,0,rfl⟩
theorem idx_none {D:ByteArray} (h:∀ c ∈ D.data.toList,48≤c.toNat∧c.toNat≤57):∀ (f pos:Nat),Lib.idxFuncFrom (fun x=>decide (x<48)||decide (57<x)) true D f pos=-1
  | 0,_=>rfl
  | f+1,pos=>by
    unfold Lib.idxFuncFrom
    by_cases hp:pos<D.size
    · have hc:=h D[pos] (List.mem_of_getElem? (toList_get hp))
      rw [if_pos hp,decode_ascii D pos hp (by omega),if_neg (by simp;omega)]
      exact idx_none h f _
    · rw [if_neg hp]
theorem contains_no (D:ByteArray) (h:∀ c ∈ D.data.toList,48≤c.toNat∧c.toNat≤57) (w:World):
    Calls Tryz.prog 105 #[.string D,.func (.func 106) #[] #[]] w fun e w'=>e=.returned (.bool false)∧Gr w w':=by
  refine (Tryz.strings_ContainsFunc 106 #[] (enters_of Tryz.func106 (by kernel_rfl) rfl) (fun x=>decide (x<48)||decide (57<x)) D w (fun W x _=>nodigit x W)).mono ?_
  rintro e w1 ⟨he,hb⟩
  refine ⟨?_,hb⟩
  rw [he]
  unfold Lib.idxFunc
  rw [idx_none h]
  rfl
theorem cut_minus (z:Int) (w:World):Calls Tryz.prog 104 #[.string ⟨(Lib.itoa z).toArray⟩,.string ⟨#[45]⟩] w fun e w'=>
    e=.returned (.tuple #[.string ⟨(Lib.decDigits z.natAbs).toArray⟩,.bool (decide (z<0))])∧w=w':=by
  refine (Tryz.strings_CutPrefix _ _ _).mono ?_
  rintro e w1 ⟨he,rfl⟩
  refine ⟨?_,rfl⟩
  rw [he]
  show Ending.returned (.tuple #[.string ⟨(Lib.trimPrefix (Lib.itoa z) [45]).toArray⟩,.bool (Lib.hasPrefix (Lib.itoa z) [45])])=_
  by_cases h:z<0
  · have h1:Lib.hasPrefix (Lib.itoa z) [45]=true:=by rw [itoa_neg h];simp [Lib.hasPrefix]
    rw [Lib.trimPrefix,h1,if_pos rfl,itoa_neg h,decide_eq_true h];rfl
  · have h1:Lib.hasPrefix (Lib.itoa z) [45]=false:=by
      rw [itoa_nonneg (by omega)]
      rcases hd:Lib.decDigits z.natAbs with _ | ⟨c,l⟩
      · rfl
      · have hc:=dec_all z.natAbs c (by rw [hd];simp)
        have hne:¬ (45:UInt8)=c:=fun e=>by rw [← e] at hc;simp at hc
        simp [Lib.hasPrefix,List.isPrefixOf,hne]
    rw [Lib.trimPrefix,h1,if_neg (by decide),itoa_nonneg (by omega),decide_eq_false h]
def strSize (v:Value):Nat:=match v with | .string s=>s.size | _=>0
theorem extract_take (R:ByteArray) (q:Nat):(R.extract 0 q).data.toList=R.data.toList.take q:=by rw [Lib.extract_data];simp
theorem extract_drop (R:ByteArray) (q:Nat):(R.extract q R.size).data.toList=R.data.toList.drop q:=by
  rw [Lib.extract_data,List.take_of_length_le];simp
set_option maxRecDepth 100000 in
set_option maxHeartbeats 4000000 in
theorem parse_i {k:Nat} (z:Int) (hz:Sz k z) (hk:k≤60000) (w:World):
    Calls Tryz.prog 73 #[.string ⟨(Lib.itoa z).toArray⟩] w fun e w'=>(∃ x y,e=.returned (.tuple #[.agg #[x,y],.int .i64 0])∧IsInt w' k x y z)∧Gr w w':=by
  obtain ⟨n,hn⟩:∃ n,n=z.natAbs:=⟨_,rfl⟩
  have hnk:n<2 ^ k:=by rw [hn];exact hz
  have hlen:=dec_len_bits k n hnk
  have hit:(Lib.itoa z).length≤k+2:=by
    by_cases h:z<0
    · rw [itoa_neg h,← hn];simp;omega
    · rw [itoa_nonneg (by omega),← hn];omega
  obtain ⟨s,hs⟩:∃ s:ByteArray,s=⟨(Lib.itoa z).toArray⟩:=⟨_,rfl⟩
  have hss:s.size≤65536:=by rw [hs];show (Lib.itoa z).toArray.size≤_;simp;omega
  obtain ⟨D,hD⟩:∃ D:ByteArray,D=⟨(Lib.decDigits n).toArray⟩:=⟨_,rfl⟩
  have HD:Hid (D.data.toList=Lib.decDigits n):=by rw [Hid,hD]
  have hDs:D.size=(Lib.decDigits n).length:=by rw [hD];show (Lib.decDigits n).toArray.size=_;simp
  have hD0:0<D.size:=by rw [hDs];exact dec_pos n
  have hD1:D.size≤60001:=by omega
  have hc:=cut_minus z (w.alloc (.cells #[.bool false,.slice none 0 0] 31))
  rw [← hn,← hD,← hs] at hc
  have hda:∀ c ∈ D.data.toList,48≤c.toNat∧c.toNat≤57:=by rw [HD.out];exact dec_all n
  have hcn:=contains_no D hda
  have hne:(D.toList==[])=false:=by
    rw [beq_eq_false_iff_ne,ByteArray.toList_eq,HD.out];exact dec_ne' n
  have hz0:(D[0].toNat:Int)=48→D.size=1∧n=0:=by
    intro h
    rcases Nat.eq_zero_or_pos n with e | e
    · rw [hDs,e];exact ⟨by rw [dec_zero];rfl,rfl⟩
    · obtain ⟨c,hc1,hc2,_⟩:=dec_head e
      have:=getElem_toList HD.out hD0 hc1
      rw [this] at h
      omega
  have HN:=Lib.hid hn
  have HZ0:=Lib.hid hz0
  have HDa:=Lib.hid hda
  have HDs:=Lib.hid hDs
  have HS:=Lib.hid hs
  rw [← hs]
  clear hn hz0 hda hDs hD hit hs
  go_enter Tryz.func73,Tryz.ntmps73
  go_wp2_with fail
  (with_reducible refine hc.mono ?_)
  rintro e w1 ⟨rfl,rfl⟩
  clear hc
  go_wp2_with fail
  (with_reducible refine (hcn _).mono ?_)
  rintro e w2 ⟨rfl,g2⟩
  clear hcn
  by_cases h48:(D[0].toNat:Int)=48
  · have hzz:=HZ0.out h48
    have hz1:¬ (1:Int)<(D.size:Int):=by omega
    have hz2:¬ z<0:=by have:=HN.out;omega
    have h48':((D[0].toNat:Int)==48)=true:=by simpa using h48
    clear h48 hzz
    go_wp2
    go_loopw [4,6] (fun r m wr=>∃ (R:ByteArray) (V:Nat) (mo:Option Addr) (ml mc:Nat),r=.string R∧m=.slice mo ml mc∧ml≤k∧R.size≤60001∧Hid (Mag wr mo ml mc (V:Int)∧(∀ c ∈ R.data.toList,48≤c.toNat∧c.toNat≤57)∧V*10 ^ R.size+valL R.data.toList=n)∧Gr (w.alloc (.cells #[.bool false,.slice none 0 0] 31)) wr) (fun r _ _=>strSize r)
    case atStart=>exact ⟨D,0,none,0,0,rfl,rfl,by omega,hD1,⟨⟨Nat.le_refl _,NL.zero,Row.nil _ _ _⟩,HDa.out,by rw [HD.out,valL_dec];simp⟩,g2⟩
    case round=>
      obtain ⟨R,V,mo,ml,mc,rfl,rfl,hml,hR1,hh,hG⟩:=hrel
      by_cases hp:0<R.size
      · obtain ⟨q,hq⟩:∃ q:Nat,q=(R.size - 1) % 9+1:=⟨_,rfl⟩
        have hq9:q≤9:=by omega
        have hq0:0<q:=by omega
        have hqR:q≤R.size:=by omega
        have hqe:((R.size:Int) - 1) % 9+1=(q:Int):=by omega
        have HQ:=Lib.hid hq
        clear hq
        go_wp2
        obtain ⟨wo,hwo⟩:∃ wo:World,wo=wr:=⟨_,rfl⟩
        subst hwo
        go_loopw [8,48] (fun b i wq=>∃ (j:Nat) (x:Int),b=.int .u32 x∧i=.int .i64 j∧j≤q∧1≤x∧x≤1000000000∧Hid (x=10 ^ j)∧wq=wo) (fun _ i _=>q - (intOf i).toNat)
        case atStart=>exact ⟨0,1,rfl,rfl,by omega,by omega,by omega,rfl,rfl⟩
        case round=>
          obtain ⟨j,x,rfl,rfl,hj,hx0,hx1,hx,rfl⟩:=hrel
          by_cases hlt:j<q
          · have hx8:x≤100000000:=by
              rw [hx.out]
              have h8:(10:Nat) ^ j≤100000000:=Nat.le_trans (Nat.pow_le_pow_right (by omega) (show j≤8 by omega)) (by decide)
              have h9:=Int.ofNat_le.2 h8
              rw [Int.natCast_pow] at h9
              exact h9
            go_wp2
            go_roundw
            case rel=>exact ⟨j+1,x*10,rfl,by go_num,by omega,by omega,by omega,by rw [Hid,hx.out,Int.pow_succ],by first | rfl | trivial⟩
            case measure=>simp [intOf];omega
          · obtain rfl:j=q:=by omega
            obtain ⟨T,hT⟩:∃ T,R.extract 0 j=T:=⟨_,rfl⟩
            obtain ⟨U,hU⟩:∃ U,R.extract j R.size=U:=⟨_,rfl⟩
            have hTl:T.data.toList=R.data.toList.take j:=by rw [← hT,extract_take]
            have hUl:U.data.toList=R.data.toList.drop j:=by rw [← hU,extract_drop]
            have hRl:R.data.toList.length=R.size:=by simp
            have hTs:T.size=j:=by
              have h1:=congrArg List.length hTl
              rw [List.length_take,hRl] at h1
              have h2:T.data.toList.length=T.size:=by simp
              omega
            have hUs:U.size=R.size - j:=by
              have h1:=congrArg List.length hUl
              rw [List.length_drop,hRl] at h1
              have h2:U.data.toList.length=U.size:=by simp
              omega
            obtain ⟨hm,hda,hval⟩:=hh.out
            have hTd:∀ c ∈ T.data.toList,48≤c.toNat∧c.toNat≤57:=fun c hc=>hda c (by rw [hTl] at hc;exact List.mem_of_mem_take hc)
            have hUd:∀ c ∈ U.data.toList,48≤c.toNat∧c.toNat≤57:=fun c hc=>hda c (by rw [hUl] at hc;exact List.mem_of_mem_drop hc)
            obtain ⟨u,hu⟩:∃ u,u=valL T.data.toList:=⟨_,rfl⟩
            have hu1:u<1000000000:=by
              have h1:=valL_lt _ hTd
              have h2:T.data.toList.length=T.size:=by simp
              rw [h2,hTs] at h1
              have:(10:Nat) ^ j≤10 ^ 9:=Nat.pow_le_pow_right (by omega) hq9
              omega
            have hval2:(V*10 ^ j+u)*10 ^ U.size+valL U.data.toList=n:=by
              have h1:=valL_append (R.data.toList.take j) (R.data.toList.drop j)
              rw [List.take_append_drop,← hTl,← hUl] at h1
              have h2:U.data.toList.length=U.size:=by simp
              rw [h1,h2,← hu,show R.size=j+U.size by omega,Nat.pow_add] at hval
              rw [← hval];grind
            have hVk:V*10 ^ j+u<2 ^ k:=by
              have h1:V*10 ^ j+u≤(V*10 ^ j+u)*10 ^ U.size:=Nat.le_mul_of_pos_right _ (Nat.pow_pos (by omega))
              omega
            have hpu:=parse_uint T hTd (by omega) (by omega)
            rw [← hu] at hpu
            have HV2:=Lib.hid hval2
            have HVk:=Lib.hid hVk
            have HUd:=Lib.hid hUd
            have HX:=hx
            have hTs1:T.size≤9:=by omega
            have hUs1:U.size<R.size:=by omega
            have hUs2:U.size≤60001:=by omega
            clear hTl hUl hRl hTd hUd hda hval hval2 hVk hu hTs hUs hqe
            have hu2:(u:Int)<1000000000:=by omega
            go_wp2_with fail
            (with_reducible refine (hpu _).mono ?_)
            rintro e w5 ⟨rfl,g5⟩
            clear hpu
            go_wp2_with fail
            (with_reducible refine (scale_c mo ml mc (V:Int) x (u:Int) _ (by omega) (hm.kp g5.kp) (by omega) (by omega) (by omega) (by omega)).mono ?_)
            rintro e w6 ⟨⟨go,k6,c6,rfl,hm6,hk6⟩,g6⟩
            have hm7:Mag w6 go k6 c6 ((V*10 ^ j+u:Nat):Int):=by
              rw [HX.out] at hm6
              have e:((V*10 ^ j+u:Nat):Int)=(V:Int)*10 ^ j+(u:Int):=by push_cast;rfl
              rw [e];exact hm6
            have hk7:k6≤k:=hm7.nl.len_sz (show Sz k _ by unfold Sz;rw [Int.natAbs_natCast];exact HVk.out)
            clear hm6
            go_wp2
            go_roundw
            case rel=>exact ⟨U,V*10 ^ j+u,go,k6,c6,rfl,rfl,hk7,hUs2,⟨hm7,HUd.out,HV2.out⟩,(hG.trans g5).trans g6⟩
            case measure=>simp [strSize];omega
      · have hR0:R.size=0:=by omega
        obtain ⟨hm,hda,hval⟩:=hh.out
        have hVn:V=n:=by
          have h2:R.data.toList.length=R.size:=by simp
          have h1:R.data.toList=[]:=List.length_eq_zero_iff.1 (by rw [h2];exact hR0)
          rw [h1,hR0] at hval
          simpa [valL] using hval
        rw [hVn] at hm
        have HR0:=Lib.hid hR0
        clear hR0 hda hval hh hVn
        have p2:=Gr.heap hG (heap_alloc_new w (.cells #[.bool false,.slice none 0 0] 31))
        go_wp2_with fail
        (with_reducible refine (signed_c (decide (z<0)) mo ml mc (n:Int) _ (by omega) hm.cap hm.nl.nonneg hm.nl.top hm.row).mono ?_)
        rintro e w5 ⟨⟨k5,rfl,hm5,hk5⟩,g5⟩
        have p3:=Gr.heap g5 p2
        have d0:=cells_of p3 0
        have d1:=cells_of p3 1
        have d2:=free_of p3
        have gw3:Gr w w5:=(Gr.alloc w _).trans (hG.trans g5)
        have hint:=IsInt.mk' (z:=z) (s:=decide (z<0)) (k:=k) (hm5.gr g5) (by rw [HN.out]) (fun _=>rfl) hz
        obtain ⟨bb,hbb⟩:∃ bb,bb=(decide (z<0)&&decide (0<k5)):=⟨_,rfl⟩
        rw [← hbb] at hint ⊢
        clear hbb hm hm5 p2
        go_wp2
        have p4:=heap_setCell_at (i:=1) (.slice mo k5 mc) (heap_setCell_at (i:=0) (.bool bb) p3)
        have hst:=(St.setCell w5 w.heap.size 0 (.bool bb)).trans (St.setCell _ w.heap.size 1 (.slice mo k5 mc))
        exact bodyPost_ret (v:=.tuple #[.agg #[.bool bb,.slice mo k5 mc],.int .i64 0]) (ret_cell_tmp' _ _ _ rfl rfl p4 (by kernel_rfl) rfl) rfl ⟨⟨_,_,rfl,hint.kp (hst.kp p3 (by decide))⟩,hst.gr gw3 (Nat.le_refl _)⟩
  · have h48':((D[0].toNat:Int)==48)=false:=by simpa using h48
    clear h48
    go_wp2
    go_loopw [4,6] (fun r m wr=>∃ (R:ByteArray) (V:Nat) (mo:Option Addr) (ml mc:Nat),r=.string R∧m=.slice mo ml mc∧ml≤k∧R.size≤60001∧Hid (Mag wr mo ml mc (V:Int)∧(∀ c ∈ R.data.toList,48≤c.toNat∧c.toNat≤57)∧V*10 ^ R.size+valL R.data.toList=n)∧Gr (w.alloc (.cells #[.bool false,.slice none 0 0] 31)) wr) (fun r _ _=>strSize r)
    case atStart=>exact ⟨D,0,none,0,0,rfl,rfl,by omega,hD1,⟨⟨Nat.le_refl _,NL.zero,Row.nil _ _ _⟩,HDa.out,by rw [HD.out,valL_dec];simp⟩,g2⟩
    case round=>
      obtain ⟨R,V,mo,ml,mc,rfl,rfl,hml,hR1,hh,hG⟩:=hrel
      by_cases hp:0<R.size
      · obtain ⟨q,hq⟩:∃ q:Nat,q=(R.size - 1) % 9+1:=⟨_,rfl⟩
        have hq9:q≤9:=by omega
        have hq0:0<q:=by omega
        have hqR:q≤R.size:=by omega
        have hqe:((R.size:Int) - 1) % 9+1=(q:Int):=by omega
        have HQ:=Lib.hid hq
        clear hq
        go_wp2
        obtain ⟨wo,hwo⟩:∃ wo:World,wo=wr:=⟨_,rfl⟩
        subst hwo
        go_loopw [8,48] (fun b i wq=>∃ (j:Nat) (x:Int),b=.int .u32 x∧i=.int .i64 j∧j≤q∧1≤x∧x≤1000000000∧Hid (x=10 ^ j)∧wq=wo) (fun _ i _=>q - (intOf i).toNat)
        case atStart=>exact ⟨0,1,rfl,rfl,by omega,by omega,by omega,rfl,rfl⟩
        case round=>
          obtain ⟨j,x,rfl,rfl,hj,hx0,hx1,hx,rfl⟩:=hrel
          by_cases hlt:j<q
          · have hx8:x≤100000000:=by
              rw [hx.out]
              have h8:(10:Nat) ^ j≤100000000:=Nat.le_trans (Nat.pow_le_pow_right (by omega) (show j≤8 by omega)) (by decide)
              have h9:=Int.ofNat_le.2 h8
              rw [Int.natCast_pow] at h9
              exact h9
            go_wp2
            go_roundw
            case rel=>exact ⟨j+1,x*10,rfl,by go_num,by omega,by omega,by omega,by rw [Hid,hx.out,Int.pow_succ],by first | rfl | trivial⟩
            case measure=>simp [intOf];omega
          · obtain rfl:j=q:=by omega
            obtain ⟨T,hT⟩:∃ T,R.extract 0 j=T:=⟨_,rfl⟩
            obtain ⟨U,hU⟩:∃ U,R.extract j R.size=U:=⟨_,rfl⟩
            have hTl:T.data.toList=R.data.toList.take j:=by rw [← hT,extract_take]
            have hUl:U.data.toList=R.data.toList.drop j:=by rw [← hU,extract_drop]
            have hRl:R.data.toList.length=R.size:=by simp
            have hTs:T.size=j:=by
              have h1:=congrArg List.length hTl
              rw [List.length_take,hRl] at h1
              have h2:T.data.toList.length=T.size:=by simp
              omega
            have hUs:U.size=R.size - j:=by
              have h1:=congrArg List.length hUl
              rw [List.length_drop,hRl] at h1
              have h2:U.data.toList.length=U.size:=by simp
              omega
            obtain ⟨hm,hda,hval⟩:=hh.out
            have hTd:∀ c ∈ T.data.toList,48≤c.toNat∧c.toNat≤57:=fun c hc=>hda c (by rw [hTl] at hc;exact List.mem_of_mem_take hc)
            have hUd:∀ c ∈ U.data.toList,48≤c.toNat∧c.toNat≤57:=fun c hc=>hda c (by rw [hUl] at hc;exact List.mem_of_mem_drop hc)
            obtain ⟨u,hu⟩:∃ u,u=valL T.data.toList:=⟨_,rfl⟩
            have hu1:u<1000000000:=by
              have h1:=valL_lt _ hTd
              have h2:T.data.toList.length=T.size:=by simp
              rw [h2,hTs] at h1
              have:(10:Nat) ^ j≤10 ^ 9:=Nat.pow_le_pow_right (by omega) hq9
              omega
            have hval2:(V*10 ^ j+u)*10 ^ U.size+valL U.data.toList=n:=by
              have h1:=valL_append (R.data.toList.take j) (R.data.toList.drop j)
              rw [List.take_append_drop,← hTl,← hUl] at h1
              have h2:U.data.toList.length=U.size:=by simp
              rw [h1,h2,← hu,show R.size=j+U.size by omega,Nat.pow_add] at hval
              rw [← hval];grind
            have hVk:V*10 ^ j+u<2 ^ k:=by
              have h1:V*10 ^ j+u≤(V*10 ^ j+u)*10 ^ U.size:=Nat.le_mul_of_pos_right _ (Nat.pow_pos (by omega))
              omega
            have hpu:=parse_uint T hTd (by omega) (by omega)
            rw [← hu] at hpu
            have HV2:=Lib.hid hval2
            have HVk:=Lib.hid hVk
            have HUd:=Lib.hid hUd
            have HX:=hx
            have hTs1:T.size≤9:=by omega
            have hUs1:U.size<R.size:=by omega
            have hUs2:U.size≤60001:=by omega
            clear hTl hUl hRl hTd hUd hda hval hval2 hVk hu hTs hUs hqe
            have hu2:(u:Int)<1000000000:=by omega
            go_wp2_with fail
            (with_reducible refine (hpu _).mono ?_)
            rintro e w5 ⟨rfl,g5⟩
            clear hpu
            go_wp2_with fail
            (with_reducible refine (scale_c mo ml mc (V:Int) x (u:Int) _ (by omega) (hm.kp g5.kp) (by omega) (by omega) (by omega) (by omega)).mono ?_)
            rintro e w6 ⟨⟨go,k6,c6,rfl,hm6,hk6⟩,g6⟩
            have hm7:Mag w6 go k6 c6 ((V*10 ^ j+u:Nat):Int):=by
              rw [HX.out] at hm6
              have e:((V*10 ^ j+u:Nat):Int)=(V:Int)*10 ^ j+(u:Int):=by push_cast;rfl
              rw [e];exact hm6
            have hk7:k6≤k:=hm7.nl.len_sz (show Sz k _ by unfold Sz;rw [Int.natAbs_natCast];exact HVk.out)
            clear hm6
            go_wp2
            go_roundw
            case rel=>exact ⟨U,V*10 ^ j+u,go,k6,c6,rfl,rfl,hk7,hUs2,⟨hm7,HUd.out,HV2.out⟩,(hG.trans g5).trans g6⟩
            case measure=>simp [strSize];omega
      · have hR0:R.size=0:=by omega
        obtain ⟨hm,hda,hval⟩:=hh.out
        have hVn:V=n:=by
          have h2:R.data.toList.length=R.size:=by simp
          have h1:R.data.toList=[]:=List.length_eq_zero_iff.1 (by rw [h2];exact hR0)
          rw [h1,hR0] at hval
          simpa [valL] using hval
        rw [hVn] at hm
        have HR0:=Lib.hid hR0
        clear hR0 hda hval hh hVn
        have p2:=Gr.heap hG (heap_alloc_new w (.cells #[.bool false,.slice none 0 0] 31))
        go_wp2_with fail
        (with_reducible refine (signed_c (decide (z<0)) mo ml mc (n:Int) _ (by omega) hm.cap hm.nl.nonneg hm.nl.top hm.row).mono ?_)
        rintro e w5 ⟨⟨k5,rfl,hm5,hk5⟩,g5⟩
        have p3:=Gr.heap g5 p2
        have d0:=cells_of p3 0
        have d1:=cells_of p3 1
        have d2:=free_of p3
        have gw3:Gr w w5:=(Gr.alloc w _).trans (hG.trans g5)
        have hint:=IsInt.mk' (z:=z) (s:=decide (z<0)) (k:=k) (hm5.gr g5) (by rw [HN.out]) (fun _=>rfl) hz
        obtain ⟨bb,hbb⟩:∃ bb,bb=(decide (z<0)&&decide (0<k5)):=⟨_,rfl⟩
        rw [← hbb] at hint ⊢
        clear hbb hm hm5 p2
        go_wp2
        have p4:=heap_setCell_at (i:=1) (.slice mo k5 mc) (heap_setCell_at (i:=0) (.bool bb) p3)
        have hst:=(St.setCell w5 w.heap.size 0 (.bool bb)).trans (St.setCell _ w.heap.size 1 (.slice mo k5 mc))
        exact bodyPost_ret (v:=.tuple #[.agg #[.bool bb,.slice mo k5 mc],.int .i64 0]) (ret_cell_tmp' _ _ _ rfl rfl p4 (by kernel_rfl) rfl) rfl ⟨⟨_,_,rfl,hint.kp (hst.kp p3 (by decide))⟩,hst.gr gw3 (Nat.le_refl _)⟩
theorem idx_slash:∀ (l:List UInt8),Lib.index l [47]=(match (cutL l).2 with | none=>-1 | some _=>((cutL l).1.length:Int))
  | []=>rfl
  | c::l=>by
    have ih:=idx_slash l
    unfold Lib.index
    by_cases h:c=47
    · subst h
      have e:cutL (47::l)=([],some l):=by simp [cutL]
      rw [e]
      simp [List.isPrefixOf]
    · have e:cutL (c::l)=(c::(cutL l).1,(cutL l).2):=by
        conv=>lhs;unfold cutL
        rw [if_neg h]
      have h2:¬ (47:UInt8)=c:=fun x=>h x.symm
      have h3:[47].isPrefixOf (c::l)=false:=by simp [List.isPrefixOf,h2]
      rw [e,h3,ih]
      cases hd:(cutL l).2 with
      | none=>simp
      | some d=>
        have:¬ (((cutL l).1.length:Int)==-1)=true:=by simp
        simp [this]
theorem cut_slash (l:List UInt8):Lib.cut l [47]=(numL l,((cutL l).2.getD [],(cutL l).2.isSome)):=by
  have h1:=idx_slash l
  have h2:=cutL_eq l
  unfold Lib.cut numL
  cases hd:(cutL l).2 with
  | none=>
    rw [hd] at h1 h2;dsimp only at h1 h2
    rw [h1,if_neg (by omega)]
    simp [← h2]
  | some d=>
    rw [hd] at h1 h2;dsimp only at h1 h2
    rw [h1,if_pos (Int.natCast_nonneg _)]
    generalize (cutL l).1=a at*
    subst h2
    simp
/-- the variable of the library's that says how long a short search is holds some int -/
def Mx (w:World):Prop:=∃ m:Int,w.cell? ⟨0,0,none⟩=some (.int .i64 m)
theorem Mx.gr {w w':World} (h:Mx w) (g:Gr w w'):Mx w':=by
  obtain ⟨m,hm⟩:=h
  exact ⟨m,(Below.cell g (World.block_lt_of_cell? w _ hm)).trans hm⟩
theorem cut_q (q:Rat) {k:Nat} (h1:Sz k q.num) (h2:Sz k (q.den:Int)) (hk:k≤400000) {w:World} (hm:Mx w):
    Calls Tryz.prog 69 #[.string ⟨(ratL q).toArray⟩,.string ⟨#[47]⟩] w fun e w'=>e=.returned (.tuple #[.string ⟨(Lib.itoa q.num).toArray⟩,.string ⟨(if q.den=1 then [] else Lib.itoa (q.den:Int)).toArray⟩,.bool (decide (q.den≠1))])∧Gr w w':=by
  obtain ⟨m,hm⟩:=hm
  have hl:=ratL_len h1 h2
  refine (Tryz.strings_Cut ⟨(ratL q).toArray⟩ ⟨#[47]⟩ m w (by show (ratL q).toArray.size<_;simp;omega) hm).mono ?_
  rintro e w1 ⟨he,n,rfl⟩
  refine ⟨?_,(Below.refl _ _).drewN _⟩
  rw [he]
  have e1:(⟨(ratL q).toArray⟩:ByteArray).data.toList=ratL q:=by simp
  rw [e1,show (⟨#[47]⟩:ByteArray).data.toList=[47] from rfl,cut_slash,numL_ratL,cutL_ratL]
  by_cases h:q.den=1<;>simp [h]
theorem trimprefix_minus (z:Int) (w:World):Calls Tryz.prog 71 #[.string ⟨(Lib.itoa z).toArray⟩,.string ⟨#[45]⟩] w fun e w'=>e=.returned (.string ⟨(Lib.decDigits z.natAbs).toArray⟩)∧Gr w w':=by
  refine (Tryz.strings_TrimPrefix _ _ _).mono ?_
  rintro e w1 ⟨he,rfl⟩
  refine ⟨?_,Gr.refl _⟩
  rw [he]
  show Ending.returned (.string ⟨(Lib.trimPrefix (Lib.itoa z) [45]).toArray⟩)=_
  by_cases h:z<0
  · have h1:Lib.hasPrefix (Lib.itoa z) [45]=true:=by rw [itoa_neg h];simp [Lib.hasPrefix]
    rw [Lib.trimPrefix,h1,if_pos rfl,itoa_neg h];rfl
  · have h1:Lib.hasPrefix (Lib.itoa z) [45]=false:=by
      rw [itoa_nonneg (by omega)]
      rcases hd:Lib.decDigits z.natAbs with _ | ⟨c,l⟩
      · rfl
      · have hc:=dec_all z.natAbs c (by rw [hd];simp)
        have hne:¬ (45:UInt8)=c:=fun e=>by rw [← e] at hc;simp at hc
        simp [Lib.hasPrefix,List.isPrefixOf,hne]
    rw [Lib.trimPrefix,h1,if_neg (by decide),itoa_nonneg (by omega)]
theorem trimS_all {l cs:List UInt8} (h:∀ c ∈ l,cs.contains c=true):Lib.trimS l cs=[]:=by
  have key:∀ {l:List UInt8},(∀ c ∈ l,cs.contains c=true)→l.dropWhile (cs.contains ·)=[]:=by
    intro l
    induction l with
    | nil=>intro _;rfl
    | cons c l ih=>intro h;rw [List.dropWhile_cons,if_pos (h c (by simp))];exact ih (fun x hx=>h x (by simp [hx]))
  unfold Lib.trimS Lib.trimRightS Lib.trimLeftS
  rw [key (l:=l.reverse) (fun c hc=>h c (by simpa using hc))]
  rfl
theorem digit_in {c:UInt8} (h:48≤c.toNat∧c.toNat≤57):[48,49,50,51,52,53,54,55,56,57].contains c=true:=by
  have:c=48∨c=49∨c=50∨c=51∨c=52∨c=53∨c=54∨c=55∨c=56∨c=57:=by
    simp only [← UInt8.toNat_inj]
    simp
    omega
  rcases this with rfl | rfl | rfl | rfl | rfl | rfl | rfl | rfl | rfl | rfl<;>decide
theorem trim_digits (n:Nat) (hn:(Lib.decDigits n).length≤1000000) (w:World):
    Calls Tryz.prog 72 #[.string ⟨(Lib.decDigits n).toArray⟩,.string ⟨#[48,49,50,51,52,53,54,55,56,57]⟩] w fun e w'=>e=.returned (.string ⟨#[]⟩)∧Gr w w':=by
  refine (Any.strings_Trim_laid Tryz.lays160 (by kernel_rfl) ⟨(Lib.decDigits n).toArray⟩ ⟨#[48,49,50,51,52,53,54,55,56,57]⟩ w (by show (Lib.decDigits n).toArray.size≤_;simp;omega) (by decide) (ascii_of_all (by decide))).mono ?_
  rintro e w1 ⟨he,g⟩
  refine ⟨?_,g⟩
  rw [he,trimS_all (l:=(⟨(Lib.decDigits n).toArray⟩:ByteArray).data.toList) (fun c hc=>digit_in (dec_all n c (by simpa using hc)))]
set_option maxHeartbeats 1000000 in
theorem rdigits_t (n:Nat) (hn:(Lib.decDigits n).length≤1000000) (w:World):
    Calls Tryz.prog 70 #[.string ⟨(Lib.decDigits n).toArray⟩] w fun e w'=>e=.returned (.bool true)∧Gr w w':=by
  obtain ⟨D,hD⟩:∃ D:ByteArray,D=⟨(Lib.decDigits n).toArray⟩:=⟨_,rfl⟩
  have hc:=trim_digits n hn
  have hne:(D.toList==[])=false:=by
    rw [beq_eq_false_iff_ne,ByteArray.toList_eq,hD]
    simpa using dec_ne' n
  rw [← hD] at hc ⊢
  clear hD
  go_enter Tryz.func70,Tryz.ntmps70
  go_wp2_with fail
  (with_reducible refine (hc _).mono ?_)
  rintro e w1 ⟨rfl,g1⟩
  clear hc
  go_wp2
  go_ret
  exact ⟨rfl,g1⟩
theorem drop_mem {p:UInt8→Bool}:∀ {l:List UInt8} {c:UInt8},c ∈ l→p c=false→c ∈ l.dropWhile p
  | [],_,h,_=>by cases h
  | x::l,c,h,hc=>by
    rw [List.dropWhile_cons]
    by_cases hx:p x=true
    · rw [if_pos hx]
      rcases List.mem_cons.1 h with e | h
      · rw [e,hx] at hc;cases hc
      · exact drop_mem h hc
    · rw [if_neg hx];exact h
theorem trimS_some {l cs:List UInt8} {c:UInt8} (h:c ∈ l) (hc:cs.contains c=false):Lib.trimS l cs≠[]:=by
  have h1:c ∈ Lib.trimRightS l cs:=by
    unfold Lib.trimRightS
    rw [List.mem_reverse]
    exact drop_mem (by simpa using h) hc
  exact fun e=>by have:=drop_mem (p:=(cs.contains ·)) h1 hc;unfold Lib.trimS Lib.trimLeftS at e;rw [e] at this;cases this
theorem trim_zero (d:Nat) (hd:0<d) (hn:(Lib.decDigits d).length≤1000000) (w:World):
    Calls Tryz.prog 72 #[.string ⟨(Lib.decDigits d).toArray⟩,.string ⟨#[48]⟩] w fun e w'=>(∃ L:List UInt8,e=.returned (.string ⟨L.toArray⟩)∧L≠[])∧Gr w w':=by
  refine (Any.strings_Trim_laid Tryz.lays160 (by kernel_rfl) ⟨(Lib.decDigits d).toArray⟩ ⟨#[48]⟩ w (by show (Lib.decDigits d).toArray.size≤_;simp;omega) (by decide) (ascii_of_all (by decide))).mono ?_
  rintro e w1 ⟨he,g⟩
  obtain ⟨c,hc,h1,_⟩:=dec_head hd
  refine ⟨⟨_,he,trimS_some (c:=c) (by simpa using List.mem_of_getElem? hc) ?_⟩,g⟩
  have:¬ c=48:=fun e=>by rw [e] at h1;simp at h1
  simp [this]
set_option maxRecDepth 100000 in
set_option maxHeartbeats 1000000 in
theorem reduced_n1 {k:Nat} {n0 n1 d0 d1:Value} {N D:Int} {w:World} (hn:IsInt w k n0 n1 N) (hd:IsInt w k d0 d1 D) (_hk:k+k+k+k+k+k+66≤1000000) (_h0:D<0) (hg:(sgn ((Int.gcd ((-N)) ((-D)):Int) - 1) !=0)=false):
    Calls Tryz.prog 63 #[(.agg #[n0,n1]),(.agg #[d0,d1])] w fun e w'=>(∃ x y x2 y2,e=.returned (.agg #[x,y,x2,y2])∧IsInt w' k x y ((-N))∧IsInt w' k x2 y2 ((-D)))∧Gr w w':=by
 go_enter Tryz.func63,Tryz.ntmps63
 have hB:=Gr.refl w
 refine wp_seq_k (fun K1 k1=>?_)
 refine rg [0,1,2] ?_
 refine se ?_
 refine eb 31 #[n0,n1] 2 hB fun b2 w2 g2 L2 o2 q2 hB=>?_
 simp only [p3,p4]
 refine se ?_
 refine eb 31 #[d0,d1] 3 hB fun b3 w3 g3 L3 o3 q3 hB=>?_
 have ne2_3:=L2.ne o3
 simp only [p3,p4]
 refine se ?_
 refine ea 33 #[(.bool false),(.slice none 0 0),(.bool false),(.slice none 0 0)] 4 hB fun b4 w4 g4 L4 o4 q4 hB=>?_
 replace L2:=L2.gr g3
 have ne2_4:=L2.ne o4
 have ne3_4:=L3.ne o4
 simp only [p3,p4]
 refine sq_nil ?_
 refine k1 _ _ ?_
 try clear k1 K1
 refine wp_seq_k (fun K5 k5=>?_)
 refine wp_seq_k (fun K6 k6=>?_)
 refine rg [0,1,2] ?_
 replace L3:=L3.gr g4
 refine sw 6 (.agg #[d0,d1]) rfl (rl 31 0 [d0,d1] L3) ?_
 refine se ?_
 have kq8:=g2.kp.trans (g3.kp.trans g4.kp)
 replace hd:=hd.kp kq8
 refine ec 7 (sign_neg hd (by omega)) ?_
 rintro e7 w7 ⟨rfl,g7⟩
 refine ⟨_,rfl,?_⟩
 replace hB:=hB.trans g7
 simp only [p3,p4]
 refine sv 8 (.bool true) ?_
 refine sq_nil ?_
 refine k6 _ _ ?_
 try clear k6 K6
 refine wp_cond_true rfl ?_
 have gd10:=Gr.drew w7
 replace hB:=hB.trans gd10
 replace L2:=L2.gr (g4.trans (g7.trans gd10))
 replace L3:=L3.gr (g7.trans gd10)
 refine wp_region_ort (fun _=>True) [([4],(fun w'=>Lc w' b2 #[n0,n1] 31)),([5],(fun w'=>Lc w' b3 #[d0,d1] 31))] [(true,0),(true,2),(false,1),(false,3),(false,4),(false,5)] (by kernel_rfl) (by kernel_rfl) (by kernel_rfl) (by decide) (fun _ _ _ _ _ h=>h) trivial ⟨fun _=>L2,fun _=>L3,trivial⟩ ?_
 refine tw 9 (.agg #[n0,n1]) rfl (fun w' hS=>(rl 31 0 [n0,n1] (hS.2.1 (by kernel_rfl)))) ?_
 refine tw 11 (.agg #[d0,d1]) rfl (fun w' hS=>(rl 31 0 [d0,d1] (hS.2.2.1 (by kernel_rfl)))) ?_
 refine te ?_
 have kq13:=g2.kp.trans (g3.kp.trans (g4.kp.trans (g7.kp.trans gd10.kp)))
 replace hn:=hn.kp kq13
 refine ec 10 (neg_i hn) ?_
 rintro e12 w12 ⟨⟨x12,y12,rfl,h12⟩,g12⟩
 refine ⟨_,rfl,?_⟩
 replace hB:=hB.trans g12
 replace L2:=L2.gr g12
 replace L3:=L3.gr g12
 refine ⟨trivial,⟨fun _=>L2,fun _=>L3,trivial⟩,?_⟩
 simp only [p3,p4]
 refine te ?_
 have kq16:=g7.kp.trans (gd10.kp.trans g12.kp)
 replace hd:=hd.kp kq16
 refine ec 12 (neg_i hd) ?_
 rintro e15 w15 ⟨⟨x15,y15,rfl,h15⟩,g15⟩
 refine ⟨_,rfl,?_⟩
 replace hB:=hB.trans g15
 replace L2:=L2.gr g15
 replace L3:=L3.gr g15
 refine ⟨trivial,⟨fun _=>L2,fun _=>L3,trivial⟩,?_⟩
 simp only [p3,p4]
 refine te ?_
 refine es 31 0 (.agg #[x12,y12]) [x12,y12] #[x12,y12] L2 hB q2 ⟨h12.one0,h12.one1,trivial⟩ fun w18 st18 kp18 L2 hB=>?_
 replace L3:=st18.lc L3 (Ne.symm ne2_3)
 refine ⟨trivial,⟨cameT (by kernel_rfl),fun _=>L3,trivial⟩,?_⟩
 refine te ?_
 refine es 31 0 (.agg #[x15,y15]) [x15,y15] #[x15,y15] L3 hB q3 ⟨h15.one0,h15.one1,trivial⟩ fun w20 st20 kp20 L3 hB=>?_
 refine ⟨trivial,⟨cameT (by kernel_rfl),cameT (by kernel_rfl),trivial⟩,?_⟩
 refine ort_nil ?_
 refine k5 _ _ ?_
 try clear k5 K5
 refine wp_seq_k (fun K21 k21=>?_)
 refine rg [0,1,2,3,4] ?_
 replace L2:=st20.lc L2 ne2_3
 refine sw 13 (.agg #[x12,y12]) rfl (rl 31 0 [x12,y12] L2) ?_
 refine sw 14 (.agg #[x15,y15]) rfl (rl 31 0 [x15,y15] L3) ?_
 refine se ?_
 have kq23:=g15.kp.trans (kp18.trans kp20)
 replace h12:=h12.kp kq23
 have kq24:=kp18.trans kp20
 replace h15:=h15.kp kq24
 refine ec 15 (gcd_i h12 h15 (by omega)) ?_
 rintro e22 w22 ⟨⟨x22,y22,rfl,h22⟩,g22⟩
 refine ⟨_,rfl,?_⟩
 replace hB:=hB.trans g22
 simp only [p3,p4]
 refine se ?_
 refine ea 31 #[(.bool false),(.slice none 0 0)] 5 hB fun b25 w25 g25 L25 o25 q25 hB=>?_
 replace L2:=L2.gr g22
 have ne2_25:=L2.ne o25
 replace L3:=L3.gr g22
 have ne3_25:=L3.ne o25
 replace L4:=(st20.lc (st18.lc (L4.gr (g7.trans (gd10.trans (g12.trans g15)))) (Ne.symm ne2_4)) (Ne.symm ne3_4)).gr g22
 have ne4_25:=L4.ne o25
 simp only [p3,p4]
 refine se ?_
 refine es 31 0 (.agg #[x22,y22]) [x22,y22] #[x22,y22] L25 hB q25 ⟨h22.one0,h22.one1,trivial⟩ fun w26 st26 kp26 L25 hB=>?_
 refine sq_nil ?_
 refine k21 _ _ ?_
 try clear k21 K21
 refine wp_seq_k (fun K27 k27=>?_)
 refine wp_seq_k (fun K28 k28=>?_)
 have gd35:=Gr.drew w26
 replace hB:=hB.trans gd35
 replace L25:=L25.gr gd35
 refine wp_region_ord (fun w'=>Lc w' b25 #[x22,y22] 31) [(true,0),(false,1),(false,2),(true,3)] (by kernel_rfl) (by kernel_rfl) (by kernel_rfl) (by decide) (fun _ _ _ _ _ h=>h) L25 ?_
 refine ow 16 (.agg #[x22,y22]) rfl (fun w' hS=>(rl 31 0 [x22,y22] hS)) ?_
 refine oe ?_
 refine ec 17 (one_i _) ?_
 rintro e37 w37 ⟨⟨x37,y37,rfl,h37⟩,g37⟩
 refine ⟨_,rfl,?_⟩
 replace hB:=hB.trans g37
 replace L25:=L25.gr g37
 refine ⟨L25,?_⟩
 simp only [p3,p4]
 refine oe ?_
 have kq40:=g25.kp.trans (kp26.trans (gd35.kp.trans g37.kp))
 replace h22:=h22.kp kq40
 refine ec 18 (compare_i h22 h37 (by omega) (by omega)) ?_
 rintro e39 w39 ⟨rfl,g39⟩
 refine ⟨_,rfl,?_⟩
 replace hB:=hB.trans g39
 replace L25:=L25.gr g39
 refine ⟨L25,?_⟩
 simp only [p3,p4]
 refine ow 19 (.bool false) rfl (fun w' hS=>(RunV.bool (x:=(sgn ((Int.gcd ((-N)) ((-D)):Int) - 1) !=(0:Int))) (rvk (by kernel_rfl)) hg)) ?_
 refine ord_nil ?_
 refine k28 _ _ ?_
 try clear k28 K28
 refine wp_cond_false rfl ?_
 refine wp_skip ?_
 refine k27 _ _ ?_
 try clear k27 K27
 refine wp_seq_k (fun K41 k41=>?_)
 refine rg [0,1,2,3] ?_
 replace L2:=(st26.lc (L2.gr g25) ne2_25).gr (gd35.trans (g37.trans g39))
 refine sw 34 (.agg #[x12,y12]) rfl (rl 31 0 [x12,y12] L2) ?_
 replace L3:=(st26.lc (L3.gr g25) ne3_25).gr (gd35.trans (g37.trans g39))
 refine sw 35 (.agg #[x15,y15]) rfl (rl 31 0 [x15,y15] L3) ?_
 refine sv 36 (.agg #[x12,y12,x15,y15]) ?_
 refine se ?_
 replace L4:=(st26.lc (L4.gr g25) ne4_25).gr (gd35.trans (g37.trans g39))
 refine es 33 0 (.agg #[x12,y12,x15,y15]) [x12,y12,x15,y15] #[x12,y12,x15,y15] L4 hB q4 ⟨h12.one0,h12.one1,h15.one0,h15.one1,trivial⟩ fun w42 st42 kp42 L4 hB=>?_
 refine sq_nil ?_
 refine k41 _ _ ?_
 try clear k41 K41
 refine wp_ret ?_
 refine bodyPost_ret (v:=(.agg #[x12,y12,x15,y15])) (ret_cell _ _ _ rfl rfl L4 (by kernel_rfl)) rfl ⟨?_,hB⟩
 have kq43:=g22.kp.trans (g25.kp.trans (kp26.trans (gd35.kp.trans (g37.kp.trans (g39.kp.trans kp42)))))
 replace h12:=h12.kp kq43
 replace h15:=h15.kp kq43
 exact ⟨_,_,_,_,rfl,h12,h15⟩

set_option maxRecDepth 100000 in
set_option maxHeartbeats 1000000 in
theorem reduced_ng {k:Nat} {n0 n1 d0 d1:Value} {N D:Int} {w:World} (hn:IsInt w k n0 n1 N) (hd:IsInt w k d0 d1 D) (_hk:k+k+k+k+k+k+66≤1000000) (_h0:D<0) (hg:(sgn ((Int.gcd ((-N)) ((-D)):Int) - 1) !=0)=true) (hxn:0<(Int.gcd ((-N)) ((-D)):Int)∧(Int.gcd ((-N)) ((-D)):Int)∣(-N)) (_hxd:0<(Int.gcd ((-N)) ((-D)):Int)∧(Int.gcd ((-N)) ((-D)):Int)∣(-D)):
    Calls Tryz.prog 63 #[(.agg #[n0,n1]),(.agg #[d0,d1])] w fun e w'=>(∃ x y x2 y2,e=.returned (.agg #[x,y,x2,y2])∧IsInt w' k x y ((-N)/(Int.gcd ((-N)) ((-D)):Int))∧IsInt w' k x2 y2 ((-D)/(Int.gcd ((-N)) ((-D)):Int)))∧Gr w w':=by
 go_enter Tryz.func63,Tryz.ntmps63
 have hB:=Gr.refl w
 refine wp_seq_k (fun K1 k1=>?_)
 refine rg [0,1,2] ?_
 refine se ?_
 refine eb 31 #[n0,n1] 2 hB fun b2 w2 g2 L2 o2 q2 hB=>?_
 simp only [p3,p4]
 refine se ?_
 refine eb 31 #[d0,d1] 3 hB fun b3 w3 g3 L3 o3 q3 hB=>?_
 have ne2_3:=L2.ne o3
 simp only [p3,p4]
 refine se ?_
 refine ea 33 #[(.bool false),(.slice none 0 0),(.bool false),(.slice none 0 0)] 4 hB fun b4 w4 g4 L4 o4 q4 hB=>?_
 replace L2:=L2.gr g3
 have ne2_4:=L2.ne o4
 have ne3_4:=L3.ne o4
 simp only [p3,p4]
 refine sq_nil ?_
 refine k1 _ _ ?_
 try clear k1 K1
 refine wp_seq_k (fun K5 k5=>?_)
 refine wp_seq_k (fun K6 k6=>?_)
 refine rg [0,1,2] ?_
 replace L3:=L3.gr g4
 refine sw 6 (.agg #[d0,d1]) rfl (rl 31 0 [d0,d1] L3) ?_
 refine se ?_
 have kq8:=g2.kp.trans (g3.kp.trans g4.kp)
 replace hd:=hd.kp kq8
 refine ec 7 (sign_neg hd (by omega)) ?_
 rintro e7 w7 ⟨rfl,g7⟩
 refine ⟨_,rfl,?_⟩
 replace hB:=hB.trans g7
 simp only [p3,p4]
 refine sv 8 (.bool true) ?_
 refine sq_nil ?_
 refine k6 _ _ ?_
 try clear k6 K6
 refine wp_cond_true rfl ?_
 have gd10:=Gr.drew w7
 replace hB:=hB.trans gd10
 replace L2:=L2.gr (g4.trans (g7.trans gd10))
 replace L3:=L3.gr (g7.trans gd10)
 refine wp_region_ort (fun _=>True) [([4],(fun w'=>Lc w' b2 #[n0,n1] 31)),([5],(fun w'=>Lc w' b3 #[d0,d1] 31))] [(true,0),(true,2),(false,1),(false,3),(false,4),(false,5)] (by kernel_rfl) (by kernel_rfl) (by kernel_rfl) (by decide) (fun _ _ _ _ _ h=>h) trivial ⟨fun _=>L2,fun _=>L3,trivial⟩ ?_
 refine tw 9 (.agg #[n0,n1]) rfl (fun w' hS=>(rl 31 0 [n0,n1] (hS.2.1 (by kernel_rfl)))) ?_
 refine tw 11 (.agg #[d0,d1]) rfl (fun w' hS=>(rl 31 0 [d0,d1] (hS.2.2.1 (by kernel_rfl)))) ?_
 refine te ?_
 have kq13:=g2.kp.trans (g3.kp.trans (g4.kp.trans (g7.kp.trans gd10.kp)))
 replace hn:=hn.kp kq13
 refine ec 10 (neg_i hn) ?_
 rintro e12 w12 ⟨⟨x12,y12,rfl,h12⟩,g12⟩
 refine ⟨_,rfl,?_⟩
 replace hB:=hB.trans g12
 replace L2:=L2.gr g12
 replace L3:=L3.gr g12
 refine ⟨trivial,⟨fun _=>L2,fun _=>L3,trivial⟩,?_⟩
 simp only [p3,p4]
 refine te ?_
 have kq16:=g7.kp.trans (gd10.kp.trans g12.kp)
 replace hd:=hd.kp kq16
 refine ec 12 (neg_i hd) ?_
 rintro e15 w15 ⟨⟨x15,y15,rfl,h15⟩,g15⟩
 refine ⟨_,rfl,?_⟩
 replace hB:=hB.trans g15
 replace L2:=L2.gr g15
 replace L3:=L3.gr g15
 refine ⟨trivial,⟨fun _=>L2,fun _=>L3,trivial⟩,?_⟩
 simp only [p3,p4]
 refine te ?_
 refine es 31 0 (.agg #[x12,y12]) [x12,y12] #[x12,y12] L2 hB q2 ⟨h12.one0,h12.one1,trivial⟩ fun w18 st18 kp18 L2 hB=>?_
 replace L3:=st18.lc L3 (Ne.symm ne2_3)
 refine ⟨trivial,⟨cameT (by kernel_rfl),fun _=>L3,trivial⟩,?_⟩
 refine te ?_
 refine es 31 0 (.agg #[x15,y15]) [x15,y15] #[x15,y15] L3 hB q3 ⟨h15.one0,h15.one1,trivial⟩ fun w20 st20 kp20 L3 hB=>?_
 refine ⟨trivial,⟨cameT (by kernel_rfl),cameT (by kernel_rfl),trivial⟩,?_⟩
 refine ort_nil ?_
 refine k5 _ _ ?_
 try clear k5 K5
 refine wp_seq_k (fun K21 k21=>?_)
 refine rg [0,1,2,3,4] ?_
 replace L2:=st20.lc L2 ne2_3
 refine sw 13 (.agg #[x12,y12]) rfl (rl 31 0 [x12,y12] L2) ?_
 refine sw 14 (.agg #[x15,y15]) rfl (rl 31 0 [x15,y15] L3) ?_
 refine se ?_
 have kq23:=g15.kp.trans (kp18.trans kp20)
 replace h12:=h12.kp kq23
 have kq24:=kp18.trans kp20
 replace h15:=h15.kp kq24
 refine ec 15 (gcd_i h12 h15 (by omega)) ?_
 rintro e22 w22 ⟨⟨x22,y22,rfl,h22⟩,g22⟩
 refine ⟨_,rfl,?_⟩
 replace hB:=hB.trans g22
 simp only [p3,p4]
 refine se ?_
 refine ea 31 #[(.bool false),(.slice none 0 0)] 5 hB fun b25 w25 g25 L25 o25 q25 hB=>?_
 replace L2:=L2.gr g22
 have ne2_25:=L2.ne o25
 replace L3:=L3.gr g22
 have ne3_25:=L3.ne o25
 replace L4:=(st20.lc (st18.lc (L4.gr (g7.trans (gd10.trans (g12.trans g15)))) (Ne.symm ne2_4)) (Ne.symm ne3_4)).gr g22
 have ne4_25:=L4.ne o25
 simp only [p3,p4]
 refine se ?_
 refine es 31 0 (.agg #[x22,y22]) [x22,y22] #[x22,y22] L25 hB q25 ⟨h22.one0,h22.one1,trivial⟩ fun w26 st26 kp26 L25 hB=>?_
 refine sq_nil ?_
 refine k21 _ _ ?_
 try clear k21 K21
 refine wp_seq_k (fun K27 k27=>?_)
 refine wp_seq_k (fun K28 k28=>?_)
 have gd35:=Gr.drew w26
 replace hB:=hB.trans gd35
 replace L25:=L25.gr gd35
 refine wp_region_ord (fun w'=>Lc w' b25 #[x22,y22] 31) [(true,0),(false,1),(false,2),(true,3)] (by kernel_rfl) (by kernel_rfl) (by kernel_rfl) (by decide) (fun _ _ _ _ _ h=>h) L25 ?_
 refine ow 16 (.agg #[x22,y22]) rfl (fun w' hS=>(rl 31 0 [x22,y22] hS)) ?_
 refine oe ?_
 refine ec 17 (one_i _) ?_
 rintro e37 w37 ⟨⟨x37,y37,rfl,h37⟩,g37⟩
 refine ⟨_,rfl,?_⟩
 replace hB:=hB.trans g37
 replace L25:=L25.gr g37
 refine ⟨L25,?_⟩
 simp only [p3,p4]
 refine oe ?_
 have kq40:=g25.kp.trans (kp26.trans (gd35.kp.trans g37.kp))
 replace h22:=h22.kp kq40
 refine ec 18 (compare_i h22 h37 (by omega) (by omega)) ?_
 rintro e39 w39 ⟨rfl,g39⟩
 refine ⟨_,rfl,?_⟩
 replace hB:=hB.trans g39
 replace L25:=L25.gr g39
 refine ⟨L25,?_⟩
 simp only [p3,p4]
 refine ow 19 (.bool true) rfl (fun w' hS=>(RunV.bool (x:=(sgn ((Int.gcd ((-N)) ((-D)):Int) - 1) !=(0:Int))) (rvk (by kernel_rfl)) hg)) ?_
 refine ord_nil ?_
 refine k28 _ _ ?_
 try clear k28 K28
 refine wp_cond_true rfl ?_
 refine wp_seq_k (fun K41 k41=>?_)
 refine rg [0,1,2,3,4,5,6,7] ?_
 replace L2:=(st26.lc (L2.gr g25) ne2_25).gr (gd35.trans (g37.trans g39))
 refine sw 21 (.agg #[x12,y12]) rfl (rl 31 0 [x12,y12] L2) ?_
 refine sw 22 (.agg #[x22,y22]) rfl (rl 31 0 [x22,y22] L25) ?_
 refine se ?_
 have kq43:=g22.kp.trans (g25.kp.trans (kp26.trans (gd35.kp.trans (g37.kp.trans g39.kp))))
 replace h12:=h12.kp kq43
 replace h22:=h22.kp g39.kp
 refine ec 23 (divmod_i h12 h22 hxn.1 (by omega)) ?_
 rintro e42 w42 ⟨⟨x42,y42,xr42,yr42,rfl,h42,hr42⟩,g42⟩
 refine ⟨_,rfl,?_⟩
 replace hB:=hB.trans g42
 simp only [p3,p4]
 refine sv 20 (.tuple #[(.agg #[x42,y42]),(.agg #[xr42,yr42]),(.int .i64 0)]) ?_
 refine sv 24 (.agg #[x42,y42]) ?_
 refine sv 25 (.agg #[xr42,yr42]) ?_
 refine sv 26 (.int .i64 0) ?_
 refine se ?_
 replace L2:=L2.gr g42
 refine es 31 0 (.agg #[x42,y42]) [x42,y42] #[x42,y42] L2 hB q2 ⟨h42.one0,h42.one1,trivial⟩ fun w44 st44 kp44 L2 hB=>?_
 refine sq_nil ?_
 refine k41 _ _ ?_
 try clear k41 K41
 refine rg [0,1,2,3,4,5,6,7] ?_
 replace L3:=st44.lc ((st26.lc (L3.gr g25) ne3_25).gr (gd35.trans (g37.trans (g39.trans g42)))) (Ne.symm ne2_3)
 refine sw 28 (.agg #[x15,y15]) rfl (rl 31 0 [x15,y15] L3) ?_
 replace L25:=st44.lc (L25.gr g42) (Ne.symm ne2_25)
 refine sw 29 (.agg #[x22,y22]) rfl (rl 31 0 [x22,y22] L25) ?_
 refine se ?_
 have kq46:=g22.kp.trans (g25.kp.trans (kp26.trans (gd35.kp.trans (g37.kp.trans (g39.kp.trans (g42.kp.trans kp44))))))
 replace h15:=h15.kp kq46
 have kq47:=g42.kp.trans kp44
 replace h22:=h22.kp kq47
 refine ec 30 (divmod_i h15 h22 hxn.1 (by omega)) ?_
 rintro e45 w45 ⟨⟨x45,y45,xr45,yr45,rfl,h45,hr45⟩,g45⟩
 refine ⟨_,rfl,?_⟩
 replace hB:=hB.trans g45
 simp only [p3,p4]
 refine sv 27 (.tuple #[(.agg #[x45,y45]),(.agg #[xr45,yr45]),(.int .i64 0)]) ?_
 refine sv 31 (.agg #[x45,y45]) ?_
 refine sv 32 (.agg #[xr45,yr45]) ?_
 refine sv 33 (.int .i64 0) ?_
 refine se ?_
 replace L3:=L3.gr g45
 refine es 31 0 (.agg #[x45,y45]) [x45,y45] #[x45,y45] L3 hB q3 ⟨h45.one0,h45.one1,trivial⟩ fun w48 st48 kp48 L3 hB=>?_
 refine sq_nil ?_
 refine k27 _ _ ?_
 try clear k27 K27
 refine wp_seq_k (fun K49 k49=>?_)
 refine rg [0,1,2,3] ?_
 replace L2:=st48.lc (L2.gr g45) ne2_3
 refine sw 34 (.agg #[x42,y42]) rfl (rl 31 0 [x42,y42] L2) ?_
 refine sw 35 (.agg #[x45,y45]) rfl (rl 31 0 [x45,y45] L3) ?_
 refine sv 36 (.agg #[x42,y42,x45,y45]) ?_
 refine se ?_
 replace L4:=st48.lc ((st44.lc ((st26.lc (L4.gr g25) ne4_25).gr (gd35.trans (g37.trans (g39.trans g42)))) (Ne.symm ne2_4)).gr g45) (Ne.symm ne3_4)
 refine es 33 0 (.agg #[x42,y42,x45,y45]) [x42,y42,x45,y45] #[x42,y42,x45,y45] L4 hB q4 ⟨h42.one0,h42.one1,h45.one0,h45.one1,trivial⟩ fun w50 st50 kp50 L4 hB=>?_
 refine sq_nil ?_
 refine k49 _ _ ?_
 try clear k49 K49
 refine wp_ret ?_
 refine bodyPost_ret (v:=(.agg #[x42,y42,x45,y45])) (ret_cell _ _ _ rfl rfl L4 (by kernel_rfl)) rfl ⟨?_,hB⟩
 have kq51:=kp44.trans (g45.kp.trans (kp48.trans kp50))
 replace h42:=h42.kp kq51
 have kq52:=kp48.trans kp50
 replace h45:=h45.kp kq52
 exact ⟨_,_,_,_,rfl,h42,h45⟩

theorem reduced_a {k m:Nat} (K:Nat) {n0 n1 d0 d1:Value} {N D:Int} {w:World} (hn:IsInt w k n0 n1 N) (hd:IsInt w m d0 d1 D) (h0:D≠0) (h1:k≤K) (h2:m≤K) (h3:64≤K) (h4:8*K≤1000000):
    Calls Tryz.prog 63 #[.agg #[n0,n1],.agg #[d0,d1]] w fun e w'=>(∃ c0 c1 c2 c3,e=.returned (.agg #[c0,c1,c2,c3])∧IsRat w' K c0 c1 c2 c3 (Rat.divInt N D))∧Gr w w':=by
  rcases Int.lt_or_gt_of_ne h0 with hneg | hpos
  · have hN:=hn.mono h1
    have hD:=hd.mono h2
    have hp:0< -D:=by omega
    have e0:Rat.divInt N D=Rat.divInt (-N) (-D):=(Rat.neg_divInt_neg N D).symm
    have en:(Rat.divInt N D).num=(-N)/(Int.gcd (-N) (-D):Int):=by
      rw [e0,Rat.num_divInt,Int.sign_eq_one_of_pos hp,Int.one_mul,Int.gcd_comm]
    have ed:((Rat.divInt N D).den:Int)=(-D)/(Int.gcd (-N) (-D):Int):=by
      rw [e0,Rat.den_divInt,if_neg (by omega),Int.gcd_comm,Int.natCast_ediv]
      congr 1
      omega
    have hg0:0<(Int.gcd (-N) (-D):Int):=by
      have:Int.gcd (-N) (-D)≠0:=by rw [Ne,Int.gcd_eq_zero_iff];omega
      omega
    by_cases hg:(Int.gcd (-N) (-D):Int)=1
    · refine (reduced_n1 hN hD (by omega) hneg (by rw [hg];rfl)).mono ?_
      rintro e w1 ⟨⟨x,y,x2,y2,he,hi,hi2⟩,g⟩
      rw [hg,Int.ediv_one] at en ed
      exact ⟨⟨x,y,x2,y2,he,by rw [en];exact hi,⟨_,hi2,.inl ed.symm⟩,h3⟩,g⟩
    · have hb:(sgn ((Int.gcd (-N) (-D):Int) - 1) !=0)=true:=by
        have:sgn ((Int.gcd (-N) (-D):Int) - 1)≠0:=fun h=>hg (by have:=sgn_eq_zero.1 h;omega)
        simpa using this
      refine (reduced_ng hN hD (by omega) hneg hb ⟨hg0,Int.gcd_dvd_left ..⟩ ⟨hg0,Int.gcd_dvd_right ..⟩).mono ?_
      rintro e w1 ⟨⟨x,y,x2,y2,he,hi,hi2⟩,g⟩
      exact ⟨⟨x,y,x2,y2,he,by rw [en];exact hi,⟨_,hi2,.inl ed.symm⟩,h3⟩,g⟩
  · exact reduced_i K hn hd hpos h1 h2 h3 h4
theorem cut_w (q:Rat) {k:Nat} (h1:Sz k q.num) (h2:Sz k (q.den:Int)) (hk:k≤400000) (hw:q.den=1) {w:World} (hm:Mx w):
    Calls Tryz.prog 69 #[.string ⟨(ratL q).toArray⟩,.string ⟨#[47]⟩] w fun e w'=>e=.returned (.tuple #[.string ⟨(Lib.itoa q.num).toArray⟩,.string ⟨([]:List UInt8).toArray⟩,.bool false])∧Gr w w':=by
  have:=cut_q q h1 h2 hk hm
  rw [if_pos hw,show decide (q.den≠1)=false by simp [hw]] at this
  exact this
theorem cut_f (q:Rat) {k:Nat} (h1:Sz k q.num) (h2:Sz k (q.den:Int)) (hk:k≤400000) (hw:¬ q.den=1) {w:World} (hm:Mx w):
    Calls Tryz.prog 69 #[.string ⟨(ratL q).toArray⟩,.string ⟨#[47]⟩] w fun e w'=>e=.returned (.tuple #[.string ⟨(Lib.itoa q.num).toArray⟩,.string ⟨(Lib.itoa (q.den:Int)).toArray⟩,.bool true])∧Gr w w':=by
  have:=cut_q q h1 h2 hk hm
  rw [if_neg hw,show decide (q.den≠1)=true by simp [hw]] at this
  exact this
theorem rdigits_n {k:Nat} (z:Int) (h:Sz k z) (hk:k≤400000) (w:World):
    Calls Tryz.prog 70 #[.string ⟨(Lib.decDigits z.natAbs).toArray⟩] w fun e w'=>e=.returned (.bool true)∧Gr w w':=
  rdigits_t _ (by have:=dec_len_sz h;omega) w
theorem rdigits_d {k:Nat} (d:Nat) (h:Sz k (d:Int)) (hk:k≤400000) (w:World):
    Calls Tryz.prog 70 #[.string ⟨(Lib.itoa (d:Int)).toArray⟩] w fun e w'=>e=.returned (.bool true)∧Gr w w':=by
  have:=rdigits_n (d:Int) h hk w
  rw [← itoa_nonneg (by omega)] at this
  exact this
theorem trim_zero_d {k:Nat} (d:Nat) (h:Sz k (d:Int)) (hd:0<d) (hk:k≤400000) (w:World):
    Calls Tryz.prog 72 #[.string ⟨(Lib.itoa (d:Int)).toArray⟩,.string ⟨#[48]⟩] w fun e w'=>(∃ L:List UInt8,e=.returned (.string ⟨L.toArray⟩)∧(L==[])=false)∧Gr w w':=by
  have:=trim_zero d hd (by have:=dec_len_sz h;rw [Int.natAbs_natCast] at this;omega) w
  rw [itoa_nonneg (by omega),Int.natAbs_natCast]
  refine this.mono ?_
  rintro e w1 ⟨⟨L,he,hL⟩,g⟩
  exact ⟨⟨L,he,beq_eq_false_iff_ne.2 hL⟩,g⟩
theorem isRat_parts {w:World} {k:Nat} {x y x2 y2:Value} {q:Rat} (h1:IsInt w k x y q.num) (h2:IsInt w k x2 y2 (q.den:Int)) (h3:64≤k):IsRat w k x y x2 y2 q:=⟨h1,⟨_,h2,.inl rfl⟩,h3⟩
theorem rat_coprime (q:Rat):(Int.gcd q.num (q.den:Int):Int)=1:=by
  have:=q.reduced
  show ((Nat.gcd q.num.natAbs (q.den:Int).natAbs:Nat):Int)=1
  rw [Int.natAbs_natCast]
  have h:Nat.gcd q.num.natAbs q.den=1:=this
  rw [h];rfl
theorem trimS_nil {l cs:List UInt8}:Lib.trimS l cs=[]↔∀ c ∈ l,cs.contains c=true:=by
  constructor
  · intro h c hc
    rcases Bool.eq_false_or_eq_true (cs.contains c) with e | e
    · exact e
    · exact absurd h (trimS_some hc e)
  · exact trimS_all
theorem digit_iff {c:UInt8}:[48,49,50,51,52,53,54,55,56,57].contains c=true↔48≤c.toNat∧c.toNat≤57:=by
  constructor
  · intro h
    simp only [List.contains_cons,List.contains_nil,Bool.or_eq_true,beq_iff_eq,Bool.or_false] at h
    rcases h with rfl | rfl | rfl | rfl | rfl | rfl | rfl | rfl | rfl | rfl<;>decide
  · exact digit_in
/-- some bytes,all of them digits -/
theorem allD_trim (l:List UInt8):allD l=((l !=([]:List UInt8))&&(Lib.trimS l [48,49,50,51,52,53,54,55,56,57]==([]:List UInt8))):=by
  rw [Bool.eq_iff_iff]
  simp only [allD,Bool.and_eq_true,decide_eq_true_eq,List.all_eq_true,bne_iff_ne,beq_iff_eq,trimS_nil,digit_iff,isD_iff]
  rw [← List.length_pos_iff]
theorem zeros_trim (l:List UInt8):zerosL l=(Lib.trimS l [48]==([]:List UInt8)):=by
  rw [Bool.eq_iff_iff]
  simp [zerosL,trimS_nil]
theorem trim_any (l:List UInt8) (hl:l.length≤1000000) (w:World):
    Calls Tryz.prog 72 #[.string ⟨l.toArray⟩,.string ⟨#[48,49,50,51,52,53,54,55,56,57]⟩] w fun e w'=>e=.returned (.string ⟨(Lib.trimS l [48,49,50,51,52,53,54,55,56,57]).toArray⟩)∧Gr w w':=by
  refine (Any.strings_Trim_laid Tryz.lays160 (by kernel_rfl) ⟨l.toArray⟩ ⟨#[48,49,50,51,52,53,54,55,56,57]⟩ w (by show l.toArray.size≤_;simp;omega) (by decide) (ascii_of_all (by decide))).mono ?_
  rintro e w1 ⟨he,g⟩
  exact ⟨he,g⟩
theorem trim_any0 (l:List UInt8) (hl:l.length≤1000000) (w:World):
    Calls Tryz.prog 72 #[.string ⟨l.toArray⟩,.string ⟨#[48]⟩] w fun e w'=>e=.returned (.string ⟨(Lib.trimS l [48]).toArray⟩)∧Gr w w':=by
  refine (Any.strings_Trim_laid Tryz.lays160 (by kernel_rfl) ⟨l.toArray⟩ ⟨#[48]⟩ w (by show l.toArray.size≤_;simp;omega) (by decide) (ascii_of_all (by decide))).mono ?_
  rintro e w1 ⟨he,g⟩
  exact ⟨he,g⟩
theorem trimprefix_any (l:List UInt8) (w:World):Calls Tryz.prog 71 #[.string ⟨l.toArray⟩,.string ⟨#[45]⟩] w fun e w'=>e=.returned (.string ⟨(strip l).toArray⟩)∧Gr w w':=by
  refine (Tryz.strings_TrimPrefix _ _ _).mono ?_
  rintro e w1 ⟨he,rfl⟩
  refine ⟨?_,Gr.refl _⟩
  rw [he]
  show Ending.returned (.string ⟨(Lib.trimPrefix l [45]).toArray⟩)=_
  have:Lib.trimPrefix l [45]=strip l:=by
    cases l with
    | nil=>rfl
    | cons c l=>
      rw [strip_cons]
      by_cases hc:c=45
      · subst hc;simp [Lib.trimPrefix,Lib.hasPrefix]
      · have:¬ (45:UInt8)=c:=fun e=>hc e.symm
        simp [Lib.trimPrefix,Lib.hasPrefix,List.isPrefixOf,hc,this]
  rw [this]
theorem cut_any (l:List UInt8) (hl:l.length≤1000000) {w:World} (hm:Mx w):
    Calls Tryz.prog 69 #[.string ⟨l.toArray⟩,.string ⟨#[47]⟩] w fun e w'=>e=.returned (.tuple #[.string ⟨(numL l).toArray⟩,.string ⟨((cutL l).2.getD []).toArray⟩,.bool (cutL l).2.isSome])∧Gr w w':=by
  obtain ⟨m,hm⟩:=hm
  refine (Tryz.strings_Cut ⟨l.toArray⟩ ⟨#[47]⟩ m w (by show l.toArray.size<_;simp;omega) hm).mono ?_
  rintro e w1 ⟨he,n,rfl⟩
  refine ⟨?_,(Below.refl _ _).drewN _⟩
  rw [he]
  have e1:(⟨l.toArray⟩:ByteArray).data.toList=l:=by simp
  rw [e1,show (⟨#[47]⟩:ByteArray).data.toList=[47] from rfl,cut_slash]
theorem cut_no (l:List UInt8) (hl:l.length≤1000000) (hc:cutL l=(l,none)) {w:World} (hm:Mx w):
    Calls Tryz.prog 69 #[.string ⟨l.toArray⟩,.string ⟨#[47]⟩] w fun e w'=>e=.returned (.tuple #[.string ⟨l.toArray⟩,.string ⟨([]:List UInt8).toArray⟩,.bool false])∧Gr w w':=by
  refine (cut_any l hl hm).mono ?_
  rintro e w1 ⟨he,g⟩
  exact ⟨by rw [he,numL,hc];rfl,g⟩
theorem cut_yes (X A D:List UInt8) (hl:X.length≤1000000) (hc:cutL X=(A,some D)) {w:World} (hm:Mx w):
    Calls Tryz.prog 69 #[.string ⟨X.toArray⟩,.string ⟨#[47]⟩] w fun e w'=>e=.returned (.tuple #[.string ⟨A.toArray⟩,.string ⟨D.toArray⟩,.bool true])∧Gr w w':=by
  refine (cut_any X hl hm).mono ?_
  rintro e w1 ⟨he,g⟩
  exact ⟨by rw [he,numL,hc];rfl,g⟩
theorem strip_len (l:List UInt8):(strip l).length≤l.length:=by
  rcases strip_cases l with e | ⟨e,_⟩
  · have:=congrArg List.length e;simp at this;omega
  · have:=congrArg List.length e;omega
theorem strip_dig {l:List UInt8} (h:allD l=true):allD (strip l)=true:=by
  cases l with
  | nil=>exact h
  | cons c l=>
    rw [strip_cons]
    by_cases hc:c=45
    · have:=(allD_all h).2 c (by simp)
      subst hc
      simp at this
    · rw [if_neg hc];exact h
theorem badZ_head {l:List UInt8} (h:allD l=true) (h2:zerosL l=false) (h3:(l[0]?==some 48)=true):badZ l=true:=by
  cases l with
  | nil=>cases h3
  | cons c l=>
    have hc:c=48:=by simpa using h3
    subst hc
    cases l with
    | nil=>simp [zerosL] at h2
    | cons d l=>simp [badZ,strip_cons]
set_option maxHeartbeats 1000000 in
theorem parse_bad (l:List UInt8) (hl:l.length≤60000) (h1:allD (strip l)=true) (h2:badZ l=true) (w:World):
    Calls Tryz.prog 73 #[.string ⟨l.toArray⟩] w fun e w'=>e=.returned (.tuple #[.agg #[.bool false,.slice none 0 0],.int .i64 3])∧Gr w w':=by
  have hs1:=allD_all h1
  obtain ⟨s,hs⟩:∃ s:ByteArray,s=⟨l.toArray⟩:=⟨_,rfl⟩
  have hss:s.size=l.length:=by rw [hs];show l.toArray.size=_;simp
  obtain ⟨D,hD⟩:∃ D:ByteArray,D=⟨(strip l).toArray⟩:=⟨_,rfl⟩
  have hDl:D.data.toList=strip l:=by rw [hD]
  have hDs:D.size=(strip l).length:=by rw [hD];show (strip l).toArray.size=_;simp
  have hD0:0<D.size:=by rw [hDs];exact List.length_pos_iff.2 hs1.1
  have hslen:=strip_len l
  have hc:∀ w,Calls Tryz.prog 104 #[.string s,.string ⟨#[45]⟩] w fun e w'=>e=.returned (.tuple #[.string D,.bool (decide ((strip l).length<l.length))])∧w=w':=by
    intro w
    rw [hs,hD]
    refine (Tryz.strings_CutPrefix _ _ _).mono ?_
    rintro e w1 ⟨he,rfl⟩
    refine ⟨?_,rfl⟩
    rw [he]
    show Ending.returned (.tuple #[.string ⟨(Lib.trimPrefix l [45]).toArray⟩,.bool (Lib.hasPrefix l [45])])=_
    cases l with
    | nil=>rfl
    | cons c l=>
      rw [strip_cons]
      by_cases hc:c=45
      · subst hc;simp [Lib.trimPrefix,Lib.hasPrefix]
      · have:¬ (45:UInt8)=c:=fun e=>hc e.symm
        simp [Lib.trimPrefix,Lib.hasPrefix,List.isPrefixOf,hc,this]
  have hcn:=contains_no D (by rw [hDl];exact hs1.2)
  have hne:(D.toList==[])=false:=by
    rw [beq_eq_false_iff_ne,ByteArray.toList_eq,hDl];exact hs1.1
  have hz0:(D[0].toNat:Int)=48∧(1<D.size∨(strip l).length<l.length):=by
    unfold badZ at h2
    simp only [Bool.and_eq_true,Bool.or_eq_true,decide_eq_true_eq] at h2
    have hh:=head48 hD0
    rw [hDl,h2.1] at hh
    have hh:=(beq_iff_eq.1 hh.symm)
    refine ⟨hh,?_⟩
    rw [hDs]
    omega
  have h48':((D[0].toNat:Int)==48)=true:=by rw [hz0.1];rfl
  have hor:=hz0.2
  have hD1:D.size≤60000:=by omega
  have hss2:s.size≤60000:=by omega
  rw [← hs]
  have HD:=Lib.hid hDl
  clear hz0 hDl hDs hD hs hss h2 hs1 h1 hslen
  go_enter Tryz.func73,Tryz.ntmps73
  go_wp2_with fail
  (with_reducible refine (hc _).mono ?_)
  rintro e w1 ⟨rfl,rfl⟩
  clear hc
  go_wp2_with fail
  (with_reducible refine (hcn _).mono ?_)
  rintro e w2 ⟨rfl,g2⟩
  clear hcn
  have p3:=Gr.heap g2 (heap_alloc_new w (.cells #[.bool false,.slice none 0 0] 31))
  have d0:=cells_of p3 0
  have d1:=cells_of p3 1
  have d2:=free_of p3
  have gw:Gr w w2:=(Gr.alloc w _).trans g2
  by_cases hD2:(1:Int)<(D.size:Int)
  · go_wp2
    have p4:=heap_setCell_at (i:=1) (.slice none 0 0) (heap_setCell_at (i:=0) (.bool false) p3)
    have hst:=(St.setCell w2 w.heap.size 0 (.bool false)).trans (St.setCell _ w.heap.size 1 (.slice none 0 0))
    exact bodyPost_ret (v:=.tuple #[.agg #[.bool false,.slice none 0 0],.int .i64 3]) (ret_cell_tmp' _ _ _ rfl rfl p4 (by kernel_rfl) rfl) rfl ⟨rfl,hst.gr gw (Nat.le_refl _)⟩
  · have hlt:(strip l).length<l.length:=by
      rcases hor with h | h
      · omega
      · exact h
    go_wp2
    have p4:=heap_setCell_at (i:=1) (.slice none 0 0) (heap_setCell_at (i:=0) (.bool false) p3)
    have hst:=(St.setCell w2 w.heap.size 0 (.bool false)).trans (St.setCell _ w.heap.size 1 (.slice none 0 0))
    exact bodyPost_ret (v:=.tuple #[.agg #[.bool false,.slice none 0 0],.int .i64 3]) (ret_cell_tmp' _ _ _ rfl rfl p4 (by kernel_rfl) rfl) rfl ⟨rfl,hst.gr gw (Nat.le_refl _)⟩
set_option maxRecDepth 100000 in
set_option maxHeartbeats 1000000 in
theorem read_w {k:Nat} (q:Rat) (hq:Sz k q.num∧Sz k (q.den:Int)) (_hk:k≤20000) (h64:64≤k) (most:Int) (_hlong:((ratL q).length:Int)≤most) (w:World) (hm:Mx w) (hw:q.den=1):
    Calls Tryz.prog 47 #[(.string ⟨(ratL (q):List UInt8).toArray⟩),(.int .i64 (most))] w fun e w'=>(∃ c0 c1 c2 c3,e=.returned (.tuple #[.agg #[c0,c1,c2,c3],.int .i64 0])∧IsRat w' k c0 c1 c2 c3 q)∧Gr w w':=by
 have hl:decide (most<((ratL q).length:Int))=false:=by simp;omega
 go_enter Tryz.func47,Tryz.ntmps47
 have hB:=Gr.refl w
 refine wp_seq_k (fun K1 k1=>?_)
 refine rg [0,1] ?_
 refine se ?_
 refine ea 33 #[(.bool false),(.slice none 0 0),(.bool false),(.slice none 0 0)] 4 hB fun b2 w2 g2 L2 o2 q2 hB=>?_
 simp only [p3,p4]
 refine sv 5 (.int .i64 0) ?_
 refine sq_nil ?_
 refine k1 _ _ ?_
 try clear k1 K1
 refine wp_seq_k (fun K3 k3=>?_)
 refine rg [0,1] ?_
 refine sv 13 (.string ⟨(ratL (q):List UInt8).toArray⟩) ?_
 refine sv 6 (.string ⟨(ratL (q):List UInt8).toArray⟩) ?_
 refine sq_nil ?_
 refine k3 _ _ ?_
 try clear k3 K3
 refine wp_seq_k (fun K4 k4=>?_)
 refine rg [0,1,2,3,4,5,6,7,8] ?_
 refine sv 15 (.string ⟨(ratL (q):List UInt8).toArray⟩) ?_
 refine se ?_
 refine ec 16 (cut_w q hq.1 hq.2 (by omega) hw (hm.gr hB)) ?_
 rintro e5 w5 ⟨rfl,g5⟩
 refine ⟨_,rfl,?_⟩
 replace hB:=hB.trans g5
 simp only [p3,p4]
 refine sv 14 (.tuple #[(.string ⟨(Lib.itoa (q.num):List UInt8).toArray⟩),(.string ⟨([]:List UInt8).toArray⟩),(.bool false)]) ?_
 refine sv 17 (.string ⟨(Lib.itoa (q.num):List UInt8).toArray⟩) ?_
 refine sv 18 (.string ⟨([]:List UInt8).toArray⟩) ?_
 refine sv 19 (.bool false) ?_
 refine sv 7 (.string ⟨(Lib.itoa (q.num):List UInt8).toArray⟩) ?_
 refine sv 8 (.string ⟨([]:List UInt8).toArray⟩) ?_
 refine sv 9 (.bool false) ?_
 refine sq_nil ?_
 refine k4 _ _ ?_
 try clear k4 K4
 refine wp_seq_k (fun K6 k6=>?_)
 refine wp_block ?_
 refine wp_seq_k (fun K7 k7=>?_)
 refine rg [0,1,2,3,4] ?_
 refine sv 21 (.string ⟨(ratL (q):List UInt8).toArray⟩) ?_
 refine sv 22 (.int .i64 (((ratL (q)).length:Int))) ?_
 refine sv 23 (.int .i64 (most)) ?_
 refine sw 24 (.bool false) rfl (RunV.bool (x:=decide (most<((ratL (q)).length:Int))) (rvk (by kernel_rfl)) hl) ?_
 refine sv 20 (.bool false) ?_
 refine sq_nil ?_
 refine k7 _ _ ?_
 try clear k7 K7
 refine wp_cond_false rfl ?_
 refine wp_seq_k (fun K8 k8=>?_)
 refine rg [0,1,2,3,4,5,6,7,8,9,10,11,12] ?_
 refine sv 27 (.string ⟨(Lib.itoa (q.num):List UInt8).toArray⟩) ?_
 refine se ?_
 refine ec 28 (trimprefix_minus (q.num) _) ?_
 rintro e9 w9 ⟨rfl,g9⟩
 refine ⟨_,rfl,?_⟩
 replace hB:=hB.trans g9
 simp only [p3,p4]
 refine se ?_
 refine ec 29 (rdigits_n q.num hq.1 (by omega) _) ?_
 rintro e10 w10 ⟨rfl,g10⟩
 refine ⟨_,rfl,?_⟩
 replace hB:=hB.trans g10
 simp only [p3,p4]
 refine sv 30 (.bool false) ?_
 refine sv 31 (.bool false) ?_
 refine sv 32 (.bool false) ?_
 refine sv 33 (.bool false) ?_
 refine ss 34 ?_
 refine ss 35 ?_
 refine ss 36 ?_
 refine sv 37 (.bool false) ?_
 refine sv 38 (.bool false) ?_
 refine sv 26 (.bool false) ?_
 refine sq_nil ?_
 refine k8 _ _ ?_
 try clear k8 K8
 refine wp_cond_false rfl ?_
 refine wp_seq_k (fun K11 k11=>?_)
 refine rg [0,1,2,3,4,5,6] ?_
 refine sv 41 (.bool false) ?_
 refine sv 42 (.bool false) ?_
 refine ss 43 ?_
 refine ss 44 ?_
 refine ss 45 ?_
 refine sv 46 (.bool false) ?_
 refine sv 40 (.bool false) ?_
 refine sq_nil ?_
 refine k11 _ _ ?_
 try clear k11 K11
 refine wp_cond_false rfl ?_
 refine wp_skip ?_
 refine k6 _ _ ?_
 try clear k6 K6
 refine wp_seq_k (fun K12 k12=>?_)
 refine rg [0,1,2,3,4,5,6,7] ?_
 refine sv 49 (.string ⟨(Lib.itoa (q.num):List UInt8).toArray⟩) ?_
 refine se ?_
 refine ec 50 (parse_i (q.num) hq.1 (by omega) _) ?_
 rintro e13 w13 ⟨⟨x13,y13,rfl,h13⟩,g13⟩
 refine ⟨_,rfl,?_⟩
 replace hB:=hB.trans g13
 simp only [p3,p4]
 refine sv 48 (.tuple #[(.agg #[x13,y13]),(.int .i64 0)]) ?_
 refine sv 51 (.agg #[x13,y13]) ?_
 refine sv 52 (.int .i64 0) ?_
 refine se ?_
 refine ea 31 #[(.bool false),(.slice none 0 0)] 10 hB fun b14 w14 g14 L14 o14 q14 hB=>?_
 replace L2:=L2.gr (g5.trans (g9.trans (g10.trans g13)))
 have ne2_14:=L2.ne o14
 simp only [p3,p4]
 refine se ?_
 refine es 31 0 (.agg #[x13,y13]) [x13,y13] #[x13,y13] L14 hB q14 ⟨h13.one0,h13.one1,trivial⟩ fun w15 st15 kp15 L14 hB=>?_
 refine sv 11 (.int .i64 0) ?_
 refine sq_nil ?_
 refine k12 _ _ ?_
 try clear k12 K12
 refine wp_seq_k (fun K16 k16=>?_)
 refine wp_seq_k (fun K17 k17=>?_)
 refine rg [0,1] ?_
 refine sv 53 (.int .i64 0) ?_
 refine sv 54 (.bool false) ?_
 refine sq_nil ?_
 refine k17 _ _ ?_
 try clear k17 K17
 refine wp_cond_false rfl ?_
 refine wp_skip ?_
 refine k16 _ _ ?_
 try clear k16 K16
 refine wp_seq_k (fun K18 k18=>?_)
 refine wp_seq_k (fun K19 k19=>?_)
 refine rg [0,1] ?_
 refine sv 56 (.bool false) ?_
 refine sv 57 (.bool true) ?_
 refine sq_nil ?_
 refine k19 _ _ ?_
 try clear k19 K19
 refine wp_cond_true rfl ?_
 refine wp_seq_k (fun K20 k20=>?_)
 refine rg [0,1,2,3] ?_
 refine sw 58 (.agg #[x13,y13]) rfl (rl 31 0 [x13,y13] L14) ?_
 refine sv 59 (.agg #[x13,y13,(.bool false),(.slice none 0 0)]) ?_
 refine se ?_
 replace L2:=st15.lc (L2.gr g14) ne2_14
 refine es 33 0 (.agg #[x13,y13,(.bool false),(.slice none 0 0)]) [x13,y13,(.bool false),(.slice none 0 0)] #[x13,y13,(.bool false),(.slice none 0 0)] L2 hB q2 ⟨h13.one0,h13.one1,rfl,rfl,trivial⟩ fun w21 st21 kp21 L2 hB=>?_
 refine sv 5 (.int .i64 0) ?_
 refine sq_nil ?_
 refine k20 _ _ ?_
 try clear k20 K20
 refine wp_ret ?_
 simp only [Exit.then]
 refine bodyPost_ret (v:=(.tuple #[(.agg #[x13,y13,(.bool false),(.slice none 0 0)]),(.int .i64 0)])) (ret_cell_tmp' _ _ _ rfl rfl L2 (by kernel_rfl) rfl) rfl ⟨?_,hB⟩
 have kq22:=g14.kp.trans (kp15.trans kp21)
 replace h13:=h13.kp kq22
 exact ⟨_,_,_,_,rfl,by have:=IsRat.int h13 h64;rw [rat_int hw] at this;exact this⟩

set_option maxRecDepth 100000 in
set_option maxHeartbeats 1000000 in
theorem read_f {k:Nat} (q:Rat) (hq:Sz k q.num∧Sz k (q.den:Int)) (_hk:k≤20000) (h64:64≤k) (most:Int) (_hlong:((ratL q).length:Int)≤most) (w:World) (hm:Mx w) (hw:¬ q.den=1):
    Calls Tryz.prog 47 #[(.string ⟨(ratL (q):List UInt8).toArray⟩),(.int .i64 (most))] w fun e w'=>(∃ c0 c1 c2 c3,e=.returned (.tuple #[.agg #[c0,c1,c2,c3],.int .i64 0])∧IsRat w' k c0 c1 c2 c3 q)∧Gr w w':=by
 have hl:decide (most<((ratL q).length:Int))=false:=by simp;omega
 have h1:(sgn ((q.den:Int) - 1)==(0:Int))=false:=by rw [beq_eq_false_iff_ne];exact fun e=>hw (by have:=sgn_eq_zero.1 e;omega)
 have h2:(sgn ((Int.gcd (q.num) ((q.den:Int)):Int) - 1) !=(0:Int))=false:=by rw [rat_coprime];rfl
 go_enter Tryz.func47,Tryz.ntmps47
 have hB:=Gr.refl w
 refine wp_seq_k (fun K1 k1=>?_)
 refine rg [0,1] ?_
 refine se ?_
 refine ea 33 #[(.bool false),(.slice none 0 0),(.bool false),(.slice none 0 0)] 4 hB fun b2 w2 g2 L2 o2 q2 hB=>?_
 simp only [p3,p4]
 refine sv 5 (.int .i64 0) ?_
 refine sq_nil ?_
 refine k1 _ _ ?_
 try clear k1 K1
 refine wp_seq_k (fun K3 k3=>?_)
 refine rg [0,1] ?_
 refine sv 13 (.string ⟨(ratL (q):List UInt8).toArray⟩) ?_
 refine sv 6 (.string ⟨(ratL (q):List UInt8).toArray⟩) ?_
 refine sq_nil ?_
 refine k3 _ _ ?_
 try clear k3 K3
 refine wp_seq_k (fun K4 k4=>?_)
 refine rg [0,1,2,3,4,5,6,7,8] ?_
 refine sv 15 (.string ⟨(ratL (q):List UInt8).toArray⟩) ?_
 refine se ?_
 refine ec 16 (cut_f q hq.1 hq.2 (by omega) hw (hm.gr hB)) ?_
 rintro e5 w5 ⟨rfl,g5⟩
 refine ⟨_,rfl,?_⟩
 replace hB:=hB.trans g5
 simp only [p3,p4]
 refine sv 14 (.tuple #[(.string ⟨(Lib.itoa (q.num):List UInt8).toArray⟩),(.string ⟨(Lib.itoa ((q.den:Int)):List UInt8).toArray⟩),(.bool true)]) ?_
 refine sv 17 (.string ⟨(Lib.itoa (q.num):List UInt8).toArray⟩) ?_
 refine sv 18 (.string ⟨(Lib.itoa ((q.den:Int)):List UInt8).toArray⟩) ?_
 refine sv 19 (.bool true) ?_
 refine sv 7 (.string ⟨(Lib.itoa (q.num):List UInt8).toArray⟩) ?_
 refine sv 8 (.string ⟨(Lib.itoa ((q.den:Int)):List UInt8).toArray⟩) ?_
 refine sv 9 (.bool true) ?_
 refine sq_nil ?_
 refine k4 _ _ ?_
 try clear k4 K4
 refine wp_seq_k (fun K6 k6=>?_)
 refine wp_block ?_
 refine wp_seq_k (fun K7 k7=>?_)
 refine rg [0,1,2,3,4] ?_
 refine sv 21 (.string ⟨(ratL (q):List UInt8).toArray⟩) ?_
 refine sv 22 (.int .i64 (((ratL (q)).length:Int))) ?_
 refine sv 23 (.int .i64 (most)) ?_
 refine sw 24 (.bool false) rfl (RunV.bool (x:=decide (most<((ratL (q)).length:Int))) (rvk (by kernel_rfl)) hl) ?_
 refine sv 20 (.bool false) ?_
 refine sq_nil ?_
 refine k7 _ _ ?_
 try clear k7 K7
 refine wp_cond_false rfl ?_
 refine wp_seq_k (fun K8 k8=>?_)
 refine rg [0,1,2,3,4,5,6,7,8,9,10,11,12] ?_
 refine sv 27 (.string ⟨(Lib.itoa (q.num):List UInt8).toArray⟩) ?_
 refine se ?_
 refine ec 28 (trimprefix_minus (q.num) _) ?_
 rintro e9 w9 ⟨rfl,g9⟩
 refine ⟨_,rfl,?_⟩
 replace hB:=hB.trans g9
 simp only [p3,p4]
 refine se ?_
 refine ec 29 (rdigits_n q.num hq.1 (by omega) _) ?_
 rintro e10 w10 ⟨rfl,g10⟩
 refine ⟨_,rfl,?_⟩
 replace hB:=hB.trans g10
 simp only [p3,p4]
 refine sv 30 (.bool false) ?_
 refine sv 31 (.bool false) ?_
 refine sv 32 (.bool true) ?_
 refine sv 33 (.bool true) ?_
 refine sv 34 (.string ⟨(Lib.itoa ((q.den:Int)):List UInt8).toArray⟩) ?_
 refine se ?_
 refine ec 35 (rdigits_d q.den hq.2 (by omega) _) ?_
 rintro e11 w11 ⟨rfl,g11⟩
 refine ⟨_,rfl,?_⟩
 replace hB:=hB.trans g11
 simp only [p3,p4]
 refine sv 36 (.bool false) ?_
 refine sv 37 (.bool false) ?_
 refine sv 38 (.bool false) ?_
 refine sv 26 (.bool false) ?_
 refine sq_nil ?_
 refine k8 _ _ ?_
 try clear k8 K8
 refine wp_cond_false rfl ?_
 refine wp_seq_k (fun K12 k12=>?_)
 refine rg [0,1,2,3,4,5,6] ?_
 refine sv 41 (.bool true) ?_
 refine sv 42 (.bool true) ?_
 refine sv 43 (.string ⟨(Lib.itoa ((q.den:Int)):List UInt8).toArray⟩) ?_
 refine se ?_
 refine ec 44 (trim_zero_d q.den hq.2 q.den_pos (by omega) _) ?_
 rintro e13 w13 ⟨⟨L13,rfl,hL13⟩,g13⟩
 refine ⟨_,rfl,?_⟩
 replace hB:=hB.trans g13
 simp only [p3,p4]
 refine sw 45 (.bool false) rfl (RunV.bool (x:=((L13)==([]:List UInt8))) (rv_seq 9 9 _ _ (L13) ([]) rfl rfl rfl) hL13) ?_
 refine sv 46 (.bool false) ?_
 refine sv 40 (.bool false) ?_
 refine sq_nil ?_
 refine k12 _ _ ?_
 try clear k12 K12
 refine wp_cond_false rfl ?_
 refine wp_skip ?_
 refine k6 _ _ ?_
 try clear k6 K6
 refine wp_seq_k (fun K14 k14=>?_)
 refine rg [0,1,2,3,4,5,6,7] ?_
 refine sv 49 (.string ⟨(Lib.itoa (q.num):List UInt8).toArray⟩) ?_
 refine se ?_
 refine ec 50 (parse_i (q.num) hq.1 (by omega) _) ?_
 rintro e15 w15 ⟨⟨x15,y15,rfl,h15⟩,g15⟩
 refine ⟨_,rfl,?_⟩
 replace hB:=hB.trans g15
 simp only [p3,p4]
 refine sv 48 (.tuple #[(.agg #[x15,y15]),(.int .i64 0)]) ?_
 refine sv 51 (.agg #[x15,y15]) ?_
 refine sv 52 (.int .i64 0) ?_
 refine se ?_
 refine ea 31 #[(.bool false),(.slice none 0 0)] 10 hB fun b16 w16 g16 L16 o16 q16 hB=>?_
 replace L2:=L2.gr (g5.trans (g9.trans (g10.trans (g11.trans (g13.trans g15)))))
 have ne2_16:=L2.ne o16
 simp only [p3,p4]
 refine se ?_
 refine es 31 0 (.agg #[x15,y15]) [x15,y15] #[x15,y15] L16 hB q16 ⟨h15.one0,h15.one1,trivial⟩ fun w17 st17 kp17 L16 hB=>?_
 refine sv 11 (.int .i64 0) ?_
 refine sq_nil ?_
 refine k14 _ _ ?_
 try clear k14 K14
 refine wp_seq_k (fun K18 k18=>?_)
 refine wp_seq_k (fun K19 k19=>?_)
 refine rg [0,1] ?_
 refine sv 53 (.int .i64 0) ?_
 refine sv 54 (.bool false) ?_
 refine sq_nil ?_
 refine k19 _ _ ?_
 try clear k19 K19
 refine wp_cond_false rfl ?_
 refine wp_skip ?_
 refine k18 _ _ ?_
 try clear k18 K18
 refine wp_seq_k (fun K20 k20=>?_)
 refine wp_seq_k (fun K21 k21=>?_)
 refine rg [0,1] ?_
 refine sv 56 (.bool true) ?_
 refine sv 57 (.bool false) ?_
 refine sq_nil ?_
 refine k21 _ _ ?_
 try clear k21 K21
 refine wp_cond_false rfl ?_
 refine wp_skip ?_
 refine k20 _ _ ?_
 try clear k20 K20
 refine wp_seq_k (fun K22 k22=>?_)
 refine rg [0,1,2,3,4,5,6,7] ?_
 refine sv 61 (.string ⟨(Lib.itoa ((q.den:Int)):List UInt8).toArray⟩) ?_
 refine se ?_
 refine ec 62 (parse_i ((q.den:Int)) hq.2 (by omega) _) ?_
 rintro e23 w23 ⟨⟨x23,y23,rfl,h23⟩,g23⟩
 refine ⟨_,rfl,?_⟩
 replace hB:=hB.trans g23
 simp only [p3,p4]
 refine sv 60 (.tuple #[(.agg #[x23,y23]),(.int .i64 0)]) ?_
 refine sv 63 (.agg #[x23,y23]) ?_
 refine sv 64 (.int .i64 0) ?_
 refine se ?_
 refine ea 31 #[(.bool false),(.slice none 0 0)] 12 hB fun b24 w24 g24 L24 o24 q24 hB=>?_
 replace L2:=(st17.lc (L2.gr g16) ne2_16).gr g23
 have ne2_24:=L2.ne o24
 replace L16:=L16.gr g23
 have ne16_24:=L16.ne o24
 simp only [p3,p4]
 refine se ?_
 refine es 31 0 (.agg #[x23,y23]) [x23,y23] #[x23,y23] L24 hB q24 ⟨h23.one0,h23.one1,trivial⟩ fun w25 st25 kp25 L24 hB=>?_
 refine sv 11 (.int .i64 0) ?_
 refine sq_nil ?_
 refine k22 _ _ ?_
 try clear k22 K22
 refine wp_seq_k (fun K26 k26=>?_)
 refine wp_seq_k (fun K27 k27=>?_)
 have gd41:=Gr.drew w25
 replace hB:=hB.trans gd41
 replace L16:=(st25.lc (L16.gr g24) ne16_24).gr gd41
 replace L24:=L24.gr gd41
 refine wp_region_ord (fun w'=>Lc w' b16 #[x15,y15] 31∧Lc w' b24 #[x23,y23] 31) [(true,0),(true,1),(true,2),(true,3),(false,4),(false,5),(true,6),(true,7),(true,8),(true,9),(true,10),(false,11),(false,12),(false,13),(true,14),(true,15)] (by kernel_rfl) (by kernel_rfl) (by kernel_rfl) (by decide) (fun _ _ _ _ _ h=>h) ⟨L16,L24⟩ ?_
 refine ov 65 (.int .i64 0) ?_
 refine ov 66 (.bool false) ?_
 refine ov 67 (.bool false) ?_
 refine ow 68 (.agg #[x23,y23]) rfl (fun w' hS=>(rl 31 0 [x23,y23] hS.2)) ?_
 refine oe ?_
 refine ec 69 (one_i _) ?_
 rintro e43 w43 ⟨⟨x43,y43,rfl,h43⟩,g43⟩
 refine ⟨_,rfl,?_⟩
 replace hB:=hB.trans g43
 replace L16:=L16.gr g43
 replace L24:=L24.gr g43
 refine ⟨⟨L16,L24⟩,?_⟩
 simp only [p3,p4]
 refine oe ?_
 have kq46:=g24.kp.trans (kp25.trans (gd41.kp.trans g43.kp))
 replace h23:=h23.kp kq46
 refine ec 70 (compare_i h23 h43 (by omega) (by omega)) ?_
 rintro e45 w45 ⟨rfl,g45⟩
 refine ⟨_,rfl,?_⟩
 replace hB:=hB.trans g45
 replace L16:=L16.gr g45
 replace L24:=L24.gr g45
 refine ⟨⟨L16,L24⟩,?_⟩
 simp only [p3,p4]
 refine ow 71 (.bool false) rfl (fun w' hS=>(RunV.bool (x:=(sgn ((q.den:Int) - 1)==(0:Int))) (rvk (by kernel_rfl)) h1)) ?_
 refine ov 72 (.bool false) ?_
 refine ov 73 (.bool false) ?_
 refine ow 74 (.agg #[x15,y15]) rfl (fun w' hS=>(rl 31 0 [x15,y15] hS.1)) ?_
 refine ow 75 (.agg #[x23,y23]) rfl (fun w' hS=>(rl 31 0 [x23,y23] hS.2)) ?_
 refine oe ?_
 have kq49:=g16.kp.trans (kp17.trans (g23.kp.trans (g24.kp.trans (kp25.trans (gd41.kp.trans (g43.kp.trans g45.kp))))))
 replace h15:=h15.kp kq49
 replace h23:=h23.kp g45.kp
 refine ec 76 (gcd_i h15 h23 (by omega)) ?_
 rintro e48 w48 ⟨⟨x48,y48,rfl,h48⟩,g48⟩
 refine ⟨_,rfl,?_⟩
 replace hB:=hB.trans g48
 replace L16:=L16.gr g48
 replace L24:=L24.gr g48
 refine ⟨⟨L16,L24⟩,?_⟩
 simp only [p3,p4]
 refine oe ?_
 refine ec 77 (one_i _) ?_
 rintro e51 w51 ⟨⟨x51,y51,rfl,h51⟩,g51⟩
 refine ⟨_,rfl,?_⟩
 replace hB:=hB.trans g51
 replace L16:=L16.gr g51
 replace L24:=L24.gr g51
 refine ⟨⟨L16,L24⟩,?_⟩
 simp only [p3,p4]
 refine oe ?_
 replace h48:=h48.kp g51.kp
 refine ec 78 (compare_i h48 h51 (by omega) (by omega)) ?_
 rintro e53 w53 ⟨rfl,g53⟩
 refine ⟨_,rfl,?_⟩
 replace hB:=hB.trans g53
 replace L16:=L16.gr g53
 replace L24:=L24.gr g53
 refine ⟨⟨L16,L24⟩,?_⟩
 simp only [p3,p4]
 refine ow 79 (.bool false) rfl (fun w' hS=>(RunV.bool (x:=(sgn ((Int.gcd (q.num) ((q.den:Int)):Int) - 1) !=(0:Int))) (rvk (by kernel_rfl)) h2)) ?_
 refine ov 80 (.bool false) ?_
 refine ord_nil ?_
 refine k27 _ _ ?_
 try clear k27 K27
 refine wp_cond_false rfl ?_
 refine wp_skip ?_
 refine k26 _ _ ?_
 try clear k26 K26
 refine wp_seq_k (fun K54 k54=>?_)
 refine rg [0,1,2,3,4] ?_
 refine sw 82 (.agg #[x15,y15]) rfl (rl 31 0 [x15,y15] L16) ?_
 refine sw 83 (.agg #[x23,y23]) rfl (rl 31 0 [x23,y23] L24) ?_
 refine sv 84 (.agg #[x15,y15,x23,y23]) ?_
 refine se ?_
 replace L2:=(st25.lc (L2.gr g24) ne2_24).gr (gd41.trans (g43.trans (g45.trans (g48.trans (g51.trans g53)))))
 refine es 33 0 (.agg #[x15,y15,x23,y23]) [x15,y15,x23,y23] #[x15,y15,x23,y23] L2 hB q2 ⟨h15.one0,h15.one1,h23.one0,h23.one1,trivial⟩ fun w55 st55 kp55 L2 hB=>?_
 refine sv 5 (.int .i64 0) ?_
 refine sq_nil ?_
 refine k54 _ _ ?_
 try clear k54 K54
 refine wp_ret ?_
 refine bodyPost_ret (v:=(.tuple #[(.agg #[x15,y15,x23,y23]),(.int .i64 0)])) (ret_cell_tmp' _ _ _ rfl rfl L2 (by kernel_rfl) rfl) rfl ⟨?_,hB⟩
 have kq56:=g48.kp.trans (g51.kp.trans (g53.kp.trans kp55))
 replace h15:=h15.kp kq56
 replace h23:=h23.kp kq56
 exact ⟨_,_,_,_,rfl,isRat_parts h15 h23 h64⟩

theorem read_q {k:Nat} (q:Rat) (hq:Sz k q.num∧Sz k (q.den:Int)) (hk:k≤20000) (h64:64≤k) (most:Int) (hlong:((ratL q).length:Int)≤most) (w:World) (hm:Mx w):
    Calls Tryz.prog 47 #[(.string ⟨(ratL (q):List UInt8).toArray⟩),(.int .i64 (most))] w fun e w'=>(∃ c0 c1 c2 c3,e=.returned (.tuple #[.agg #[c0,c1,c2,c3],.int .i64 0])∧IsRat w' k c0 c1 c2 c3 q)∧Gr w w':=by
  by_cases hw:q.den=1
  · exact read_w q hq hk h64 most hlong w hm hw
  · exact read_f q hq hk h64 most hlong w hm hw

set_option maxRecDepth 100000 in
set_option maxHeartbeats 1000000 in
theorem parse_q {k:Nat} (q:Rat) (hq:Sz k q.num∧Sz k (q.den:Int)) (hk:k≤20000) (h64:64≤k) (_hlong:((ratL q).length:Int)≤400) (w:World) (hm:Mx w):
    Calls Tryz.prog 121 #[(.string ⟨(ratL (q):List UInt8).toArray⟩)] w fun e w'=>(∃ c0 c1 c2 c3,e=.returned (.tuple #[.agg #[c0,c1,c2,c3],.int .i64 0])∧IsRat w' k c0 c1 c2 c3 q)∧Gr w w':=by
 go_enter Tryz.func121,Tryz.ntmps121
 have hB:=Gr.refl w
 refine wp_seq_k (fun K1 k1=>?_)
 refine rg [0,1] ?_
 refine se ?_
 refine ea 33 #[(.bool false),(.slice none 0 0),(.bool false),(.slice none 0 0)] 2 hB fun b2 w2 g2 L2 o2 q2 hB=>?_
 simp only [p3,p4]
 refine sv 3 (.int .i64 0) ?_
 refine sq_nil ?_
 refine k1 _ _ ?_
 try clear k1 K1
 refine wp_seq_k (fun K3 k3=>?_)
 refine rg [0,1,2,3,4,5] ?_
 refine sv 4 (.string ⟨(ratL (q):List UInt8).toArray⟩) ?_
 refine se ?_
 refine ec 5 (read_q q hq hk h64 400 (by omega) _ (hm.gr hB)) ?_
 rintro e4 w4 ⟨⟨cc4_0,cc4_1,cc4_2,cc4_3,rfl,h4⟩,g4⟩
 refine ⟨_,rfl,?_⟩
 replace hB:=hB.trans g4
 simp only [p3,p4]
 refine sv 6 (.agg #[cc4_0,cc4_1,cc4_2,cc4_3]) ?_
 refine sv 7 (.int .i64 0) ?_
 refine se ?_
 replace L2:=L2.gr g4
 refine es 33 0 (.agg #[cc4_0,cc4_1,cc4_2,cc4_3]) [cc4_0,cc4_1,cc4_2,cc4_3] #[cc4_0,cc4_1,cc4_2,cc4_3] L2 hB q2 ⟨h4.one0,h4.one1,h4.one2,h4.one3,trivial⟩ fun w5 st5 kp5 L2 hB=>?_
 refine sv 3 (.int .i64 0) ?_
 refine sq_nil ?_
 refine k3 _ _ ?_
 try clear k3 K3
 refine wp_ret ?_
 refine bodyPost_ret (v:=(.tuple #[(.agg #[cc4_0,cc4_1,cc4_2,cc4_3]),(.int .i64 0)])) (ret_cell_tmp' _ _ _ rfl rfl L2 (by kernel_rfl) rfl) rfl ⟨?_,hB⟩
 replace h4:=h4.kp kp5
 exact ⟨_,_,_,_,rfl,h4⟩

set_option maxRecDepth 100000 in
set_option maxHeartbeats 1000000 in
theorem readr_q {k:Nat} (q:Rat) (hq:Sz k q.num∧Sz k (q.den:Int)) (hk:k≤20000) (h64:64≤k) (_hlong:((ratL q).length:Int)≤65536) (w:World) (hm:Mx w):
    Calls Tryz.prog 23 #[(.string ⟨(ratL (q):List UInt8).toArray⟩)] w fun e w'=>(∃ c0 c1 c2 c3,e=.returned (.tuple #[.agg #[c0,c1,c2,c3],.int .i64 0])∧IsRat w' k c0 c1 c2 c3 q)∧Gr w w':=by
 go_enter Tryz.func23,Tryz.ntmps23
 have hB:=Gr.refl w
 refine wp_seq_k (fun K1 k1=>?_)
 refine rg [0,1] ?_
 refine se ?_
 refine ea 33 #[(.bool false),(.slice none 0 0),(.bool false),(.slice none 0 0)] 2 hB fun b2 w2 g2 L2 o2 q2 hB=>?_
 simp only [p3,p4]
 refine sv 3 (.int .i64 0) ?_
 refine sq_nil ?_
 refine k1 _ _ ?_
 try clear k1 K1
 refine wp_seq_k (fun K3 k3=>?_)
 refine rg [0,1,2,3,4,5] ?_
 refine sv 4 (.string ⟨(ratL (q):List UInt8).toArray⟩) ?_
 refine se ?_
 refine ec 5 (read_q q hq hk h64 65536 (by omega) _ (hm.gr hB)) ?_
 rintro e4 w4 ⟨⟨cc4_0,cc4_1,cc4_2,cc4_3,rfl,h4⟩,g4⟩
 refine ⟨_,rfl,?_⟩
 replace hB:=hB.trans g4
 simp only [p3,p4]
 refine sv 6 (.agg #[cc4_0,cc4_1,cc4_2,cc4_3]) ?_
 refine sv 7 (.int .i64 0) ?_
 refine se ?_
 replace L2:=L2.gr g4
 refine es 33 0 (.agg #[cc4_0,cc4_1,cc4_2,cc4_3]) [cc4_0,cc4_1,cc4_2,cc4_3] #[cc4_0,cc4_1,cc4_2,cc4_3] L2 hB q2 ⟨h4.one0,h4.one1,h4.one2,h4.one3,trivial⟩ fun w5 st5 kp5 L2 hB=>?_
 refine sv 3 (.int .i64 0) ?_
 refine sq_nil ?_
 refine k3 _ _ ?_
 try clear k3 K3
 refine wp_ret ?_
 refine bodyPost_ret (v:=(.tuple #[(.agg #[cc4_0,cc4_1,cc4_2,cc4_3]),(.int .i64 0)])) (ret_cell_tmp' _ _ _ rfl rfl L2 (by kernel_rfl) rfl) rfl ⟨?_,hB⟩
 replace h4:=h4.kp kp5
 exact ⟨_,_,_,_,rfl,h4⟩

/-- both numbers of a short text are small -/
theorem ratL_sz (q:Rat) {m:Nat} (h:(ratL q).length≤m):Sz (4*m) q.num∧Sz (4*m) (q.den:Int):=by
  have h1:(Lib.itoa q.num).length≤m∧(q.den=1∨(Lib.itoa (q.den:Int)).length≤m):=by
    by_cases hw:q.den=1
    · rw [ratL_w hw] at h;exact ⟨h,.inl hw⟩
    · rw [ratL_f hw] at h
      simp only [List.length_append,List.length_cons,List.length_nil] at h
      exact ⟨by omega,.inr (by omega)⟩
  refine ⟨itoa_sz _ h1.1,?_⟩
  rcases h1.2 with e | e
  · rw [e]
    have:=itoa_pos q.num
    have:0<4*m:=by omega
    show (1:Nat)<2 ^ (4*m)
    exact Nat.one_lt_two_pow (by omega)
  · exact itoa_sz _ e
end Go.Proofs.YthhbibpaeonecaaGreatDoor
