/- Joined of: Gen164, R2b, R2c, R2d, R2e, R1j, Gen31, Gen160, Gen165, Lk, Gen166, Lm, Gen167, Gen168, Gen169, Ln, Gen170, Gen171, Gen172, Lo, Gen173, Lq, Gen176, Scale, Pa1. -/
import Derived.Test.YtepgkcimmdmgcaaGreatDoorPartC
import Derived.Test.YtepgkcimmdmgcaaGreatDoorPartB
import Derived.Test.YtepgkcimmdmgcaaGreatDoorPartA
import Derived.Lib.SmallJoins
import Derived.Laws.RangeString
namespace Go.Proofs.YtepgkcimmdmgcaaGreatDoor
open Go.RowKit

set_option maxRecDepth 100000 in
set_option maxHeartbeats 1000000 in
theorem div_a {k m:Nat} {u0 u1 u2 u3 v0 v1 v2 v3:Value} {a b:Rat} {w:World} (ha:IsRat w k u0 u1 u2 u3 a) (hb:IsRat w m v0 v1 v2 v3 b) (_hk:k+m≤100000) (h0:b.num≠0):
    Calls Tryz.prog 113 #[(.agg #[u0,u1,u2,u3]),(.agg #[v0,v1,v2,v3])] w fun e w'=>(∃ c0 c1 c2 c3,e=.returned (.tuple #[.agg #[c0,c1,c2,c3],.int .i64 0])∧IsRat w' (k+m) c0 c1 c2 c3 (a/b))∧Gr w w':=by
 have hka:=ha.big
 have hkb:=hb.big
 have he:(sgn (b).num==(0:Int))=false:=by rw [beq_eq_false_iff_ne];exact fun e=>h0 (sgn_eq_zero.1 e)
 go_enter Tryz.func113,Tryz.ntmps113
 have hB:=Gr.refl w
 refine wp_seq_k (fun K1 k1=>?_)
 refine rg [0,1,2,3] ?_
 refine se ?_
 refine eb 71 #[u0,u1,u2,u3] 2 hB fun b2 w2 g2 L2 o2 q2 hB=>?_
 simp only [p3,p4]
 refine se ?_
 refine eb 71 #[v0,v1,v2,v3] 3 hB fun b3 w3 g3 L3 o3 q3 hB=>?_
 simp only [p3,p4]
 refine se ?_
 refine ea 71 #[(.bool false),(.slice none 0 0),(.bool false),(.slice none 0 0)] 4 hB fun b4 w4 g4 L4 o4 q4 hB=>?_
 replace L2:=L2.gr g3
 have ne2_4:=L2.ne o4
 have ne3_4:=L3.ne o4
 simp only [p3,p4]
 refine sv 5 (.int .i64 0) ?_
 refine sq_nil ?_
 refine k1 _ _ ?_
 try clear k1 K1
 refine wp_seq_k (fun K5 k5=>?_)
 refine wp_seq_k (fun K6 k6=>?_)
 refine rg [0,1,2] ?_
 replace L3:=L3.gr g4
 refine sw 6 (.agg #[v0,v1,v2,v3]) rfl (rl 71 0 [v0,v1,v2,v3] L3) ?_
 refine se ?_
 have kq8:=g2.kp.trans (g3.kp.trans g4.kp)
 replace hb:=hb.kp kq8
 refine ec 7 (sign_r hb) ?_
 rintro e7 w7 ⟨rfl,g7⟩
 refine ⟨_,rfl,?_⟩
 replace hB:=hB.trans g7
 simp only [p3,p4]
 refine sw 8 (.bool false) rfl (RunV.bool (x:=(sgn (b).num==(0:Int))) (rvk (by kernel_rfl)) he) ?_
 refine sq_nil ?_
 refine k6 _ _ ?_
 try clear k6 K6
 refine wp_cond_false rfl ?_
 refine wp_skip ?_
 refine k5 _ _ ?_
 try clear k5 K5
 refine wp_seq_k (fun K9 k9=>?_)
 have gd27:=Gr.drew w7
 replace hB:=hB.trans gd27
 replace L2:=L2.gr (g4.trans (g7.trans gd27))
 replace L3:=L3.gr (g7.trans gd27)
 refine wp_region_ord (fun w'=>Lc w' b2 #[u0,u1,u2,u3] 71∧Lc w' b3 #[v0,v1,v2,v3] 71) [(true,0),(true,1),(true,2),(true,5),(true,7),(true,8),(false,3),(false,4),(false,6),(false,9),(false,10),(false,11),(true,12)] (by kernel_rfl) (by kernel_rfl) (by kernel_rfl) (by decide) (fun _ _ _ _ _ h=>h) ⟨L2,L3⟩ ?_
 refine ov 10 (.pointer (some ⟨b2,0,none⟩)) ?_
 refine ow 11 (.agg #[u0,u1]) rfl (fun w' hS=>(rl 69 0 [u0,u1] hS.1)) ?_
 refine ow 12 (.agg #[v0,v1,v2,v3]) rfl (fun w' hS=>(rl 71 0 [v0,v1,v2,v3] hS.2)) ?_
 refine ow 15 (.agg #[u0,u1,u2,u3]) rfl (fun w' hS=>(rl 71 0 [u0,u1,u2,u3] hS.1)) ?_
 refine ov 17 (.pointer (some ⟨b3,0,none⟩)) ?_
 refine ow 18 (.agg #[v0,v1]) rfl (fun w' hS=>(rl 69 0 [v0,v1] hS.2)) ?_
 refine oe ?_
 have kq30:=g7.kp.trans gd27.kp
 replace hb:=hb.kp kq30
 refine ec 13 (den_i hb) ?_
 rintro e29 w29 ⟨⟨x29,y29,rfl,h29⟩,g29⟩
 refine ⟨_,rfl,?_⟩
 replace hB:=hB.trans g29
 replace L2:=L2.gr g29
 replace L3:=L3.gr g29
 refine ⟨⟨L2,L3⟩,?_⟩
 simp only [p3,p4]
 refine oe ?_
 have kq33:=g2.kp.trans (g3.kp.trans (g4.kp.trans (g7.kp.trans (gd27.kp.trans g29.kp))))
 replace ha:=ha.kp kq33
 refine ec 14 (mul_i ha.num h29 (by omega)) ?_
 rintro e32 w32 ⟨⟨x32,y32,rfl,h32⟩,g32⟩
 refine ⟨_,rfl,?_⟩
 replace hB:=hB.trans g32
 replace L2:=L2.gr g32
 replace L3:=L3.gr g32
 refine ⟨⟨L2,L3⟩,?_⟩
 simp only [p3,p4]
 refine oe ?_
 replace ha:=ha.kp g32.kp
 refine ec 16 (den_i ha) ?_
 rintro e35 w35 ⟨⟨x35,y35,rfl,h35⟩,g35⟩
 refine ⟨_,rfl,?_⟩
 replace hB:=hB.trans g35
 replace L2:=L2.gr g35
 replace L3:=L3.gr g35
 refine ⟨⟨L2,L3⟩,?_⟩
 simp only [p3,p4]
 refine oe ?_
 have kq38:=g29.kp.trans (g32.kp.trans g35.kp)
 replace hb:=hb.kp kq38
 refine ec 19 (mul_i h35 hb.num (by omega)) ?_
 rintro e37 w37 ⟨⟨x37,y37,rfl,h37⟩,g37⟩
 refine ⟨_,rfl,?_⟩
 replace hB:=hB.trans g37
 replace L2:=L2.gr g37
 replace L3:=L3.gr g37
 refine ⟨⟨L2,L3⟩,?_⟩
 simp only [p3,p4]
 refine oe ?_
 have kq41:=g35.kp.trans g37.kp
 replace h32:=h32.kp kq41
 refine ec 20 (reduced_a (k+m) h32 h37 (Int.mul_ne_zero (Int.ne_of_gt (Int.natCast_pos.2 a.den_pos)) h0) (by omega) (by omega) (by omega) (by omega)) ?_
 rintro e40 w40 ⟨⟨p40,q40,r40,s40,rfl,h40⟩,g40⟩
 refine ⟨_,rfl,?_⟩
 replace hB:=hB.trans g40
 replace L2:=L2.gr g40
 replace L3:=L3.gr g40
 refine ⟨⟨L2,L3⟩,?_⟩
 simp only [p3,p4]
 refine oe ?_
 replace L4:=L4.gr (g7.trans (gd27.trans (g29.trans (g32.trans (g35.trans (g37.trans g40))))))
 refine es 71 0 (.agg #[p40,q40,r40,s40]) [p40,q40,r40,s40] #[p40,q40,r40,s40] L4 hB q4 ⟨h40.one0,h40.one1,h40.one2,h40.one3,trivial⟩ fun w43 st43 kp43 L4 hB=>?_
 replace L2:=st43.lc L2 ne2_4
 replace L3:=st43.lc L3 ne3_4
 refine ⟨⟨L2,L3⟩,?_⟩
 refine ov 5 (.int .i64 0) ?_
 refine ord_nil ?_
 refine k9 _ _ ?_
 try clear k9 K9
 refine wp_ret ?_
 refine bodyPost_ret (v:=(.tuple #[(.agg #[p40,q40,r40,s40]),(.int .i64 0)])) (ret_cell_tmp' _ _ _ rfl rfl L4 (by kernel_rfl) rfl) rfl ⟨?_,hB⟩
 replace h40:=h40.kp kp43
 exact ⟨_,_,_,_,rfl,by rw [← rat_div];exact h40⟩

theorem sub_mul0 {x y p:Rat} (h:(sgn y.num==(0:Int))=true):x=x - p*y:=by
  have h1:sgn y.num=0:=by simpa using h
  have h2:y.num=0:=sgn_eq_zero.1 h1
  have h3:y=0:=Rat.num_eq_zero.1 h2
  subst h3;grind
theorem div_inv (x p:Rat):x/p=x*(1/p):=by grind
set_option maxRecDepth 100000 in
set_option maxHeartbeats 1000000 in
theorem mx_less1 {K L:Nat} {f0 f1 f2 f3 j0 j1 j2 j3 n0 n1 n2 n3:Value} {x y p:Rat} {bb:Nat} {w:World} (hx:IsRat w K f0 f1 f2 f3 x) (hy:IsRat w K j0 j1 j2 j3 y) (hp:IsRat w L n0 n1 n2 n3 p) (hL:Lc w bb #[n0,n1,n2,n3] 71) (_hk:K+L≤40000):
    Calls Tryz.prog 114 #[(.agg #[f0,f1,f2,f3]),(.agg #[j0,j1,j2,j3]),(.pointer (some ⟨bb,0,none⟩))] w fun e w'=>(∃ c0 c1 c2 c3,e=.returned (.agg #[c0,c1,c2,c3])∧IsRat w' (2*K+L+1) c0 c1 c2 c3 (x - p*y))∧Gr w w':=by
 have hbx:=hx.big
 go_enter Tryz.func114,Tryz.ntmps114
 have hB:=Gr.refl w
 refine wp_seq_k (fun K1 k1=>?_)
 refine rg [0,1,2] ?_
 refine se ?_
 refine eb 71 #[f0,f1,f2,f3] 3 hB fun b2 w2 g2 L2 o2 q2 hB=>?_
 simp only [p3,p4]
 refine se ?_
 refine eb 71 #[j0,j1,j2,j3] 4 hB fun b3 w3 g3 L3 o3 q3 hB=>?_
 replace hL:=hL.gr g2
 simp only [p3,p4]
 refine se ?_
 refine ea 71 #[(.bool false),(.slice none 0 0),(.bool false),(.slice none 0 0)] 5 hB fun b4 w4 g4 L4 o4 q4 hB=>?_
 replace hL:=hL.gr g3
 have ne0_4:=hL.ne o4
 replace L2:=L2.gr g3
 have ne2_4:=L2.ne o4
 have ne3_4:=L3.ne o4
 simp only [p3,p4]
 refine sq_nil ?_
 refine k1 _ _ ?_
 try clear k1 K1
 refine wp_seq_k (fun K5 k5=>?_)
 refine wp_seq_k (fun K6 k6=>?_)
 refine rg [0,1,2] ?_
 replace L3:=L3.gr g4
 refine sw 6 (.agg #[j0,j1,j2,j3]) rfl (rl 71 0 [j0,j1,j2,j3] L3) ?_
 refine se ?_
 have kq8:=g2.kp.trans (g3.kp.trans g4.kp)
 replace hy:=hy.kp kq8
 refine ec 7 (sign_r hy) ?_
 rintro e7 w7 ⟨rfl,g7⟩
 refine ⟨_,rfl,?_⟩
 replace hB:=hB.trans g7
 simp only [p3,p4]
 refine sv 8 (.bool ((sgn (y).num==(0:Int)))) ?_
 refine sq_nil ?_
 refine k6 _ _ ?_
 try clear k6 K6
 refine wp_cond_split (t:=(sgn (y).num==(0:Int))) rfl (fun hb9=>?_) (fun hb9=>?_)
 ·refine wp_seq_k (fun K10 k10=>?_)
  refine rg [0,1] ?_
  replace L2:=L2.gr (g4.trans g7)
  refine sw 9 (.agg #[f0,f1,f2,f3]) rfl (rl 71 0 [f0,f1,f2,f3] L2) ?_
  refine se ?_
  replace L4:=L4.gr g7
  refine es 71 0 (.agg #[f0,f1,f2,f3]) [f0,f1,f2,f3] #[f0,f1,f2,f3] L4 hB q4 ⟨hx.one0,hx.one1,hx.one2,hx.one3,trivial⟩ fun w11 st11 kp11 L4 hB=>?_
  refine sq_nil ?_
  refine k10 _ _ ?_
  try clear k10 K10
  refine wp_ret ?_
  simp only [Exit.then]
  refine bodyPost_ret (v:=(.agg #[f0,f1,f2,f3])) (ret_cell _ _ _ rfl rfl L4 (by kernel_rfl)) rfl ⟨?_,hB⟩
  have kq12:=g2.kp.trans (g3.kp.trans (g4.kp.trans (g7.kp.trans kp11)))
  replace hx:=hx.kp kq12
  exact ⟨_,_,_,_,rfl,(hx.mono (by omega)).castq (sub_mul0 hb9)⟩
 ·refine wp_skip ?_
  refine k5 _ _ ?_
  try clear k5 K5
  refine wp_seq_k (fun K13 k13=>?_)
  have gd24:=Gr.drew w7
  replace hB:=hB.trans gd24
  replace hL:=hL.gr (g4.trans (g7.trans gd24))
  replace L2:=L2.gr (g4.trans (g7.trans gd24))
  replace L3:=L3.gr (g7.trans gd24)
  refine wp_region_ord (fun w'=>Lc w' bb #[n0,n1,n2,n3] 71∧Lc w' b2 #[f0,f1,f2,f3] 71∧Lc w' b3 #[j0,j1,j2,j3] 71) [(true,0),(true,1),(true,2),(false,3),(false,4),(false,5)] (by kernel_rfl) (by kernel_rfl) (by kernel_rfl) (by decide) (fun _ _ _ _ _ h=>h) ⟨hL,L2,L3⟩ ?_
  refine ow 10 (.agg #[f0,f1,f2,f3]) rfl (fun w' hS=>(rl 71 0 [f0,f1,f2,f3] hS.2.1)) ?_
  refine ow 11 (.agg #[n0,n1,n2,n3]) rfl (fun w' hS=>(rl 71 0 [n0,n1,n2,n3] hS.1)) ?_
  refine ow 12 (.agg #[j0,j1,j2,j3]) rfl (fun w' hS=>(rl 71 0 [j0,j1,j2,j3] hS.2.2)) ?_
  refine oe ?_
  have kq27:=g2.kp.trans (g3.kp.trans (g4.kp.trans (g7.kp.trans gd24.kp)))
  replace hp:=hp.kp kq27
  have kq28:=g7.kp.trans gd24.kp
  replace hy:=hy.kp kq28
  refine ec 13 (mul_r hp hy (by omega)) ?_
  rintro e26 w26 ⟨⟨p26,q26,r26,s26,rfl,h26⟩,g26⟩
  refine ⟨_,rfl,?_⟩
  replace hB:=hB.trans g26
  replace hL:=hL.gr g26
  replace L2:=L2.gr g26
  replace L3:=L3.gr g26
  refine ⟨⟨hL,L2,L3⟩,?_⟩
  simp only [p3,p4]
  refine oe ?_
  have kq31:=g2.kp.trans (g3.kp.trans (g4.kp.trans (g7.kp.trans (gd24.kp.trans g26.kp))))
  replace hx:=hx.kp kq31
  refine ec 14 (sub_r hx h26 (by omega)) ?_
  rintro e30 w30 ⟨⟨p30,q30,r30,s30,rfl,h30⟩,g30⟩
  refine ⟨_,rfl,?_⟩
  replace hB:=hB.trans g30
  replace hL:=hL.gr g30
  replace L2:=L2.gr g30
  replace L3:=L3.gr g30
  refine ⟨⟨hL,L2,L3⟩,?_⟩
  simp only [p3,p4]
  refine oe ?_
  replace L4:=L4.gr (g7.trans (gd24.trans (g26.trans g30)))
  refine es 71 0 (.agg #[p30,q30,r30,s30]) [p30,q30,r30,s30] #[p30,q30,r30,s30] L4 hB q4 ⟨h30.one0,h30.one1,h30.one2,h30.one3,trivial⟩ fun w33 st33 kp33 L4 hB=>?_
  replace hL:=st33.lc hL ne0_4
  replace L2:=st33.lc L2 ne2_4
  replace L3:=st33.lc L3 ne3_4
  refine ⟨⟨hL,L2,L3⟩,?_⟩
  refine ord_nil ?_
  refine k13 _ _ ?_
  try clear k13 K13
  refine wp_ret ?_
  refine bodyPost_ret (v:=(.agg #[p30,q30,r30,s30])) (ret_cell _ _ _ rfl rfl L4 (by kernel_rfl)) rfl ⟨?_,hB⟩
  replace h30:=h30.kp kp33
  exact ⟨_,_,_,_,rfl,h30.mono (by omega)⟩

set_option maxRecDepth 100000 in
set_option maxHeartbeats 1000000 in
theorem mx_over1 {K L:Nat} {f0 f1 f2 f3 j0 j1 j2 j3 n0 n1 n2 n3:Value} {x y p:Rat} {bb:Nat} {w:World} (hx:IsRat w K f0 f1 f2 f3 x) (_hy:IsRat w K j0 j1 j2 j3 y) (hp:IsRat w L n0 n1 n2 n3 p) (hL:Lc w bb #[n0,n1,n2,n3] 71) (_hk:K+L≤40000) (h0:p.num≠0):
    Calls Tryz.prog 112 #[(.agg #[f0,f1,f2,f3]),(.agg #[j0,j1,j2,j3]),(.pointer (some ⟨bb,0,none⟩))] w fun e w'=>(∃ c0 c1 c2 c3,e=.returned (.agg #[c0,c1,c2,c3])∧IsRat w' (K+L) c0 c1 c2 c3 (x*(1/p)))∧Gr w w':=by
 go_enter Tryz.func112,Tryz.ntmps112
 have hB:=Gr.refl w
 refine wp_seq_k (fun K1 k1=>?_)
 refine rg [0,1,2] ?_
 refine se ?_
 refine eb 71 #[f0,f1,f2,f3] 3 hB fun b2 w2 g2 L2 o2 q2 hB=>?_
 simp only [p3,p4]
 refine se ?_
 refine eb 71 #[j0,j1,j2,j3] 4 hB fun b3 w3 g3 L3 o3 q3 hB=>?_
 replace hL:=hL.gr g2
 simp only [p3,p4]
 refine se ?_
 refine ea 71 #[(.bool false),(.slice none 0 0),(.bool false),(.slice none 0 0)] 5 hB fun b4 w4 g4 L4 o4 q4 hB=>?_
 replace hL:=hL.gr g3
 replace L2:=L2.gr g3
 simp only [p3,p4]
 refine sq_nil ?_
 refine k1 _ _ ?_
 try clear k1 K1
 refine wp_seq_k (fun K5 k5=>?_)
 refine rg [0,1,2,3,4,5,6,7,8] ?_
 replace L2:=L2.gr g4
 refine sw 9 (.agg #[f0,f1,f2,f3]) rfl (rl 71 0 [f0,f1,f2,f3] L2) ?_
 replace hL:=hL.gr g4
 refine sw 10 (.agg #[n0,n1,n2,n3]) rfl (rl 71 0 [n0,n1,n2,n3] hL) ?_
 refine se ?_
 have kq7:=g2.kp.trans (g3.kp.trans g4.kp)
 replace hx:=hx.kp kq7
 replace hp:=hp.kp kq7
 refine ec 11 (div_a hx hp (by omega) h0) ?_
 rintro e6 w6 ⟨⟨p6,q6,r6,s6,rfl,h6⟩,g6⟩
 refine ⟨_,rfl,?_⟩
 replace hB:=hB.trans g6
 simp only [p3,p4]
 refine sv 8 (.tuple #[(.agg #[p6,q6,r6,s6]),(.int .i64 0)]) ?_
 refine sv 12 (.agg #[p6,q6,r6,s6]) ?_
 refine sv 13 (.int .i64 0) ?_
 refine se ?_
 refine ea 71 #[(.bool false),(.slice none 0 0),(.bool false),(.slice none 0 0)] 6 hB fun b8 w8 g8 L8 o8 q8 hB=>?_
 replace hL:=hL.gr g6
 replace L4:=L4.gr g6
 have ne4_8:=L4.ne o8
 simp only [p3,p4]
 refine se ?_
 refine es 71 0 (.agg #[p6,q6,r6,s6]) [p6,q6,r6,s6] #[p6,q6,r6,s6] L8 hB q8 ⟨h6.one0,h6.one1,h6.one2,h6.one3,trivial⟩ fun w9 st9 kp9 L8 hB=>?_
 refine sv 7 (.int .i64 0) ?_
 refine sq_nil ?_
 refine k5 _ _ ?_
 try clear k5 K5
 refine wp_seq_k (fun K10 k10=>?_)
 refine rg [0,1] ?_
 refine sw 14 (.agg #[p6,q6,r6,s6]) rfl (rl 71 0 [p6,q6,r6,s6] L8) ?_
 refine se ?_
 replace L4:=st9.lc (L4.gr g8) ne4_8
 refine es 71 0 (.agg #[p6,q6,r6,s6]) [p6,q6,r6,s6] #[p6,q6,r6,s6] L4 hB q4 ⟨h6.one0,h6.one1,h6.one2,h6.one3,trivial⟩ fun w11 st11 kp11 L4 hB=>?_
 refine sq_nil ?_
 refine k10 _ _ ?_
 try clear k10 K10
 refine wp_ret ?_
 refine bodyPost_ret (v:=(.agg #[p6,q6,r6,s6])) (ret_cell _ _ _ rfl rfl L4 (by kernel_rfl)) rfl ⟨?_,hB⟩
 have kq12:=g8.kp.trans (kp9.trans kp11)
 replace h6:=h6.kp kq12
 exact ⟨_,_,_,_,rfl,h6.castq (div_inv _ _)⟩

set_option maxRecDepth 100000 in
set_option maxHeartbeats 1000000 in
theorem mx_each_less {K L M N:Nat} {vx vy:Value} {x y:Nat→Rat} {n0 n1 n2 n3:Value} {p:Rat} {bb:Nat} {w:World} (hp:IsRat w L n0 n1 n2 n3 p) (_hk:K+L≤40000) (hM:64≤M) (_hN:N≤100000) (hz:∀ j,j<N→RZ M M (x j - p*y j)) (hL:Lc w bb #[n0,n1,n2,n3] 71) (hx:Sl (ERat K) 71 4 w vx (tb (fun z1=>(x z1)) N)) (hy:Sl (ERat K) 71 4 w vy (tb (fun z1=>(y z1)) N)):
    Calls Tryz.prog 111 #[vx,vy,(.func (.func 114) #[] #[(.pointer (some ⟨bb,0,none⟩))])] w fun e w'=>(∃ u,e=.returned u∧Sl (ERat M) 71 4 w' u (tb (fun z1=>(x z1 - p*y z1)) N)∧Nw w.heap.size u)∧Gr w w':=by
 go_enter Tryz.func111,Tryz.ntmps111
 have hB:=Gr.refl w
 refine wp_seq_k (fun K10 k10=>?_)
 refine rg [0] ?_
 refine sv 6 (.slice none 0 0) ?_
 refine sq_nil ?_
 refine k10 _ _ ?_
 try clear k10 K10
 refine wp_seq_k (fun K11 k11=>?_)
 refine rg [0,1,2,3] ?_
 refine sv 9 vx ?_
 refine sw 10 (.int .i64 ((N:Int))) rfl (rv_lenn (e:=71) hx (tb_lenz rfl) _ _ rfl rfl (by kernel_rfl)) ?_
 refine se ?_
 refine eff_mk (E:=(ERat M)) (0:Rat) 49 71 (.agg #[(.bool false),(.slice none 0 0),(.bool false),(.slice none 0 0)]) N 4 64 (some 11) rfl rfl rfl rfl (by kernel_rfl) (by kernel_rfl) (by decide) (by omega) (by decide) (fun w2=>erat_zero M hM w2) (fun b12 w12 g12 mk12 q12=>?_)
 have ne0_12:=hL.ne q12
 replace q12:=Nat.le_trans (Below.size hB) q12
 replace hB:=hB.trans g12
 simp only [putl,p3,p4]
 refine sv 7 (.slice (some ⟨b12,0,none⟩) N N) ?_
 refine sq_nil ?_
 refine k11 _ _ ?_
 try clear k11 K11
 refine wp_seq_k (fun K13 k13=>?_)
 refine wp_seq_k (fun K14 k14=>?_)
 refine rg [0,1,2] ?_
 refine sv 12 vx ?_
 refine sw 13 (.int .i64 ((N:Int))) rfl (rv_lenn (e:=71) hx (tb_lenz rfl) _ _ rfl rfl (by kernel_rfl)) ?_
 refine sv 14 (.int .i64 0) ?_
 refine sq_nil ?_
 refine k14 _ _ ?_
 try clear k14 K14
 refine wp_block ?_
 replace hL:=hL.gr g12
 refine wp_loop_inv (a:=⟨List.toArray ?l15,[]⟩) (fun n a w'=>∃ (j:Nat) (u15:Nat→Value),N - j=n∧a=⟨[vx,vy,(.func (.func 114) #[] #[(.pointer (some ⟨bb,0,none⟩))]),undef,undef,undef,(.slice none 0 0),(.slice (some ⟨b12,0,none⟩) N N),(u15 8),(u15 9),(u15 10),(u15 11),(u15 12),(.int .i64 ((N:Int))),(.int .i64 ((j:Int))),(u15 15),(u15 16),(u15 17),(u15 18),(u15 19),(u15 20),(u15 21),(u15 22),(u15 23),(u15 24),(u15 25),(u15 26),(u15 27),(u15 28),(u15 29),(u15 30),undef].toArray,[]⟩∧j≤N∧Mk (ERat M) 71 4 w' b12 (fil (fun z1=>(x z1 - p*y z1)) (0:Rat) N j)∧Lc w' bb #[n0,n1,n2,n3] 71∧Gr w w') (N - 0) ?_ ?_
 ·exact ⟨0,(fun i=>List.getD ?l15 i undef),rfl,rfl,(Nat.zero_le _),(mk12.cast fil_zero),hL,hB⟩
 rintro n15 a15 w15 ⟨j,u15,rfl,rfl,hkj,mj,hL,hB⟩ K15 k15
 refine wp_seq_k (fun K16 k16=>?_)
 refine rg [0] ?_
 refine sv 15 (.bool (decide ((j:Int)<(N:Int)))) ?_
 refine sq_nil ?_
 refine k16 _ _ ?_
 try clear k16 K16
 refine wp_seq_k (fun K17 k17=>?_)
 refine wp_cond_split (t:=decide ((j:Int)<(N:Int))) rfl (fun hb18=>?_) (fun hb18=>?_)
 ·have hlj:j<N:=by have:=of_decide_eq_true hb18;omega
  refine wp_skip ?_
  refine k17 _ _ ?_
  try clear k17 K17
  refine wp_seq_k (fun K19 k19=>?_)
  refine wp_block ?_
  refine wp_seq_k (fun K20 k20=>?_)
  refine rg [0,1] ?_
  refine sv 16 (.int .i64 ((j:Int))) ?_
  refine sv 8 (.int .i64 ((j:Int))) ?_
  refine sq_nil ?_
  refine k20 _ _ ?_
  try clear k20 K20
  obtain ⟨_,_,⟨cA26,cB26,cC26,cD26,rfl,h26⟩,at26⟩:=Sl.get hx (by decide) (tb_get (f:=(fun z1=>(x z1))) (n:=N) (i:=j) (by omega))
  obtain ⟨_,_,⟨cA27,cB27,cC27,cD27,rfl,h27⟩,at27⟩:=Sl.get hy (by decide) (tb_get (f:=(fun z1=>(y z1))) (n:=N) (i:=j) (by omega))
  have gd28:=Gr.drew w15
  replace hB:=hB.trans gd28
  refine wp_region_ord (fun w'=>AtV w' vx (j*4) [cA26,cB26,cC26,cD26]∧AtV w' vy (j*4) [cA27,cB27,cC27,cD27]) [(true,0),(true,1),(true,2),(true,3),(true,4),(true,5),(true,6),(true,7),(true,8),(true,9),(true,10),(false,11),(true,12),(false,13)] (by kernel_rfl) (by kernel_rfl) (by kernel_rfl) (by decide) (fun _ _ _ _ _ h=>h) ⟨(at26.gr hB),(at27.gr hB)⟩ ?_
  refine ov 17 (.slice (some ⟨b12,0,none⟩) N N) ?_
  refine ov 18 (.int .i64 ((j:Int))) ?_
  refine ov 19 (.func (.func 114) #[] #[(.pointer (some ⟨bb,0,none⟩))]) ?_
  refine ov 20 vx ?_
  refine ov 21 (.int .i64 ((j:Int))) ?_
  refine ow 22 (adr vx (j*4)) rfl (fun w' hS=>(rv_idxn (e:=71) hx tb_len (by decide) j (by omega) _ _ _ rfl rfl rfl (by kernel_rfl) (by kernel_rfl))) ?_
  refine ow 23 (.agg #[cA26,cB26,cC26,cD26]) rfl (fun w' hS=>(rv_ldn [cA26,cB26,cC26,cD26] hS.1 _ _ rfl rfl (by kernel_rfl))) ?_
  refine ov 24 vy ?_
  refine ov 25 (.int .i64 ((j:Int))) ?_
  refine ow 26 (adr vy (j*4)) rfl (fun w' hS=>(rv_idxn (e:=71) hy tb_len (by decide) j (by omega) _ _ _ rfl rfl rfl (by kernel_rfl) (by kernel_rfl))) ?_
  refine ow 27 (.agg #[cA27,cB27,cC27,cD27]) rfl (fun w' hS=>(rv_ldn [cA27,cB27,cC27,cD27] hS.2 _ _ rfl rfl (by kernel_rfl))) ?_
  refine oe ?_
  replace hL:=hL.gr gd28
  refine ec 28 (mx_less1 (h26.kp hB.kp) (h27.kp hB.kp) (hp.kp hB.kp) hL (by omega)) ?_
  rintro e30 w30 ⟨⟨p30,q30,r30,s30,rfl,h30⟩,g30⟩
  refine ⟨_,rfl,?_⟩
  replace hB:=hB.trans g30
  refine ⟨⟨(at26.gr hB),(at27.gr hB)⟩,?_⟩
  simp only [p3,p4]
  refine ow 29 (adr (.slice (some ⟨b12,0,none⟩) N N) (j*4)) rfl (fun w' hS=>(rv_idxn (e:=71) (n:=N) (mj.sl_n (n:=N) (cap:=N) (fil_len (by omega)) (Nat.le_refl _)) (fil_len (by omega)) (by decide) j (by omega) _ _ _ rfl rfl rfl (by kernel_rfl) (by kernel_rfl))) ?_
  refine oe ?_
  replace mj:=mj.gr (stab_rat M) (gd28.trans g30)
  refine eff_stm (stab_rat M) mj j (fil_lt (by omega) (by omega)) (((x j) - p*(y j))) (.agg #[p30,q30,r30,s30]) [p30,q30,r30,s30] (N) (N) 71 _ _ rfl rfl rfl rfl rfl (by kernel_rfl) rfl ⟨h30.one0,h30.one1,h30.one2,h30.one3,trivial⟩ ⟨_,_,_,_,rfl,h30.resz (hz j hlj) (by omega)⟩ (by decide) (fun w32 st32 kt32 mk32=>?_)
  replace hB:=st32.gr hB q12
  refine ⟨⟨(at26.gr hB),(at27.gr hB)⟩,?_⟩
  refine ord_nil ?_
  refine k19 _ _ ?_
  try clear k19 K19
  refine rg [0,1] ?_
  refine sw 30 (.int .i64 (((j:Int)+1))) rfl (RunV.int (x:=IntKind.i64.wrap (((j:Int)+1))) (y:=((j:Int)+1)) (rvk (by kernel_rfl)) (by first | rfl | (rw [IntKind.wrap_i64];omega))) ?_
  refine sv 14 (.int .i64 (((j:Int)+1))) ?_
  refine sq_nil ?_
  replace hL:=st32.lc (hL.gr g30) ne0_12
  refine k15 (N - (j+1)) ⟨List.toArray ?l33,[]⟩ _ (by omega) ?_
  exact ⟨j+1,(fun i=>List.getD ?l33 i undef),rfl,rfl,(by omega),(mk32.cast (fil_set hlj (by first | rfl | exact fil_all))),hL,hB⟩
 ·have hej:N=j:=by have:=of_decide_eq_false hb18;omega
  subst hej
  refine wp_exit ?_
  simp only [Exit.then,Exit.inBlock,↓reduceIte]
  refine k13 _ _ ?_
  try clear k13 K13
  refine wp_seq_k (fun K34 k34=>?_)
  refine rg [0,1] ?_
  refine sv 31 (.slice (some ⟨b12,0,none⟩) N N) ?_
  refine sv 6 (.slice (some ⟨b12,0,none⟩) N N) ?_
  refine sq_nil ?_
  refine k34 _ _ ?_
  try clear k34 K34
  refine wp_ret ?_
  refine bodyPost_ret (v:=(.slice (some ⟨b12,0,none⟩) N N)) (ret_tmp rfl rfl) rfl ⟨?_,hB⟩
  exact ⟨_,rfl,(Sl.cast (mj.sl_n (fil_len (by omega)) (Nat.le_refl _)) fil_all),Nw.mk q12⟩

set_option maxRecDepth 100000 in
set_option maxHeartbeats 1000000 in
theorem mx_each_over {K L M N:Nat} {vx:Value} {x:Nat→Rat} {n0 n1 n2 n3:Value} {p:Rat} {bb:Nat} {w:World} (hp:IsRat w L n0 n1 n2 n3 p) (_hk:K+L≤40000) (hM:64≤M) (_hN:N≤100000) (h0:p.num≠0) (hz:∀ j,j<N→RZ M M (x j*(1/p))) (hL:Lc w bb #[n0,n1,n2,n3] 71) (hx:Sl (ERat K) 71 4 w vx (tb (fun z1=>(x z1)) N)):
    Calls Tryz.prog 111 #[vx,vx,(.func (.func 112) #[] #[(.pointer (some ⟨bb,0,none⟩))])] w fun e w'=>(∃ u,e=.returned u∧Sl (ERat M) 71 4 w' u (tb (fun z1=>(x z1*(1/p))) N)∧Nw w.heap.size u)∧Gr w w':=by
 go_enter Tryz.func111,Tryz.ntmps111
 have hB:=Gr.refl w
 refine wp_seq_k (fun K10 k10=>?_)
 refine rg [0] ?_
 refine sv 6 (.slice none 0 0) ?_
 refine sq_nil ?_
 refine k10 _ _ ?_
 try clear k10 K10
 refine wp_seq_k (fun K11 k11=>?_)
 refine rg [0,1,2,3] ?_
 refine sv 9 vx ?_
 refine sw 10 (.int .i64 ((N:Int))) rfl (rv_lenn (e:=71) hx (tb_lenz rfl) _ _ rfl rfl (by kernel_rfl)) ?_
 refine se ?_
 refine eff_mk (E:=(ERat M)) (0:Rat) 49 71 (.agg #[(.bool false),(.slice none 0 0),(.bool false),(.slice none 0 0)]) N 4 64 (some 11) rfl rfl rfl rfl (by kernel_rfl) (by kernel_rfl) (by decide) (by omega) (by decide) (fun w2=>erat_zero M hM w2) (fun b12 w12 g12 mk12 q12=>?_)
 have ne0_12:=hL.ne q12
 replace q12:=Nat.le_trans (Below.size hB) q12
 replace hB:=hB.trans g12
 simp only [putl,p3,p4]
 refine sv 7 (.slice (some ⟨b12,0,none⟩) N N) ?_
 refine sq_nil ?_
 refine k11 _ _ ?_
 try clear k11 K11
 refine wp_seq_k (fun K13 k13=>?_)
 refine wp_seq_k (fun K14 k14=>?_)
 refine rg [0,1,2] ?_
 refine sv 12 vx ?_
 refine sw 13 (.int .i64 ((N:Int))) rfl (rv_lenn (e:=71) hx (tb_lenz rfl) _ _ rfl rfl (by kernel_rfl)) ?_
 refine sv 14 (.int .i64 0) ?_
 refine sq_nil ?_
 refine k14 _ _ ?_
 try clear k14 K14
 refine wp_block ?_
 replace hL:=hL.gr g12
 refine wp_loop_inv (a:=⟨List.toArray ?l15,[]⟩) (fun n a w'=>∃ (j:Nat) (u15:Nat→Value),N - j=n∧a=⟨[vx,vx,(.func (.func 112) #[] #[(.pointer (some ⟨bb,0,none⟩))]),undef,undef,undef,(.slice none 0 0),(.slice (some ⟨b12,0,none⟩) N N),(u15 8),(u15 9),(u15 10),(u15 11),(u15 12),(.int .i64 ((N:Int))),(.int .i64 ((j:Int))),(u15 15),(u15 16),(u15 17),(u15 18),(u15 19),(u15 20),(u15 21),(u15 22),(u15 23),(u15 24),(u15 25),(u15 26),(u15 27),(u15 28),(u15 29),(u15 30),undef].toArray,[]⟩∧j≤N∧Mk (ERat M) 71 4 w' b12 (fil (fun z1=>(x z1*(1/p))) (0:Rat) N j)∧Lc w' bb #[n0,n1,n2,n3] 71∧Gr w w') (N - 0) ?_ ?_
 ·exact ⟨0,(fun i=>List.getD ?l15 i undef),rfl,rfl,(Nat.zero_le _),(mk12.cast fil_zero),hL,hB⟩
 rintro n15 a15 w15 ⟨j,u15,rfl,rfl,hkj,mj,hL,hB⟩ K15 k15
 refine wp_seq_k (fun K16 k16=>?_)
 refine rg [0] ?_
 refine sv 15 (.bool (decide ((j:Int)<(N:Int)))) ?_
 refine sq_nil ?_
 refine k16 _ _ ?_
 try clear k16 K16
 refine wp_seq_k (fun K17 k17=>?_)
 refine wp_cond_split (t:=decide ((j:Int)<(N:Int))) rfl (fun hb18=>?_) (fun hb18=>?_)
 ·have hlj:j<N:=by have:=of_decide_eq_true hb18;omega
  refine wp_skip ?_
  refine k17 _ _ ?_
  try clear k17 K17
  refine wp_seq_k (fun K19 k19=>?_)
  refine wp_block ?_
  refine wp_seq_k (fun K20 k20=>?_)
  refine rg [0,1] ?_
  refine sv 16 (.int .i64 ((j:Int))) ?_
  refine sv 8 (.int .i64 ((j:Int))) ?_
  refine sq_nil ?_
  refine k20 _ _ ?_
  try clear k20 K20
  obtain ⟨_,_,⟨cA26,cB26,cC26,cD26,rfl,h26⟩,at26⟩:=Sl.get hx (by decide) (tb_get (f:=(fun z1=>(x z1))) (n:=N) (i:=j) (by omega))
  have gd27:=Gr.drew w15
  replace hB:=hB.trans gd27
  refine wp_region_ord (fun w'=>AtV w' vx (j*4) [cA26,cB26,cC26,cD26]) [(true,0),(true,1),(true,2),(true,3),(true,4),(true,5),(true,6),(true,7),(true,8),(true,9),(true,10),(false,11),(true,12),(false,13)] (by kernel_rfl) (by kernel_rfl) (by kernel_rfl) (by decide) (fun _ _ _ _ _ h=>h) (at26.gr hB) ?_
  refine ov 17 (.slice (some ⟨b12,0,none⟩) N N) ?_
  refine ov 18 (.int .i64 ((j:Int))) ?_
  refine ov 19 (.func (.func 112) #[] #[(.pointer (some ⟨bb,0,none⟩))]) ?_
  refine ov 20 vx ?_
  refine ov 21 (.int .i64 ((j:Int))) ?_
  refine ow 22 (adr vx (j*4)) rfl (fun w' hS=>(rv_idxn (e:=71) hx tb_len (by decide) j (by omega) _ _ _ rfl rfl rfl (by kernel_rfl) (by kernel_rfl))) ?_
  refine ow 23 (.agg #[cA26,cB26,cC26,cD26]) rfl (fun w' hS=>(rv_ldn [cA26,cB26,cC26,cD26] hS _ _ rfl rfl (by kernel_rfl))) ?_
  refine ov 24 vx ?_
  refine ov 25 (.int .i64 ((j:Int))) ?_
  refine ow 26 (adr vx (j*4)) rfl (fun w' hS=>(rv_idxn (e:=71) hx tb_len (by decide) j (by omega) _ _ _ rfl rfl rfl (by kernel_rfl) (by kernel_rfl))) ?_
  refine ow 27 (.agg #[cA26,cB26,cC26,cD26]) rfl (fun w' hS=>(rv_ldn [cA26,cB26,cC26,cD26] hS _ _ rfl rfl (by kernel_rfl))) ?_
  refine oe ?_
  replace hL:=hL.gr gd27
  refine ec 28 (mx_over1 (h26.kp hB.kp) (h26.kp hB.kp) (hp.kp hB.kp) hL (by omega) h0) ?_
  rintro e29 w29 ⟨⟨p29,q29,r29,s29,rfl,h29⟩,g29⟩
  refine ⟨_,rfl,?_⟩
  replace hB:=hB.trans g29
  refine ⟨(at26.gr hB),?_⟩
  simp only [p3,p4]
  refine ow 29 (adr (.slice (some ⟨b12,0,none⟩) N N) (j*4)) rfl (fun w' hS=>(rv_idxn (e:=71) (n:=N) (mj.sl_n (n:=N) (cap:=N) (fil_len (by omega)) (Nat.le_refl _)) (fil_len (by omega)) (by decide) j (by omega) _ _ _ rfl rfl rfl (by kernel_rfl) (by kernel_rfl))) ?_
  refine oe ?_
  replace mj:=mj.gr (stab_rat M) (gd27.trans g29)
  refine eff_stm (stab_rat M) mj j (fil_lt (by omega) (by omega)) (((x j)*(1/p))) (.agg #[p29,q29,r29,s29]) [p29,q29,r29,s29] (N) (N) 71 _ _ rfl rfl rfl rfl rfl (by kernel_rfl) rfl ⟨h29.one0,h29.one1,h29.one2,h29.one3,trivial⟩ ⟨_,_,_,_,rfl,h29.resz (hz j hlj) (by omega)⟩ (by decide) (fun w31 st31 kt31 mk31=>?_)
  replace hB:=st31.gr hB q12
  refine ⟨(at26.gr hB),?_⟩
  refine ord_nil ?_
  refine k19 _ _ ?_
  try clear k19 K19
  refine rg [0,1] ?_
  refine sw 30 (.int .i64 (((j:Int)+1))) rfl (RunV.int (x:=IntKind.i64.wrap (((j:Int)+1))) (y:=((j:Int)+1)) (rvk (by kernel_rfl)) (by first | rfl | (rw [IntKind.wrap_i64];omega))) ?_
  refine sv 14 (.int .i64 (((j:Int)+1))) ?_
  refine sq_nil ?_
  replace hL:=st31.lc (hL.gr g29) ne0_12
  refine k15 (N - (j+1)) ⟨List.toArray ?l32,[]⟩ _ (by omega) ?_
  exact ⟨j+1,(fun i=>List.getD ?l32 i undef),rfl,rfl,(by omega),(mk31.cast (fil_set hlj (by first | rfl | exact fil_all))),hL,hB⟩
 ·have hej:N=j:=by have:=of_decide_eq_false hb18;omega
  subst hej
  refine wp_exit ?_
  simp only [Exit.then,Exit.inBlock,↓reduceIte]
  refine k13 _ _ ?_
  try clear k13 K13
  refine wp_seq_k (fun K33 k33=>?_)
  refine rg [0,1] ?_
  refine sv 31 (.slice (some ⟨b12,0,none⟩) N N) ?_
  refine sv 6 (.slice (some ⟨b12,0,none⟩) N N) ?_
  refine sq_nil ?_
  refine k33 _ _ ?_
  try clear k33 K33
  refine wp_ret ?_
  refine bodyPost_ret (v:=(.slice (some ⟨b12,0,none⟩) N N)) (ret_tmp rfl rfl) rfl ⟨?_,hB⟩
  exact ⟨_,rfl,(Sl.cast (mj.sl_n (fil_len (by omega)) (Nat.le_refl _)) fil_all),Nw.mk q12⟩

set_option maxRecDepth 100000 in
set_option maxHeartbeats 1000000 in
theorem mx_less {K L M N:Nat} {vx vy:Value} {x y:Nat→Rat} {n0 n1 n2 n3:Value} {p:Rat} {w:World} (hp:IsRat w L n0 n1 n2 n3 p) (_hk:K+L≤40000) (hM:64≤M) (_hN:N≤100000) (hz:∀ j,j<N→RZ M M (x j - p*y j)) (hx:Sl (ERat K) 71 4 w vx (tb (fun z1=>(x z1)) N)) (hy:Sl (ERat K) 71 4 w vy (tb (fun z1=>(y z1)) N)):
    Calls Tryz.prog 90 #[vx,vy,(.agg #[n0,n1,n2,n3])] w fun e w'=>(∃ u,e=.returned u∧Sl (ERat M) 71 4 w' u (tb (fun z1=>(x z1 - p*y z1)) N)∧Nw w.heap.size u)∧Gr w w':=by
 go_enter Tryz.func90,Tryz.ntmps90
 have hB:=Gr.refl w
 refine wp_seq_k (fun K10 k10=>?_)
 refine rg [0,1] ?_
 refine se ?_
 refine eb 71 #[n0,n1,n2,n3] 5 hB fun b11 w11 g11 L11 o11 q11 hB=>?_
 simp only [p3,p4]
 refine sv 6 (.slice none 0 0) ?_
 refine sq_nil ?_
 refine k10 _ _ ?_
 try clear k10 K10
 refine wp_seq_k (fun K12 k12=>?_)
 refine rg [0,1,2,3,4] ?_
 refine sv 7 vx ?_
 refine sv 8 vy ?_
 refine sv 9 (.func (.func 114) #[] #[(.pointer (some ⟨b11,0,none⟩))]) ?_
 refine se ?_
 replace hp:=hp.kp g11.kp
 have szb:=hB
 refine ec 10 (mx_each_less hp (by omega) hM (by omega) hz L11 (hx.gr (stab_rat K) hB) (hy.gr (stab_rat K) hB)) ?_
 rintro e13 w13 ⟨⟨u13,rfl,hs13,hnw13⟩,g13⟩
 refine ⟨_,rfl,?_⟩
 replace hB:=hB.trans g13
 simp only [p3,p4]
 refine sv 6 u13 ?_
 refine sq_nil ?_
 refine k12 _ _ ?_
 try clear k12 K12
 refine wp_ret ?_
 refine bodyPost_ret (v:=u13) (ret_tmp rfl rfl) rfl ⟨?_,hB⟩
 exact ⟨_,rfl,hs13,fun g a b c d e=>Nat.le_trans (Below.size szb) (hnw13 g a b c d e)⟩

set_option maxRecDepth 100000 in
set_option maxHeartbeats 1000000 in
theorem mx_over {K L M N:Nat} {vx:Value} {x:Nat→Rat} {n0 n1 n2 n3:Value} {p:Rat} {w:World} (hp:IsRat w L n0 n1 n2 n3 p) (_hk:K+L≤40000) (hM:64≤M) (_hN:N≤100000) (h0:p.num≠0) (hz:∀ j,j<N→RZ M M (x j*(1/p))) (hx:Sl (ERat K) 71 4 w vx (tb (fun z1=>(x z1)) N)):
    Calls Tryz.prog 89 #[vx,(.agg #[n0,n1,n2,n3])] w fun e w'=>(∃ u,e=.returned u∧Sl (ERat M) 71 4 w' u (tb (fun z1=>(x z1*(1/p))) N)∧Nw w.heap.size u)∧Gr w w':=by
 go_enter Tryz.func89,Tryz.ntmps89
 have hB:=Gr.refl w
 refine wp_seq_k (fun K10 k10=>?_)
 refine rg [0,1] ?_
 refine se ?_
 refine eb 71 #[n0,n1,n2,n3] 3 hB fun b11 w11 g11 L11 o11 q11 hB=>?_
 simp only [p3,p4]
 refine sv 4 (.slice none 0 0) ?_
 refine sq_nil ?_
 refine k10 _ _ ?_
 try clear k10 K10
 refine wp_seq_k (fun K12 k12=>?_)
 refine rg [0,1,2,3,4] ?_
 refine sv 5 vx ?_
 refine sv 6 vx ?_
 refine sv 7 (.func (.func 112) #[] #[(.pointer (some ⟨b11,0,none⟩))]) ?_
 refine se ?_
 replace hp:=hp.kp g11.kp
 have szb:=hB
 refine ec 8 (mx_each_over hp (by omega) hM (by omega) h0 hz L11 (hx.gr (stab_rat K) hB)) ?_
 rintro e13 w13 ⟨⟨u13,rfl,hs13,hnw13⟩,g13⟩
 refine ⟨_,rfl,?_⟩
 replace hB:=hB.trans g13
 simp only [p3,p4]
 refine sv 4 u13 ?_
 refine sq_nil ?_
 refine k12 _ _ ?_
 try clear k12 K12
 refine wp_ret ?_
 refine bodyPost_ret (v:=u13) (ret_tmp rfl rfl) rfl ⟨?_,hB⟩
 exact ⟨_,rfl,hs13,fun g a b c d e=>Nat.le_trans (Below.size szb) (hnw13 g a b c d e)⟩

section
variable {l:List UInt8} {most:Nat}
end
theorem head48 {D:ByteArray} (h:0<D.size):(D.data.toList[0]?==some 48)=((D[0].toNat:Int)==48):=by
  rw [toList_get h,Bool.eq_iff_iff]
  simp only [beq_iff_eq,Option.some.injEq]
  rw [← UInt8.toNat_inj]
  have:(48:UInt8).toNat=48:=rfl
  omega
theorem ratL_len {k:Nat} {q:Rat} (h1:Sz k q.num) (h2:Sz k (q.den:Int)):(ratL q).length≤2*k+5:=by
  have a:=itoa_len h1
  have b:=itoa_len h2
  unfold ratL
  split
  · omega
  · simp only [List.length_append,List.length_singleton];omega
set_option maxRecDepth 100000 in
set_option maxHeartbeats 1000000 in
theorem cl_rat_n {K:Nat} {N cx:Nat} {F:Nat→Rat} (_hN:N≤1000) {w:World} (hs:Sl (ERat K) 71 4 w (.slice none N cx) (tb F N)):
    Calls Tryz.prog 54 #[(.slice none N cx)] w fun e w'=>(∃ u,e=.returned u∧Ow (ERat K) 71 4 w' w.heap.size u (tb F N))∧Gr w w':=by
 go_enter Tryz.func54,Tryz.ntmps54
 have hB:=Gr.refl w
 refine wp_seq_k (fun K10 k10=>?_)
 refine rg [0] ?_
 refine sv 2 (.slice none 0 0) ?_
 refine sq_nil ?_
 refine k10 _ _ ?_
 try clear k10 K10
 refine wp_seq_k (fun K11 k11=>?_)
 refine wp_seq_k (fun K12 k12=>?_)
 refine rg [0,1] ?_
 refine sv 3 (.slice none N cx) ?_
 refine sv 4 (.bool true) ?_
 refine sq_nil ?_
 refine k12 _ _ ?_
 try clear k12 K12
 refine wp_cond_true rfl ?_
 refine wp_seq_k (fun K13 k13=>?_)
 refine rg [0] ?_
 refine sv 2 (.slice none 0 0) ?_
 refine sq_nil ?_
 refine k13 _ _ ?_
 try clear k13 K13
 refine wp_ret ?_
 simp only [Exit.then]
 refine bodyPost_ret (v:=(.slice none 0 0)) (ret_tmp rfl rfl) rfl ⟨?_,hB⟩
 exact ⟨_,rfl,clone_none (hs.gr (stab_rat K) hB)⟩

set_option maxRecDepth 100000 in
set_option maxHeartbeats 1000000 in
theorem cl_rat_s {K:Nat} {N cx:Nat} {ad:Addr} {F:Nat→Rat} (_hN:N≤1000) {w:World} (hs:Sl (ERat K) 71 4 w (.slice (some ad) N cx) (tb F N)):
    Calls Tryz.prog 54 #[(.slice (some ad) N cx)] w fun e w'=>(∃ u,e=.returned u∧Ow (ERat K) 71 4 w' w.heap.size u (tb F N))∧Gr w w':=by
 go_enter Tryz.func54,Tryz.ntmps54
 have hB:=Gr.refl w
 refine wp_seq_k (fun K10 k10=>?_)
 refine rg [0] ?_
 refine sv 2 (.slice none 0 0) ?_
 refine sq_nil ?_
 refine k10 _ _ ?_
 try clear k10 K10
 refine wp_seq_k (fun K11 k11=>?_)
 refine wp_seq_k (fun K12 k12=>?_)
 refine rg [0,1] ?_
 refine sv 3 (.slice (some ad) N cx) ?_
 refine sv 4 (.bool false) ?_
 refine sq_nil ?_
 refine k12 _ _ ?_
 try clear k12 K12
 refine wp_cond_false rfl ?_
 refine wp_skip ?_
 refine k11 _ _ ?_
 try clear k11 K11
 refine wp_seq_k (fun K13 k13=>?_)
 refine rg [0,1,2,3] ?_
 refine se ?_
 refine eff_bs 71 0 #[] (some 5) rfl (fun _=>by kernel_rfl) (fun b14 w14 g14 L14 q14=>?_)
 replace q14:=Nat.le_trans (Below.size hB) q14
 replace hB:=hB.trans g14
 simp only [putl,p3,p4]
 refine sv 6 (.slice (some ad) N cx) ?_
 refine se ?_
 refine eff_aps (stab_rat K) _ _ 49 71 w.heap.size 71 (.agg #[(.bool false),(.slice none 0 0),(.bool false),(.slice none 0 0)]) (.slice (some ⟨b14,0,none⟩) 0 0) ([]:List Rat) (.slice (some ad) N cx) (tb F N) 4 (some 7) 64 rfl rfl rfl rfl (ow_empty (E:=(ERat K)) (c:=4) (B:=w.heap.size) L14 q14) (hs.gr (stab_rat K) hB) (one_rat _) (Below.size hB) (by simp only [List.length_nil,tb_len];omega) (by decide) (by kernel_rfl) (by kernel_rfl) (by decide) (by decide) (fun v15 w15 ow15 wt15 hg15 ag15=>?_)
 replace hB:=hg15 _ hB (Nat.le_refl _)
 replace ow15:=ow15.cast (List.nil_append _)
 simp only [putl,p3,p4]
 refine sv 2 v15 ?_
 refine sq_nil ?_
 refine k13 _ _ ?_
 try clear k13 K13
 refine wp_ret ?_
 refine bodyPost_ret (v:=v15) (ret_tmp rfl rfl) rfl ⟨?_,hB⟩
 exact ⟨_,rfl,ow15⟩

theorem cl_rat {K:Nat} {N:Nat} {v:Value} {F:Nat→Rat} (hN:N≤1000) {w:World} (h:Sl (ERat K) 71 4 w v (tb F N)):
    Calls Tryz.prog 54 #[v] w fun e w'=>(∃ u,e=.returned u∧Ow (ERat K) 71 4 w' w.heap.size u (tb F N))∧Gr w w':=by
  obtain ⟨ao,cap,hv,_⟩:=h.form
  rw [tb_len] at hv
  subst hv
  cases ao with
  | none=>exact cl_rat_n hN h
  | some ad=>exact cl_rat_s hN h
set_option maxRecDepth 100000 in
set_option maxHeartbeats 1000000 in
theorem cl_rows_n {K:Nat} {pp:Nat→Prop} {N cx:Nat} {F:Nat→(List Rat)} (_hN:N≤1000) {w:World} (hs:Sl (ERp pp (ERat K) 71 4) 49 1 w (.slice none N cx) (tb F N)):
    Calls Tryz.prog 88 #[(.slice none N cx)] w fun e w'=>(∃ u,e=.returned u∧Ow (ERp pp (ERat K) 71 4) 49 1 w' w.heap.size u (tb F N))∧Gr w w':=by
 go_enter Tryz.func88,Tryz.ntmps88
 have hB:=Gr.refl w
 refine wp_seq_k (fun K10 k10=>?_)
 refine rg [0] ?_
 refine sv 2 (.slice none 0 0) ?_
 refine sq_nil ?_
 refine k10 _ _ ?_
 try clear k10 K10
 refine wp_seq_k (fun K11 k11=>?_)
 refine wp_seq_k (fun K12 k12=>?_)
 refine rg [0,1] ?_
 refine sv 3 (.slice none N cx) ?_
 refine sv 4 (.bool true) ?_
 refine sq_nil ?_
 refine k12 _ _ ?_
 try clear k12 K12
 refine wp_cond_true rfl ?_
 refine wp_seq_k (fun K13 k13=>?_)
 refine rg [0] ?_
 refine sv 2 (.slice none 0 0) ?_
 refine sq_nil ?_
 refine k13 _ _ ?_
 try clear k13 K13
 refine wp_ret ?_
 simp only [Exit.then]
 refine bodyPost_ret (v:=(.slice none 0 0)) (ret_tmp rfl rfl) rfl ⟨?_,hB⟩
 exact ⟨_,rfl,clone_none (hs.gr (stab_rp (stab_rat K) 71 4) hB)⟩

set_option maxRecDepth 100000 in
set_option maxHeartbeats 1000000 in
theorem cl_rows_s {K:Nat} {pp:Nat→Prop} {N cx:Nat} {ad:Addr} {F:Nat→(List Rat)} (_hN:N≤1000) {w:World} (hs:Sl (ERp pp (ERat K) 71 4) 49 1 w (.slice (some ad) N cx) (tb F N)):
    Calls Tryz.prog 88 #[(.slice (some ad) N cx)] w fun e w'=>(∃ u,e=.returned u∧Ow (ERp pp (ERat K) 71 4) 49 1 w' w.heap.size u (tb F N))∧Gr w w':=by
 go_enter Tryz.func88,Tryz.ntmps88
 have hB:=Gr.refl w
 refine wp_seq_k (fun K10 k10=>?_)
 refine rg [0] ?_
 refine sv 2 (.slice none 0 0) ?_
 refine sq_nil ?_
 refine k10 _ _ ?_
 try clear k10 K10
 refine wp_seq_k (fun K11 k11=>?_)
 refine wp_seq_k (fun K12 k12=>?_)
 refine rg [0,1] ?_
 refine sv 3 (.slice (some ad) N cx) ?_
 refine sv 4 (.bool false) ?_
 refine sq_nil ?_
 refine k12 _ _ ?_
 try clear k12 K12
 refine wp_cond_false rfl ?_
 refine wp_skip ?_
 refine k11 _ _ ?_
 try clear k11 K11
 refine wp_seq_k (fun K13 k13=>?_)
 refine rg [0,1,2,3] ?_
 refine se ?_
 refine eff_bs 49 0 #[] (some 5) rfl (fun _=>by kernel_rfl) (fun b14 w14 g14 L14 q14=>?_)
 replace q14:=Nat.le_trans (Below.size hB) q14
 replace hB:=hB.trans g14
 simp only [putl,p3,p4]
 refine sv 6 (.slice (some ad) N cx) ?_
 refine se ?_
 refine eff_aps (stab_rp (stab_rat K) 71 4) _ _ 29 49 w.heap.size 49 (.slice none 0 0) (.slice (some ⟨b14,0,none⟩) 0 0) ([]:List (List Rat)) (.slice (some ad) N cx) (tb F N) 1 (some 7) 24 rfl rfl rfl rfl (ow_empty (E:=(ERp pp (ERat K) 71 4)) (c:=1) (B:=w.heap.size) L14 q14) (hs.gr (stab_rp (stab_rat K) 71 4) hB) (one_rp _) (Below.size hB) (by simp only [List.length_nil,tb_len];omega) (by decide) (by kernel_rfl) (by kernel_rfl) (by decide) (by decide) (fun v15 w15 ow15 wt15 hg15 ag15=>?_)
 replace hB:=hg15 _ hB (Nat.le_refl _)
 replace ow15:=ow15.cast (List.nil_append _)
 simp only [putl,p3,p4]
 refine sv 2 v15 ?_
 refine sq_nil ?_
 refine k13 _ _ ?_
 try clear k13 K13
 refine wp_ret ?_
 refine bodyPost_ret (v:=v15) (ret_tmp rfl rfl) rfl ⟨?_,hB⟩
 exact ⟨_,rfl,ow15⟩

theorem cl_rows {K:Nat} {pp:Nat→Prop} {N:Nat} {v:Value} {F:Nat→(List Rat)} (hN:N≤1000) {w:World} (h:Sl (ERp pp (ERat K) 71 4) 49 1 w v (tb F N)):
    Calls Tryz.prog 88 #[v] w fun e w'=>(∃ u,e=.returned u∧Ow (ERp pp (ERat K) 71 4) 49 1 w' w.heap.size u (tb F N))∧Gr w w':=by
  obtain ⟨ao,cap,hv,_⟩:=h.form
  rw [tb_len] at hv
  subst hv
  cases ao with
  | none=>exact cl_rows_n hN h
  | some ad=>exact cl_rows_s hN h
set_option maxRecDepth 100000 in
set_option maxHeartbeats 1000000 in
theorem sl_index {N:Nat} {v:Value} {P:Nat→Int} {z:Int} (_hN:N≤1000) {w:World} (hs:Sl EI64 3 1 w v (tb (fun z1=>(P z1)) N)):
    Calls Tryz.prog 95 #[v,(.int .i64 (z))] w fun e w'=>(∃ r:Int,e=.returned (.int .i64 r)∧decide ((0:Int)≤r)=hasI P N z)∧Gr w w':=by
 go_enter Tryz.func95,Tryz.ntmps95
 have hB:=Gr.refl w
 refine wp_seq_k (fun K10 k10=>?_)
 refine rg [0] ?_
 refine sv 4 (.int .i64 0) ?_
 refine sq_nil ?_
 refine k10 _ _ ?_
 try clear k10 K10
 refine wp_seq_k (fun K11 k11=>?_)
 refine wp_seq_k (fun K12 k12=>?_)
 refine rg [0,1,2] ?_
 refine sv 6 v ?_
 refine sw 7 (.int .i64 ((N:Int))) rfl (rv_lenn (e:=3) hs (tb_lenz rfl) _ _ rfl rfl (by kernel_rfl)) ?_
 refine sv 8 (.int .i64 0) ?_
 refine sq_nil ?_
 refine k12 _ _ ?_
 try clear k12 K12
 refine wp_block ?_
 refine wp_loop_inv (a:=⟨List.toArray ?l13,[]⟩) (fun n a w'=>∃ (k:Nat) (u13:Nat→Value),N - k=n∧a=⟨[v,(.int .i64 (z)),undef,undef,(u13 4),(u13 5),(u13 6),(.int .i64 ((N:Int))),(.int .i64 ((k:Int))),(u13 9),(u13 10),(u13 11),(u13 12),(u13 13),(u13 14),(u13 15),(u13 16),(u13 17),(u13 18)].toArray,[]⟩∧k≤N∧(∀ j,j<k→¬ P j=z)∧Gr w w') (N - 0) ?_ ?_
 ·exact ⟨0,(fun i=>List.getD ?l13 i undef),rfl,rfl,(Nat.zero_le _),(fun j h=>absurd h (Nat.not_lt_zero j)),hB⟩
 rintro n13 a13 w13 ⟨k,u13,rfl,rfl,hkk,hall,hB⟩ K13 k13
 refine wp_seq_k (fun K14 k14=>?_)
 refine rg [0] ?_
 refine sv 9 (.bool (decide ((k:Int)<(N:Int)))) ?_
 refine sq_nil ?_
 refine k14 _ _ ?_
 try clear k14 K14
 refine wp_seq_k (fun K15 k15=>?_)
 refine wp_cond_split (t:=decide ((k:Int)<(N:Int))) rfl (fun hb16=>?_) (fun hb16=>?_)
 ·have hlk:k<N:=by have:=of_decide_eq_true hb16;omega
  refine wp_skip ?_
  refine k15 _ _ ?_
  try clear k15 K15
  refine wp_seq_k (fun K17 k17=>?_)
  refine wp_block ?_
  refine wp_seq_k (fun K18 k18=>?_)
  refine rg [0,1] ?_
  refine sv 10 (.int .i64 ((k:Int))) ?_
  refine sv 5 (.int .i64 ((k:Int))) ?_
  refine sq_nil ?_
  refine k18 _ _ ?_
  try clear k18 K18
  refine wp_seq_k (fun K19 k19=>?_)
  refine rg [0,1,2,3,4,5] ?_
  refine sv 11 (.int .i64 (z)) ?_
  refine sv 12 v ?_
  refine sv 13 (.int .i64 ((k:Int))) ?_
  refine sw 14 (adr v (k*1)) rfl (rv_idxn (e:=3) hs tb_len (by decide) k (by omega) _ _ _ rfl rfl rfl (by kernel_rfl) (by kernel_rfl)) ?_
  obtain ⟨_,_,rfl,at20⟩:=Sl.get hs (by decide) (tb_get (f:=(fun z1=>(P z1))) (n:=N) (i:=k) (by omega))
  refine sw 15 (.int .i64 ((P k))) rfl (rv_ld1 (.int .i64 ((P k))) (at20.gr hB) _ _ rfl rfl (by kernel_rfl)) ?_
  refine sv 16 (.bool ((z==(P k)))) ?_
  refine sq_nil ?_
  refine k19 _ _ ?_
  try clear k19 K19
  refine wp_cond_split (t:=(z==(P k))) rfl (fun hb21=>?_) (fun hb21=>?_)
  ·have hxk:z=P k:=by have:=hb21;simpa using this
   refine wp_seq_k (fun K22 k22=>?_)
   refine rg [0,1] ?_
   refine sv 17 (.int .i64 ((k:Int))) ?_
   refine sv 4 (.int .i64 ((k:Int))) ?_
   refine sq_nil ?_
   refine k22 _ _ ?_
   try clear k22 K22
   refine wp_ret ?_
   simp only [Exit.then,Exit.inBlock]
   refine bodyPost_ret (v:=(.int .i64 ((k:Int)))) (ret_tmp rfl rfl) rfl ⟨?_,hB⟩
   exact ⟨_,rfl,hasI_yes hlk hxk⟩
  ·have hxk:¬ z=P k:=by have:=hb21;simpa using this
   refine wp_skip ?_
   refine k17 _ _ ?_
   try clear k17 K17
   refine rg [0,1] ?_
   refine sw 18 (.int .i64 (((k:Int)+1))) rfl (RunV.int (x:=IntKind.i64.wrap (((k:Int)+1))) (y:=((k:Int)+1)) (rvk (by kernel_rfl)) (by first | rfl | (rw [IntKind.wrap_i64];omega))) ?_
   refine sv 8 (.int .i64 (((k:Int)+1))) ?_
   refine sq_nil ?_
   refine k13 (N - (k+1)) ⟨List.toArray ?l23,[]⟩ _ (by omega) ?_
   exact ⟨k+1,(fun i=>List.getD ?l23 i undef),rfl,rfl,(by omega),(hall_succ hall hxk),hB⟩
 ·have hek:N=k:=by have:=of_decide_eq_false hb16;omega
  subst hek
  refine wp_exit ?_
  simp only [Exit.then,Exit.inBlock,↓reduceIte]
  refine k11 _ _ ?_
  try clear k11 K11
  refine wp_seq_k (fun K24 k24=>?_)
  refine rg [0] ?_
  refine sv 4 (.int .i64 (-1)) ?_
  refine sq_nil ?_
  refine k24 _ _ ?_
  try clear k24 K24
  refine wp_ret ?_
  refine bodyPost_ret (v:=(.int .i64 (-1))) (ret_tmp rfl rfl) rfl ⟨?_,hB⟩
  exact ⟨_,rfl,hasI_no hall⟩

set_option maxRecDepth 100000 in
set_option maxHeartbeats 1000000 in
theorem sl_contains {N:Nat} {v:Value} {P:Nat→Int} {z:Int} (hN:N≤1000) {w:World} (hs:Sl EI64 3 1 w v (tb (fun z1=>(P z1)) N)):
    Calls Tryz.prog 60 #[v,(.int .i64 (z))] w fun e w'=>e=.returned (.bool (hasI P N z))∧Gr w w':=by
 go_enter Tryz.func60,Tryz.ntmps60
 have hB:=Gr.refl w
 refine wp_seq_k (fun K10 k10=>?_)
 refine rg [0] ?_
 refine sv 4 (.bool false) ?_
 refine sq_nil ?_
 refine k10 _ _ ?_
 try clear k10 K10
 refine wp_seq_k (fun K11 k11=>?_)
 refine rg [0,1,2,3,4] ?_
 refine sv 5 v ?_
 refine sv 6 (.int .i64 (z)) ?_
 refine se ?_
 refine ec 7 (sl_index (z:=z) hN (hs.gr stab_i64 hB)) ?_
 rintro e12 w12 ⟨⟨r12,rfl,hr12⟩,g12⟩
 refine ⟨_,rfl,?_⟩
 replace hB:=hB.trans g12
 simp only [p3,p4]
 refine sv 8 (.bool (decide ((0:Int)≤r12))) ?_
 refine sv 4 (.bool (decide ((0:Int)≤r12))) ?_
 refine sq_nil ?_
 refine k11 _ _ ?_
 try clear k11 K11
 refine wp_ret ?_
 refine bodyPost_ret (v:=(.bool (decide ((0:Int)≤r12)))) (ret_tmp rfl rfl) rfl ⟨?_,hB⟩
 exact (by rw [hr12])

end Go.Proofs.YtepgkcimmdmgcaaGreatDoor
namespace Go.Proofs.YtepgkcimmdmgcaaGreatDoor
/-- behind k columns -/
def rs (R:Nat) (m:Mx_) (k:Nat):Rd:=redR R k ⟨m,[],1⟩
abbrev pl (R:Nat) (m:Mx_) (k:Nat):Nat:=(rs R m k).p.length
theorem rs_succ (R:Nat) (m:Mx_) (k:Nat):rs R m (k+1)=stepR R k (rs R m k):=rfl
/-- row i is the next pivot's -/
def Fd (R:Nat) (m:Mx_) (k i:Nat):Prop:=fnd (rs R m k).m k (R - (pl R m k)) (pl R m k)=some i
def aa (R:Nat) (m:Mx_) (k i:Nat):Mx_:=swp (rs R m k).m i (pl R m k)
def dd (R:Nat) (m:Mx_) (k i:Nat):Rat:=if i=(pl R m k) then (rs R m k).d else -(rs R m k).d
/-- the rows before j are done -/
def md (R:Nat) (m:Mx_) (k i j:Nat):Mx_:=fun t=>if t<j then (rs R m (k+1)).m t else scl (aa R m k i) (pl R m k) (1/aa R m k i (pl R m k) k) t
section
variable {R N k i:Nat} {m:Mx_}
theorem fd_of (h1:(pl R m k)≤i) (h2:i<R) (h3:(rs R m k).m i k≠0) (h4:∀ t,(pl R m k)≤t→t<i→(rs R m k).m t k=0):Fd R m k i:=by
  unfold Fd
  cases h:fnd (rs R m k).m k (R - (pl R m k)) (pl R m k) with
  | none=>exact absurd (fnd_none h i h1 (by omega)) h3
  | some j=>
    obtain ⟨a1,a2,a3,a4⟩:=fnd_some h
    rcases Nat.lt_trichotomy i j with hl | he | hg
    · exact absurd (a4 i h1 hl) h3
    · rw [he]
    · exact absurd (h4 j a1 hg) a3
theorem rs_none (h:∀ t,(pl R m k)≤t→t<R→(rs R m k).m t k=0):rs R m (k+1)=rs R m k:=step_no h
theorem Fd.step (h:Fd R m k i):rs R m (k+1)=⟨clr (scl (aa R m k i) (pl R m k) (1/aa R m k i (pl R m k) k)) (pl R m k) (fun j=>aa R m k i j k),(rs R m k).p++[k],dd R m k i*aa R m k i (pl R m k) k⟩:=by
  rw [rs_succ]
  unfold stepR
  rw [show fnd (rs R m k).m k (R - (pl R m k)) (pl R m k)=some i from h]
  rfl
theorem Fd.mm (h:Fd R m k i):(rs R m (k+1)).m=clr (scl (aa R m k i) (pl R m k) (1/aa R m k i (pl R m k) k)) (pl R m k) (fun j=>aa R m k i j k):=by rw [h.step]
theorem clr_r (a:Mx_) (r:Nat) (c:Nat→Rat) (k:Nat):clr a r c r k=a r k:=if_pos rfl
theorem clr_j (a:Mx_) {r j:Nat} (c:Nat→Rat) (k:Nat) (h:j≠r):clr a r c j k=a j k - c j*a r k:=if_neg h
theorem scl_r (a:Mx_) (r:Nat) (c:Rat) (k:Nat):scl a r c r k=a r k*c:=if_pos rfl
theorem scl_j (a:Mx_) {r j:Nat} (c:Rat) (k:Nat) (h:j≠r):scl a r c j k=a j k:=if_neg h
theorem Fd.lt (h:Fd R m k i):(pl R m k)≤i∧i<R:=by
  obtain ⟨a1,a2,_⟩:=fnd_some h
  omega
theorem Fd.ne (h:Fd R m k i):aa R m k i (pl R m k) k≠0:=by
  obtain ⟨a1,a2,a3,_⟩:=fnd_some h
  unfold aa swp
  by_cases e:(pl R m k)=i
  · rw [if_pos e,e];exact a3
  · rw [if_neg e,if_pos rfl];exact a3
theorem Fd.num (h:Fd R m k i):(aa R m k i (pl R m k) k).num≠0:=num_ne h.ne
theorem Fd.len (h:Fd R m k i):(rs R m (k+1)).p.length=(pl R m k)+1:=by rw [h.step];simp
theorem Fd.det (h:Fd R m k i):dd R m k i*aa R m k i (pl R m k) k=(rs R m (k+1)).d:=by rw [h.step]
theorem rs_len (R:Nat) (m:Mx_) (k:Nat):(pl R m k)≤R:=(red_inv R m 1 k).len
theorem rs_full {n:Nat} (h:¬ (pl R m k)<R) (hk:k≤n):rs R m n=rs R m k:=by
  have:=red_full (R:=R) (s:=⟨m,[],1⟩) (K:=k) (by have:=rs_len R m k;show (pl R m k)=R;omega) (n - k)
  rw [show k+(n - k)=n by omega] at this
  exact this
theorem aa_same (h:i=(pl R m k)):aa R m k i=(rs R m k).m:=by
  unfold aa swp
  funext j c
  rw [h]
  split
  · next e=>rw [e]
  · rfl
theorem dd_same (h:i=(pl R m k)):(rs R m k).d=dd R m k i:=by unfold dd;rw [if_pos h]
theorem dd_neg (h:¬ i=(pl R m k)):-(rs R m k).d=dd R m k i:=by unfold dd;rw [if_neg h]
theorem rows_same (h:i=(pl R m k)):tb (fun t=>tb (fun c=>(rs R m k).m t c) N) R=tb (fun t=>tb (fun c=>aa R m k i t c) N) R:=by rw [aa_same h]
theorem rows_swp (h:¬ i=(pl R m k)):tb (fun t=>if t=(pl R m k) then tb (fun c=>(rs R m k).m i c) N else if t=i then tb (fun c=>(rs R m k).m (pl R m k) c) N else tb (fun c=>(rs R m k).m t c) N) R=tb (fun t=>tb (fun c=>aa R m k i t c) N) R:=by
  refine tb_congr fun t _=>?_
  unfold aa swp
  by_cases h1:t=i
  · rw [if_neg (show ¬ t=_ from fun e=>h (h1.symm.trans e)),if_pos h1];simp only [if_pos h1]
  · simp only [if_neg h1]
    by_cases h2:t=(pl R m k)
    · simp only [if_pos h2]
    · simp only [if_neg h2]
theorem rows_over:tb (fun t=>if t=(pl R m k) then tb (fun c=>aa R m k i (pl R m k) c*(1/aa R m k i (pl R m k) k)) N else tb (fun c=>aa R m k i t c) N) R=tb (fun t=>tb (fun c=>md R m k i 0 t c) N) R:=by
  refine tb_congr fun t _=>?_
  unfold md scl
  simp only [Nat.not_lt_zero,if_false]
  by_cases h1:t=(pl R m k)
  · simp only [if_pos h1]
  · simp only [if_neg h1]
theorem md_at {j:Nat} (t:Nat) (ht:t≠j):md R m k i (j+1) t=md R m k i j t:=by
  unfold md
  by_cases h1:t<j
  · rw [if_pos h1,if_pos (by omega)]
  · rw [if_neg h1,if_neg (by omega)]
theorem md_j {j c:Nat} (hj:j≠(pl R m k)):md R m k i j j c=aa R m k i j c:=by
  unfold md scl;rw [if_neg (by omega),if_neg hj]
theorem Fd.md_r (h:Fd R m k i) (j c:Nat):md R m k i j (pl R m k) c=aa R m k i (pl R m k) c*(1/aa R m k i (pl R m k) k):=by
  unfold md
  split
  · rw [h.mm,clr_r,scl_r]
  · rw [scl_r]
theorem Fd.md_next (h:Fd R m k i) {j:Nat} (c:Nat) (hj:j≠(pl R m k)):md R m k i (j+1) j c=md R m k i j j c - md R m k i j j k*md R m k i j (pl R m k) c:=by
  rw [md_j hj,md_j hj,h.md_r]
  unfold md
  rw [if_pos (by omega),h.mm,clr_j _ _ _ hj,scl_r,scl_j _ _ _ hj]
theorem Fd.rows_yes (h:Fd R m k i) {j:Nat} (hj:¬ j=(pl R m k)):tb (fun t=>if t=j then tb (fun c=>md R m k i j j c - md R m k i j j k*md R m k i j (pl R m k) c) N else tb (fun c=>md R m k i j t c) N) R=tb (fun t=>tb (fun c=>md R m k i (j+1) t c) N) R:=by
  refine tb_congr fun t _=>?_
  by_cases h1:t=j
  · rw [if_pos h1,h1];exact tb_congr fun c _=>(h.md_next c hj).symm
  · rw [if_neg h1];exact tb_congr fun c _=>by rw [md_at t h1]
theorem Fd.rows_no (h:Fd R m k i) {j:Nat} (hj:j=(pl R m k)∨md R m k i j j k=0):tb (fun t=>tb (fun c=>md R m k i j t c) N) R=tb (fun t=>tb (fun c=>md R m k i (j+1) t c) N) R:=by
  refine tb_congr fun t _=>?_
  by_cases h1:t=j
  · refine tb_congr fun c _=>?_
    rw [h1]
    by_cases e:j=(pl R m k)
    · have h2:=h.md_r j c
      have h3:=h.md_r (j+1) c
      rw [← e] at h2 h3
      rw [h2,h3]
    · rcases hj with hj | hj
      · exact absurd hj e
      · rw [h.md_next c e,hj];grind
  · exact tb_congr fun c _=>by rw [md_at t h1]
theorem rows_end:tb (fun t=>tb (fun c=>md R m k i R t c) N) R=tb (fun t=>tb (fun c=>(rs R m (k+1)).m t c) N) R:=by
  refine tb_congr fun t ht=>?_
  unfold md;rw [if_pos ht]
theorem Fd.piv (h:Fd R m k i):tb (fun t=>((pv (rs R m k) t:Nat):Int)) (pl R m k)++[(k:Int)]=tb (fun t=>((pv (rs R m (k+1)) t:Nat):Int)) (rs R m (k+1)).p.length:=by
  rw [h.len]
  have e:(k:Int)=((pv (rs R m (k+1)) (pl R m k):Nat):Int):=by
    have:pv (rs R m (k+1)) (pl R m k)=k:=by rw [h.step];exact pv_new
    rw [this]
  rw [← tb_snoc (f:=fun t=>((pv (rs R m (k+1)) t:Nat):Int)) e]
  congr 1
  refine tb_congr fun t ht=>?_
  rw [h.step,pv_old ht]
variable {K:Nat}
theorem Fd.z_over (h:Fd R m k i) (hz:RdZ R N K (rs R m (k+1))):∀ c,c<N→RZ K K (aa R m k i (pl R m k) c*(1/aa R m k i (pl R m k) k)):=fun c hc=>by
  have h2:=hz.1 (pl R m k) (by have:=h.lt;omega) c hc
  rw [← h.md_r (k+(pl R m k)+1) c]
  unfold md;rw [if_pos (by omega)];exact h2
theorem Fd.z_less (h:Fd R m k i) (hz:RdZ R N K (rs R m (k+1))) {j:Nat} (hj:¬ j=(pl R m k)) (hR:j<R):∀ c,c<N→RZ K K (md R m k i j j c - md R m k i j j k*md R m k i j (pl R m k) c):=fun c hc=>by
  rw [← h.md_next c hj]
  unfold md;rw [if_pos (by omega)];exact hz.1 j hR c hc
theorem Fd.z_det (h:Fd R m k i) (hz:RdZ R N K (rs R m (k+1))):RZ K K (dd R m k i*aa R m k i (pl R m k) k):=by rw [h.det];exact hz.2
theorem zero_succ {r:Nat} {f:Nat→Rat} {t:Nat} (h:∀ u,r≤u→u<t→f u=0) (ht:f t=0):∀ u,r≤u→u<t+1→f u=0:=fun u h1 h2=>by
  rcases Nat.lt_or_eq_of_le (Nat.le_of_lt_succ h2) with h3 | rfl
  · exact h u h1 h3
  · exact ht
end
theorem bne_f {x y:Nat} (h:((x:Int) !=(y:Int))=false):x=y:=by simp at h;omega
theorem bne_t {x y:Nat} (h:((x:Int) !=(y:Int))=true):¬ x=y:=by simp at h;omega
theorem sgn_z {q:Rat} (h:(sgn q.num==(0:Int))=true):q=0:=Rat.num_eq_zero.1 (sgn_eq_zero.1 (by simpa using h))
theorem sgn_nez {q:Rat} (h:(sgn q.num==(0:Int))=false):q≠0:=fun e=>by subst e;exact absurd h (by decide)
theorem sgn_z' {q:Rat} (h:(sgn q.num !=(0:Int))=false):q=0:=Rat.num_eq_zero.1 (sgn_eq_zero.1 (by simpa using h))
theorem sgn_nez' {q:Rat} (h:(sgn q.num !=(0:Int))=true):q≠0:=fun e=>by subst e;exact absurd h (by decide)
end Go.Proofs.YtepgkcimmdmgcaaGreatDoor
namespace Go.Proofs.YtepgkcimmdmgcaaGreatDoor
open Go.RowKit

set_option maxRecDepth 100000 in
set_option maxHeartbeats 4000000 in
theorem mx_reduced {K R N M:Nat} {v:Value} {m:Mx_} (hM:64≤K) (_hK:K≤20000) (_hR:R≤300) (_hN:N≤300) (_hn:M≤N) (hz:∀ k,k≤M→RdZ R N K (rs R m k)) {w:World} (hs:Sl (ERw (ERat K) 71 4) 49 1 w v (tb (fun z0=>tb (fun z1=>(m z0 z1)) N) R)):
    Calls Tryz.prog 52 #[v,(.int .i64 ((M:Int)))] w fun e w'=>(∃ u v c0 c1 c2 c3,e=.returned (.tuple #[u,v,.agg #[c0,c1,c2,c3]])∧Sl (ERw (ERat K) 71 4) 49 1 w' u (tb (fun z0=>tb (fun z1=>((rs R m M).m z0 z1)) N) R)∧Sl EI64 3 1 w' v (tb (fun z1=>((pv (rs R m M) z1:Nat):Int)) (pl R m M))∧IsRat w' K c0 c1 c2 c3 (rs R m M).d)∧Gr w w':=by
 have hlen:=rs_len R m
 have hsl:=hs.lt_rows (by decide)
 go_enter Tryz.func52,Tryz.ntmps52
 have hB:=Gr.refl w
 refine wp_seq_k (fun K10 k10=>?_)
 refine rg [0,1,2] ?_
 refine sv 4 (.slice none 0 0) ?_
 refine sv 5 (.slice none 0 0) ?_
 refine se ?_
 refine ea 71 #[(.bool false),(.slice none 0 0),(.bool false),(.slice none 0 0)] 6 hB fun b11 w11 g11 L11 o11 q11 hB=>?_
 have qr11:=o11
 simp only [p3,p4]
 refine sq_nil ?_
 refine k10 _ _ ?_
 try clear k10 K10
 refine wp_seq_k (fun K12 k12=>?_)
 refine rg [0,1,2] ?_
 refine sv 14 v ?_
 refine se ?_
 have sz13:=Below.size hB
 refine ec 15 (cl_rows (by omega) (hsl.gr (stab_rp (stab_rat K) 71 4) hB)) ?_
 rintro e13 w13 ⟨⟨u13,rfl,hs13⟩,g13⟩
 refine ⟨_,rfl,?_⟩
 replace hB:=hB.trans g13
 replace hs13:=hs13.mono sz13
 simp only [p3,p4]
 refine sv 7 u13 ?_
 refine sq_nil ?_
 refine k12 _ _ ?_
 try clear k12 K12
 refine wp_seq_k (fun K14 k14=>?_)
 refine rg [0] ?_
 refine sv 8 (.slice none 0 0) ?_
 refine sq_nil ?_
 refine k14 _ _ ?_
 try clear k14 K14
 refine wp_seq_k (fun K15 k15=>?_)
 refine rg [0,1,2] ?_
 refine se ?_
 refine ec 16 (from_r (1) (by omega) (by omega) _) ?_
 rintro e16 w16 ⟨⟨p16,q16,r16,s16,rfl,h16⟩,g16⟩
 refine ⟨_,rfl,?_⟩
 replace hB:=hB.trans g16
 simp only [p3,p4]
 refine se ?_
 refine ea 71 #[(.bool false),(.slice none 0 0),(.bool false),(.slice none 0 0)] 9 hB fun b17 w17 g17 L17 o17 q17 hB=>?_
 replace L11:=L11.gr (g13.trans g16)
 have ne11_17:=L11.ne o17
 have qr17:=o17
 simp only [p3,p4]
 refine se ?_
 have lo18:=L17
 refine es 71 0 (.agg #[p16,q16,r16,s16]) [p16,q16,r16,s16] #[p16,q16,r16,s16] L17 hB q17 ⟨h16.one0,h16.one1,h16.one2,h16.one3,trivial⟩ fun w18 st18 kp18 L17 hB=>?_
 refine sq_nil ?_
 refine k15 _ _ ?_
 try clear k15 K15
 refine wp_seq_k (fun K19 k19=>?_)
 refine wp_seq_k (fun K20 k20=>?_)
 refine rg [0] ?_
 refine sv 10 (.int .i64 0) ?_
 refine sq_nil ?_
 refine k20 _ _ ?_
 try clear k20 K20
 refine wp_block ?_
 replace hs13:=hs13.gr (stab_rp (stab_rat K) 71 4) (st18.gr (g16.trans g17) (Nat.le_trans (Below.size g16) qr17))
 have kq22:=g17.kp.trans kp18
 replace h16:=h16.kp kq22
 replace L11:=st18.lc (L11.gr g17) ne11_17
 refine wp_loop_inv (a:=⟨List.toArray ?l21,[]⟩) (fun n a w'=>∃ (k:Nat) (vp:Value) (c0:Value) (c1:Value) (c2:Value) (c3:Value) (u21:Nat→Value),M - k=n∧a=⟨[v,(.int .i64 ((M:Int))),undef,undef,(.slice none 0 0),(.slice none 0 0),(.pointer (some ⟨b11,0,none⟩)),u13,vp,(.pointer (some ⟨b17,0,none⟩)),(.int .i64 ((k:Int))),(u21 11),(u21 12),(u21 13),(u21 14),(u21 15),(u21 16),(u21 17),(u21 18),(u21 19),(u21 20),(u21 21),(u21 22),(u21 23),(u21 24),(u21 25),(u21 26),(u21 27),(u21 28),(u21 29),(u21 30),(u21 31),(u21 32),(u21 33),(u21 34),(u21 35),(u21 36),(u21 37),(u21 38),(u21 39),(u21 40),(u21 41),(u21 42),(u21 43),(u21 44),(u21 45),(u21 46),(u21 47),(u21 48),(u21 49),(u21 50),(u21 51),(u21 52),(u21 53),(u21 54),(u21 55),(u21 56),(u21 57),(u21 58),(u21 59),(u21 60),(u21 61),(u21 62),(u21 63),(u21 64),(u21 65),(u21 66),(u21 67),(u21 68),(u21 69),(u21 70),(u21 71),(u21 72),(u21 73),(u21 74),(u21 75),(u21 76),(u21 77),(u21 78),(u21 79),(u21 80),(u21 81),(u21 82),(u21 83),(u21 84),(u21 85),(u21 86),(u21 87),(u21 88),(u21 89),(u21 90),(u21 91),(u21 92),(u21 93),(u21 94),(u21 95),(u21 96),(u21 97),(u21 98),(u21 99),(u21 100),(u21 101),(u21 102),(u21 103),(u21 104),(u21 105),(u21 106),(u21 107),(u21 108),(u21 109),(u21 110),(u21 111),(u21 112),(u21 113),(u21 114),(u21 115),(u21 116),(u21 117),(u21 118),(u21 119),(u21 120),(u21 121),(u21 122),(u21 123),(u21 124),(u21 125),(u21 126),(u21 127),(u21 128),(u21 129),(u21 130),(u21 131),(u21 132),(u21 133),(u21 134),(u21 135),(u21 136),(u21 137),(u21 138),undef,undef,undef].toArray,[]⟩∧k≤M∧Ow (ERp (fun g=>g≠b17∧g≠b11) (ERat K) 71 4) 49 1 w' w.heap.size u13 (tb (fun z0=>tb (fun z1=>((rs R m k).m z0 z1)) N) R)∧Ow EI64 3 1 w' w.heap.size vp (tb (fun z1=>((pv (rs R m k) z1:Nat):Int)) (pl R m k))∧IsRat w' K c0 c1 c2 c3 (rs R m k).d∧Lc w' b11 #[(.bool false),(.slice none 0 0),(.bool false),(.slice none 0 0)] 71∧Lc w' b17 #[c0,c1,c2,c3] 71∧Gr w w') (M - 0) ?_ ?_
 ·exact ⟨0,(.slice none 0 0),p16,q16,r16,s16,(fun i=>List.getD ?l21 i undef),rfl,rfl,(Nat.zero_le _),(Ow.mono_e hs13 (ERp.mono fun g hg=>⟨by have:=q17;omega,by have:=q11;omega⟩)),(Ow.nil _ _ _ _ _),((h16.castq (Rat.intCast_one)).mono (by omega)),L11,L17,hB⟩
 rintro n21 a21 w21 ⟨k,vp,c0,c1,c2,c3,u21,rfl,rfl,hk,ho,hpv,hd,L11,L17,hB⟩ K21 k21
 refine wp_seq_k (fun K23 k23=>?_)
 refine wp_seq_k (fun K24 k24=>?_)
 refine rg [0,1,2,3,4,5,6,7,8,9] ?_
 refine sv 17 (.int .i64 ((k:Int))) ?_
 refine sv 18 (.int .i64 ((M:Int))) ?_
 refine sv 19 (.bool (decide ((k:Int)<(M:Int)))) ?_
 rcases Bool.eq_false_or_eq_true (decide ((k:Int)<(M:Int))) with hb25 | hb25
 ·have hlk:k<M:=by have:=of_decide_eq_true hb25;omega
  have hz1:=hz (k+1) (by omega)
  have hz0:=hz k (by omega)
  refine sw 20 (.bool true) rfl (RunV.bool (x:=decide ((k:Int)<(M:Int))) (rvk (by kernel_rfl)) hb25) ?_
  refine sv 21 vp ?_
  refine sw 22 (.int .i64 (((pl R m k:Nat):Int))) rfl (rv_lenn (e:=3) hpv.sl (tb_lenz rfl) _ _ rfl rfl (by kernel_rfl)) ?_
  refine sv 23 u13 ?_
  refine sw 24 (.int .i64 ((R:Int))) rfl (rv_lenn (e:=49) ho.sl (tb_lenz rfl) _ _ rfl rfl (by kernel_rfl)) ?_
  refine sv 25 (.bool (decide (((pl R m k:Nat):Int)<(R:Int)))) ?_
  refine sv 26 (.bool (decide (((pl R m k:Nat):Int)<(R:Int)))) ?_
  refine sq_nil ?_
  refine k24 _ _ ?_
  try clear k24 K24
  refine wp_cond_split (t:=decide (((pl R m k:Nat):Int)<(R:Int))) rfl (fun hb26=>?_) (fun hb26=>?_)
  ·have hlr:pl R m k<R:=by have:=of_decide_eq_true hb26;omega
   refine wp_skip ?_
   refine k23 _ _ ?_
   try clear k23 K23
   refine wp_seq_k (fun K27 k27=>?_)
   refine wp_block ?_
   refine wp_seq_k (fun K28 k28=>?_)
   refine rg [0,1,2] ?_
   refine sv 29 vp ?_
   refine sw 30 (.int .i64 (((pl R m k:Nat):Int))) rfl (rv_lenn (e:=3) hpv.sl (tb_lenz rfl) _ _ rfl rfl (by kernel_rfl)) ?_
   refine sv 11 (.int .i64 (((pl R m k:Nat):Int))) ?_
   refine sq_nil ?_
   refine k28 _ _ ?_
   try clear k28 K28
   refine wp_seq_k (fun K29 k29=>?_)
   refine rg [0,1] ?_
   refine sv 31 (.int .i64 (((pl R m k:Nat):Int))) ?_
   refine sv 12 (.int .i64 (((pl R m k:Nat):Int))) ?_
   refine sq_nil ?_
   refine k29 _ _ ?_
   try clear k29 K29
   refine wp_seq_k (fun K30 k30=>?_)
   refine wp_block ?_
   refine wp_loop_inv (a:=⟨List.toArray ?l31,[]⟩) (fun n a w'=>∃ (i:Nat) (u31:Nat→Value),R - i=n∧a=⟨[v,(.int .i64 ((M:Int))),undef,undef,(.slice none 0 0),(.slice none 0 0),(.pointer (some ⟨b11,0,none⟩)),u13,vp,(.pointer (some ⟨b17,0,none⟩)),(.int .i64 ((k:Int))),(.int .i64 (((pl R m k:Nat):Int))),(.int .i64 ((i:Int))),(u21 13),(u31 14),(u31 15),(u31 16),(u31 17),(u31 18),(u31 19),(u31 20),(u31 21),(u31 22),(u31 23),(u31 24),(u31 25),(.bool (decide (((pl R m k:Nat):Int)<(R:Int)))),(u31 27),(u31 28),(u31 29),(u31 30),(u31 31),(u31 32),(u31 33),(u31 34),(u31 35),(u31 36),(u31 37),(u31 38),(u31 39),(u31 40),(u31 41),(u31 42),(u31 43),(u31 44),(u31 45),(u31 46),(u31 47),(u31 48),(u31 49),(u31 50),(u31 51),(u21 52),(u31 53),(u31 54),(u21 55),(u31 56),(u31 57),(u31 58),(u31 59),(u31 60),(u31 61),(u31 62),(u31 63),(u31 64),(u31 65),(u31 66),(u31 67),(u31 68),(u31 69),(u31 70),(u31 71),(u31 72),(u31 73),(u31 74),(u31 75),(u31 76),(u31 77),(u31 78),(u31 79),(u31 80),(u31 81),(u31 82),(u31 83),(u31 84),(u31 85),(u31 86),(u31 87),(u31 88),(u31 89),(u31 90),(u31 91),(u31 92),(u31 93),(u31 94),(u31 95),(u31 96),(u21 97),(u21 98),(u21 99),(u31 100),(u31 101),(u31 102),(u31 103),(u31 104),(u31 105),(u31 106),(u31 107),(u31 108),(u31 109),(u31 110),(u31 111),(u31 112),(u31 113),(u21 114),(u31 115),(u31 116),(u31 117),(u31 118),(u31 119),(u31 120),(u31 121),(u31 122),(u31 123),(u31 124),(u31 125),(u31 126),(u31 127),(u31 128),(u31 129),(u31 130),(u31 131),(u31 132),(u31 133),(u31 134),(u31 135),(u31 136),(u31 137),(u31 138),undef,undef,undef].toArray,[]⟩∧pl R m k≤i∧i≤R∧(∀ t,pl R m k≤t→t<i→(rs R m k).m t k=0)∧Ow (ERp (fun g=>g≠b17∧g≠b11) (ERat K) 71 4) 49 1 w' w.heap.size u13 (tb (fun z0=>tb (fun z1=>((rs R m k).m z0 z1)) N) R)∧Ow EI64 3 1 w' w.heap.size vp (tb (fun z1=>((pv (rs R m k) z1:Nat):Int)) (pl R m k))∧IsRat w' K c0 c1 c2 c3 (rs R m k).d∧Lc w' b11 #[(.bool false),(.slice none 0 0),(.bool false),(.slice none 0 0)] 71∧Lc w' b17 #[c0,c1,c2,c3] 71∧Gr w w') (R - pl R m k) ?_ ?_
   ·exact ⟨(pl R m k),(fun i=>List.getD ?l31 i undef),rfl,rfl,(Nat.le_refl _),(by omega),(fun t h1 h2=>absurd h2 (by omega)),ho,hpv,hd,L11,L17,hB⟩
   rintro n31 a31 w31 ⟨i,u31,rfl,rfl,hri,hiR,hzz,ho,hpv,hd,L11,L17,hB⟩ K31 k31
   refine wp_seq_k (fun K32 k32=>?_)
   refine wp_seq_k (fun K33 k33=>?_)
   refine rg [0,1,2,3,4,5,6,7,8,9,10,11,12,13,14] ?_
   refine sv 32 (.int .i64 ((i:Int))) ?_
   refine sv 33 u13 ?_
   refine sw 34 (.int .i64 ((R:Int))) rfl (rv_lenn (e:=49) ho.sl (tb_lenz rfl) _ _ rfl rfl (by kernel_rfl)) ?_
   refine sv 35 (.bool (decide ((i:Int)<(R:Int)))) ?_
   rcases Bool.eq_false_or_eq_true (decide ((i:Int)<(R:Int))) with hb34 | hb34
   ·have hli:i<R:=by have:=of_decide_eq_true hb34;omega
    refine sw 36 (.bool true) rfl (RunV.bool (x:=decide ((i:Int)<(R:Int))) (rvk (by kernel_rfl)) hb34) ?_
    refine sv 37 u13 ?_
    refine sv 38 (.int .i64 ((i:Int))) ?_
    refine sw 39 (adr u13 (i*1)) rfl (rv_idxn (e:=49) ho.sl tb_len (by decide) i (by omega) _ _ _ rfl rfl rfl (by kernel_rfl) (by kernel_rfl)) ?_
    obtain ⟨_,_,⟨u35,rfl,hr35,ha35⟩,at35⟩:=Sl.get (ho.sl) (by decide) (tb_get (f:=(fun z0=>tb (fun z1=>((rs R m k).m z0 z1)) N)) (n:=R) (i:=i) (by omega))
    refine sw 40 u35 rfl (rv_ld1 u35 at35 _ _ rfl rfl (by kernel_rfl)) ?_
    refine sv 41 (.int .i64 ((k:Int))) ?_
    refine sw 42 (adr u35 (k*4)) rfl (rv_idxn (e:=71) hr35 tb_len (by decide) k (by omega) _ _ _ rfl rfl rfl (by kernel_rfl) (by kernel_rfl)) ?_
    obtain ⟨_,_,⟨cA36,cB36,cC36,cD36,rfl,h36⟩,at36⟩:=Sl.get hr35 (by decide) (tb_get (f:=(fun z1=>((rs R m k).m i z1))) (n:=N) (i:=k) (by omega))
    refine sw 43 (.agg #[cA36,cB36,cC36,cD36]) rfl (rv_ldn [cA36,cB36,cC36,cD36] at36 _ _ rfl rfl (by kernel_rfl)) ?_
    refine se ?_
    refine ec 44 (sign_r h36) ?_
    rintro e37 w37 ⟨rfl,g37⟩
    refine ⟨_,rfl,?_⟩
    replace hB:=hB.trans g37
    simp only [p3,p4]
    refine sv 45 (.bool ((sgn (((rs R m k).m i k)).num==(0:Int)))) ?_
    refine sv 46 (.bool ((sgn (((rs R m k).m i k)).num==(0:Int)))) ?_
    refine sq_nil ?_
    refine k33 _ _ ?_
    try clear k33 K33
    refine wp_cond_split (t:=(sgn (((rs R m k).m i k)).num==(0:Int))) rfl (fun hb38=>?_) (fun hb38=>?_)
    ·have hzi:=sgn_z hb38
     refine wp_skip ?_
     refine k32 _ _ ?_
     try clear k32 K32
     refine wp_block ?_
     refine rg [0,1,2] ?_
     refine sv 47 (.int .i64 ((i:Int))) ?_
     refine sw 48 (.int .i64 (((i:Int)+1))) rfl (RunV.int (x:=IntKind.i64.wrap (((i:Int)+1))) (y:=((i:Int)+1)) (rvk (by kernel_rfl)) (by first | rfl | (rw [IntKind.wrap_i64];omega))) ?_
     refine sv 12 (.int .i64 (((i:Int)+1))) ?_
     refine sq_nil ?_
     replace ho:=ho.gr (stab_rp (stab_rat K) 71 4) g37
     replace hpv:=hpv.gr stab_i64 g37
     replace hd:=hd.kp g37.kp
     replace L11:=L11.gr g37
     replace L17:=L17.gr g37
     refine k31 (R - (i+1)) ⟨List.toArray ?l39,[]⟩ _ (by omega) ?_
     exact ⟨i+1,(fun i=>List.getD ?l39 i undef),rfl,rfl,(by omega),(by omega),(zero_succ hzz hzi),ho,hpv,hd,L11,L17,hB⟩
    ·have hf:Fd R m k i:=fd_of hri hli (sgn_nez hb38) hzz
     refine wp_exit ?_
     simp only [Exit.then,Exit.inBlock,↓reduceIte]
     refine k30 _ _ ?_
     try clear k30 K30
     refine wp_seq_k (fun K40 k40=>?_)
     refine wp_seq_k (fun K41 k41=>?_)
     refine rg [0,1,2,3] ?_
     refine sv 49 (.int .i64 ((i:Int))) ?_
     refine sv 50 u13 ?_
     refine sw 51 (.int .i64 ((R:Int))) rfl (rv_lenn (e:=49) ho.sl (tb_lenz rfl) _ _ rfl rfl (by kernel_rfl)) ?_
     have hb42:(((i:Int)==(R:Int)))=false:=(by simp;omega)
     refine sw 52 (.bool false) rfl (RunV.bool (x:=((i:Int)==(R:Int))) (rvk (by kernel_rfl)) hb42) ?_
     refine sq_nil ?_
     refine k41 _ _ ?_
     try clear k41 K41
     refine wp_cond_false rfl ?_
     refine wp_skip ?_
     refine k40 _ _ ?_
     try clear k40 K40
     refine wp_seq_cut (fun a w'=>∃ (d0:Value) (d1:Value) (d2:Value) (d3:Value) (u43:Nat→Value),a=⟨[v,(.int .i64 ((M:Int))),undef,undef,(.slice none 0 0),(.slice none 0 0),(.pointer (some ⟨b11,0,none⟩)),u13,vp,(.pointer (some ⟨b17,0,none⟩)),(.int .i64 ((k:Int))),(.int .i64 (((pl R m k:Nat):Int))),(.int .i64 ((i:Int))),(u21 13),(u43 14),(u43 15),(u43 16),(u43 17),(u43 18),(u43 19),(u43 20),(u43 21),(u43 22),(u43 23),(u43 24),(u43 25),(.bool (decide (((pl R m k:Nat):Int)<(R:Int)))),(u43 27),(u43 28),(u43 29),(u43 30),(u43 31),(u43 32),(u43 33),(u43 34),(u43 35),(u43 36),(u43 37),(u43 38),(u43 39),(u43 40),(u43 41),(u43 42),(u43 43),(u43 44),(u43 45),(.bool ((sgn (((rs R m k).m i k)).num==(0:Int)))),(u43 47),(u43 48),(u43 49),(u43 50),(u43 51),(.bool false),(u43 53),(u43 54),(u43 55),(u43 56),(u43 57),(u43 58),(u43 59),(u43 60),(u43 61),(u43 62),(u43 63),(u43 64),(u43 65),(u43 66),(u43 67),(u43 68),(u43 69),(u43 70),(u43 71),(u43 72),(u43 73),(u43 74),(u43 75),(u43 76),(u43 77),(u43 78),(u43 79),(u43 80),(u43 81),(u43 82),(u43 83),(u43 84),(u43 85),(u43 86),(u43 87),(u43 88),(u43 89),(u43 90),(u43 91),(u43 92),(u43 93),(u43 94),(u43 95),(u43 96),(u21 97),(u21 98),(u21 99),(u43 100),(u43 101),(u43 102),(u43 103),(u43 104),(u43 105),(u43 106),(u43 107),(u43 108),(u43 109),(u43 110),(u43 111),(u43 112),(u43 113),(u21 114),(u43 115),(u43 116),(u43 117),(u43 118),(u43 119),(u43 120),(u43 121),(u43 122),(u43 123),(u43 124),(u43 125),(u43 126),(u43 127),(u43 128),(u43 129),(u43 130),(u43 131),(u43 132),(u43 133),(u43 134),(u43 135),(u43 136),(u43 137),(u43 138),undef,undef,undef].toArray,[]⟩∧Ow (ERp (fun g=>g≠b17∧g≠b11) (ERat K) 71 4) 49 1 w' w.heap.size u13 (tb (fun z0=>tb (fun z1=>(aa R m k i z0 z1)) N) R)∧Ow EI64 3 1 w' w.heap.size vp (tb (fun z1=>((pv (rs R m k) z1:Nat):Int)) (pl R m k))∧IsRat w' K d0 d1 d2 d3 (dd R m k i)∧Lc w' b11 #[(.bool false),(.slice none 0 0),(.bool false),(.slice none 0 0)] 71∧Lc w' b17 #[d0,d1,d2,d3] 71∧Gr w w') (fun K43 k43=>?_) ?_
     ·refine wp_seq_k (fun K44 k44=>?_)
      refine rg [0,1,2] ?_
      refine sv 53 (.int .i64 ((i:Int))) ?_
      refine sv 54 (.int .i64 (((pl R m k:Nat):Int))) ?_
      refine sv 55 (.bool (((i:Int) !=((pl R m k:Nat):Int)))) ?_
      refine sq_nil ?_
      refine k44 _ _ ?_
      try clear k44 K44
      refine wp_cond_split (t:=((i:Int) !=((pl R m k:Nat):Int))) rfl (fun hb45=>?_) (fun hb45=>?_)
      ·have hne:¬ i=pl R m k:=bne_t hb45
       refine wp_seq_k (fun K46 k46=>?_)
       replace ho:=ho.gr (stab_rp (stab_rat K) 71 4) g37
       obtain ⟨_,_,⟨u52,rfl,hr52,ha52⟩,at52⟩:=Sl.get (ho.sl) (by decide) (tb_get (f:=(fun z0=>tb (fun z1=>((rs R m k).m z0 z1)) N)) (n:=R) (i:=(pl R m k)) (by omega))
       have gd53:=Gr.drew w37
       replace hB:=hB.trans gd53
       replace at35:=at35.gr (g37.trans gd53)
       replace at52:=at52.gr gd53
       refine wp_region_ort (fun _=>True) [([13,15],(fun w'=>AtV w' u13 (i*1) [u35])),([13,15],(fun w'=>AtV w' u13 ((pl R m k)*1) [u52]))] [(true,0),(true,1),(true,2),(true,3),(true,4),(true,5),(true,6),(true,7),(true,8),(true,9),(true,10),(true,11),(true,12),(false,13),(true,14),(false,15)] (by kernel_rfl) (by kernel_rfl) (by kernel_rfl) (by decide) (fun _ _ _ _ _ h=>h) trivial ⟨fun _=>at35,fun _=>at52,trivial⟩ ?_
       refine tv 56 u13 ?_
       refine tv 57 (.int .i64 ((i:Int))) ?_
       refine tv 58 u13 ?_
       refine tv 59 (.int .i64 (((pl R m k:Nat):Int))) ?_
       refine tv 60 u13 ?_
       refine tv 61 (.int .i64 (((pl R m k:Nat):Int))) ?_
       refine tw 62 (adr u13 ((pl R m k)*1)) rfl (fun w' hS=>(rv_idxn (e:=49) ho.sl tb_len (by decide) (pl R m k) (by omega) _ _ _ rfl rfl rfl (by kernel_rfl) (by kernel_rfl))) ?_
       refine tw 63 u52 rfl (fun w' hS=>(rv_ld1 u52 (hS.2.2.1 (by kernel_rfl)) _ _ rfl rfl (by kernel_rfl))) ?_
       refine tv 64 u13 ?_
       refine tv 65 (.int .i64 ((i:Int))) ?_
       refine tw 66 (adr u13 (i*1)) rfl (fun w' hS=>(rv_idxn (e:=49) ho.sl tb_len (by decide) i (by omega) _ _ _ rfl rfl rfl (by kernel_rfl) (by kernel_rfl))) ?_
       refine tw 67 u35 rfl (fun w' hS=>(rv_ld1 u35 (hS.2.1 (by kernel_rfl)) _ _ rfl rfl (by kernel_rfl))) ?_
       refine tw 68 (adr u13 (i*1)) rfl (fun w' hS=>(rv_idxn (e:=49) ho.sl tb_len (by decide) i (by omega) _ _ _ rfl rfl rfl (by kernel_rfl) (by kernel_rfl))) ?_
       refine te ?_
       replace hr52:=hr52.gr (stab_rat K) gd53
       replace ho:=ho.gr (stab_rp (stab_rat K) 71 4) gd53
       refine eff_sto (stab_rp (stab_rat K) 71 4) ho i (by rw [tb_len];omega) (tb (fun z1=>((rs R m k).m (pl R m k) z1)) N) u52 [u52] 49 _ _ rfl rfl rfl rfl (cells_one hr52.one) (by kernel_rfl) rfl ⟨hr52.one,trivial⟩ ⟨_,rfl,hr52,ha52⟩ (by decide) (fun w55 ow55 wt55 hg55=>?_)
       replace hB:=hg55 _ hB (Nat.le_refl _)
       replace ow55:=ow55.cast set_tb
       refine ⟨trivial,⟨cameT (by kernel_rfl),cameT (by kernel_rfl),trivial⟩,?_⟩
       refine tw 69 (adr u13 ((pl R m k)*1)) rfl (fun w' hS=>(rv_idxn (e:=49) ow55.sl tb_len (by decide) (pl R m k) (by omega) _ _ _ rfl rfl rfl (by kernel_rfl) (by kernel_rfl))) ?_
       refine te ?_
       replace hr35:=((hr35.gr (stab_rat K) g37).gr (stab_rat K) gd53).kts (stab_rat K) (wt55.kts (by decide))
       refine eff_sto (stab_rp (stab_rat K) 71 4) ow55 (pl R m k) (by rw [tb_len];omega) (tb (fun z1=>((rs R m k).m i z1)) N) u35 [u35] 49 _ _ rfl rfl rfl rfl (cells_one hr35.one) (by kernel_rfl) rfl ⟨hr35.one,trivial⟩ ⟨_,rfl,hr35,ha35⟩ (by decide) (fun w57 ow57 wt57 hg57=>?_)
       replace hB:=hg57 _ hB (Nat.le_refl _)
       replace ow57:=ow57.cast set_tb
       refine ⟨trivial,⟨cameT (by kernel_rfl),cameT (by kernel_rfl),trivial⟩,?_⟩
       refine ort_nil ?_
       refine k46 _ _ ?_
       try clear k46 K46
       refine rg [0,1,2] ?_
       replace L17:=wt57.lc (wt55.lc (L17.gr (g37.trans gd53)) (by decide)) (by decide)
       refine sw 70 (.agg #[c0,c1,c2,c3]) rfl (rl 71 0 [c0,c1,c2,c3] L17) ?_
       refine se ?_
       have kq59:=g37.kp.trans (gd53.kp.trans ((wt55.kp (by decide)).trans (wt57.kp (by decide))))
       replace hd:=hd.kp kq59
       refine ec 71 (neg_r hd) ?_
       rintro e58 w58 ⟨⟨p58,q58,r58,s58,rfl,h58⟩,g58⟩
       refine ⟨_,rfl,?_⟩
       replace hB:=hB.trans g58
       simp only [p3,p4]
       refine se ?_
       replace L17:=L17.gr g58
       have lo60:=L17
       refine es 71 0 (.agg #[p58,q58,r58,s58]) [p58,q58,r58,s58] #[p58,q58,r58,s58] L17 hB q17 ⟨h58.one0,h58.one1,h58.one2,h58.one3,trivial⟩ fun w60 st60 kp60 L17 hB=>?_
       refine sq_nil ?_
       replace ow57:=(ow57.gr (stab_rp (stab_rat K) 71 4) g58).stav (fun _ h=>h.1) (stab_rat K) st60 lo60 (by decide) (by decide)
       replace hpv:=(((((hpv.gr stab_i64 g37).gr stab_i64 gd53).kts stab_i64 (wt55.kts (by decide))).kts stab_i64 (wt57.kts (by decide))).gr stab_i64 g58).kts stab_i64 (st60.kts lo60 (by decide))
       replace h58:=h58.kp kp60
       replace L11:=st60.lc ((wt57.lc (wt55.lc (L11.gr (g37.trans gd53)) (by decide)) (by decide)).gr g58) ne11_17
       refine k43 ⟨List.toArray ?l61,[]⟩ _ ?_
       exact ⟨p58,q58,r58,s58,(fun i=>List.getD ?l61 i undef),rfl,(ow57.cast (rows_swp hne)),hpv,(h58.castq (dd_neg hne)),L11,L17,hB⟩
      ·have heq:i=pl R m k:=bne_f hb45
       refine wp_skip ?_
       replace ho:=ho.gr (stab_rp (stab_rat K) 71 4) g37
       replace hpv:=hpv.gr stab_i64 g37
       replace hd:=hd.kp g37.kp
       replace L11:=L11.gr g37
       replace L17:=L17.gr g37
       refine k43 ⟨List.toArray ?l62,[]⟩ _ ?_
       exact ⟨c0,c1,c2,c3,(fun i=>List.getD ?l62 i undef),rfl,(ho.cast (rows_same heq)),hpv,(hd.castq (dd_same heq)),L11,L17,hB⟩
     rintro a43 w43 ⟨d0,d1,d2,d3,u43,rfl,ho,hpv,hd,L11,L17,hB⟩
     refine wp_seq_k (fun K63 k63=>?_)
     obtain ⟨_,_,⟨u70,rfl,hr70,ha70⟩,at70⟩:=Sl.get (ho.sl) (by decide) (tb_get (f:=(fun z0=>tb (fun z1=>(aa R m k i z0 z1)) N)) (n:=R) (i:=(pl R m k)) (by omega))
     obtain ⟨_,_,⟨cA71,cB71,cC71,cD71,rfl,h71⟩,at71⟩:=Sl.get hr70 (by decide) (tb_get (f:=(fun z1=>(aa R m k i (pl R m k) z1))) (n:=N) (i:=k) (by omega))
     have gd72:=Gr.drew w43
     replace hB:=hB.trans gd72
     replace L17:=L17.gr gd72
     replace at70:=at70.gr gd72
     replace at71:=at71.gr gd72
     refine wp_region_ort (fun _=>True) [([9],(fun w'=>Lc w' b17 #[d0,d1,d2,d3] 71)),([9],(fun w'=>AtV w' u13 ((pl R m k)*1) [u70])),([9],(fun w'=>AtV w' u70 (k*4) [cA71,cB71,cC71,cD71]))] [(true,0),(true,1),(true,2),(true,3),(true,4),(true,5),(true,6),(true,7),(false,8),(false,9)] (by kernel_rfl) (by kernel_rfl) (by kernel_rfl) (by decide) (fun _ _ _ _ _ h=>h) trivial ⟨fun _=>L17,fun _=>at70,fun _=>at71,trivial⟩ ?_
     refine tw 72 (.agg #[d0,d1,d2,d3]) rfl (fun w' hS=>(rl 71 0 [d0,d1,d2,d3] (hS.2.1 (by kernel_rfl)))) ?_
     refine tv 73 u13 ?_
     refine tv 74 (.int .i64 (((pl R m k:Nat):Int))) ?_
     refine tw 75 (adr u13 ((pl R m k)*1)) rfl (fun w' hS=>(rv_idxn (e:=49) ho.sl tb_len (by decide) (pl R m k) (by omega) _ _ _ rfl rfl rfl (by kernel_rfl) (by kernel_rfl))) ?_
     refine tw 76 u70 rfl (fun w' hS=>(rv_ld1 u70 (hS.2.2.1 (by kernel_rfl)) _ _ rfl rfl (by kernel_rfl))) ?_
     refine tv 77 (.int .i64 ((k:Int))) ?_
     refine tw 78 (adr u70 (k*4)) rfl (fun w' hS=>(rv_idxn (e:=71) hr70 tb_len (by decide) k (by omega) _ _ _ rfl rfl rfl (by kernel_rfl) (by kernel_rfl))) ?_
     refine tw 79 (.agg #[cA71,cB71,cC71,cD71]) rfl (fun w' hS=>(rv_ldn [cA71,cB71,cC71,cD71] (hS.2.2.2.1 (by kernel_rfl)) _ _ rfl rfl (by kernel_rfl))) ?_
     refine te ?_
     replace hd:=hd.kp gd72.kp
     replace h71:=h71.kp gd72.kp
     refine ec 80 (mul_r hd h71 (by omega)) ?_
     rintro e74 w74 ⟨⟨p74,q74,r74,s74,rfl,h74⟩,g74⟩
     refine ⟨_,rfl,?_⟩
     replace hB:=hB.trans g74
     replace L17:=L17.gr g74
     replace at70:=at70.gr g74
     replace at71:=at71.gr g74
     refine ⟨trivial,⟨fun _=>L17,fun _=>at70,fun _=>at71,trivial⟩,?_⟩
     simp only [p3,p4]
     refine te ?_
     have lo76:=L17
     refine es 71 0 (.agg #[p74,q74,r74,s74]) [p74,q74,r74,s74] #[p74,q74,r74,s74] L17 hB q17 ⟨h74.one0,h74.one1,h74.one2,h74.one3,trivial⟩ fun w76 st76 kp76 L17 hB=>?_
     refine ⟨trivial,⟨cameT (by kernel_rfl),cameT (by kernel_rfl),cameT (by kernel_rfl),trivial⟩,?_⟩
     refine ort_nil ?_
     refine k63 _ _ ?_
     try clear k63 K63
     refine wp_seq_k (fun K77 k77=>?_)
     replace ho:=((ho.gr (stab_rp (stab_rat K) 71 4) gd72).gr (stab_rp (stab_rat K) 71 4) g74).stav (fun _ h=>h.1) (stab_rat K) st76 lo76 (by decide) (by decide)
     obtain ⟨_,_,⟨u83,rfl,hr83,ha83⟩,at83⟩:=Sl.get (ho.sl) (by decide) (tb_get (f:=(fun z0=>tb (fun z1=>(aa R m k i z0 z1)) N)) (n:=R) (i:=(pl R m k)) (by omega))
     obtain ⟨_,_,⟨cA84,cB84,cC84,cD84,rfl,h84⟩,at84⟩:=Sl.get hr83 (by decide) (tb_get (f:=(fun z1=>(aa R m k i (pl R m k) z1))) (n:=N) (i:=k) (by omega))
     have gd85:=Gr.drew w76
     replace hB:=hB.trans gd85
     replace at83:=at83.gr gd85
     replace at84:=at84.gr gd85
     refine wp_region_ort (fun _=>True) [([15],(fun w'=>AtV w' u13 ((pl R m k)*1) [u83])),([15],(fun w'=>AtV w' u83 (k*4) [cA84,cB84,cC84,cD84]))] [(true,0),(true,1),(true,2),(true,3),(true,4),(true,5),(true,6),(true,7),(true,8),(true,9),(true,10),(true,11),(true,12),(false,13),(true,14),(false,15)] (by kernel_rfl) (by kernel_rfl) (by kernel_rfl) (by decide) (fun _ _ _ _ _ h=>h) trivial ⟨fun _=>at83,fun _=>at84,trivial⟩ ?_
     refine tv 81 u13 ?_
     refine tv 82 (.int .i64 (((pl R m k:Nat):Int))) ?_
     refine tv 83 u13 ?_
     refine tv 84 (.int .i64 (((pl R m k:Nat):Int))) ?_
     refine tw 85 (adr u13 ((pl R m k)*1)) rfl (fun w' hS=>(rv_idxn (e:=49) ho.sl tb_len (by decide) (pl R m k) (by omega) _ _ _ rfl rfl rfl (by kernel_rfl) (by kernel_rfl))) ?_
     refine tw 86 u83 rfl (fun w' hS=>(rv_ld1 u83 (hS.2.1 (by kernel_rfl)) _ _ rfl rfl (by kernel_rfl))) ?_
     refine tv 87 u13 ?_
     refine tv 88 (.int .i64 (((pl R m k:Nat):Int))) ?_
     refine tw 89 (adr u13 ((pl R m k)*1)) rfl (fun w' hS=>(rv_idxn (e:=49) ho.sl tb_len (by decide) (pl R m k) (by omega) _ _ _ rfl rfl rfl (by kernel_rfl) (by kernel_rfl))) ?_
     refine tw 90 u83 rfl (fun w' hS=>(rv_ld1 u83 (hS.2.1 (by kernel_rfl)) _ _ rfl rfl (by kernel_rfl))) ?_
     refine tv 91 (.int .i64 ((k:Int))) ?_
     refine tw 92 (adr u83 (k*4)) rfl (fun w' hS=>(rv_idxn (e:=71) hr83 tb_len (by decide) k (by omega) _ _ _ rfl rfl rfl (by kernel_rfl) (by kernel_rfl))) ?_
     refine tw 93 (.agg #[cA84,cB84,cC84,cD84]) rfl (fun w' hS=>(rv_ldn [cA84,cB84,cC84,cD84] (hS.2.2.1 (by kernel_rfl)) _ _ rfl rfl (by kernel_rfl))) ?_
     refine te ?_
     replace L17:=L17.gr gd85
     replace L11:=(st76.lc (L11.gr (gd72.trans g74)) ne11_17).gr gd85
     replace hr83:=hr83.gr (stab_rat K) gd85
     replace h84:=h84.kp gd85.kp
     have lb87:=L17.lt
     have lc87:=L11.lt
     refine ec 94 (mx_over h84 (by omega) hM (by omega) hf.num (hf.z_over hz1) hr83) ?_
     rintro e87 w87 ⟨⟨u87,rfl,hs87,hnw87⟩,g87⟩
     refine ⟨_,rfl,?_⟩
     replace hB:=hB.trans g87
     replace at83:=at83.gr g87
     replace at84:=at84.gr g87
     refine ⟨trivial,⟨fun _=>at83,fun _=>at84,trivial⟩,?_⟩
     simp only [p3,p4]
     refine tw 95 (adr u13 ((pl R m k)*1)) rfl (fun w' hS=>(rv_idxn (e:=49) ho.sl tb_len (by decide) (pl R m k) (by omega) _ _ _ rfl rfl rfl (by kernel_rfl) (by kernel_rfl))) ?_
     refine te ?_
     replace ho:=ho.gr (stab_rp (stab_rat K) 71 4) (gd85.trans g87)
     refine eff_sto (stab_rp (stab_rat K) 71 4) ho (pl R m k) (by rw [tb_len];omega) (tb (fun z1=>(aa R m k i (pl R m k) z1*(1/aa R m k i (pl R m k) k))) N) u87 [u87] 49 _ _ rfl rfl rfl rfl (cells_one hs87.one) (by kernel_rfl) rfl ⟨hs87.one,trivial⟩ ⟨_,rfl,hs87,hnw87.av (fun g hg=>⟨by have:=lb87;omega,by have:=lc87;omega⟩)⟩ (by decide) (fun w89 ow89 wt89 hg89=>?_)
     replace hB:=hg89 _ hB (Nat.le_refl _)
     replace ow89:=ow89.cast set_tb
     refine ⟨trivial,⟨cameT (by kernel_rfl),cameT (by kernel_rfl),trivial⟩,?_⟩
     refine ort_nil ?_
     refine k77 _ _ ?_
     try clear k77 K77
     refine wp_seq_k (fun K90 k90=>?_)
     refine wp_seq_k (fun K91 k91=>?_)
     refine rg [0,1,2] ?_
     refine sv 96 u13 ?_
     refine sw 97 (.int .i64 ((R:Int))) rfl (rv_lenn (e:=49) ow89.sl (tb_lenz rfl) _ _ rfl rfl (by kernel_rfl)) ?_
     refine sv 98 (.int .i64 0) ?_
     refine sq_nil ?_
     refine k91 _ _ ?_
     try clear k91 K91
     refine wp_block ?_
     replace hpv:=(((((hpv.gr stab_i64 gd72).gr stab_i64 g74).kts stab_i64 (st76.kts lo76 (by decide))).gr stab_i64 gd85).gr stab_i64 g87).kts stab_i64 (wt89.kts (by decide))
     have kq93:=kp76.trans (gd85.kp.trans (g87.kp.trans (wt89.kp (by decide))))
     replace h74:=h74.kp kq93
     replace L11:=wt89.lc (L11.gr g87) (by decide)
     replace L17:=wt89.lc (L17.gr g87) (by decide)
     refine wp_loop_inv (a:=⟨List.toArray ?l92,[]⟩) (fun n a w'=>∃ (j:Nat) (u92:Nat→Value),R - j=n∧a=⟨[v,(.int .i64 ((M:Int))),undef,undef,(.slice none 0 0),(.slice none 0 0),(.pointer (some ⟨b11,0,none⟩)),u13,vp,(.pointer (some ⟨b17,0,none⟩)),(.int .i64 ((k:Int))),(.int .i64 (((pl R m k:Nat):Int))),(.int .i64 ((i:Int))),(u92 13),(u92 14),(u92 15),(u92 16),(u92 17),(u92 18),(u92 19),(u92 20),(u92 21),(u92 22),(u92 23),(u92 24),(u92 25),(.bool (decide (((pl R m k:Nat):Int)<(R:Int)))),(u92 27),(u92 28),(u92 29),(u92 30),(u92 31),(u92 32),(u92 33),(u92 34),(u92 35),(u92 36),(u92 37),(u92 38),(u92 39),(u92 40),(u92 41),(u92 42),(u92 43),(u92 44),(u92 45),(.bool ((sgn (((rs R m k).m i k)).num==(0:Int)))),(u92 47),(u92 48),(u92 49),(u92 50),(u92 51),(.bool false),(u92 53),(u92 54),(u43 55),(u92 56),(u92 57),(u92 58),(u92 59),(u92 60),(u92 61),(u92 62),(u92 63),(u92 64),(u92 65),(u92 66),(u92 67),(u92 68),(u92 69),(u92 70),(u92 71),(u92 72),(u92 73),(u92 74),(u92 75),(u92 76),(u92 77),(u92 78),(u92 79),(u92 80),(u92 81),(u92 82),(u92 83),(u92 84),(u92 85),(u92 86),(u92 87),(u92 88),(u92 89),(u92 90),(u92 91),(u92 92),(u92 93),(u92 94),(u92 95),(u92 96),(.int .i64 ((R:Int))),(.int .i64 ((j:Int))),(u92 99),(u92 100),(u92 101),(u92 102),(u92 103),(u92 104),(u92 105),(u92 106),(u92 107),(u92 108),(u92 109),(u92 110),(u92 111),(u92 112),(u92 113),(u92 114),(u92 115),(u92 116),(u92 117),(u92 118),(u92 119),(u92 120),(u92 121),(u92 122),(u92 123),(u92 124),(u92 125),(u92 126),(u92 127),(u92 128),(u92 129),(u92 130),(u92 131),(u92 132),(u92 133),(u92 134),(u92 135),(u92 136),(u92 137),(u92 138),undef,undef,undef].toArray,[]⟩∧j≤R∧Ow (ERp (fun g=>g≠b17∧g≠b11) (ERat K) 71 4) 49 1 w' w.heap.size u13 (tb (fun z0=>tb (fun z1=>(md R m k i j z0 z1)) N) R)∧Ow EI64 3 1 w' w.heap.size vp (tb (fun z1=>((pv (rs R m k) z1:Nat):Int)) (pl R m k))∧IsRat w' K p74 q74 r74 s74 (dd R m k i*aa R m k i (pl R m k) k)∧Lc w' b11 #[(.bool false),(.slice none 0 0),(.bool false),(.slice none 0 0)] 71∧Lc w' b17 #[p74,q74,r74,s74] 71∧Gr w w') (R - 0) ?_ ?_
     ·exact ⟨0,(fun i=>List.getD ?l92 i undef),rfl,rfl,(Nat.zero_le _),(ow89.cast rows_over),hpv,(IsRat.resz h74 (hf.z_det hz1) hM),L11,L17,hB⟩
     rintro n92 a92 w92 ⟨j,u92,rfl,rfl,hj,ho,hpv,hd,L11,L17,hB⟩ K92 k92
     refine wp_seq_k (fun K94 k94=>?_)
     refine rg [0] ?_
     refine sv 99 (.bool (decide ((j:Int)<(R:Int)))) ?_
     refine sq_nil ?_
     refine k94 _ _ ?_
     try clear k94 K94
     refine wp_seq_k (fun K95 k95=>?_)
     refine wp_cond_split (t:=decide ((j:Int)<(R:Int))) rfl (fun hb96=>?_) (fun hb96=>?_)
     ·have hlj:j<R:=by have:=of_decide_eq_true hb96;omega
      refine wp_skip ?_
      refine k95 _ _ ?_
      try clear k95 K95
      refine wp_seq_k (fun K97 k97=>?_)
      refine wp_block ?_
      refine wp_seq_k (fun K98 k98=>?_)
      refine rg [0,1] ?_
      refine sv 100 (.int .i64 ((j:Int))) ?_
      refine sv 13 (.int .i64 ((j:Int))) ?_
      refine sq_nil ?_
      refine k98 _ _ ?_
      try clear k98 K98
      refine wp_seq_k (fun K99 k99=>?_)
      refine rg [0,1,2,3,4,5,6,7,8,9,10,11,12,13] ?_
      refine sv 101 (.int .i64 ((j:Int))) ?_
      refine sv 102 (.int .i64 (((pl R m k:Nat):Int))) ?_
      refine sv 103 (.bool (((j:Int) !=((pl R m k:Nat):Int)))) ?_
      rcases Bool.eq_false_or_eq_true (((j:Int) !=((pl R m k:Nat):Int))) with hb100 | hb100
      ·have hnj:¬ j=pl R m k:=bne_t hb100
       refine sw 104 (.bool true) rfl (RunV.bool (x:=((j:Int) !=((pl R m k:Nat):Int))) (rvk (by kernel_rfl)) hb100) ?_
       refine sv 105 u13 ?_
       refine sv 106 (.int .i64 ((j:Int))) ?_
       refine sw 107 (adr u13 (j*1)) rfl (rv_idxn (e:=49) ho.sl tb_len (by decide) j (by omega) _ _ _ rfl rfl rfl (by kernel_rfl) (by kernel_rfl)) ?_
       obtain ⟨_,_,⟨u101,rfl,hr101,ha101⟩,at101⟩:=Sl.get (ho.sl) (by decide) (tb_get (f:=(fun z0=>tb (fun z1=>(md R m k i j z0 z1)) N)) (n:=R) (i:=j) (by omega))
       refine sw 108 u101 rfl (rv_ld1 u101 at101 _ _ rfl rfl (by kernel_rfl)) ?_
       refine sv 109 (.int .i64 ((k:Int))) ?_
       refine sw 110 (adr u101 (k*4)) rfl (rv_idxn (e:=71) hr101 tb_len (by decide) k (by omega) _ _ _ rfl rfl rfl (by kernel_rfl) (by kernel_rfl)) ?_
       obtain ⟨_,_,⟨cA102,cB102,cC102,cD102,rfl,h102⟩,at102⟩:=Sl.get hr101 (by decide) (tb_get (f:=(fun z1=>(md R m k i j j z1))) (n:=N) (i:=k) (by omega))
       refine sw 111 (.agg #[cA102,cB102,cC102,cD102]) rfl (rv_ldn [cA102,cB102,cC102,cD102] at102 _ _ rfl rfl (by kernel_rfl)) ?_
       refine se ?_
       refine ec 112 (sign_r h102) ?_
       rintro e103 w103 ⟨rfl,g103⟩
       refine ⟨_,rfl,?_⟩
       replace hB:=hB.trans g103
       simp only [p3,p4]
       refine sv 113 (.bool ((sgn ((md R m k i j j k)).num !=(0:Int)))) ?_
       refine sv 114 (.bool ((sgn ((md R m k i j j k)).num !=(0:Int)))) ?_
       refine sq_nil ?_
       refine k99 _ _ ?_
       try clear k99 K99
       refine wp_cond_split (t:=(sgn ((md R m k i j j k)).num !=(0:Int))) rfl (fun hb104=>?_) (fun hb104=>?_)
       ·have hnz:=sgn_nez' hb104
        replace ho:=ho.gr (stab_rp (stab_rat K) 71 4) g103
        obtain ⟨_,_,⟨u111,rfl,hr111,ha111⟩,at111⟩:=Sl.get (ho.sl) (by decide) (tb_get (f:=(fun z0=>tb (fun z1=>(md R m k i j z0 z1)) N)) (n:=R) (i:=(pl R m k)) (by omega))
        have gd112:=Gr.drew w103
        replace hB:=hB.trans gd112
        replace at101:=at101.gr (g103.trans gd112)
        replace at102:=at102.gr (g103.trans gd112)
        replace at111:=at111.gr gd112
        refine wp_region_ort (fun _=>True) [([19],(fun w'=>AtV w' u13 (j*1) [u101])),([19],(fun w'=>AtV w' u101 (k*4) [cA102,cB102,cC102,cD102])),([19],(fun w'=>AtV w' u13 ((pl R m k)*1) [u111]))] [(true,0),(true,1),(true,2),(true,3),(true,4),(true,5),(true,6),(true,7),(true,8),(true,9),(true,10),(true,11),(true,12),(true,13),(true,14),(true,15),(true,16),(false,17),(true,18),(false,19)] (by kernel_rfl) (by kernel_rfl) (by kernel_rfl) (by decide) (fun _ _ _ _ _ h=>h) trivial ⟨fun _=>at101,fun _=>at102,fun _=>at111,trivial⟩ ?_
        refine tv 115 u13 ?_
        refine tv 116 (.int .i64 ((j:Int))) ?_
        refine tv 117 u13 ?_
        refine tv 118 (.int .i64 ((j:Int))) ?_
        refine tw 119 (adr u13 (j*1)) rfl (fun w' hS=>(rv_idxn (e:=49) ho.sl tb_len (by decide) j (by omega) _ _ _ rfl rfl rfl (by kernel_rfl) (by kernel_rfl))) ?_
        refine tw 120 u101 rfl (fun w' hS=>(rv_ld1 u101 (hS.2.1 (by kernel_rfl)) _ _ rfl rfl (by kernel_rfl))) ?_
        refine tv 121 u13 ?_
        refine tv 122 (.int .i64 (((pl R m k:Nat):Int))) ?_
        refine tw 123 (adr u13 ((pl R m k)*1)) rfl (fun w' hS=>(rv_idxn (e:=49) ho.sl tb_len (by decide) (pl R m k) (by omega) _ _ _ rfl rfl rfl (by kernel_rfl) (by kernel_rfl))) ?_
        refine tw 124 u111 rfl (fun w' hS=>(rv_ld1 u111 (hS.2.2.2.1 (by kernel_rfl)) _ _ rfl rfl (by kernel_rfl))) ?_
        refine tv 125 u13 ?_
        refine tv 126 (.int .i64 ((j:Int))) ?_
        refine tw 127 (adr u13 (j*1)) rfl (fun w' hS=>(rv_idxn (e:=49) ho.sl tb_len (by decide) j (by omega) _ _ _ rfl rfl rfl (by kernel_rfl) (by kernel_rfl))) ?_
        refine tw 128 u101 rfl (fun w' hS=>(rv_ld1 u101 (hS.2.1 (by kernel_rfl)) _ _ rfl rfl (by kernel_rfl))) ?_
        refine tv 129 (.int .i64 ((k:Int))) ?_
        refine tw 130 (adr u101 (k*4)) rfl (fun w' hS=>(rv_idxn (e:=71) hr101 tb_len (by decide) k (by omega) _ _ _ rfl rfl rfl (by kernel_rfl) (by kernel_rfl))) ?_
        refine tw 131 (.agg #[cA102,cB102,cC102,cD102]) rfl (fun w' hS=>(rv_ldn [cA102,cB102,cC102,cD102] (hS.2.2.1 (by kernel_rfl)) _ _ rfl rfl (by kernel_rfl))) ?_
        refine te ?_
        replace L17:=L17.gr (g103.trans gd112)
        replace L11:=L11.gr (g103.trans gd112)
        replace hr101:=hr101.gr (stab_rat K) (g103.trans gd112)
        replace hr111:=hr111.gr (stab_rat K) gd112
        have kq115:=g103.kp.trans gd112.kp
        replace h102:=h102.kp kq115
        have lb114:=L17.lt
        have lc114:=L11.lt
        refine ec 132 (mx_less h102 (by omega) hM (by omega) (hf.z_less hz1 hnj hlj) hr101 hr111) ?_
        rintro e114 w114 ⟨⟨u114,rfl,hs114,hnw114⟩,g114⟩
        refine ⟨_,rfl,?_⟩
        replace hB:=hB.trans g114
        replace at101:=at101.gr g114
        replace at102:=at102.gr g114
        replace at111:=at111.gr g114
        refine ⟨trivial,⟨fun _=>at101,fun _=>at102,fun _=>at111,trivial⟩,?_⟩
        simp only [p3,p4]
        refine tw 133 (adr u13 (j*1)) rfl (fun w' hS=>(rv_idxn (e:=49) ho.sl tb_len (by decide) j (by omega) _ _ _ rfl rfl rfl (by kernel_rfl) (by kernel_rfl))) ?_
        refine te ?_
        replace ho:=ho.gr (stab_rp (stab_rat K) 71 4) (gd112.trans g114)
        refine eff_sto (stab_rp (stab_rat K) 71 4) ho j (by rw [tb_len];omega) (tb (fun z1=>(md R m k i j j z1 - md R m k i j j k*md R m k i j (pl R m k) z1)) N) u114 [u114] 49 _ _ rfl rfl rfl rfl (cells_one hs114.one) (by kernel_rfl) rfl ⟨hs114.one,trivial⟩ ⟨_,rfl,hs114,hnw114.av (fun g hg=>⟨by have:=lb114;omega,by have:=lc114;omega⟩)⟩ (by decide) (fun w117 ow117 wt117 hg117=>?_)
        replace hB:=hg117 _ hB (Nat.le_refl _)
        replace ow117:=ow117.cast set_tb
        refine ⟨trivial,⟨cameT (by kernel_rfl),cameT (by kernel_rfl),cameT (by kernel_rfl),trivial⟩,?_⟩
        refine ort_nil ?_
        refine k97 _ _ ?_
        try clear k97 K97
        refine rg [0,1] ?_
        refine sw 134 (.int .i64 (((j:Int)+1))) rfl (RunV.int (x:=IntKind.i64.wrap (((j:Int)+1))) (y:=((j:Int)+1)) (rvk (by kernel_rfl)) (by first | rfl | (rw [IntKind.wrap_i64];omega))) ?_
        refine sv 98 (.int .i64 (((j:Int)+1))) ?_
        refine sq_nil ?_
        replace hpv:=(((hpv.gr stab_i64 g103).gr stab_i64 gd112).gr stab_i64 g114).kts stab_i64 (wt117.kts (by decide))
        have kq118:=g103.kp.trans (gd112.kp.trans (g114.kp.trans (wt117.kp (by decide))))
        replace hd:=hd.kp kq118
        replace L11:=wt117.lc (L11.gr g114) (by decide)
        replace L17:=wt117.lc (L17.gr g114) (by decide)
        refine k92 (R - (j+1)) ⟨List.toArray ?l119,[]⟩ _ (by omega) ?_
        exact ⟨j+1,(fun i=>List.getD ?l119 i undef),rfl,rfl,(by omega),(ow117.cast (hf.rows_yes hnj)),hpv,hd,L11,L17,hB⟩
       ·have hnz:=sgn_z' hb104
        refine wp_skip ?_
        refine k97 _ _ ?_
        try clear k97 K97
        refine rg [0,1] ?_
        refine sw 134 (.int .i64 (((j:Int)+1))) rfl (RunV.int (x:=IntKind.i64.wrap (((j:Int)+1))) (y:=((j:Int)+1)) (rvk (by kernel_rfl)) (by first | rfl | (rw [IntKind.wrap_i64];omega))) ?_
        refine sv 98 (.int .i64 (((j:Int)+1))) ?_
        refine sq_nil ?_
        replace ho:=ho.gr (stab_rp (stab_rat K) 71 4) g103
        replace hpv:=hpv.gr stab_i64 g103
        replace hd:=hd.kp g103.kp
        replace L11:=L11.gr g103
        replace L17:=L17.gr g103
        refine k92 (R - (j+1)) ⟨List.toArray ?l120,[]⟩ _ (by omega) ?_
        exact ⟨j+1,(fun i=>List.getD ?l120 i undef),rfl,rfl,(by omega),(ho.cast (hf.rows_no (.inr hnz))),hpv,hd,L11,L17,hB⟩
      ·have hej:j=pl R m k:=bne_f hb100
       refine swk 104 (.bool false) [(4,105),(5,106),(6,107),(7,108),(8,109),(9,110),(10,111),(11,112),(12,113)] rfl (RunV.bool (x:=((j:Int) !=((pl R m k:Nat):Int))) (rvk (by kernel_rfl)) hb100) ?_
       refine sv 114 (.bool false) ?_
       refine sq_nil ?_
       refine k99 _ _ ?_
       try clear k99 K99
       refine wp_cond_false rfl ?_
       refine wp_skip ?_
       refine k97 _ _ ?_
       try clear k97 K97
       refine rg [0,1] ?_
       refine sw 134 (.int .i64 (((j:Int)+1))) rfl (RunV.int (x:=IntKind.i64.wrap (((j:Int)+1))) (y:=((j:Int)+1)) (rvk (by kernel_rfl)) (by first | rfl | (rw [IntKind.wrap_i64];omega))) ?_
       refine sv 98 (.int .i64 (((j:Int)+1))) ?_
       refine sq_nil ?_
       refine k92 (R - (j+1)) ⟨List.toArray ?l121,[]⟩ _ (by omega) ?_
       exact ⟨j+1,(fun i=>List.getD ?l121 i undef),rfl,rfl,(by omega),(ho.cast (hf.rows_no (.inl hej))),hpv,hd,L11,L17,hB⟩
     ·have hej:R=j:=by have:=of_decide_eq_false hb96;omega
      subst hej
      refine wp_exit ?_
      simp only [Exit.then,Exit.inBlock,↓reduceIte]
      refine k90 _ _ ?_
      try clear k90 K90
      refine rg [0,1,2,3,4] ?_
      refine sv 135 vp ?_
      refine sv 136 (.int .i64 ((k:Int))) ?_
      refine se ?_
      refine eff_bs 3 1 #[(.int .i64 ((k:Int)))] (some 137) rfl (fun _=>by kernel_rfl) (fun b122 w122 g122 L122 q122=>?_)
      have qr122:=q122
      replace hB:=hB.trans g122
      simp only [putl,p3,p4]
      refine se ?_
      replace hpv:=hpv.gr stab_i64 g122
      refine eff_apg stab_i64 _ _ 30 3 w.heap.size (.int .i64 0) vp (tb (fun z1=>((pv (rs R m k) z1:Nat):Int)) (pl R m k)) b122 [(.int .i64 ((k:Int)))] ((k:Int):Int) 1 1 (some 138) 8 rfl rfl rfl rfl hpv L122 ⟨rfl,trivial⟩ rfl rfl (Below.size hB) (by rw [tb_len];omega) (by decide) (by kernel_rfl) (by kernel_rfl) (by decide) (by decide) (fun v123 w123 ow123 wt123 hg123=>?_)
      replace hB:=hg123 _ hB (Nat.le_refl _)
      replace ow123:=ow123.cast hf.piv
      simp only [putl,p3,p4]
      refine sv 8 v123 ?_
      refine sq_nil ?_
      refine k27 _ _ ?_
      try clear k27 K27
      refine rg [0,1,2] ?_
      refine sv 27 (.int .i64 ((k:Int))) ?_
      refine sw 28 (.int .i64 (((k:Int)+1))) rfl (RunV.int (x:=IntKind.i64.wrap (((k:Int)+1))) (y:=((k:Int)+1)) (rvk (by kernel_rfl)) (by first | rfl | (rw [IntKind.wrap_i64];omega))) ?_
      refine sv 10 (.int .i64 (((k:Int)+1))) ?_
      refine sq_nil ?_
      replace ho:=(ho.gr (stab_rp (stab_rat K) 71 4) g122).kts (stab_rp (stab_rat K) 71 4) (wt123.kts (by decide))
      have kq124:=g122.kp.trans (wt123.kp (by decide))
      replace hd:=hd.kp kq124
      replace L11:=wt123.lc (L11.gr g122) (by decide)
      replace L17:=wt123.lc (L17.gr g122) (by decide)
      refine k21 (M - (k+1)) ⟨List.toArray ?l125,[]⟩ _ (by omega) ?_
      exact ⟨k+1,v123,p74,q74,r74,s74,(fun i=>List.getD ?l125 i undef),rfl,rfl,(by omega),(ho.cast rows_end),ow123,(hd.castq hf.det),L11,L17,hB⟩
   ·have hei:R=i:=by have:=of_decide_eq_false hb34;omega
    refine swk 36 (.bool false) [(5,37),(6,38),(7,39),(8,40),(9,41),(10,42),(11,43),(12,44),(13,45)] rfl (RunV.bool (x:=decide ((i:Int)<(R:Int))) (rvk (by kernel_rfl)) hb34) ?_
    refine sv 46 (.bool false) ?_
    refine sq_nil ?_
    refine k33 _ _ ?_
    try clear k33 K33
    refine wp_cond_false rfl ?_
    refine wp_exit ?_
    simp only [Exit.then,Exit.inBlock,↓reduceIte]
    refine k30 _ _ ?_
    try clear k30 K30
    refine wp_seq_k (fun K126 k126=>?_)
    refine wp_seq_k (fun K127 k127=>?_)
    refine rg [0,1,2,3] ?_
    refine sv 49 (.int .i64 ((i:Int))) ?_
    refine sv 50 u13 ?_
    refine sw 51 (.int .i64 ((R:Int))) rfl (rv_lenn (e:=49) ho.sl (tb_lenz rfl) _ _ rfl rfl (by kernel_rfl)) ?_
    have hst:rs R m (k+1)=rs R m k:=rs_none fun t h1 h2=>hzz t h1 (by omega)
    have hb128:(((i:Int)==(R:Int)))=true:=(by simp;omega)
    refine sw 52 (.bool true) rfl (RunV.bool (x:=((i:Int)==(R:Int))) (rvk (by kernel_rfl)) hb128) ?_
    refine sq_nil ?_
    refine k127 _ _ ?_
    try clear k127 K127
    refine wp_cond_true rfl ?_
    refine wp_exit ?_
    simp only [Exit.then,Exit.inBlock,↓reduceIte]
    refine k27 _ _ ?_
    try clear k27 K27
    refine rg [0,1,2] ?_
    refine sv 27 (.int .i64 ((k:Int))) ?_
    refine sw 28 (.int .i64 (((k:Int)+1))) rfl (RunV.int (x:=IntKind.i64.wrap (((k:Int)+1))) (y:=((k:Int)+1)) (rvk (by kernel_rfl)) (by first | rfl | (rw [IntKind.wrap_i64];omega))) ?_
    refine sv 10 (.int .i64 (((k:Int)+1))) ?_
    refine sq_nil ?_
    refine k21 (M - (k+1)) ⟨List.toArray ?l129,[]⟩ _ (by omega) ?_
    exact ⟨k+1,vp,c0,c1,c2,c3,(fun i=>List.getD ?l129 i undef),rfl,rfl,(by omega),(by rw [hst];exact ho),(by unfold pl;rw [hst];exact hpv),(by rw [hst];exact hd),L11,L17,hB⟩
  ·have hff:rs R m M=rs R m k:=rs_full (by have:=of_decide_eq_false hb26;omega) (by omega)
   refine wp_exit ?_
   simp only [Exit.then,Exit.inBlock,↓reduceIte]
   refine k19 _ _ ?_
   try clear k19 K19
   refine wp_seq_k (fun K130 k130=>?_)
   have gd134:=Gr.drew w21
   replace hB:=hB.trans gd134
   replace L17:=L17.gr gd134
   refine wp_region_ord (fun w'=>Lc w' b17 #[c0,c1,c2,c3] 71) [(true,0),(true,1),(true,2),(true,3),(true,4),(false,5)] (by kernel_rfl) (by kernel_rfl) (by kernel_rfl) (by decide) (fun _ _ _ _ _ h=>h) L17 ?_
   refine ov 139 u13 ?_
   refine ov 140 vp ?_
   refine ow 141 (.agg #[c0,c1,c2,c3]) rfl (fun w' hS=>(rl 71 0 [c0,c1,c2,c3] hS)) ?_
   refine ov 4 u13 ?_
   refine ov 5 vp ?_
   refine oe ?_
   replace L11:=L11.gr gd134
   have lo136:=L11
   refine es 71 0 (.agg #[c0,c1,c2,c3]) [c0,c1,c2,c3] #[c0,c1,c2,c3] L11 hB q11 ⟨hd.one0,hd.one1,hd.one2,hd.one3,trivial⟩ fun w136 st136 kp136 L11 hB=>?_
   replace L17:=st136.lc L17 (Ne.symm ne11_17)
   refine ⟨L17,?_⟩
   refine ord_nil ?_
   refine k130 _ _ ?_
   try clear k130 K130
   refine wp_ret ?_
   refine bodyPost_ret (v:=(.tuple #[u13,vp,(.agg #[c0,c1,c2,c3])])) (ret_tmp2_cell _ _ _ rfl rfl rfl rfl L11 (by kernel_rfl)) rfl ⟨?_,hB⟩
   replace ho:=(ho.gr (stab_rp (stab_rat K) 71 4) gd134).stav (fun _ h=>h.2) (stab_rat K) st136 lo136 (by decide) (by decide)
   replace hpv:=(hpv.gr stab_i64 gd134).kts stab_i64 (st136.kts lo136 (by decide))
   have kq137:=gd134.kp.trans kp136
   replace hd:=hd.kp kq137
   exact (by unfold pl;rw [hff];exact ⟨_,_,_,_,_,_,rfl,(Sl.mono (ho.sl) fun _ _=>ERp.rw),(hpv.sl),hd⟩)
 ·have hff:rs R m M=rs R m k:=by rw [show M=k by have:=of_decide_eq_false hb25;omega]
  refine swk 20 (.bool false) [(4,21),(5,22),(6,23),(7,24),(8,25)] rfl (RunV.bool (x:=decide ((k:Int)<(M:Int))) (rvk (by kernel_rfl)) hb25) ?_
  refine sv 26 (.bool false) ?_
  refine sq_nil ?_
  refine k24 _ _ ?_
  try clear k24 K24
  refine wp_cond_false rfl ?_
  refine wp_exit ?_
  simp only [Exit.then,Exit.inBlock,↓reduceIte]
  refine k19 _ _ ?_
  try clear k19 K19
  refine wp_seq_k (fun K138 k138=>?_)
  have gd142:=Gr.drew w21
  replace hB:=hB.trans gd142
  replace L17:=L17.gr gd142
  refine wp_region_ord (fun w'=>Lc w' b17 #[c0,c1,c2,c3] 71) [(true,0),(true,1),(true,2),(true,3),(true,4),(false,5)] (by kernel_rfl) (by kernel_rfl) (by kernel_rfl) (by decide) (fun _ _ _ _ _ h=>h) L17 ?_
  refine ov 139 u13 ?_
  refine ov 140 vp ?_
  refine ow 141 (.agg #[c0,c1,c2,c3]) rfl (fun w' hS=>(rl 71 0 [c0,c1,c2,c3] hS)) ?_
  refine ov 4 u13 ?_
  refine ov 5 vp ?_
  refine oe ?_
  replace L11:=L11.gr gd142
  have lo144:=L11
  refine es 71 0 (.agg #[c0,c1,c2,c3]) [c0,c1,c2,c3] #[c0,c1,c2,c3] L11 hB q11 ⟨hd.one0,hd.one1,hd.one2,hd.one3,trivial⟩ fun w144 st144 kp144 L11 hB=>?_
  replace L17:=st144.lc L17 (Ne.symm ne11_17)
  refine ⟨L17,?_⟩
  refine ord_nil ?_
  refine k138 _ _ ?_
  try clear k138 K138
  refine wp_ret ?_
  refine bodyPost_ret (v:=(.tuple #[u13,vp,(.agg #[c0,c1,c2,c3])])) (ret_tmp2_cell _ _ _ rfl rfl rfl rfl L11 (by kernel_rfl)) rfl ⟨?_,hB⟩
  replace ho:=(ho.gr (stab_rp (stab_rat K) 71 4) gd142).stav (fun _ h=>h.2) (stab_rat K) st144 lo144 (by decide) (by decide)
  replace hpv:=(hpv.gr stab_i64 gd142).kts stab_i64 (st144.kts lo144 (by decide))
  have kq145:=gd142.kp.trans kp144
  replace hd:=hd.kp kq145
  exact (by unfold pl;rw [hff];exact ⟨_,_,_,_,_,_,rfl,(Sl.mono (ho.sl) fun _ _=>ERp.rw),(hpv.sl),hd⟩)

end Go.Proofs.YtepgkcimmdmgcaaGreatDoor
namespace Go.Proofs.YtepgkcimmdmgcaaGreatDoor
theorem rs_pv {R k t:Nat} {m:Mx_} (h:t<pl R m k):pv (rs R m k) t<k:=(red_inv R m 1 k).lt t h
theorem rs_ple (R:Nat) (m:Mx_) (k:Nat):pl R m k≤k:=by have:=redR_le R ⟨m,[],1⟩ k;simp only [List.length_nil,Nat.zero_add] at this;exact this
theorem rs_inj {R k t u:Nat} {m:Mx_} (ht:t<pl R m k) (hu:u<pl R m k) (h:pv (rs R m k) t=pv (rs R m k) u):t=u:=by
  have hI:=(red_inv R m 1 k).inc
  rcases Nat.lt_trichotomy t u with hl | he | hg
  · have:pv (rs R m k) t<pv (rs R m k) u:=hI t u hl hu
    omega
  · exact he
  · have:pv (rs R m k) u<pv (rs R m k) t:=hI u t hg ht
    omega
/-- sums of which one member is meant -/
theorem sm_off {n:Nat} {f:Nat→Rat} (h:∀ i,i<n→f i=0):sm n f=0:=by
  induction n with
  | zero=>rfl
  | succ n ih=>show sm n f+f n=0;rw [ih fun i hi=>h i (by omega),h n (by omega)];exact Rat.add_zero _
/-- places that the pivots before j have filled -/
def pik (R:Nat) (m:Mx_) (n:Nat) (g:Nat→Rat) (j k:Nat):Rat:=sm j fun t=>if pv (rs R m n) t=k then g t else 0
theorem pik_step {R n j:Nat} {m:Mx_} {g:Nat→Rat} (hj:j<pl R m n) (k:Nat):(if k=pv (rs R m n) j then g j else pik R m n g j k)=pik R m n g (j+1) k:=by
  show _=pik R m n g j k+(if pv (rs R m n) j=k then g j else 0)
  by_cases h:k=pv (rs R m n) j
  · have h0:pik R m n g j k=0:=sm_off fun t ht=>if_neg fun e=>by
      have:=rs_inj (t:=t) (u:=j) (by omega) hj (e.trans h);omega
    rw [if_pos h,h0,if_pos h.symm];grind
  · rw [if_neg h,if_neg (Ne.symm h)];grind
/-- a kernel vector,of which the pivots before j are set -/
def kvp (R:Nat) (m:Mx_) (n f j k:Nat):Rat:=if k=f then 1 else pik R m n (fun t=>-(rs R m n).m t f) j k
theorem kvp_zero {R n N f:Nat} {m:Mx_}:(List.replicate N (0:Rat)).set f (((1:Int):Rat))=tb (fun z1=>kvp R m n f 0 z1) N:=by
  rw [rep_tb,set_tb]
  exact tb_congr fun k _=>rfl
theorem kvp_set {R n N f j:Nat} {m:Mx_} {x:Rat} (hj:j<pl R m n) (hf:¬ pv (rs R m n) j=f) (hx:x=-(rs R m n).m j f):(tb (fun z1=>kvp R m n f j z1) N).set (pv (rs R m n) j) x=tb (fun z1=>kvp R m n f (j+1) z1) N:=by
  subst hx
  rw [set_tb]
  refine tb_congr fun k _=>?_
  unfold kvp
  by_cases h:k=f
  · rw [if_pos h,if_pos h,if_neg fun e=>hf (e.symm.trans h)]
  · rw [if_neg h,if_neg h];exact pik_step hj k
/-- the columns without a pivot,those before f -/
def isP (R:Nat) (m:Mx_) (n:Nat) (x:Nat):Bool:=hasI (fun t=>((pv (rs R m n) t:Nat):Int)) (pl R m n) (x:Int)
def frl (R:Nat) (m:Mx_) (n f:Nat):List Nat:=(List.range f).filter fun x=>!isP R m n x
abbrev nfr (R:Nat) (m:Mx_) (n f:Nat):Nat:=(frl R m n f).length
def frc (R:Nat) (m:Mx_) (n f t:Nat):Nat:=(frl R m n f).getD t 0
theorem isP_no {R n x t:Nat} {m:Mx_} (h:isP R m n x=false) (ht:t<pl R m n):¬ pv (rs R m n) t=x:=fun e=>by
  have:=hasI_true (P:=fun t=>((pv (rs R m n) t:Nat):Int)) (z:=(x:Int)) ht (by show ((pv (rs R m n) t:Nat):Int)=_;rw [e])
  unfold isP at h
  rw [this] at h;cases h
theorem frl_yes {R n f:Nat} {m:Mx_} (h:isP R m n f=true):frl R m n (f+1)=frl R m n f:=by
  unfold frl;rw [List.range_succ,List.filter_append];simp [h]
theorem frl_no {R n f:Nat} {m:Mx_} (h:isP R m n f=false):frl R m n (f+1)=frl R m n f++[f]:=by
  unfold frl;rw [List.range_succ,List.filter_append];simp [h]
theorem fr_yes {R n N f:Nat} {m:Mx_} (h:isP R m n f=true):tb (fun z0=>tb (fun z1=>kv (rs R m n) (frc R m n f z0) z1) N) (nfr R m n f)=tb (fun z0=>tb (fun z1=>kv (rs R m n) (frc R m n (f+1) z0) z1) N) (nfr R m n (f+1)):=by
  unfold frc nfr;rw [frl_yes h]
theorem fr_no {R n N f:Nat} {m:Mx_} {x:List Rat} (h:isP R m n f=false) (hx:x=tb (fun z1=>kv (rs R m n) f z1) N):tb (fun z0=>tb (fun z1=>kv (rs R m n) (frc R m n f z0) z1) N) (nfr R m n f)++[x]=tb (fun z0=>tb (fun z1=>kv (rs R m n) (frc R m n (f+1) z0) z1) N) (nfr R m n (f+1)):=by
  subst hx
  have e:nfr R m n (f+1)=nfr R m n f+1:=by unfold nfr;rw [frl_no h];simp
  rw [e,← tb_snoc (f:=fun z0=>tb (fun z1=>kv (rs R m n) (frc R m n (f+1) z0) z1) N) (n:=nfr R m n f) (x:=tb (fun z1=>kv (rs R m n) f z1) N)]
  · congr 1
    refine tb_congr fun t ht=>?_
    have:frc R m n (f+1) t=frc R m n f t:=by
      unfold frc;rw [frl_no h,List.getD_eq_getElem?_getD,List.getElem?_append_left ht,List.getD_eq_getElem?_getD]
    simp only [this]
  · have:frc R m n (f+1) (nfr R m n f)=f:=by unfold frc nfr;rw [frl_no h];simp
    simp only [this]
theorem nfr_le (R:Nat) (m:Mx_) (n f:Nat):nfr R m n f≤f:=by
  have:=List.length_filter_le (fun x=>!isP R m n x) (List.range f)
  rw [List.length_range] at this;exact this
theorem dtE_lt {R:Nat} {m:Mx_} (h:pl R m R<R):(0:Rat)=dtE R m:=by
  unfold dtE;rw [if_pos (show (redR R R ⟨m,[],1⟩).p.length<R from h)]
theorem dtE_ge {R:Nat} {m:Mx_} (h:¬ pl R m R<R):(rs R m R).d=dtE R m:=by
  unfold dtE;rw [if_neg (show ¬ (redR R R ⟨m,[],1⟩).p.length<R from h)];rfl
end Go.Proofs.YtepgkcimmdmgcaaGreatDoor
namespace Go.Proofs.YtepgkcimmdmgcaaGreatDoor
open Go.RowKit

set_option maxRecDepth 100000 in
set_option maxHeartbeats 1000000 in
theorem mx_Reduce {K R N:Nat} {v:Value} {m:Mx_} (hR:R=0→N=0) (_hK:64≤K) (_hK2:K≤20000) (_hR2:R≤256) (_hN2:N≤96) (hz:∀ k,k≤N→RdZ R N K (rs R m k)) {w:World} (hs:Sl (ERw (ERat K) 71 4) 49 1 w v (tb (fun z0=>tb (fun z1=>(m z0 z1)) N) R)):
    Calls Tryz.prog 14 #[v] w fun e w'=>(∃ u v,e=.returned (.tuple #[u,v,.int .i64 0])∧Sl (ERw (ERat K) 71 4) 49 1 w' u (tb (fun z0=>tb (fun z1=>((rs R m N).m z0 z1)) N) (pl R m N))∧Sl EI64 3 1 w' v (tb (fun z1=>((pv (rs R m N) z1:Nat):Int)) (pl R m N)))∧Gr w w':=by
 go_enter Tryz.func14,Tryz.ntmps14
 have hB:=Gr.refl w
 refine wp_seq_k (fun K10 k10=>?_)
 refine rg [0,1,2] ?_
 refine sv 2 (.slice none 0 0) ?_
 refine sv 3 (.slice none 0 0) ?_
 refine sv 4 (.int .i64 0) ?_
 refine sq_nil ?_
 refine k10 _ _ ?_
 try clear k10 K10
 refine wp_seq_k (fun K11 k11=>?_)
 refine wp_seq_k (fun K12 k12=>?_)
 refine rg [0,1,2] ?_
 refine sv 11 v ?_
 refine se ?_
 refine ec 12 (mx_size (by omega) (by omega) (hs.gr (stab_rw (stab_rat K) 71 4) hB)) ?_
 rintro e13 w13 ⟨rfl,g13⟩
 refine ⟨_,rfl,?_⟩
 replace hB:=hB.trans g13
 simp only [p3,p4]
 refine sv 5 (.int .i64 0) ?_
 refine sq_nil ?_
 refine k12 _ _ ?_
 try clear k12 K12
 refine wp_seq_k (fun K14 k14=>?_)
 refine rg [0,1] ?_
 refine sv 13 (.int .i64 0) ?_
 refine sv 14 (.bool false) ?_
 refine sq_nil ?_
 refine k14 _ _ ?_
 try clear k14 K14
 refine wp_cond_false rfl ?_
 refine wp_skip ?_
 refine k11 _ _ ?_
 try clear k11 K11
 refine wp_seq_k (fun K15 k15=>?_)
 refine rg [0,1,2,3,4,5,6,7,8,9,10,11] ?_
 refine sv 17 v ?_
 refine sv 18 v ?_
 refine se ?_
 refine ec 19 (mx_columnsp (hs.gr (stab_rw (stab_rat K) 71 4) hB) hR) ?_
 rintro e16 w16 ⟨rfl,g16⟩
 refine ⟨_,rfl,?_⟩
 replace hB:=hB.trans g16
 simp only [p3,p4]
 refine se ?_
 have hlen17:=rs_len R m N
 have hple17:=rs_ple R m N
 refine ec 20 (mx_reduced (by omega) (by omega) (by omega) (by omega) (by omega) hz (hs.gr (stab_rw (stab_rat K) 71 4) hB)) ?_
 rintro e17 w17 ⟨⟨u17,v17,p17,q17,r17,s17,rfl,hs17,hp17,h17⟩,g17⟩
 refine ⟨_,rfl,?_⟩
 replace hB:=hB.trans g17
 have lehc17:=Below.size hB
 have hc17:=Gr.refl w17
 simp only [p3,p4]
 refine sv 16 (.tuple #[u17,v17,(.agg #[p17,q17,r17,s17])]) ?_
 refine sv 21 u17 ?_
 refine sv 22 v17 ?_
 refine sv 23 (.agg #[p17,q17,r17,s17]) ?_
 refine se ?_
 refine ea 71 #[(.bool false),(.slice none 0 0),(.bool false),(.slice none 0 0)] 7 hB fun b18 w18 g18 L18 o18 q18 hB=>?_
 have q18_hc17:=Nat.le_trans (Below.size hc17) o18
 replace hc17:=hc17.trans g18
 simp only [p3,p4]
 refine sv 6 u17 ?_
 refine sv 3 v17 ?_
 refine se ?_
 have lo19:=L18
 refine es 71 0 (.agg #[p17,q17,r17,s17]) [p17,q17,r17,s17] #[p17,q17,r17,s17] L18 hB q18 ⟨h17.one0,h17.one1,h17.one2,h17.one3,trivial⟩ fun w19 st19 kp19 L18 hB=>?_
 replace hc17:=st19.gr hc17 q18_hc17
 refine sq_nil ?_
 refine k15 _ _ ?_
 try clear k15 K15
 refine wp_seq_k (fun K20 k20=>?_)
 refine rg [0] ?_
 refine sv 8 (.slice none 0 0) ?_
 refine sq_nil ?_
 refine k20 _ _ ?_
 try clear k20 K20
 refine wp_seq_k (fun K21 k21=>?_)
 refine wp_seq_k (fun K22 k22=>?_)
 refine rg [0,1,2,3,4,5] ?_
 refine sv 24 u17 ?_
 refine sv 25 v17 ?_
 refine sw 26 (.int .i64 (((pl R m N:Nat):Int))) rfl (rv_lenn (e:=3) hp17 (tb_lenz rfl) _ _ rfl rfl (by kernel_rfl)) ?_
 have hs23:=hs17.subt (show 0≤(pl R m N) by omega) (show (pl R m N)≤R by omega)
 replace hs23:=hs23.cast (tb_sub0 (f:=(fun z0=>tb (fun z1=>((rs R m N).m z0 z1)) N)))
 refine sw 27 (subv u17 0 (pl R m N) 1) rfl (rv_subt (e:=49) hs17 0 (pl R m N) (by omega) (by omega) _ _ _ _ rfl rfl (.inl ⟨rfl,rfl⟩) (.inr rfl) (by kernel_rfl) (by kernel_rfl)) ?_
 refine sw 28 (.int .i64 (((pl R m N:Nat):Int))) rfl (rv_lenn (e:=49) hs23 (tb_lenz rfl) _ _ rfl rfl (by kernel_rfl)) ?_
 refine sv 29 (.int .i64 0) ?_
 refine sq_nil ?_
 refine k22 _ _ ?_
 try clear k22 K22
 refine wp_block ?_
 refine wp_loop_inv (a:=⟨List.toArray ?l24,[]⟩) (fun n a w'=>∃ (j:Nat) (vo:Value) (u24:Nat→Value),(pl R m N) - j=n∧a=⟨[v,undef,(.slice none 0 0),v17,(.int .i64 0),(.int .i64 0),u17,(u24 7),vo,undef,(u24 10),(u24 11),(u24 12),(u24 13),(.bool false),undef,(u24 16),(u24 17),(u24 18),(u24 19),(u24 20),(u24 21),(u24 22),(u24 23),(u24 24),(u24 25),(u24 26),(subv u17 0 (pl R m N) 1),(.int .i64 (((pl R m N:Nat):Int))),(.int .i64 ((j:Int))),(u24 30),(u24 31),(u24 32),(u24 33),(u24 34),(u24 35),(u24 36),(u24 37),(u24 38),undef,undef].toArray,[]⟩∧j≤(pl R m N)∧Ow (ERw (ERat K) 71 4) 49 1 w' w17.heap.size vo (tb (fun z0=>tb (fun z1=>((rs R m N).m z0 z1)) N) j)∧Gr w17 w'∧Gr w w') ((pl R m N) - 0) ?_ ?_
 ·exact ⟨0,(.slice none 0 0),(fun i=>List.getD ?l24 i undef),rfl,rfl,(Nat.zero_le _),(Ow.nil _ _ _ _ _),hc17,hB⟩
 rintro n24 a24 w24 ⟨j,vo,u24,rfl,rfl,hkj,oo,hc17,hB⟩ K24 k24
 have lehC:=Below.size hB
 have lehC_hc17:=Below.size hc17
 have hC:=Gr.refl w24
 refine wp_seq_k (fun K25 k25=>?_)
 refine rg [0] ?_
 refine sv 30 (.bool (decide ((j:Int)<((pl R m N:Nat):Int)))) ?_
 refine sq_nil ?_
 refine k25 _ _ ?_
 try clear k25 K25
 refine wp_seq_k (fun K26 k26=>?_)
 refine wp_cond_split (t:=decide ((j:Int)<((pl R m N:Nat):Int))) rfl (fun hb27=>?_) (fun hb27=>?_)
 ·have hlj:j<(pl R m N):=by have:=of_decide_eq_true hb27;omega
  refine wp_skip ?_
  refine k26 _ _ ?_
  try clear k26 K26
  refine wp_seq_k (fun K28 k28=>?_)
  refine wp_block ?_
  refine wp_seq_k (fun K29 k29=>?_)
  refine rg [0,1,2] ?_
  refine sw 31 (adr (subv u17 0 (pl R m N) 1) (j*1)) rfl (rv_idxn (e:=49) hs23 tb_len (by decide) j (by omega) _ _ _ rfl rfl rfl (by kernel_rfl) (by kernel_rfl)) ?_
  obtain ⟨_,_,⟨u30,rfl,hr30⟩,at30⟩:=Sl.get hs23 (by decide) (tb_get (f:=(fun z0=>tb (fun z1=>((rs R m N).m z0 z1)) N)) (n:=(pl R m N)) (i:=j) (by omega))
  refine sw 32 u30 rfl (rv_ld1 u30 (at30.gr hc17) _ _ rfl rfl (by kernel_rfl)) ?_
  refine sv 10 u30 ?_
  refine sq_nil ?_
  refine k29 _ _ ?_
  try clear k29 K29
  refine rg [0,1,2,3,4,5] ?_
  refine sv 33 vo ?_
  refine sv 34 u30 ?_
  refine se ?_
  refine ec 35 (cl_rat (by omega) (hr30.gr (stab_rat K) hc17)) ?_
  rintro e31 w31 ⟨⟨u31,rfl,hs31⟩,g31⟩
  refine ⟨_,rfl,?_⟩
  replace hB:=hB.trans g31
  replace hc17:=hc17.trans g31
  replace hC:=hC.trans g31
  replace hs31:=hs31.sl
  simp only [p3,p4]
  refine se ?_
  refine eff_bs1 29 49 u31 (some 36) rfl rfl rfl hs31.forms (fun _ _ _ _=>by kernel_rfl) (fun b32 w32 g32 L32 q32=>?_)
  have q32_hc17:=Nat.le_trans (Below.size hc17) q32
  have q32_hC:=Nat.le_trans (Below.size hC) q32
  replace hB:=hB.trans g32
  replace hc17:=hc17.trans g32
  replace hC:=hC.trans g32
  simp only [putl,p3,p4]
  refine se ?_
  replace hs31:=hs31.gr (stab_rat K) g32
  refine eff_apg (stab_rw (stab_rat K) 71 4) _ _ 29 49 w17.heap.size (.slice none 0 0) vo (tb (fun z0=>tb (fun z1=>((rs R m N).m z0 z1)) N) j) b32 [u31] (tb (fun z1=>((rs R m N).m j z1)) N) 1 1 (some 37) 24 rfl rfl rfl rfl (oo.gr (stab_rw (stab_rat K) 71 4) hC) L32 ⟨hs31.one,trivial⟩ rfl ⟨_,rfl,hs31⟩ (Below.size hc17) (by rw [tb_len];omega) (by decide) (by kernel_rfl) (by kernel_rfl) (by decide) (by decide) (fun v33 w33 ow33 wt33 hg33=>?_)
  replace hB:=hg33 _ hB lehc17
  replace hc17:=hg33 _ hc17 (Nat.le_refl _)
  replace ow33:=ow33.cast (tb_snoc (f:=(fun z0=>tb (fun z1=>((rs R m N).m z0 z1)) N)) (n:=j) (by first | rfl | exact fil_all))
  simp only [putl,p3,p4]
  refine sv 8 v33 ?_
  refine sq_nil ?_
  refine k28 _ _ ?_
  try clear k28 K28
  refine rg [0,1] ?_
  refine sw 38 (.int .i64 (((j:Int)+1))) rfl (RunV.int (x:=IntKind.i64.wrap (((j:Int)+1))) (y:=((j:Int)+1)) (rvk (by kernel_rfl)) (by first | rfl | (rw [IntKind.wrap_i64];omega))) ?_
  refine sv 29 (.int .i64 (((j:Int)+1))) ?_
  refine sq_nil ?_
  refine k24 ((pl R m N) - (j+1)) ⟨List.toArray ?l34,[]⟩ _ (by omega) ?_
  exact ⟨j+1,v33,(fun i=>List.getD ?l34 i undef),rfl,rfl,(by omega),ow33,hc17,hB⟩
 ·have hej:(pl R m N)=j:=by have:=of_decide_eq_false hb27;omega
  subst hej
  refine wp_exit ?_
  simp only [Exit.then,Exit.inBlock,↓reduceIte]
  refine k21 _ _ ?_
  try clear k21 K21
  refine wp_seq_k (fun K35 k35=>?_)
  refine rg [0,1,2,3,4] ?_
  refine sv 39 vo ?_
  refine sv 40 v17 ?_
  refine sv 2 vo ?_
  refine sv 3 v17 ?_
  refine sv 4 (.int .i64 0) ?_
  refine sq_nil ?_
  refine k35 _ _ ?_
  try clear k35 K35
  refine wp_ret ?_
  refine bodyPost_ret (v:=(.tuple #[vo,v17,(.int .i64 0)])) (ret_tmp3 rfl rfl rfl rfl) rfl ⟨?_,hB⟩
  exact ⟨_,_,rfl,((oo.gr (stab_rw (stab_rat K) 71 4) hC).sl),(hp17.gr stab_i64 hc17)⟩

set_option maxRecDepth 100000 in
set_option maxHeartbeats 1000000 in
theorem mx_Kernel {K R D:Nat} {v:Value} {m:Mx_} (hK:64≤K) (_hK2:K≤20000) (_hR2:R≤256) (_hN2:D≤96) (hz:∀ k,k≤D→RdZ R D K (rs R m k)) {w:World} (hs:Sl (ERw (ERat K) 71 4) 49 1 w v (tb (fun z0=>tb (fun z1=>(m z0 z1)) D) R)):
    Calls Tryz.prog 19 #[v,(.int .i64 ((D:Int)))] w fun e w'=>(∃ u,e=.returned (.tuple #[u,.int .i64 0])∧Sl (ERw (ERat K) 71 4) 49 1 w' u (tb (fun z0=>tb (fun z1=>kv (rs R m D) (frc R m D D z0) z1) D) (nfr R m D D)))∧Gr w w':=by
 go_enter Tryz.func19,Tryz.ntmps19
 have hB:=Gr.refl w
 refine wp_seq_k (fun K10 k10=>?_)
 refine rg [0,1] ?_
 refine sv 4 (.slice none 0 0) ?_
 refine sv 5 (.int .i64 0) ?_
 refine sq_nil ?_
 refine k10 _ _ ?_
 try clear k10 K10
 refine wp_seq_k (fun K11 k11=>?_)
 refine wp_seq_k (fun K12 k12=>?_)
 refine rg [0,1,2] ?_
 refine sv 15 v ?_
 refine se ?_
 refine ec 16 (mx_size (by omega) (by omega) (hs.gr (stab_rw (stab_rat K) 71 4) hB)) ?_
 rintro e13 w13 ⟨rfl,g13⟩
 refine ⟨_,rfl,?_⟩
 replace hB:=hB.trans g13
 simp only [p3,p4]
 refine sv 6 (.int .i64 0) ?_
 refine sq_nil ?_
 refine k12 _ _ ?_
 try clear k12 K12
 refine wp_seq_k (fun K14 k14=>?_)
 refine rg [0,1] ?_
 refine sv 17 (.int .i64 0) ?_
 refine sv 18 (.bool false) ?_
 refine sq_nil ?_
 refine k14 _ _ ?_
 try clear k14 K14
 refine wp_cond_false rfl ?_
 refine wp_skip ?_
 refine k11 _ _ ?_
 try clear k11 K11
 refine wp_seq_k (fun K15 k15=>?_)
 refine wp_seq_k (fun K16 k16=>?_)
 refine rg [0,1,2,3,4,5,6,7,8] ?_
 refine sv 20 v ?_
 refine sw 21 (.int .i64 ((R:Int))) rfl (rv_lenn (e:=49) hs (tb_lenz rfl) _ _ rfl rfl (by kernel_rfl)) ?_
 refine sv 22 (.bool (decide ((0:Int)<(R:Int)))) ?_
 rcases Bool.eq_false_or_eq_true (decide ((0:Int)<(R:Int))) with hb17 | hb17
 ·have hq18:((0:Int)<(R:Int)):=of_decide_eq_true hb17
  refine sw 23 (.bool true) rfl (RunV.bool (x:=decide ((0:Int)<(R:Int))) (rvk (by kernel_rfl)) hb17) ?_
  refine sv 24 v ?_
  refine se ?_
  refine ec 25 (mx_columnsR (hs.gr (stab_rw (stab_rat K) 71 4) hB) (by omega)) ?_
  rintro e19 w19 ⟨rfl,g19⟩
  refine ⟨_,rfl,?_⟩
  replace hB:=hB.trans g19
  simp only [p3,p4]
  refine sv 26 (.int .i64 ((D:Int))) ?_
  have hb20:(((D:Int) !=(D:Int)))=false:=(by simp)
  refine sw 27 (.bool false) rfl (RunV.bool (x:=((D:Int) !=(D:Int))) (rvk (by kernel_rfl)) hb20) ?_
  refine sv 28 (.bool false) ?_
  refine sq_nil ?_
  refine k16 _ _ ?_
  try clear k16 K16
  refine wp_cond_false rfl ?_
  refine wp_skip ?_
  refine k15 _ _ ?_
  try clear k15 K15
  refine wp_seq_k (fun K21 k21=>?_)
  refine wp_seq_k (fun K22 k22=>?_)
  refine rg [0,1,2,3,4,5] ?_
  refine sv 29 (.int .i64 ((D:Int))) ?_
  have hb23:(decide ((D:Int)<(0:Int)))=false:=(by simp only [decide_eq_false_iff_not];omega)
  refine sw 30 (.bool false) rfl (RunV.bool (x:=decide ((D:Int)<(0:Int))) (rvk (by kernel_rfl)) hb23) ?_
  refine sv 31 (.bool false) ?_
  refine sv 32 (.int .i64 ((D:Int))) ?_
  have hb24:(decide ((96:Int)<(D:Int)))=false:=(by simp only [decide_eq_false_iff_not];omega)
  refine sw 33 (.bool false) rfl (RunV.bool (x:=decide ((96:Int)<(D:Int))) (rvk (by kernel_rfl)) hb24) ?_
  refine sv 34 (.bool false) ?_
  refine sq_nil ?_
  refine k22 _ _ ?_
  try clear k22 K22
  refine wp_cond_false rfl ?_
  refine wp_skip ?_
  refine k21 _ _ ?_
  try clear k21 K21
  refine wp_seq_k (fun K25 k25=>?_)
  refine rg [0,1,2,3,4,5,6,7,8,9,10] ?_
  refine sv 36 v ?_
  refine sv 37 (.int .i64 ((D:Int))) ?_
  refine se ?_
  have hlen26:=rs_len R m D
  have hple26:=rs_ple R m D
  refine ec 38 (mx_reduced (by omega) (by omega) (by omega) (by omega) (by omega) hz (hs.gr (stab_rw (stab_rat K) 71 4) hB)) ?_
  rintro e26 w26 ⟨⟨u26,v26,p26,q26,r26,s26,rfl,hs26,hp26,h26⟩,g26⟩
  refine ⟨_,rfl,?_⟩
  replace hB:=hB.trans g26
  have lehc26:=Below.size hB
  have hc26:=Gr.refl w26
  simp only [p3,p4]
  refine sv 35 (.tuple #[u26,v26,(.agg #[p26,q26,r26,s26])]) ?_
  refine sv 39 u26 ?_
  refine sv 40 v26 ?_
  refine sv 41 (.agg #[p26,q26,r26,s26]) ?_
  refine se ?_
  refine ea 71 #[(.bool false),(.slice none 0 0),(.bool false),(.slice none 0 0)] 9 hB fun b27 w27 g27 L27 o27 q27 hB=>?_
  have q27_hc26:=Nat.le_trans (Below.size hc26) o27
  replace hc26:=hc26.trans g27
  simp only [p3,p4]
  refine sv 7 u26 ?_
  refine sv 8 v26 ?_
  refine se ?_
  have lo28:=L27
  refine es 71 0 (.agg #[p26,q26,r26,s26]) [p26,q26,r26,s26] #[p26,q26,r26,s26] L27 hB q27 ⟨h26.one0,h26.one1,h26.one2,h26.one3,trivial⟩ fun w28 st28 kp28 L27 hB=>?_
  replace hc26:=st28.gr hc26 q27_hc26
  refine sq_nil ?_
  refine k25 _ _ ?_
  try clear k25 K25
  refine wp_seq_k (fun K29 k29=>?_)
  refine rg [0] ?_
  refine sv 10 (.slice none 0 0) ?_
  refine sq_nil ?_
  refine k29 _ _ ?_
  try clear k29 K29
  refine wp_seq_k (fun K30 k30=>?_)
  refine wp_seq_k (fun K31 k31=>?_)
  refine rg [0,1] ?_
  refine sv 42 (.int .i64 ((D:Int))) ?_
  refine sv 43 (.int .i64 0) ?_
  refine sq_nil ?_
  refine k31 _ _ ?_
  try clear k31 K31
  refine wp_block ?_
  refine wp_loop_inv (a:=⟨List.toArray ?l32,[]⟩) (fun n a w'=>∃ (f:Nat) (vo:Value) (u32:Nat→Value),D - f=n∧a=⟨[v,(.int .i64 ((D:Int))),undef,undef,(.slice none 0 0),(.int .i64 0),(.int .i64 0),u26,v26,(u32 9),vo,(u32 11),(u32 12),(u32 13),(u32 14),(u32 15),(u32 16),(u32 17),(.bool false),undef,(u32 20),(u32 21),(u32 22),(u32 23),(u32 24),(u32 25),(u32 26),(u32 27),(.bool false),(u32 29),(u32 30),(u32 31),(u32 32),(u32 33),(.bool false),(u32 35),(u32 36),(u32 37),(u32 38),(u32 39),(u32 40),(u32 41),(.int .i64 ((D:Int))),(.int .i64 ((f:Int))),(u32 44),(u32 45),(u32 46),(u32 47),(u32 48),(u32 49),(u32 50),(u32 51),(u32 52),(u32 53),(u32 54),(u32 55),(u32 56),(u32 57),(u32 58),(u32 59),(u32 60),(u32 61),(u32 62),(u32 63),(u32 64),(u32 65),(u32 66),(u32 67),(u32 68),(u32 69),(u32 70),(u32 71),(u32 72),(u32 73),(u32 74),(u32 75),(u32 76),(u32 77),(u32 78),undef].toArray,[]⟩∧f≤D∧Ow (ERw (ERat K) 71 4) 49 1 w' w26.heap.size vo (tb (fun z0=>tb (fun z1=>kv (rs R m D) (frc R m D f z0) z1) D) (nfr R m D f))∧Gr w26 w'∧Gr w w') (D - 0) ?_ ?_
  ·exact ⟨0,(.slice none 0 0),(fun i=>List.getD ?l32 i undef),rfl,rfl,(Nat.zero_le _),(Ow.nil _ _ _ _ _),hc26,hB⟩
  rintro n32 a32 w32 ⟨f,vo,u32,rfl,rfl,hkf,oo,hc26,hB⟩ K32 k32
  have lehC:=Below.size hB
  have lehC_hc26:=Below.size hc26
  have hC:=Gr.refl w32
  refine wp_seq_k (fun K33 k33=>?_)
  refine rg [0] ?_
  refine sv 44 (.bool (decide ((f:Int)<(D:Int)))) ?_
  refine sq_nil ?_
  refine k33 _ _ ?_
  try clear k33 K33
  refine wp_seq_k (fun K34 k34=>?_)
  refine wp_cond_split (t:=decide ((f:Int)<(D:Int))) rfl (fun hb35=>?_) (fun hb35=>?_)
  ·have hlf:f<D:=by have:=of_decide_eq_true hb35;omega
   have hnf:=nfr_le R m D f
   refine wp_skip ?_
   refine k34 _ _ ?_
   try clear k34 K34
   refine wp_seq_k (fun K36 k36=>?_)
   refine wp_block ?_
   refine wp_seq_k (fun K37 k37=>?_)
   refine rg [0,1] ?_
   refine sv 45 (.int .i64 ((f:Int))) ?_
   refine sv 11 (.int .i64 ((f:Int))) ?_
   refine sq_nil ?_
   refine k37 _ _ ?_
   try clear k37 K37
   refine wp_seq_k (fun K38 k38=>?_)
   refine wp_seq_k (fun K39 k39=>?_)
   refine rg [0,1,2] ?_
   refine sv 46 v26 ?_
   refine sv 47 (.int .i64 ((f:Int))) ?_
   refine se ?_
   refine ec 48 (sl_contains (z:=(f:Int)) (by omega) (hp26.gr stab_i64 hc26)) ?_
   rintro e40 w40 ⟨rfl,g40⟩
   refine ⟨_,rfl,?_⟩
   replace hB:=hB.trans g40
   replace hc26:=hc26.trans g40
   replace hC:=hC.trans g40
   simp only [p3,p4]
   refine sq_nil ?_
   refine k39 _ _ ?_
   try clear k39 K39
   refine wp_cond_split (t:=hasI (fun z1=>((pv (rs R m D) z1:Nat):Int)) (pl R m D) (f:Int)) rfl (fun hb41=>?_) (fun hb41=>?_)
   ·have hip:isP R m D f=true:=hb41
    refine wp_exit ?_
    simp only [Exit.then,Exit.inBlock,↓reduceIte]
    refine k36 _ _ ?_
    try clear k36 K36
    refine rg [0,1] ?_
    refine sw 78 (.int .i64 (((f:Int)+1))) rfl (RunV.int (x:=IntKind.i64.wrap (((f:Int)+1))) (y:=((f:Int)+1)) (rvk (by kernel_rfl)) (by first | rfl | (rw [IntKind.wrap_i64];omega))) ?_
    refine sv 43 (.int .i64 (((f:Int)+1))) ?_
    refine sq_nil ?_
    refine k32 (D - (f+1)) ⟨List.toArray ?l42,[]⟩ _ (by omega) ?_
    exact ⟨f+1,vo,(fun i=>List.getD ?l42 i undef),rfl,rfl,(by omega),((oo.gr (stab_rw (stab_rat K) 71 4) hC).cast (fr_yes hip)),hc26,hB⟩
   ·have hip:isP R m D f=false:=hb41
    refine wp_skip ?_
    refine k38 _ _ ?_
    try clear k38 K38
    refine wp_seq_k (fun K43 k43=>?_)
    refine rg [0,1,2] ?_
    refine sv 49 (.int .i64 ((D:Int))) ?_
    refine se ?_
    refine eff_mk (E:=(ERat K)) (0:Rat) 49 71 (.agg #[(.bool false),(.slice none 0 0),(.bool false),(.slice none 0 0)]) D 4 64 (some 50) rfl rfl rfl rfl (by kernel_rfl) (by kernel_rfl) (by decide) (by omega) (by decide) (fun w2=>erat_zero K hK w2) (fun b44 w44 g44 mk44 q44=>?_)
    have q44_hc26:=Nat.le_trans (Below.size hc26) q44
    have q44_hC:=Nat.le_trans (Below.size hC) q44
    replace q44:=Nat.le_trans (Below.size hB) q44
    replace hB:=hB.trans g44
    replace hc26:=hc26.trans g44
    replace hC:=hC.trans g44
    simp only [putl,p3,p4]
    refine sv 12 (.slice (some ⟨b44,0,none⟩) D D) ?_
    refine sq_nil ?_
    refine k43 _ _ ?_
    try clear k43 K43
    refine wp_seq_k (fun K45 k45=>?_)
    refine rg [0,1,2,3,4] ?_
    refine sv 51 (.slice (some ⟨b44,0,none⟩) D D) ?_
    refine sv 52 (.int .i64 ((f:Int))) ?_
    refine se ?_
    refine ec 53 (from_r (1) (by omega) (by omega) _) ?_
    rintro e46 w46 ⟨⟨p46,q46,r46,s46,rfl,h46⟩,g46⟩
    refine ⟨_,rfl,?_⟩
    replace hB:=hB.trans g46
    replace hc26:=hc26.trans g46
    replace hC:=hC.trans g46
    simp only [p3,p4]
    refine sw 54 (adr (.slice (some ⟨b44,0,none⟩) D D) (f*4)) rfl (rv_idxn (e:=71) (n:=D) (mk44.sl_n (n:=D) (cap:=D) (List.length_replicate) (Nat.le_refl _)) (List.length_replicate) (by decide) f (by omega) _ _ _ rfl rfl rfl (by kernel_rfl) (by kernel_rfl)) ?_
    refine se ?_
    replace mk44:=mk44.gr (stab_rat K) g46
    refine eff_stm (stab_rat K) mk44 f (by rw [List.length_replicate];omega) (((1:Int):Rat)) (.agg #[p46,q46,r46,s46]) [p46,q46,r46,s46] (D) (D) 71 _ _ rfl rfl rfl rfl rfl (by kernel_rfl) rfl ⟨h46.one0,h46.one1,h46.one2,h46.one3,trivial⟩ ⟨_,_,_,_,rfl,h46.mono (by omega)⟩ (by decide) (fun w47 st47 kt47 mk47=>?_)
    replace hB:=st47.gr hB q44
    replace hc26:=st47.gr hc26 q44_hc26
    replace hC:=st47.gr hC q44_hC
    refine sq_nil ?_
    refine k45 _ _ ?_
    try clear k45 K45
    refine wp_seq_k (fun K48 k48=>?_)
    refine wp_seq_k (fun K49 k49=>?_)
    refine rg [0,1,2] ?_
    refine sv 55 v26 ?_
    refine sw 56 (.int .i64 (((pl R m D:Nat):Int))) rfl (rv_lenn (e:=3) hp26 (tb_lenz rfl) _ _ rfl rfl (by kernel_rfl)) ?_
    refine sv 57 (.int .i64 0) ?_
    refine sq_nil ?_
    refine k49 _ _ ?_
    try clear k49 K49
    refine wp_block ?_
    refine wp_loop_inv (a:=⟨List.toArray ?l50,[]⟩) (fun n a w'=>∃ (j:Nat) (u50:Nat→Value),pl R m D - j=n∧a=⟨[v,(.int .i64 ((D:Int))),undef,undef,(.slice none 0 0),(.int .i64 0),(.int .i64 0),u26,v26,(u50 9),vo,(.int .i64 ((f:Int))),(.slice (some ⟨b44,0,none⟩) D D),(u50 13),(u50 14),(u50 15),(u50 16),(u50 17),(.bool false),undef,(u50 20),(u50 21),(u50 22),(u50 23),(u50 24),(u50 25),(u50 26),(u50 27),(.bool false),(u50 29),(u50 30),(u50 31),(u50 32),(u50 33),(.bool false),(u50 35),(u50 36),(u50 37),(u50 38),(u50 39),(u50 40),(u50 41),(.int .i64 ((D:Int))),(.int .i64 ((f:Int))),(.bool (decide ((f:Int)<(D:Int)))),(u50 45),(u50 46),(u50 47),(.bool (hasI (fun z1=>((pv (rs R m D) z1:Nat):Int)) (pl R m D) (f:Int))),(u50 49),(u50 50),(u50 51),(u50 52),(u50 53),(u50 54),v26,(.int .i64 (((pl R m D:Nat):Int))),(.int .i64 ((j:Int))),(u50 58),(u50 59),(u50 60),(u50 61),(u50 62),(u50 63),(u50 64),(u50 65),(u50 66),(u50 67),(u50 68),(u50 69),(u50 70),(u50 71),(u50 72),(u50 73),(u50 74),(u50 75),(u50 76),(u50 77),(u50 78),undef].toArray,[]⟩∧j≤pl R m D∧Mk (ERat K) 71 4 w' b44 (tb (fun z1=>kvp R m D f j z1) D)∧Gr w26 w'∧Gr w32 w'∧Gr w w') (pl R m D - 0) ?_ ?_
    ·exact ⟨0,(fun i=>List.getD ?l50 i undef),rfl,rfl,(Nat.zero_le _),(mk47.cast kvp_zero),hc26,hC,hB⟩
    rintro n50 a50 w50 ⟨j,u50,rfl,rfl,hkj,mx,hc26,hC,hB⟩ K50 k50
    refine wp_seq_k (fun K51 k51=>?_)
    refine rg [0] ?_
    refine sv 58 (.bool (decide ((j:Int)<((pl R m D:Nat):Int)))) ?_
    refine sq_nil ?_
    refine k51 _ _ ?_
    try clear k51 K51
    refine wp_seq_k (fun K52 k52=>?_)
    refine wp_cond_split (t:=decide ((j:Int)<((pl R m D:Nat):Int))) rfl (fun hb53=>?_) (fun hb53=>?_)
    ·have hlj:j<pl R m D:=by have:=of_decide_eq_true hb53;omega
     have hpj:=rs_pv hlj
     refine wp_skip ?_
     refine k52 _ _ ?_
     try clear k52 K52
     refine wp_seq_k (fun K54 k54=>?_)
     refine wp_block ?_
     refine wp_seq_k (fun K55 k55=>?_)
     refine rg [0,1,2,3,4] ?_
     refine sv 59 (.int .i64 ((j:Int))) ?_
     refine sw 60 (adr v26 (j*1)) rfl (rv_idxn (e:=3) hp26 tb_len (by decide) j (by omega) _ _ _ rfl rfl rfl (by kernel_rfl) (by kernel_rfl)) ?_
     obtain ⟨_,_,rfl,at56⟩:=Sl.get hp26 (by decide) (tb_get (f:=(fun z1=>((pv (rs R m D) z1:Nat):Int))) (n:=(pl R m D)) (i:=j) (by omega))
     refine sw 61 (.int .i64 (((pv (rs R m D) j:Nat):Int))) rfl (rv_ld1 (.int .i64 (((pv (rs R m D) j:Nat):Int))) (at56.gr hc26) _ _ rfl rfl (by kernel_rfl)) ?_
     refine sv 13 (.int .i64 ((j:Int))) ?_
     refine sv 14 (.int .i64 (((pv (rs R m D) j:Nat):Int))) ?_
     refine sq_nil ?_
     refine k55 _ _ ?_
     try clear k55 K55
     refine rg [0,1,2,3,4,5,6,7,8,9,10,11] ?_
     refine sv 62 (.slice (some ⟨b44,0,none⟩) D D) ?_
     refine sv 63 (.int .i64 (((pv (rs R m D) j:Nat):Int))) ?_
     refine sv 64 u26 ?_
     refine sv 65 (.int .i64 ((j:Int))) ?_
     refine sw 66 (adr u26 (j*1)) rfl (rv_idxn (e:=49) hs26 tb_len (by decide) j (by omega) _ _ _ rfl rfl rfl (by kernel_rfl) (by kernel_rfl)) ?_
     obtain ⟨_,_,⟨u57,rfl,hr57⟩,at57⟩:=Sl.get hs26 (by decide) (tb_get (f:=(fun z0=>tb (fun z1=>((rs R m D).m z0 z1)) D)) (n:=R) (i:=j) (by omega))
     refine sw 67 u57 rfl (rv_ld1 u57 (at57.gr hc26) _ _ rfl rfl (by kernel_rfl)) ?_
     refine sv 68 (.int .i64 ((f:Int))) ?_
     refine sw 69 (adr u57 (f*4)) rfl (rv_idxn (e:=71) hr57 tb_len (by decide) f (by omega) _ _ _ rfl rfl rfl (by kernel_rfl) (by kernel_rfl)) ?_
     obtain ⟨_,_,⟨cA58,cB58,cC58,cD58,rfl,h58⟩,at58⟩:=Sl.get hr57 (by decide) (tb_get (f:=(fun z1=>((rs R m D).m j z1))) (n:=D) (i:=f) (by omega))
     refine sw 70 (.agg #[cA58,cB58,cC58,cD58]) rfl (rv_ldn [cA58,cB58,cC58,cD58] (at58.gr hc26) _ _ rfl rfl (by kernel_rfl)) ?_
     refine se ?_
     refine ec 71 (neg_r (h58.kp hc26.kp)) ?_
     rintro e59 w59 ⟨⟨p59,q59,r59,s59,rfl,h59⟩,g59⟩
     refine ⟨_,rfl,?_⟩
     replace hB:=hB.trans g59
     replace hc26:=hc26.trans g59
     replace hC:=hC.trans g59
     simp only [p3,p4]
     refine sw 72 (adr (.slice (some ⟨b44,0,none⟩) D D) ((pv (rs R m D) j)*4)) rfl (rv_idxn (e:=71) (n:=D) (mx.sl_n (n:=D) (cap:=D) (tb_len) (Nat.le_refl _)) (tb_len) (by decide) (pv (rs R m D) j) (by omega) _ _ _ rfl rfl rfl (by kernel_rfl) (by kernel_rfl)) ?_
     refine se ?_
     replace mx:=mx.gr (stab_rat K) g59
     refine eff_stm (stab_rat K) mx (pv (rs R m D) j) (by rw [tb_len];omega) ((-((rs R m D).m j f))) (.agg #[p59,q59,r59,s59]) [p59,q59,r59,s59] (D) (D) 71 _ _ rfl rfl rfl rfl rfl (by kernel_rfl) rfl ⟨h59.one0,h59.one1,h59.one2,h59.one3,trivial⟩ ⟨_,_,_,_,rfl,h59.mono (by omega)⟩ (by decide) (fun w60 st60 kt60 mk60=>?_)
     replace hB:=st60.gr hB q44
     replace hc26:=st60.gr hc26 q44_hc26
     replace hC:=st60.gr hC q44_hC
     refine sq_nil ?_
     refine k54 _ _ ?_
     try clear k54 K54
     refine rg [0,1] ?_
     refine sw 73 (.int .i64 (((j:Int)+1))) rfl (RunV.int (x:=IntKind.i64.wrap (((j:Int)+1))) (y:=((j:Int)+1)) (rvk (by kernel_rfl)) (by first | rfl | (rw [IntKind.wrap_i64];omega))) ?_
     refine sv 57 (.int .i64 (((j:Int)+1))) ?_
     refine sq_nil ?_
     refine k50 (pl R m D - (j+1)) ⟨List.toArray ?l61,[]⟩ _ (by omega) ?_
     exact ⟨j+1,(fun i=>List.getD ?l61 i undef),rfl,rfl,(by omega),(mk60.cast (kvp_set hlj (isP_no hip hlj) rfl)),hc26,hC,hB⟩
    ·have hej:pl R m D=j:=by have:=of_decide_eq_false hb53;omega
     subst hej
     refine wp_exit ?_
     simp only [Exit.then,Exit.inBlock,↓reduceIte]
     refine k48 _ _ ?_
     try clear k48 K48
     refine rg [0,1,2,3,4] ?_
     refine sv 74 vo ?_
     refine sv 75 (.slice (some ⟨b44,0,none⟩) D D) ?_
     refine se ?_
     refine eff_bs 49 1 #[(.slice (some ⟨b44,0,none⟩) D D)] (some 76) rfl (fun _=>by kernel_rfl) (fun b62 w62 g62 L62 q62=>?_)
     have q62_hc26:=Nat.le_trans (Below.size hc26) q62
     have q62_hC:=Nat.le_trans (Below.size hC) q62
     replace hB:=hB.trans g62
     replace hc26:=hc26.trans g62
     replace hC:=hC.trans g62
     simp only [putl,p3,p4]
     refine se ?_
     replace mx:=mx.gr (stab_rat K) g62
     refine eff_apg (stab_rw (stab_rat K) 71 4) _ _ 29 49 w26.heap.size (.slice none 0 0) vo (tb (fun z0=>tb (fun z1=>kv (rs R m D) (frc R m D f z0) z1) D) (nfr R m D f)) b62 [(.slice (some ⟨b44,0,none⟩) D D)] (tb (fun z1=>kvp R m D f (pl R m D) z1) D) 1 1 (some 77) 24 rfl rfl rfl rfl (oo.gr (stab_rw (stab_rat K) 71 4) hC) L62 ⟨rfl,trivial⟩ rfl ⟨_,rfl,(mx.sl_n (tb_len) (Nat.le_refl _))⟩ (Below.size hc26) (by rw [tb_len];omega) (by decide) (by kernel_rfl) (by kernel_rfl) (by decide) (by decide) (fun v63 w63 ow63 wt63 hg63=>?_)
     replace hB:=hg63 _ hB lehc26
     replace hc26:=hg63 _ hc26 (Nat.le_refl _)
     replace ow63:=ow63.cast (fr_no hip rfl)
     simp only [putl,p3,p4]
     refine sv 10 v63 ?_
     refine sq_nil ?_
     refine k36 _ _ ?_
     try clear k36 K36
     refine rg [0,1] ?_
     refine sw 78 (.int .i64 (((f:Int)+1))) rfl (RunV.int (x:=IntKind.i64.wrap (((f:Int)+1))) (y:=((f:Int)+1)) (rvk (by kernel_rfl)) (by first | rfl | (rw [IntKind.wrap_i64];omega))) ?_
     refine sv 43 (.int .i64 (((f:Int)+1))) ?_
     refine sq_nil ?_
     refine k32 (D - (f+1)) ⟨List.toArray ?l64,[]⟩ _ (by omega) ?_
     exact ⟨f+1,v63,(fun i=>List.getD ?l64 i undef),rfl,rfl,(by omega),ow63,hc26,hB⟩
  ·have hef:D=f:=by have:=of_decide_eq_false hb35;omega
   refine wp_exit ?_
   simp only [Exit.then,Exit.inBlock,↓reduceIte]
   refine k30 _ _ ?_
   try clear k30 K30
   refine wp_seq_k (fun K65 k65=>?_)
   refine rg [0,1,2] ?_
   refine sv 79 vo ?_
   refine sv 4 vo ?_
   refine sv 5 (.int .i64 0) ?_
   refine sq_nil ?_
   refine k65 _ _ ?_
   try clear k65 K65
   refine wp_ret ?_
   refine bodyPost_ret (v:=(.tuple #[vo,(.int .i64 0)])) (ret_tmp2 rfl rfl rfl) rfl ⟨?_,hB⟩
   exact (by subst hef;exact ⟨_,rfl,((oo.gr (stab_rw (stab_rat K) 71 4) hC).sl)⟩)
 ·have hq66:¬ ((0:Int)<(R:Int)):=of_decide_eq_false hb17
  refine swk 23 (.bool false) [(4,24),(5,25),(6,26),(7,27)] rfl (RunV.bool (x:=decide ((0:Int)<(R:Int))) (rvk (by kernel_rfl)) hb17) ?_
  refine sv 28 (.bool false) ?_
  refine sq_nil ?_
  refine k16 _ _ ?_
  try clear k16 K16
  refine wp_cond_false rfl ?_
  refine wp_skip ?_
  refine k15 _ _ ?_
  try clear k15 K15
  refine wp_seq_k (fun K67 k67=>?_)
  refine wp_seq_k (fun K68 k68=>?_)
  refine rg [0,1,2,3,4,5] ?_
  refine sv 29 (.int .i64 ((D:Int))) ?_
  have hb69:(decide ((D:Int)<(0:Int)))=false:=(by simp only [decide_eq_false_iff_not];omega)
  refine sw 30 (.bool false) rfl (RunV.bool (x:=decide ((D:Int)<(0:Int))) (rvk (by kernel_rfl)) hb69) ?_
  refine sv 31 (.bool false) ?_
  refine sv 32 (.int .i64 ((D:Int))) ?_
  have hb70:(decide ((96:Int)<(D:Int)))=false:=(by simp only [decide_eq_false_iff_not];omega)
  refine sw 33 (.bool false) rfl (RunV.bool (x:=decide ((96:Int)<(D:Int))) (rvk (by kernel_rfl)) hb70) ?_
  refine sv 34 (.bool false) ?_
  refine sq_nil ?_
  refine k68 _ _ ?_
  try clear k68 K68
  refine wp_cond_false rfl ?_
  refine wp_skip ?_
  refine k67 _ _ ?_
  try clear k67 K67
  refine wp_seq_k (fun K71 k71=>?_)
  refine rg [0,1,2,3,4,5,6,7,8,9,10] ?_
  refine sv 36 v ?_
  refine sv 37 (.int .i64 ((D:Int))) ?_
  refine se ?_
  have hlen72:=rs_len R m D
  have hple72:=rs_ple R m D
  refine ec 38 (mx_reduced (by omega) (by omega) (by omega) (by omega) (by omega) hz (hs.gr (stab_rw (stab_rat K) 71 4) hB)) ?_
  rintro e72 w72 ⟨⟨u72,v72,p72,q72,r72,s72,rfl,hs72,hp72,h72⟩,g72⟩
  refine ⟨_,rfl,?_⟩
  replace hB:=hB.trans g72
  have lehc72:=Below.size hB
  have hc72:=Gr.refl w72
  simp only [p3,p4]
  refine sv 35 (.tuple #[u72,v72,(.agg #[p72,q72,r72,s72])]) ?_
  refine sv 39 u72 ?_
  refine sv 40 v72 ?_
  refine sv 41 (.agg #[p72,q72,r72,s72]) ?_
  refine se ?_
  refine ea 71 #[(.bool false),(.slice none 0 0),(.bool false),(.slice none 0 0)] 9 hB fun b73 w73 g73 L73 o73 q73 hB=>?_
  have q73_hc72:=Nat.le_trans (Below.size hc72) o73
  replace hc72:=hc72.trans g73
  simp only [p3,p4]
  refine sv 7 u72 ?_
  refine sv 8 v72 ?_
  refine se ?_
  have lo74:=L73
  refine es 71 0 (.agg #[p72,q72,r72,s72]) [p72,q72,r72,s72] #[p72,q72,r72,s72] L73 hB q73 ⟨h72.one0,h72.one1,h72.one2,h72.one3,trivial⟩ fun w74 st74 kp74 L73 hB=>?_
  replace hc72:=st74.gr hc72 q73_hc72
  refine sq_nil ?_
  refine k71 _ _ ?_
  try clear k71 K71
  refine wp_seq_k (fun K75 k75=>?_)
  refine rg [0] ?_
  refine sv 10 (.slice none 0 0) ?_
  refine sq_nil ?_
  refine k75 _ _ ?_
  try clear k75 K75
  refine wp_seq_k (fun K76 k76=>?_)
  refine wp_seq_k (fun K77 k77=>?_)
  refine rg [0,1] ?_
  refine sv 42 (.int .i64 ((D:Int))) ?_
  refine sv 43 (.int .i64 0) ?_
  refine sq_nil ?_
  refine k77 _ _ ?_
  try clear k77 K77
  refine wp_block ?_
  refine wp_loop_inv (a:=⟨List.toArray ?l78,[]⟩) (fun n a w'=>∃ (f:Nat) (vo:Value) (u78:Nat→Value),D - f=n∧a=⟨[v,(.int .i64 ((D:Int))),undef,undef,(.slice none 0 0),(.int .i64 0),(.int .i64 0),u72,v72,(u78 9),vo,(u78 11),(u78 12),(u78 13),(u78 14),(u78 15),(u78 16),(u78 17),(.bool false),undef,(u78 20),(u78 21),(u78 22),(u78 23),undef,undef,undef,undef,(.bool false),(u78 29),(u78 30),(u78 31),(u78 32),(u78 33),(.bool false),(u78 35),(u78 36),(u78 37),(u78 38),(u78 39),(u78 40),(u78 41),(.int .i64 ((D:Int))),(.int .i64 ((f:Int))),(u78 44),(u78 45),(u78 46),(u78 47),(u78 48),(u78 49),(u78 50),(u78 51),(u78 52),(u78 53),(u78 54),(u78 55),(u78 56),(u78 57),(u78 58),(u78 59),(u78 60),(u78 61),(u78 62),(u78 63),(u78 64),(u78 65),(u78 66),(u78 67),(u78 68),(u78 69),(u78 70),(u78 71),(u78 72),(u78 73),(u78 74),(u78 75),(u78 76),(u78 77),(u78 78),undef].toArray,[]⟩∧f≤D∧Ow (ERw (ERat K) 71 4) 49 1 w' w72.heap.size vo (tb (fun z0=>tb (fun z1=>kv (rs R m D) (frc R m D f z0) z1) D) (nfr R m D f))∧Gr w72 w'∧Gr w w') (D - 0) ?_ ?_
  ·exact ⟨0,(.slice none 0 0),(fun i=>List.getD ?l78 i undef),rfl,rfl,(Nat.zero_le _),(Ow.nil _ _ _ _ _),hc72,hB⟩
  rintro n78 a78 w78 ⟨f,vo,u78,rfl,rfl,hkf,oo,hc72,hB⟩ K78 k78
  have lehC:=Below.size hB
  have lehC_hc72:=Below.size hc72
  have hC:=Gr.refl w78
  refine wp_seq_k (fun K79 k79=>?_)
  refine rg [0] ?_
  refine sv 44 (.bool (decide ((f:Int)<(D:Int)))) ?_
  refine sq_nil ?_
  refine k79 _ _ ?_
  try clear k79 K79
  refine wp_seq_k (fun K80 k80=>?_)
  refine wp_cond_split (t:=decide ((f:Int)<(D:Int))) rfl (fun hb81=>?_) (fun hb81=>?_)
  ·have hlf:f<D:=by have:=of_decide_eq_true hb81;omega
   have hnf:=nfr_le R m D f
   refine wp_skip ?_
   refine k80 _ _ ?_
   try clear k80 K80
   refine wp_seq_k (fun K82 k82=>?_)
   refine wp_block ?_
   refine wp_seq_k (fun K83 k83=>?_)
   refine rg [0,1] ?_
   refine sv 45 (.int .i64 ((f:Int))) ?_
   refine sv 11 (.int .i64 ((f:Int))) ?_
   refine sq_nil ?_
   refine k83 _ _ ?_
   try clear k83 K83
   refine wp_seq_k (fun K84 k84=>?_)
   refine wp_seq_k (fun K85 k85=>?_)
   refine rg [0,1,2] ?_
   refine sv 46 v72 ?_
   refine sv 47 (.int .i64 ((f:Int))) ?_
   refine se ?_
   refine ec 48 (sl_contains (z:=(f:Int)) (by omega) (hp72.gr stab_i64 hc72)) ?_
   rintro e86 w86 ⟨rfl,g86⟩
   refine ⟨_,rfl,?_⟩
   replace hB:=hB.trans g86
   replace hc72:=hc72.trans g86
   replace hC:=hC.trans g86
   simp only [p3,p4]
   refine sq_nil ?_
   refine k85 _ _ ?_
   try clear k85 K85
   refine wp_cond_split (t:=hasI (fun z1=>((pv (rs R m D) z1:Nat):Int)) (pl R m D) (f:Int)) rfl (fun hb87=>?_) (fun hb87=>?_)
   ·have hip:isP R m D f=true:=hb87
    refine wp_exit ?_
    simp only [Exit.then,Exit.inBlock,↓reduceIte]
    refine k82 _ _ ?_
    try clear k82 K82
    refine rg [0,1] ?_
    refine sw 78 (.int .i64 (((f:Int)+1))) rfl (RunV.int (x:=IntKind.i64.wrap (((f:Int)+1))) (y:=((f:Int)+1)) (rvk (by kernel_rfl)) (by first | rfl | (rw [IntKind.wrap_i64];omega))) ?_
    refine sv 43 (.int .i64 (((f:Int)+1))) ?_
    refine sq_nil ?_
    refine k78 (D - (f+1)) ⟨List.toArray ?l88,[]⟩ _ (by omega) ?_
    exact ⟨f+1,vo,(fun i=>List.getD ?l88 i undef),rfl,rfl,(by omega),((oo.gr (stab_rw (stab_rat K) 71 4) hC).cast (fr_yes hip)),hc72,hB⟩
   ·have hip:isP R m D f=false:=hb87
    refine wp_skip ?_
    refine k84 _ _ ?_
    try clear k84 K84
    refine wp_seq_k (fun K89 k89=>?_)
    refine rg [0,1,2] ?_
    refine sv 49 (.int .i64 ((D:Int))) ?_
    refine se ?_
    refine eff_mk (E:=(ERat K)) (0:Rat) 49 71 (.agg #[(.bool false),(.slice none 0 0),(.bool false),(.slice none 0 0)]) D 4 64 (some 50) rfl rfl rfl rfl (by kernel_rfl) (by kernel_rfl) (by decide) (by omega) (by decide) (fun w2=>erat_zero K hK w2) (fun b90 w90 g90 mk90 q90=>?_)
    have q90_hc72:=Nat.le_trans (Below.size hc72) q90
    have q90_hC:=Nat.le_trans (Below.size hC) q90
    replace q90:=Nat.le_trans (Below.size hB) q90
    replace hB:=hB.trans g90
    replace hc72:=hc72.trans g90
    replace hC:=hC.trans g90
    simp only [putl,p3,p4]
    refine sv 12 (.slice (some ⟨b90,0,none⟩) D D) ?_
    refine sq_nil ?_
    refine k89 _ _ ?_
    try clear k89 K89
    refine wp_seq_k (fun K91 k91=>?_)
    refine rg [0,1,2,3,4] ?_
    refine sv 51 (.slice (some ⟨b90,0,none⟩) D D) ?_
    refine sv 52 (.int .i64 ((f:Int))) ?_
    refine se ?_
    refine ec 53 (from_r (1) (by omega) (by omega) _) ?_
    rintro e92 w92 ⟨⟨p92,q92,r92,s92,rfl,h92⟩,g92⟩
    refine ⟨_,rfl,?_⟩
    replace hB:=hB.trans g92
    replace hc72:=hc72.trans g92
    replace hC:=hC.trans g92
    simp only [p3,p4]
    refine sw 54 (adr (.slice (some ⟨b90,0,none⟩) D D) (f*4)) rfl (rv_idxn (e:=71) (n:=D) (mk90.sl_n (n:=D) (cap:=D) (List.length_replicate) (Nat.le_refl _)) (List.length_replicate) (by decide) f (by omega) _ _ _ rfl rfl rfl (by kernel_rfl) (by kernel_rfl)) ?_
    refine se ?_
    replace mk90:=mk90.gr (stab_rat K) g92
    refine eff_stm (stab_rat K) mk90 f (by rw [List.length_replicate];omega) (((1:Int):Rat)) (.agg #[p92,q92,r92,s92]) [p92,q92,r92,s92] (D) (D) 71 _ _ rfl rfl rfl rfl rfl (by kernel_rfl) rfl ⟨h92.one0,h92.one1,h92.one2,h92.one3,trivial⟩ ⟨_,_,_,_,rfl,h92.mono (by omega)⟩ (by decide) (fun w93 st93 kt93 mk93=>?_)
    replace hB:=st93.gr hB q90
    replace hc72:=st93.gr hc72 q90_hc72
    replace hC:=st93.gr hC q90_hC
    refine sq_nil ?_
    refine k91 _ _ ?_
    try clear k91 K91
    refine wp_seq_k (fun K94 k94=>?_)
    refine wp_seq_k (fun K95 k95=>?_)
    refine rg [0,1,2] ?_
    refine sv 55 v72 ?_
    refine sw 56 (.int .i64 (((pl R m D:Nat):Int))) rfl (rv_lenn (e:=3) hp72 (tb_lenz rfl) _ _ rfl rfl (by kernel_rfl)) ?_
    refine sv 57 (.int .i64 0) ?_
    refine sq_nil ?_
    refine k95 _ _ ?_
    try clear k95 K95
    refine wp_block ?_
    refine wp_loop_inv (a:=⟨List.toArray ?l96,[]⟩) (fun n a w'=>∃ (j:Nat) (u96:Nat→Value),pl R m D - j=n∧a=⟨[v,(.int .i64 ((D:Int))),undef,undef,(.slice none 0 0),(.int .i64 0),(.int .i64 0),u72,v72,(u96 9),vo,(.int .i64 ((f:Int))),(.slice (some ⟨b90,0,none⟩) D D),(u96 13),(u96 14),(u96 15),(u96 16),(u96 17),(.bool false),undef,(u96 20),(u96 21),(u96 22),(u96 23),undef,undef,undef,undef,(.bool false),(u96 29),(u96 30),(u96 31),(u96 32),(u96 33),(.bool false),(u96 35),(u96 36),(u96 37),(u96 38),(u96 39),(u96 40),(u96 41),(.int .i64 ((D:Int))),(.int .i64 ((f:Int))),(.bool (decide ((f:Int)<(D:Int)))),(u96 45),(u96 46),(u96 47),(.bool (hasI (fun z1=>((pv (rs R m D) z1:Nat):Int)) (pl R m D) (f:Int))),(u96 49),(u96 50),(u96 51),(u96 52),(u96 53),(u96 54),v72,(.int .i64 (((pl R m D:Nat):Int))),(.int .i64 ((j:Int))),(u96 58),(u96 59),(u96 60),(u96 61),(u96 62),(u96 63),(u96 64),(u96 65),(u96 66),(u96 67),(u96 68),(u96 69),(u96 70),(u96 71),(u96 72),(u96 73),(u96 74),(u96 75),(u96 76),(u96 77),(u96 78),undef].toArray,[]⟩∧j≤pl R m D∧Mk (ERat K) 71 4 w' b90 (tb (fun z1=>kvp R m D f j z1) D)∧Gr w72 w'∧Gr w78 w'∧Gr w w') (pl R m D - 0) ?_ ?_
    ·exact ⟨0,(fun i=>List.getD ?l96 i undef),rfl,rfl,(Nat.zero_le _),(mk93.cast kvp_zero),hc72,hC,hB⟩
    rintro n96 a96 w96 ⟨j,u96,rfl,rfl,hkj,mx,hc72,hC,hB⟩ K96 k96
    refine wp_seq_k (fun K97 k97=>?_)
    refine rg [0] ?_
    refine sv 58 (.bool (decide ((j:Int)<((pl R m D:Nat):Int)))) ?_
    refine sq_nil ?_
    refine k97 _ _ ?_
    try clear k97 K97
    refine wp_seq_k (fun K98 k98=>?_)
    refine wp_cond_split (t:=decide ((j:Int)<((pl R m D:Nat):Int))) rfl (fun hb99=>?_) (fun hb99=>?_)
    ·have hlj:j<pl R m D:=by have:=of_decide_eq_true hb99;omega
     have hpj:=rs_pv hlj
     refine wp_skip ?_
     refine k98 _ _ ?_
     try clear k98 K98
     refine wp_seq_k (fun K100 k100=>?_)
     refine wp_block ?_
     refine wp_seq_k (fun K101 k101=>?_)
     refine rg [0,1,2,3,4] ?_
     refine sv 59 (.int .i64 ((j:Int))) ?_
     refine sw 60 (adr v72 (j*1)) rfl (rv_idxn (e:=3) hp72 tb_len (by decide) j (by omega) _ _ _ rfl rfl rfl (by kernel_rfl) (by kernel_rfl)) ?_
     obtain ⟨_,_,rfl,at102⟩:=Sl.get hp72 (by decide) (tb_get (f:=(fun z1=>((pv (rs R m D) z1:Nat):Int))) (n:=(pl R m D)) (i:=j) (by omega))
     refine sw 61 (.int .i64 (((pv (rs R m D) j:Nat):Int))) rfl (rv_ld1 (.int .i64 (((pv (rs R m D) j:Nat):Int))) (at102.gr hc72) _ _ rfl rfl (by kernel_rfl)) ?_
     refine sv 13 (.int .i64 ((j:Int))) ?_
     refine sv 14 (.int .i64 (((pv (rs R m D) j:Nat):Int))) ?_
     refine sq_nil ?_
     refine k101 _ _ ?_
     try clear k101 K101
     refine rg [0,1,2,3,4,5,6,7,8,9,10,11] ?_
     refine sv 62 (.slice (some ⟨b90,0,none⟩) D D) ?_
     refine sv 63 (.int .i64 (((pv (rs R m D) j:Nat):Int))) ?_
     refine sv 64 u72 ?_
     refine sv 65 (.int .i64 ((j:Int))) ?_
     refine sw 66 (adr u72 (j*1)) rfl (rv_idxn (e:=49) hs72 tb_len (by decide) j (by omega) _ _ _ rfl rfl rfl (by kernel_rfl) (by kernel_rfl)) ?_
     obtain ⟨_,_,⟨u103,rfl,hr103⟩,at103⟩:=Sl.get hs72 (by decide) (tb_get (f:=(fun z0=>tb (fun z1=>((rs R m D).m z0 z1)) D)) (n:=R) (i:=j) (by omega))
     refine sw 67 u103 rfl (rv_ld1 u103 (at103.gr hc72) _ _ rfl rfl (by kernel_rfl)) ?_
     refine sv 68 (.int .i64 ((f:Int))) ?_
     refine sw 69 (adr u103 (f*4)) rfl (rv_idxn (e:=71) hr103 tb_len (by decide) f (by omega) _ _ _ rfl rfl rfl (by kernel_rfl) (by kernel_rfl)) ?_
     obtain ⟨_,_,⟨cA104,cB104,cC104,cD104,rfl,h104⟩,at104⟩:=Sl.get hr103 (by decide) (tb_get (f:=(fun z1=>((rs R m D).m j z1))) (n:=D) (i:=f) (by omega))
     refine sw 70 (.agg #[cA104,cB104,cC104,cD104]) rfl (rv_ldn [cA104,cB104,cC104,cD104] (at104.gr hc72) _ _ rfl rfl (by kernel_rfl)) ?_
     refine se ?_
     refine ec 71 (neg_r (h104.kp hc72.kp)) ?_
     rintro e105 w105 ⟨⟨p105,q105,r105,s105,rfl,h105⟩,g105⟩
     refine ⟨_,rfl,?_⟩
     replace hB:=hB.trans g105
     replace hc72:=hc72.trans g105
     replace hC:=hC.trans g105
     simp only [p3,p4]
     refine sw 72 (adr (.slice (some ⟨b90,0,none⟩) D D) ((pv (rs R m D) j)*4)) rfl (rv_idxn (e:=71) (n:=D) (mx.sl_n (n:=D) (cap:=D) (tb_len) (Nat.le_refl _)) (tb_len) (by decide) (pv (rs R m D) j) (by omega) _ _ _ rfl rfl rfl (by kernel_rfl) (by kernel_rfl)) ?_
     refine se ?_
     replace mx:=mx.gr (stab_rat K) g105
     refine eff_stm (stab_rat K) mx (pv (rs R m D) j) (by rw [tb_len];omega) ((-((rs R m D).m j f))) (.agg #[p105,q105,r105,s105]) [p105,q105,r105,s105] (D) (D) 71 _ _ rfl rfl rfl rfl rfl (by kernel_rfl) rfl ⟨h105.one0,h105.one1,h105.one2,h105.one3,trivial⟩ ⟨_,_,_,_,rfl,h105.mono (by omega)⟩ (by decide) (fun w106 st106 kt106 mk106=>?_)
     replace hB:=st106.gr hB q90
     replace hc72:=st106.gr hc72 q90_hc72
     replace hC:=st106.gr hC q90_hC
     refine sq_nil ?_
     refine k100 _ _ ?_
     try clear k100 K100
     refine rg [0,1] ?_
     refine sw 73 (.int .i64 (((j:Int)+1))) rfl (RunV.int (x:=IntKind.i64.wrap (((j:Int)+1))) (y:=((j:Int)+1)) (rvk (by kernel_rfl)) (by first | rfl | (rw [IntKind.wrap_i64];omega))) ?_
     refine sv 57 (.int .i64 (((j:Int)+1))) ?_
     refine sq_nil ?_
     refine k96 (pl R m D - (j+1)) ⟨List.toArray ?l107,[]⟩ _ (by omega) ?_
     exact ⟨j+1,(fun i=>List.getD ?l107 i undef),rfl,rfl,(by omega),(mk106.cast (kvp_set hlj (isP_no hip hlj) rfl)),hc72,hC,hB⟩
    ·have hej:pl R m D=j:=by have:=of_decide_eq_false hb99;omega
     subst hej
     refine wp_exit ?_
     simp only [Exit.then,Exit.inBlock,↓reduceIte]
     refine k94 _ _ ?_
     try clear k94 K94
     refine rg [0,1,2,3,4] ?_
     refine sv 74 vo ?_
     refine sv 75 (.slice (some ⟨b90,0,none⟩) D D) ?_
     refine se ?_
     refine eff_bs 49 1 #[(.slice (some ⟨b90,0,none⟩) D D)] (some 76) rfl (fun _=>by kernel_rfl) (fun b108 w108 g108 L108 q108=>?_)
     have q108_hc72:=Nat.le_trans (Below.size hc72) q108
     have q108_hC:=Nat.le_trans (Below.size hC) q108
     replace hB:=hB.trans g108
     replace hc72:=hc72.trans g108
     replace hC:=hC.trans g108
     simp only [putl,p3,p4]
     refine se ?_
     replace mx:=mx.gr (stab_rat K) g108
     refine eff_apg (stab_rw (stab_rat K) 71 4) _ _ 29 49 w72.heap.size (.slice none 0 0) vo (tb (fun z0=>tb (fun z1=>kv (rs R m D) (frc R m D f z0) z1) D) (nfr R m D f)) b108 [(.slice (some ⟨b90,0,none⟩) D D)] (tb (fun z1=>kvp R m D f (pl R m D) z1) D) 1 1 (some 77) 24 rfl rfl rfl rfl (oo.gr (stab_rw (stab_rat K) 71 4) hC) L108 ⟨rfl,trivial⟩ rfl ⟨_,rfl,(mx.sl_n (tb_len) (Nat.le_refl _))⟩ (Below.size hc72) (by rw [tb_len];omega) (by decide) (by kernel_rfl) (by kernel_rfl) (by decide) (by decide) (fun v109 w109 ow109 wt109 hg109=>?_)
     replace hB:=hg109 _ hB lehc72
     replace hc72:=hg109 _ hc72 (Nat.le_refl _)
     replace ow109:=ow109.cast (fr_no hip rfl)
     simp only [putl,p3,p4]
     refine sv 10 v109 ?_
     refine sq_nil ?_
     refine k82 _ _ ?_
     try clear k82 K82
     refine rg [0,1] ?_
     refine sw 78 (.int .i64 (((f:Int)+1))) rfl (RunV.int (x:=IntKind.i64.wrap (((f:Int)+1))) (y:=((f:Int)+1)) (rvk (by kernel_rfl)) (by first | rfl | (rw [IntKind.wrap_i64];omega))) ?_
     refine sv 43 (.int .i64 (((f:Int)+1))) ?_
     refine sq_nil ?_
     refine k78 (D - (f+1)) ⟨List.toArray ?l110,[]⟩ _ (by omega) ?_
     exact ⟨f+1,v109,(fun i=>List.getD ?l110 i undef),rfl,rfl,(by omega),ow109,hc72,hB⟩
  ·have hef:D=f:=by have:=of_decide_eq_false hb81;omega
   refine wp_exit ?_
   simp only [Exit.then,Exit.inBlock,↓reduceIte]
   refine k76 _ _ ?_
   try clear k76 K76
   refine wp_seq_k (fun K111 k111=>?_)
   refine rg [0,1,2] ?_
   refine sv 79 vo ?_
   refine sv 4 vo ?_
   refine sv 5 (.int .i64 0) ?_
   refine sq_nil ?_
   refine k111 _ _ ?_
   try clear k111 K111
   refine wp_ret ?_
   refine bodyPost_ret (v:=(.tuple #[vo,(.int .i64 0)])) (ret_tmp2 rfl rfl rfl) rfl ⟨?_,hB⟩
   exact (by subst hef;exact ⟨_,rfl,((oo.gr (stab_rw (stab_rat K) 71 4) hC).sl)⟩)

set_option maxRecDepth 100000 in
set_option maxHeartbeats 1000000 in
theorem mx_square {K R:Nat} {v:Value} {m:Mx_} (_hR2:R≤96) {w:World} (hs:Sl (ERw (ERat K) 71 4) 49 1 w v (tb (fun z0=>tb (fun z1=>(m z0 z1)) R) R)):
    Calls Tryz.prog 78 #[v] w fun e w'=>e=.returned (.int .i64 0)∧Gr w w':=by
 go_enter Tryz.func78,Tryz.ntmps78
 have hB:=Gr.refl w
 refine wp_seq_k (fun K10 k10=>?_)
 refine rg [0] ?_
 refine sv 2 (.int .i64 0) ?_
 refine sq_nil ?_
 refine k10 _ _ ?_
 try clear k10 K10
 refine wp_seq_k (fun K11 k11=>?_)
 refine wp_seq_k (fun K12 k12=>?_)
 refine rg [0,1,2] ?_
 refine sv 4 v ?_
 refine se ?_
 refine ec 5 (mx_size (by omega) (by omega) (hs.gr (stab_rw (stab_rat K) 71 4) hB)) ?_
 rintro e13 w13 ⟨rfl,g13⟩
 refine ⟨_,rfl,?_⟩
 replace hB:=hB.trans g13
 simp only [p3,p4]
 refine sv 3 (.int .i64 0) ?_
 refine sq_nil ?_
 refine k12 _ _ ?_
 try clear k12 K12
 refine wp_seq_k (fun K14 k14=>?_)
 refine rg [0,1] ?_
 refine sv 6 (.int .i64 0) ?_
 refine sv 7 (.bool false) ?_
 refine sq_nil ?_
 refine k14 _ _ ?_
 try clear k14 K14
 refine wp_cond_false rfl ?_
 refine wp_skip ?_
 refine k11 _ _ ?_
 try clear k11 K11
 refine wp_seq_k (fun K15 k15=>?_)
 refine wp_seq_k (fun K16 k16=>?_)
 refine rg [0,1,2,3,4,5,6,7,8,9] ?_
 refine sv 9 v ?_
 refine sw 10 (.int .i64 ((R:Int))) rfl (rv_lenn (e:=49) hs (tb_lenz rfl) _ _ rfl rfl (by kernel_rfl)) ?_
 refine sv 11 (.bool (decide ((0:Int)<(R:Int)))) ?_
 rcases Bool.eq_false_or_eq_true (decide ((0:Int)<(R:Int))) with hb17 | hb17
 ·have hq18:((0:Int)<(R:Int)):=of_decide_eq_true hb17
  refine sw 12 (.bool true) rfl (RunV.bool (x:=decide ((0:Int)<(R:Int))) (rvk (by kernel_rfl)) hb17) ?_
  refine sv 13 v ?_
  refine se ?_
  refine ec 14 (mx_columnsR (hs.gr (stab_rw (stab_rat K) 71 4) hB) (by omega)) ?_
  rintro e19 w19 ⟨rfl,g19⟩
  refine ⟨_,rfl,?_⟩
  replace hB:=hB.trans g19
  simp only [p3,p4]
  refine sv 15 v ?_
  refine sw 16 (.int .i64 ((R:Int))) rfl (rv_lenn (e:=49) hs (tb_lenz rfl) _ _ rfl rfl (by kernel_rfl)) ?_
  have hb20:(((R:Int) !=(R:Int)))=false:=(by simp)
  refine sw 17 (.bool false) rfl (RunV.bool (x:=((R:Int) !=(R:Int))) (rvk (by kernel_rfl)) hb20) ?_
  refine sv 18 (.bool false) ?_
  refine sq_nil ?_
  refine k16 _ _ ?_
  try clear k16 K16
  refine wp_cond_false rfl ?_
  refine wp_skip ?_
  refine k15 _ _ ?_
  try clear k15 K15
  refine wp_seq_k (fun K21 k21=>?_)
  refine rg [0] ?_
  refine sv 2 (.int .i64 0) ?_
  refine sq_nil ?_
  refine k21 _ _ ?_
  try clear k21 K21
  refine wp_ret ?_
  refine bodyPost_ret (v:=(.int .i64 0)) (ret_tmp rfl rfl) rfl ⟨?_,hB⟩
  exact rfl
 ·have hq22:¬ ((0:Int)<(R:Int)):=of_decide_eq_false hb17
  refine sw 12 (.bool false) rfl (RunV.bool (x:=decide ((0:Int)<(R:Int))) (rvk (by kernel_rfl)) hb17) ?_
  refine ss 13 ?_
  refine ss 14 ?_
  refine ss 15 ?_
  refine ss 16 ?_
  refine ss 17 ?_
  refine sv 18 (.bool false) ?_
  refine sq_nil ?_
  refine k16 _ _ ?_
  try clear k16 K16
  refine wp_cond_false rfl ?_
  refine wp_skip ?_
  refine k15 _ _ ?_
  try clear k15 K15
  refine wp_seq_k (fun K23 k23=>?_)
  refine rg [0] ?_
  refine sv 2 (.int .i64 0) ?_
  refine sq_nil ?_
  refine k23 _ _ ?_
  try clear k23 K23
  refine wp_ret ?_
  refine bodyPost_ret (v:=(.int .i64 0)) (ret_tmp rfl rfl) rfl ⟨?_,hB⟩
  exact rfl

set_option maxRecDepth 100000 in
set_option maxHeartbeats 1000000 in
theorem mx_Determinant {K R:Nat} {v:Value} {m:Mx_} (hK:64≤K) (_hK2:K≤20000) (_hR2:R≤96) (hz:∀ k,k≤R→RdZ R R K (rs R m k)) {w:World} (hs:Sl (ERw (ERat K) 71 4) 49 1 w v (tb (fun z0=>tb (fun z1=>(m z0 z1)) R) R)):
    Calls Tryz.prog 38 #[v] w fun e w'=>(∃ c0 c1 c2 c3,e=.returned (.tuple #[.agg #[c0,c1,c2,c3],.int .i64 0])∧IsRat w' K c0 c1 c2 c3 (dtE R m))∧Gr w w':=by
 go_enter Tryz.func38,Tryz.ntmps38
 have hB:=Gr.refl w
 refine wp_seq_k (fun K10 k10=>?_)
 refine rg [0,1] ?_
 refine se ?_
 refine ea 71 #[(.bool false),(.slice none 0 0),(.bool false),(.slice none 0 0)] 2 hB fun b11 w11 g11 L11 o11 q11 hB=>?_
 simp only [p3,p4]
 refine sv 3 (.int .i64 0) ?_
 refine sq_nil ?_
 refine k10 _ _ ?_
 try clear k10 K10
 refine wp_seq_k (fun K12 k12=>?_)
 refine wp_seq_k (fun K13 k13=>?_)
 refine rg [0,1,2] ?_
 refine sv 8 v ?_
 refine se ?_
 refine ec 9 (mx_square (by omega) (hs.gr (stab_rw (stab_rat K) 71 4) hB)) ?_
 rintro e14 w14 ⟨rfl,g14⟩
 refine ⟨_,rfl,?_⟩
 replace hB:=hB.trans g14
 simp only [p3,p4]
 refine sv 4 (.int .i64 0) ?_
 refine sq_nil ?_
 refine k13 _ _ ?_
 try clear k13 K13
 refine wp_seq_k (fun K15 k15=>?_)
 refine rg [0,1] ?_
 refine sv 10 (.int .i64 0) ?_
 refine sv 11 (.bool false) ?_
 refine sq_nil ?_
 refine k15 _ _ ?_
 try clear k15 K15
 refine wp_cond_false rfl ?_
 refine wp_skip ?_
 refine k12 _ _ ?_
 try clear k12 K12
 refine wp_seq_k (fun K16 k16=>?_)
 refine rg [0,1,2,3,4,5,6,7,8,9,10,11] ?_
 refine sv 15 v ?_
 refine sv 16 v ?_
 refine sw 17 (.int .i64 ((R:Int))) rfl (rv_lenn (e:=49) hs (tb_lenz rfl) _ _ rfl rfl (by kernel_rfl)) ?_
 refine se ?_
 have hlen17:=rs_len R m R
 have hple17:=rs_ple R m R
 refine ec 18 (mx_reduced (by omega) (by omega) (by omega) (by omega) (by omega) hz (hs.gr (stab_rw (stab_rat K) 71 4) hB)) ?_
 rintro e17 w17 ⟨⟨u17,v17,p17,q17,r17,s17,rfl,hs17,hp17,h17⟩,g17⟩
 refine ⟨_,rfl,?_⟩
 replace hB:=hB.trans g17
 have lehc17:=Below.size hB
 have hc17:=Gr.refl w17
 replace L11:=L11.gr (g14.trans g17)
 simp only [p3,p4]
 refine sv 14 (.tuple #[u17,v17,(.agg #[p17,q17,r17,s17])]) ?_
 refine sv 19 u17 ?_
 refine sv 20 v17 ?_
 refine sv 21 (.agg #[p17,q17,r17,s17]) ?_
 refine se ?_
 refine ea 71 #[(.bool false),(.slice none 0 0),(.bool false),(.slice none 0 0)] 7 hB fun b18 w18 g18 L18 o18 q18 hB=>?_
 have ne11_18:=L11.ne o18
 have q18_hc17:=Nat.le_trans (Below.size hc17) o18
 replace hc17:=hc17.trans g18
 simp only [p3,p4]
 refine sv 5 u17 ?_
 refine sv 6 v17 ?_
 refine se ?_
 have lo19:=L18
 refine es 71 0 (.agg #[p17,q17,r17,s17]) [p17,q17,r17,s17] #[p17,q17,r17,s17] L18 hB q18 ⟨h17.one0,h17.one1,h17.one2,h17.one3,trivial⟩ fun w19 st19 kp19 L18 hB=>?_
 replace hc17:=st19.gr hc17 q18_hc17
 refine sq_nil ?_
 refine k16 _ _ ?_
 try clear k16 K16
 refine wp_seq_k (fun K20 k20=>?_)
 refine wp_seq_k (fun K21 k21=>?_)
 refine rg [0,1,2,3,4] ?_
 refine sv 22 v17 ?_
 refine sw 23 (.int .i64 (((pl R m R:Nat):Int))) rfl (rv_lenn (e:=3) hp17 (tb_lenz rfl) _ _ rfl rfl (by kernel_rfl)) ?_
 refine sv 24 v ?_
 refine sw 25 (.int .i64 ((R:Int))) rfl (rv_lenn (e:=49) hs (tb_lenz rfl) _ _ rfl rfl (by kernel_rfl)) ?_
 refine sv 26 (.bool (decide (((pl R m R:Nat):Int)<(R:Int)))) ?_
 refine sq_nil ?_
 refine k21 _ _ ?_
 try clear k21 K21
 refine wp_cond_split (t:=decide (((pl R m R:Nat):Int)<(R:Int))) rfl (fun hb22=>?_) (fun hb22=>?_)
 ·have hlt:pl R m R<R:=by have:=of_decide_eq_true hb22;omega
  refine wp_seq_k (fun K23 k23=>?_)
  refine rg [0,1,2] ?_
  refine sv 27 (.agg #[(.bool false),(.slice none 0 0),(.bool false),(.slice none 0 0)]) ?_
  refine se ?_
  replace L11:=st19.lc (L11.gr g18) ne11_18
  have lo24:=L11
  refine es 71 0 (.agg #[(.bool false),(.slice none 0 0),(.bool false),(.slice none 0 0)]) [(.bool false),(.slice none 0 0),(.bool false),(.slice none 0 0)] #[(.bool false),(.slice none 0 0),(.bool false),(.slice none 0 0)] L11 hB q11 ⟨rfl,rfl,rfl,rfl,trivial⟩ fun w24 st24 kp24 L11 hB=>?_
  refine sv 3 (.int .i64 0) ?_
  refine sq_nil ?_
  refine k23 _ _ ?_
  try clear k23 K23
  refine wp_ret ?_
  simp only [Exit.then]
  refine bodyPost_ret (v:=(.tuple #[(.agg #[(.bool false),(.slice none 0 0),(.bool false),(.slice none 0 0)]),(.int .i64 0)])) (ret_cell_tmp' _ _ _ rfl rfl L11 (by kernel_rfl) rfl) rfl ⟨?_,hB⟩
  exact ⟨_,_,_,_,rfl,((IsRat.zero _ (k:=K) hK).castq (dtE_lt hlt))⟩
 ·have hlt:¬ pl R m R<R:=by have:=of_decide_eq_false hb22;omega
  refine wp_skip ?_
  refine k20 _ _ ?_
  try clear k20 K20
  refine wp_seq_k (fun K25 k25=>?_)
  refine rg [0,1,2] ?_
  refine sw 28 (.agg #[p17,q17,r17,s17]) rfl (rl 71 0 [p17,q17,r17,s17] L18) ?_
  refine se ?_
  replace L11:=st19.lc (L11.gr g18) ne11_18
  have lo26:=L11
  refine es 71 0 (.agg #[p17,q17,r17,s17]) [p17,q17,r17,s17] #[p17,q17,r17,s17] L11 hB q11 ⟨h17.one0,h17.one1,h17.one2,h17.one3,trivial⟩ fun w26 st26 kp26 L11 hB=>?_
  refine sv 3 (.int .i64 0) ?_
  refine sq_nil ?_
  refine k25 _ _ ?_
  try clear k25 K25
  refine wp_ret ?_
  refine bodyPost_ret (v:=(.tuple #[(.agg #[p17,q17,r17,s17]),(.int .i64 0)])) (ret_cell_tmp' _ _ _ rfl rfl L11 (by kernel_rfl) rfl) rfl ⟨?_,hB⟩
  have kq27:=g18.kp.trans (kp19.trans kp26)
  replace h17:=h17.kp kq27
  exact ⟨_,_,_,_,rfl,(h17.castq (dtE_ge hlt))⟩

set_option maxRecDepth 100000 in
set_option maxHeartbeats 1000000 in
theorem mx_eq0 {K L:Nat} {f0 f1 f2 f3 j0 j1 j2 j3:Value} {x:Rat} (_hk:K+L≤100000) {w:World} (hx:IsRat w K f0 f1 f2 f3 x) (hy:IsRat w L j0 j1 j2 j3 x):
    Calls Tryz.prog 69 #[(.agg #[f0,f1,f2,f3]),(.agg #[j0,j1,j2,j3])] w fun e w'=>e=.returned (.bool true)∧Gr w w':=by
 go_enter Tryz.func69,Tryz.ntmps69
 have hB:=Gr.refl w
 refine wp_seq_k (fun K10 k10=>?_)
 refine rg [0,1,2] ?_
 refine se ?_
 refine eb 71 #[f0,f1,f2,f3] 2 hB fun b11 w11 g11 L11 o11 q11 hB=>?_
 simp only [p3,p4]
 refine se ?_
 refine eb 71 #[j0,j1,j2,j3] 3 hB fun b12 w12 g12 L12 o12 q12 hB=>?_
 simp only [p3,p4]
 refine sv 4 (.bool false) ?_
 refine sq_nil ?_
 refine k10 _ _ ?_
 try clear k10 K10
 refine wp_seq_k (fun K13 k13=>?_)
 refine rg [0,1,2,3,4] ?_
 replace L11:=L11.gr g12
 refine sw 5 (.agg #[f0,f1,f2,f3]) rfl (rl 71 0 [f0,f1,f2,f3] L11) ?_
 refine sw 6 (.agg #[j0,j1,j2,j3]) rfl (rl 71 0 [j0,j1,j2,j3] L12) ?_
 refine se ?_
 have kq15:=g11.kp.trans g12.kp
 replace hx:=hx.kp kq15
 replace hy:=hy.kp kq15
 refine ec 7 (compare_r hx hy (by omega)) ?_
 rintro e14 w14 ⟨rfl,g14⟩
 refine ⟨_,rfl,?_⟩
 replace hB:=hB.trans g14
 simp only [p3,p4]
 refine sw 8 (.bool true) rfl (RunV.bool (x:=(rcmp x x==(0:Int))) (rvk (by kernel_rfl)) (by rw [rcmp_self];rfl)) ?_
 refine sv 4 (.bool true) ?_
 refine sq_nil ?_
 refine k13 _ _ ?_
 try clear k13 K13
 refine wp_ret ?_
 refine bodyPost_ret (v:=(.bool true)) (ret_tmp rfl rfl) rfl ⟨?_,hB⟩
 exact rfl

set_option maxRecDepth 100000 in
set_option maxHeartbeats 1000000 in
theorem mx_eqr {K L N:Nat} {vx vy:Value} {x:Nat→Rat} (_hk:K+L≤100000) (_hN:N≤1000) {w:World} (hx:Sl (ERat K) 71 4 w vx (tb (fun z1=>(x z1)) N)) (hy:Sl (ERat L) 71 4 w vy (tb (fun z1=>(x z1)) N)):
    Calls Tryz.prog 68 #[vx,vy,(.func (.func 69) #[] #[])] w fun e w'=>e=.returned (.bool true)∧Gr w w':=by
 go_enter Tryz.func68,Tryz.ntmps68
 have hB:=Gr.refl w
 refine wp_seq_k (fun K10 k10=>?_)
 refine rg [0] ?_
 refine sv 6 (.bool false) ?_
 refine sq_nil ?_
 refine k10 _ _ ?_
 try clear k10 K10
 refine wp_seq_k (fun K11 k11=>?_)
 refine wp_seq_k (fun K12 k12=>?_)
 refine rg [0,1,2,3,4] ?_
 refine sv 10 vx ?_
 refine sw 11 (.int .i64 ((N:Int))) rfl (rv_lenn (e:=71) hx (tb_lenz rfl) _ _ rfl rfl (by kernel_rfl)) ?_
 refine sv 12 vy ?_
 refine sw 13 (.int .i64 ((N:Int))) rfl (rv_lenn (e:=71) hy (tb_lenz rfl) _ _ rfl rfl (by kernel_rfl)) ?_
 have hb13:(((N:Int) !=(N:Int)))=false:=(by simp)
 refine sw 14 (.bool false) rfl (RunV.bool (x:=((N:Int) !=(N:Int))) (rvk (by kernel_rfl)) hb13) ?_
 refine sq_nil ?_
 refine k12 _ _ ?_
 try clear k12 K12
 refine wp_cond_false rfl ?_
 refine wp_skip ?_
 refine k11 _ _ ?_
 try clear k11 K11
 refine wp_seq_k (fun K14 k14=>?_)
 refine wp_seq_k (fun K15 k15=>?_)
 refine rg [0,1,2] ?_
 refine sv 15 vx ?_
 refine sw 16 (.int .i64 ((N:Int))) rfl (rv_lenn (e:=71) hx (tb_lenz rfl) _ _ rfl rfl (by kernel_rfl)) ?_
 refine sv 17 (.int .i64 0) ?_
 refine sq_nil ?_
 refine k15 _ _ ?_
 try clear k15 K15
 refine wp_block ?_
 refine wp_loop_inv (a:=⟨List.toArray ?l16,[]⟩) (fun n a w'=>∃ (j:Nat) (u16:Nat→Value),N - j=n∧a=⟨[vx,vy,(.func (.func 69) #[] #[]),undef,undef,undef,(u16 6),(u16 7),(u16 8),(u16 9),(u16 10),(u16 11),(u16 12),(u16 13),(.bool false),vx,(.int .i64 ((N:Int))),(.int .i64 ((j:Int))),(u16 18),(u16 19),(u16 20),(u16 21),(u16 22),(u16 23),(u16 24),(u16 25),(u16 26),(u16 27),(u16 28),(u16 29),(u16 30),(u16 31)].toArray,[]⟩∧j≤N∧Gr w w') (N - 0) ?_ ?_
 ·exact ⟨0,(fun i=>List.getD ?l16 i undef),rfl,rfl,(Nat.zero_le _),hB⟩
 rintro n16 a16 w16 ⟨j,u16,rfl,rfl,hkj,hB⟩ K16 k16
 refine wp_seq_k (fun K17 k17=>?_)
 refine rg [0] ?_
 refine sv 18 (.bool (decide ((j:Int)<(N:Int)))) ?_
 refine sq_nil ?_
 refine k17 _ _ ?_
 try clear k17 K17
 refine wp_seq_k (fun K18 k18=>?_)
 refine wp_cond_split (t:=decide ((j:Int)<(N:Int))) rfl (fun hb19=>?_) (fun hb19=>?_)
 ·have hlj:j<N:=by have:=of_decide_eq_true hb19;omega
  refine wp_skip ?_
  refine k18 _ _ ?_
  try clear k18 K18
  refine wp_seq_k (fun K20 k20=>?_)
  refine wp_block ?_
  refine wp_seq_k (fun K21 k21=>?_)
  refine rg [0,1,2,3,4,5] ?_
  refine sv 19 (.int .i64 ((j:Int))) ?_
  refine sw 20 (adr vx (j*4)) rfl (rv_idxn (e:=71) hx tb_len (by decide) j (by omega) _ _ _ rfl rfl rfl (by kernel_rfl) (by kernel_rfl)) ?_
  obtain ⟨_,_,⟨cA22,cB22,cC22,cD22,rfl,h22⟩,at22⟩:=Sl.get hx (by decide) (tb_get (f:=(fun z1=>(x z1))) (n:=N) (i:=j) (by omega))
  refine sw 21 (.agg #[cA22,cB22,cC22,cD22]) rfl (rv_ldn [cA22,cB22,cC22,cD22] (at22.gr hB) _ _ rfl rfl (by kernel_rfl)) ?_
  refine se ?_
  refine ea 71 #[(.bool false),(.slice none 0 0),(.bool false),(.slice none 0 0)] 8 hB fun b23 w23 g23 L23 o23 q23 hB=>?_
  simp only [p3,p4]
  refine sv 7 (.int .i64 ((j:Int))) ?_
  refine se ?_
  have lo24:=L23
  refine es 71 0 (.agg #[cA22,cB22,cC22,cD22]) [cA22,cB22,cC22,cD22] #[cA22,cB22,cC22,cD22] L23 hB q23 ⟨h22.one0,h22.one1,h22.one2,h22.one3,trivial⟩ fun w24 st24 kp24 L23 hB=>?_
  refine sq_nil ?_
  refine k21 _ _ ?_
  try clear k21 K21
  refine wp_seq_k (fun K25 k25=>?_)
  refine rg [0,1,2,3,4,5] ?_
  refine sv 22 vy ?_
  refine sv 23 (.int .i64 ((j:Int))) ?_
  refine sw 24 (adr vy (j*4)) rfl (rv_idxn (e:=71) hy tb_len (by decide) j (by omega) _ _ _ rfl rfl rfl (by kernel_rfl) (by kernel_rfl)) ?_
  obtain ⟨_,_,⟨cA26,cB26,cC26,cD26,rfl,h26⟩,at26⟩:=Sl.get hy (by decide) (tb_get (f:=(fun z1=>(x z1))) (n:=N) (i:=j) (by omega))
  refine sw 25 (.agg #[cA26,cB26,cC26,cD26]) rfl (rv_ldn [cA26,cB26,cC26,cD26] (at26.gr hB) _ _ rfl rfl (by kernel_rfl)) ?_
  refine se ?_
  refine ea 71 #[(.bool false),(.slice none 0 0),(.bool false),(.slice none 0 0)] 9 hB fun b27 w27 g27 L27 o27 q27 hB=>?_
  have ne23_27:=L23.ne o27
  simp only [p3,p4]
  refine se ?_
  have lo28:=L27
  refine es 71 0 (.agg #[cA26,cB26,cC26,cD26]) [cA26,cB26,cC26,cD26] #[cA26,cB26,cC26,cD26] L27 hB q27 ⟨h26.one0,h26.one1,h26.one2,h26.one3,trivial⟩ fun w28 st28 kp28 L27 hB=>?_
  refine sq_nil ?_
  refine k25 _ _ ?_
  try clear k25 K25
  refine wp_seq_k (fun K29 k29=>?_)
  refine rg [0,1,2,3,4] ?_
  refine sv 26 (.func (.func 69) #[] #[]) ?_
  replace L23:=st28.lc (L23.gr g27) ne23_27
  refine sw 27 (.agg #[cA22,cB22,cC22,cD22]) rfl (rl 71 0 [cA22,cB22,cC22,cD22] L23) ?_
  refine sw 28 (.agg #[cA26,cB26,cC26,cD26]) rfl (rl 71 0 [cA26,cB26,cC26,cD26] L27) ?_
  refine se ?_
  refine ec 29 (mx_eq0 (by omega) (h22.kp hB.kp) (h26.kp hB.kp)) ?_
  rintro e30 w30 ⟨rfl,g30⟩
  refine ⟨_,rfl,?_⟩
  replace hB:=hB.trans g30
  simp only [p3,p4]
  refine sv 30 (.bool false) ?_
  refine sq_nil ?_
  refine k29 _ _ ?_
  try clear k29 K29
  refine wp_cond_false rfl ?_
  refine wp_skip ?_
  refine k20 _ _ ?_
  try clear k20 K20
  refine rg [0,1] ?_
  refine sw 31 (.int .i64 (((j:Int)+1))) rfl (RunV.int (x:=IntKind.i64.wrap (((j:Int)+1))) (y:=((j:Int)+1)) (rvk (by kernel_rfl)) (by first | rfl | (rw [IntKind.wrap_i64];omega))) ?_
  refine sv 17 (.int .i64 (((j:Int)+1))) ?_
  refine sq_nil ?_
  refine k16 (N - (j+1)) ⟨List.toArray ?l31,[]⟩ _ (by omega) ?_
  exact ⟨j+1,(fun i=>List.getD ?l31 i undef),rfl,rfl,(by omega),hB⟩
 ·have hej:N=j:=by have:=of_decide_eq_false hb19;omega
  subst hej
  refine wp_exit ?_
  simp only [Exit.then,Exit.inBlock,↓reduceIte]
  refine k14 _ _ ?_
  try clear k14 K14
  refine wp_seq_k (fun K32 k32=>?_)
  refine rg [0] ?_
  refine sv 6 (.bool true) ?_
  refine sq_nil ?_
  refine k32 _ _ ?_
  try clear k32 K32
  refine wp_ret ?_
  refine bodyPost_ret (v:=(.bool true)) (ret_tmp rfl rfl) rfl ⟨?_,hB⟩
  exact rfl

set_option maxRecDepth 100000 in
set_option maxHeartbeats 1000000 in
theorem mx_eq1 {K L N:Nat} {vx vy:Value} {x:Nat→Rat} (_hk:K+L≤100000) (_hN:N≤1000) {w:World} (hx:Sl (ERat K) 71 4 w vx (tb (fun z1=>(x z1)) N)) (hy:Sl (ERat L) 71 4 w vy (tb (fun z1=>(x z1)) N)):
    Calls Tryz.prog 67 #[vx,vy] w fun e w'=>e=.returned (.bool true)∧Gr w w':=by
 go_enter Tryz.func67,Tryz.ntmps67
 have hB:=Gr.refl w
 refine wp_seq_k (fun K10 k10=>?_)
 refine rg [0] ?_
 refine sv 4 (.bool false) ?_
 refine sq_nil ?_
 refine k10 _ _ ?_
 try clear k10 K10
 refine wp_seq_k (fun K11 k11=>?_)
 refine rg [0,1,2,3] ?_
 refine sv 5 vx ?_
 refine sv 6 vy ?_
 refine se ?_
 refine ec 7 (mx_eqr (by omega) (by omega) (hx.gr (stab_rat K) hB) (hy.gr (stab_rat L) hB)) ?_
 rintro e12 w12 ⟨rfl,g12⟩
 refine ⟨_,rfl,?_⟩
 replace hB:=hB.trans g12
 simp only [p3,p4]
 refine sv 4 (.bool true) ?_
 refine sq_nil ?_
 refine k11 _ _ ?_
 try clear k11 K11
 refine wp_ret ?_
 refine bodyPost_ret (v:=(.bool true)) (ret_tmp rfl rfl) rfl ⟨?_,hB⟩
 exact rfl

set_option maxRecDepth 100000 in
set_option maxHeartbeats 1000000 in
theorem mx_eqm {K L R N:Nat} {vx vy:Value} {m:Mx_} (_hk:K+L≤100000) (_hN:N≤1000) (_hR:R≤1000) {w:World} (hx:Sl (ERw (ERat K) 71 4) 49 1 w vx (tb (fun z0=>tb (fun z1=>(m z0 z1)) N) R)) (hy:Sl (ERw (ERat L) 71 4) 49 1 w vy (tb (fun z0=>tb (fun z1=>(m z0 z1)) N) R)):
    Calls Tryz.prog 66 #[vx,vy,(.func (.func 67) #[] #[])] w fun e w'=>e=.returned (.bool true)∧Gr w w':=by
 go_enter Tryz.func66,Tryz.ntmps66
 have hB:=Gr.refl w
 refine wp_seq_k (fun K10 k10=>?_)
 refine rg [0] ?_
 refine sv 6 (.bool false) ?_
 refine sq_nil ?_
 refine k10 _ _ ?_
 try clear k10 K10
 refine wp_seq_k (fun K11 k11=>?_)
 refine wp_seq_k (fun K12 k12=>?_)
 refine rg [0,1,2,3,4] ?_
 refine sv 10 vx ?_
 refine sw 11 (.int .i64 ((R:Int))) rfl (rv_lenn (e:=49) hx (tb_lenz rfl) _ _ rfl rfl (by kernel_rfl)) ?_
 refine sv 12 vy ?_
 refine sw 13 (.int .i64 ((R:Int))) rfl (rv_lenn (e:=49) hy (tb_lenz rfl) _ _ rfl rfl (by kernel_rfl)) ?_
 have hb13:(((R:Int) !=(R:Int)))=false:=(by simp)
 refine sw 14 (.bool false) rfl (RunV.bool (x:=((R:Int) !=(R:Int))) (rvk (by kernel_rfl)) hb13) ?_
 refine sq_nil ?_
 refine k12 _ _ ?_
 try clear k12 K12
 refine wp_cond_false rfl ?_
 refine wp_skip ?_
 refine k11 _ _ ?_
 try clear k11 K11
 refine wp_seq_k (fun K14 k14=>?_)
 refine wp_seq_k (fun K15 k15=>?_)
 refine rg [0,1,2] ?_
 refine sv 15 vx ?_
 refine sw 16 (.int .i64 ((R:Int))) rfl (rv_lenn (e:=49) hx (tb_lenz rfl) _ _ rfl rfl (by kernel_rfl)) ?_
 refine sv 17 (.int .i64 0) ?_
 refine sq_nil ?_
 refine k15 _ _ ?_
 try clear k15 K15
 refine wp_block ?_
 refine wp_loop_inv (a:=⟨List.toArray ?l16,[]⟩) (fun n a w'=>∃ (j:Nat) (u16:Nat→Value),R - j=n∧a=⟨[vx,vy,(.func (.func 67) #[] #[]),undef,undef,undef,(u16 6),(u16 7),(u16 8),(u16 9),(u16 10),(u16 11),(u16 12),(u16 13),(.bool false),vx,(.int .i64 ((R:Int))),(.int .i64 ((j:Int))),(u16 18),(u16 19),(u16 20),(u16 21),(u16 22),(u16 23),(u16 24),(u16 25),(u16 26),(u16 27),(u16 28),(u16 29),(u16 30),(u16 31)].toArray,[]⟩∧j≤R∧Gr w w') (R - 0) ?_ ?_
 ·exact ⟨0,(fun i=>List.getD ?l16 i undef),rfl,rfl,(Nat.zero_le _),hB⟩
 rintro n16 a16 w16 ⟨j,u16,rfl,rfl,hkj,hB⟩ K16 k16
 refine wp_seq_k (fun K17 k17=>?_)
 refine rg [0] ?_
 refine sv 18 (.bool (decide ((j:Int)<(R:Int)))) ?_
 refine sq_nil ?_
 refine k17 _ _ ?_
 try clear k17 K17
 refine wp_seq_k (fun K18 k18=>?_)
 refine wp_cond_split (t:=decide ((j:Int)<(R:Int))) rfl (fun hb19=>?_) (fun hb19=>?_)
 ·have hlj:j<R:=by have:=of_decide_eq_true hb19;omega
  refine wp_skip ?_
  refine k18 _ _ ?_
  try clear k18 K18
  refine wp_seq_k (fun K20 k20=>?_)
  refine wp_block ?_
  refine wp_seq_k (fun K21 k21=>?_)
  refine rg [0,1,2,3,4] ?_
  refine sv 19 (.int .i64 ((j:Int))) ?_
  refine sw 20 (adr vx (j*1)) rfl (rv_idxn (e:=49) hx tb_len (by decide) j (by omega) _ _ _ rfl rfl rfl (by kernel_rfl) (by kernel_rfl)) ?_
  obtain ⟨_,_,⟨u22,rfl,hr22⟩,at22⟩:=Sl.get hx (by decide) (tb_get (f:=(fun z0=>tb (fun z1=>(m z0 z1)) N)) (n:=R) (i:=j) (by omega))
  refine sw 21 u22 rfl (rv_ld1 u22 (at22.gr hB) _ _ rfl rfl (by kernel_rfl)) ?_
  refine sv 7 (.int .i64 ((j:Int))) ?_
  refine sv 8 u22 ?_
  refine sq_nil ?_
  refine k21 _ _ ?_
  try clear k21 K21
  refine wp_seq_k (fun K23 k23=>?_)
  refine rg [0,1,2,3,4] ?_
  refine sv 22 vy ?_
  refine sv 23 (.int .i64 ((j:Int))) ?_
  refine sw 24 (adr vy (j*1)) rfl (rv_idxn (e:=49) hy tb_len (by decide) j (by omega) _ _ _ rfl rfl rfl (by kernel_rfl) (by kernel_rfl)) ?_
  obtain ⟨_,_,⟨u24,rfl,hr24⟩,at24⟩:=Sl.get hy (by decide) (tb_get (f:=(fun z0=>tb (fun z1=>(m z0 z1)) N)) (n:=R) (i:=j) (by omega))
  refine sw 25 u24 rfl (rv_ld1 u24 (at24.gr hB) _ _ rfl rfl (by kernel_rfl)) ?_
  refine sv 9 u24 ?_
  refine sq_nil ?_
  refine k23 _ _ ?_
  try clear k23 K23
  refine wp_seq_k (fun K25 k25=>?_)
  refine rg [0,1,2,3,4] ?_
  refine sv 26 (.func (.func 67) #[] #[]) ?_
  refine sv 27 u22 ?_
  refine sv 28 u24 ?_
  refine se ?_
  refine ec 29 (mx_eq1 (by omega) (by omega) (hr22.gr (stab_rat K) hB) (hr24.gr (stab_rat L) hB)) ?_
  rintro e26 w26 ⟨rfl,g26⟩
  refine ⟨_,rfl,?_⟩
  replace hB:=hB.trans g26
  simp only [p3,p4]
  refine sv 30 (.bool false) ?_
  refine sq_nil ?_
  refine k25 _ _ ?_
  try clear k25 K25
  refine wp_cond_false rfl ?_
  refine wp_skip ?_
  refine k20 _ _ ?_
  try clear k20 K20
  refine rg [0,1] ?_
  refine sw 31 (.int .i64 (((j:Int)+1))) rfl (RunV.int (x:=IntKind.i64.wrap (((j:Int)+1))) (y:=((j:Int)+1)) (rvk (by kernel_rfl)) (by first | rfl | (rw [IntKind.wrap_i64];omega))) ?_
  refine sv 17 (.int .i64 (((j:Int)+1))) ?_
  refine sq_nil ?_
  refine k16 (R - (j+1)) ⟨List.toArray ?l27,[]⟩ _ (by omega) ?_
  exact ⟨j+1,(fun i=>List.getD ?l27 i undef),rfl,rfl,(by omega),hB⟩
 ·have hej:R=j:=by have:=of_decide_eq_false hb19;omega
  subst hej
  refine wp_exit ?_
  simp only [Exit.then,Exit.inBlock,↓reduceIte]
  refine k14 _ _ ?_
  try clear k14 K14
  refine wp_seq_k (fun K28 k28=>?_)
  refine rg [0] ?_
  refine sv 6 (.bool true) ?_
  refine sq_nil ?_
  refine k28 _ _ ?_
  try clear k28 K28
  refine wp_ret ?_
  refine bodyPost_ret (v:=(.bool true)) (ret_tmp rfl rfl) rfl ⟨?_,hB⟩
  exact rfl

set_option maxRecDepth 100000 in
set_option maxHeartbeats 1000000 in
theorem mx_Equal {K L R N:Nat} {vx vy:Value} {m:Mx_} (_hk:K+L≤100000) (_hN:N≤1000) (_hR:R≤1000) {w:World} (hx:Sl (ERw (ERat K) 71 4) 49 1 w vx (tb (fun z0=>tb (fun z1=>(m z0 z1)) N) R)) (hy:Sl (ERw (ERat L) 71 4) 49 1 w vy (tb (fun z0=>tb (fun z1=>(m z0 z1)) N) R)):
    Calls Tryz.prog 27 #[vx,vy] w fun e w'=>e=.returned (.bool true)∧Gr w w':=by
 go_enter Tryz.func27,Tryz.ntmps27
 have hB:=Gr.refl w
 refine wp_seq_k (fun K10 k10=>?_)
 refine rg [0] ?_
 refine sv 4 (.bool false) ?_
 refine sq_nil ?_
 refine k10 _ _ ?_
 try clear k10 K10
 refine wp_seq_k (fun K11 k11=>?_)
 refine rg [0,1,2,3] ?_
 refine sv 5 vx ?_
 refine sv 6 vy ?_
 refine se ?_
 refine ec 7 (mx_eqm (by omega) (by omega) (by omega) (hx.gr (stab_rw (stab_rat K) 71 4) hB) (hy.gr (stab_rw (stab_rat L) 71 4) hB)) ?_
 rintro e12 w12 ⟨rfl,g12⟩
 refine ⟨_,rfl,?_⟩
 replace hB:=hB.trans g12
 simp only [p3,p4]
 refine sv 4 (.bool true) ?_
 refine sq_nil ?_
 refine k11 _ _ ?_
 try clear k11 K11
 refine wp_ret ?_
 refine bodyPost_ret (v:=(.bool true)) (ret_tmp rfl rfl) rfl ⟨?_,hB⟩
 exact rfl

section
variable {α:Type} {E:World→α→List Value→Prop} {ts:List TypeId} {T TW:TypeId} {c B R N:Nat} {w w':World} {bs:Nat→Value} {f:Nat→Nat→α}
/-- a value that is a slice -/
def EVs (_:World) (u:Value) (vs:List Value):Prop:=vs=[u]∧∃ ao n cap,u=.slice ao n cap
theorem EVs.of {E:World→α→List Value→Prop} {T:TypeId} {c:Nat} {w0:World} {u:Value} {xs:List α} (h:Sl E T c w0 u xs) (w:World):EVs w u [u]:=⟨rfl,h.forms⟩
/-- two slices do not lie in one block -/
def Dj (u v:Value):Prop:=∀ g n cap m dap,u=.slice (some ⟨g,0,none⟩) n cap→v≠.slice (some ⟨g,0,none⟩) m dap
/-- rows of the call's own -/
structure Mr (E:World→α→List Value→Prop) (T:TypeId) (c:Nat) (w:World) (B:Nat) (bs:Nat→Value) (f:Nat→Nat→α) (R N:Nat):Prop where
  row:∀ i,i<R→Ow E T c w B (bs i) (tb (f i) N)
  dj:∀ i j,i<R→j<R→i≠j→Dj (bs i) (bs j)
theorem Mr.kts (h:Mr E T c w B bs f R N) (hS:Stab E ts) (k:Kts (T::ts) w w'):Mr E T c w' B bs f R N:=⟨fun i hi=>(h.row i hi).kts hS k,h.dj⟩
theorem Mr.gr (h:Mr E T c w B bs f R N) (hS:Stab E ts) (g:Gr w w'):Mr E T c w' B bs f R N:=h.kts hS (g.kts _)
theorem Mr.zero0:Mr E T c w B bs f 0 N:=⟨fun i hi=>absurd hi (Nat.not_lt_zero i),fun i _ hi=>absurd hi (Nat.not_lt_zero i)⟩
theorem Mr.congr {g:Nat→Nat→α} (h:Mr E T c w B bs f R N) (e:∀ i,i<R→∀ j,j<N→f i j=g i j):Mr E T c w B bs g R N:=⟨fun i hi=>(h.row i hi).cast (tb_congr fun j hj=>e i hi j hj),h.dj⟩
theorem Mr.snoc {w0:World} {i:Nat} {u:Value} (h:Mr E T c w0 B bs f i N) (hS:Stab E ts) (g:Gr w0 w) (hu:Ow E T c w w0.heap.size u (tb (f i) N)) (hB:B≤w0.heap.size):Mr E T c w B (fun t=>if t=i then u else bs t) f (i+1) N:=by
  have hold:∀ t,t<i→∀ g n cap,bs t=.slice (some ⟨g,0,none⟩) n cap→g<w0.heap.size:=fun t ht g n cap e=>((h.row t ht).blk e).2
  refine ⟨fun t ht=>?_,fun t s ht hs hne=>?_⟩
  · by_cases e:t=i
    · rw [if_pos e,e];exact hu.mono hB
    · rw [if_neg e];exact (h.row t (by omega)).gr hS g
  · intro b n cap m dap e1 e2
    by_cases a1:t=i
    · rw [if_pos a1] at e1
      rw [if_neg (fun a2=>hne (a1.trans a2.symm))] at e2
      have:=(hu.blk e1).1
      have:=hold s (by omega) b m dap e2
      omega
    · rw [if_neg a1] at e1
      by_cases a2:s=i
      · rw [if_pos a2] at e2
        have:=(hu.blk e2).1
        have:=hold t (by omega) b n cap e1
        omega
      · rw [if_neg a2] at e2
        exact h.dj t s (by omega) (by omega) hne b n cap m dap e1 e2
/-- two rows exchanged -/
def sb (bs:Nat→Value) (i r:Nat):Nat→Value:=fun t=>if t=i then bs r else if t=r then bs i else bs t
def swf (f:Nat→Nat→α) (i r:Nat):Nat→Nat→α:=fun t=>if t=i then f r else if t=r then f i else f t
theorem Mr.swp {i r:Nat} (h:Mr E T c w B bs f R N) (hi:i<R) (hr:r<R):Mr E T c w B (sb bs i r) (swf f i r) R N:=by
  have key:∀ t,∃ s,sb bs i r t=bs s∧swf f i r t=f s∧(t<R→s<R)∧s=(if t=i then r else if t=r then i else t):=fun t=>by
    unfold sb swf
    by_cases a:t=i
    · exact ⟨r,by rw [if_pos a],by rw [if_pos a],fun _=>hr,by rw [if_pos a]⟩
    · by_cases b:t=r
      · exact ⟨i,by rw [if_neg a,if_pos b],by rw [if_neg a,if_pos b],fun _=>hi,by rw [if_neg a,if_pos b]⟩
      · exact ⟨t,by rw [if_neg a,if_neg b],by rw [if_neg a,if_neg b],fun h=>h,by rw [if_neg a,if_neg b]⟩
  refine ⟨fun t ht=>?_,fun t u ht hu hne=>?_⟩
  · obtain ⟨s,e1,e2,e3,_⟩:=key t
    rw [e1,e2];exact h.row s (e3 ht)
  · obtain ⟨s,e1,_,e3,e4⟩:=key t
    obtain ⟨s',d1,_,d3,d4⟩:=key u
    rw [e1,d1]
    refine h.dj s s' (e3 ht) (d3 hu) ?_
    rw [e4,d4]
    split<;>split<;>(try split)<;>(try split)<;>omega
/-- a block in which none of the rows lies -/
def NoB (bs:Nat→Value) (R b:Nat):Prop:=∀ i,i<R→OwNe (bs i) b
theorem Mr.st {b:Nat} (h:Mr E T c w B bs f R N) (hS:Stab E ts) (st:St w w' b) (hn:NoB bs R b) (k:Kts ts w w'):Mr E T c w' B bs f R N:=⟨fun i hi=>(h.row i hi).st hS st (hn i hi) k,h.dj⟩
variable {P:Program} {a:Act} {o:Oper} {Q:Exit→Act→World→Prop} {K:Act→World→Prop}
end
/-! ### the reference's steps -/
section
variable {R N k i:Nat} {m:Mx_}
/-- row r divided,up to column j -/
def s1 (R:Nat) (m:Mx_) (k i j:Nat):Mx_:=fun a b=>if a=pl R m k∧b<j then aa R m k i a b/aa R m k i (pl R m k) k else aa R m k i a b
/-- row t cleared,up to column j -/
def s2 (R:Nat) (m:Mx_) (k i t j:Nat):Mx_:=fun a b=>if a=t∧b<j then md R m k i (t+1) a b else md R m k i t a b
variable {K:Nat}
end
/-- a fraction,or the zero value -/
def EFo (w:World) (x:Option Rat) (vs:List Value):Prop:=
  match x with
  | none=>vs=[.string ⟨#[]⟩,.string ⟨#[]⟩]
  | some q=>EFr w q vs
theorem Sl.some {T:TypeId} {c n:Nat} {w:World} {v:Value} {g:Nat→Rat} (h:Sl EFo T c w v (tb (fun k=>some (g k)) n)):Sl EFr T c w v (tb g n):=by
  obtain ⟨ys,h1,h2⟩:=h
  rw [tb_len] at h1
  refine ⟨ys,by rw [tb_len];exact h1,by rw [h2.1,tb_len,tb_len],fun i x hx=>?_⟩
  have hi:i<n:=by have:=(List.getElem?_eq_some_iff.1 hx).1;rwa [tb_len] at this
  rw [tb_get hi] at hx
  obtain rfl:=Option.some.inj hx
  exact h2.2 i (Option.some (g i)) (tb_get (f:=fun k=>Option.some (g k)) hi)
section
variable {R n:Nat} {m:Mx_} {g:Nat→Rat}
end
end Go.Proofs.YtepgkcimmdmgcaaGreatDoor
namespace Go.Proofs.YtepgkcimmdmgcaaGreatDoor
/-- the first k members of the expansion -/
def dr (n:Nat) (m:Mx_) (k:Nat):Rat:=sm k fun z9=>sgk z9*(m 0 z9*Dr n (mnr m z9))
end Go.Proofs.YtepgkcimmdmgcaaGreatDoor
namespace Go.Proofs.YtepgkcimmdmgcaaGreatDoor
open Go.RowKit

set_option maxRecDepth 100000 in
set_option maxHeartbeats 2000000 in
theorem scale_c (ao:Option Addr) (la ca:Nat) (m x p:Int) (w:World) (hla:la≤900000) (ha:Mag w ao la ca m) (hx0:0≤x) (hx1:x<4294967296) (hp0:0≤p) (hp1:p<4294967296):
    Calls Tryz.prog 157 #[.slice ao la ca,.int .u32 x,.int .u32 p] w fun e w'=>(∃ go k cap,e=.returned (.slice go k cap)∧Mag w' go k cap (m*x+p)∧k≤la+1)∧Gr w w':=by
  go_enter Tryz.func157,Tryz.ntmps157
  go_wp2_with (at_make;refine wpList_make32 _ rfl _ _ rfl _ _ (la+1) rfl rfl (by omega) (by omega) (by omega) ?_)
  intro w1 hO hB hsz
  go_wp2
  go_loopw [8,19] (fun c i wr=>∃ (k:Nat) (cr:Int) (d:Nat→Int),k≤la∧i=.int .i64 k∧c=.int .u64 cr∧0≤cr∧cr<4294967296∧Hid (hi (m*x+p) k=hi m k*x+cr)∧Below w.heap.size w wr∧
      Own wr w.heap.size (la+1) d∧Hid (∀ j,j<k→d j=dg (m*x+p) j)) (fun _ i _=>la - (intOf i).toNat)
  case atStart=>exact ⟨0,p,_,Nat.zero_le _,rfl,rfl,hp0,hp1,by simp [Hid,hi_zero],hB,hO,fun j hj=>by omega⟩
  case round=>
    obtain ⟨k,cr,d,hk,rfl,rfl,hc0,hc1,hz,hB,hO,hd⟩:=hrel
    by_cases hlt:k<la
    · obtain ⟨b1,off1,rfl,hcs1⟩:=(ha.row.below hB).at_ (by omega)
      have hcell1:=hcs1 k hlt
      clear hcs1
      have d0:=dg_nonneg m k
      have d1:=dg_lt m k
      have hcell3:=hO.cell k (by omega)
      have hfree:=hO.free k
      have hs:=scale_step hz.out hc0 hc1 hx0 hx1
      have z0:=hs.2.2.2.2.1
      have z1:=hs.2.2.2.2.2
      have z2:dg m k*x≤18446744065119617025:=by
        have:=Int.mul_le_mul (show dg m k≤4294967295 by omega) (show x≤4294967295 by omega) hx0 (by omega)
        omega
      have HS:=Lib.hid hs
      clear hs
      go_wp2
      have hs:=HS.out
      go_roundw
      case rel=>
        refine ⟨k+1,_,_,by omega,by go_num,rfl,hs.2.2.1,hs.2.2.2.1,hs.2.1,hB.setCell (Nat.le_refl _) _,hO.set (by omega) _,fun j hj=>?_⟩
        by_cases e:j=k
        · subst e;rw [upd_same,hs.1]
        · rw [upd_other _ _ e];exact hd.out j (by omega)
      case measure=>simp [intOf];omega
    · obtain rfl:k=la:=by omega
      have hcell3:=hO.cell k (by omega)
      have hfree:=hO.free k
      have hm0:0≤m*x+p:=by have:=Int.mul_nonneg ha.nl.nonneg hx0;omega
      have htop:hi (m*x+p) (k+1)=0:=by
        have h1:=hz.out
        rw [ha.nl.top,Int.zero_mul] at h1
        rw [hi_succ];omega
      have hdk:dg (m*x+p) k=cr:=by
        have h1:=hz.out
        rw [ha.nl.top,Int.zero_mul] at h1
        unfold dg;omega
      have HT:=Lib.hid htop
      have HD:=Lib.hid hdk
      clear htop hdk
      go_wp2_with fail
      have hO2:=(hO.set (Nat.lt_succ_self k) cr).congr (d':=dg (m*x+p)) (fun j hj=>by
        by_cases e:j=k
        · subst e;rw [upd_same,HD.out]
        · rw [upd_other _ _ e];exact hd.out j (by omega))
      refine (trim_c _ _ _ (m*x+p) _ (by omega) (Nat.le_refl _) hm0 HT.out hO2.row).mono ?_
      rintro e w3 ⟨⟨n,rfl,hm,hn⟩,rfl⟩
      go_wp2
      go_ret
      exact ⟨⟨_,_,_,rfl,hm,hn⟩,hB.setCell (Nat.le_refl _) _⟩
theorem valL_from (l:List UInt8):∀ acc:Nat,l.foldl (fun a c=>a*10+(c.toNat - 48)) acc=acc*10 ^ l.length+valL l:=by
  induction l with
  | nil=>intro acc;simp [valL]
  | cons c l ih=>
    intro acc
    have hv:valL (c::l)=(c.toNat - 48)*10 ^ l.length+valL l:=by
      show l.foldl _ (0*10+(c.toNat - 48))=_
      rw [ih];simp
    rw [List.foldl_cons,ih,hv,List.length_cons,Nat.pow_succ,Nat.add_mul]
    have:acc*10*10 ^ l.length=acc*(10 ^ l.length*10):=by grind
    omega
theorem valL_append (a b:List UInt8):valL (a++b)=valL a*10 ^ b.length+valL b:=by
  show (a++b).foldl _ 0=_
  rw [List.foldl_append,valL_from];rfl
theorem valL_lt (l:List UInt8) (h:∀ c ∈ l,48≤c.toNat∧c.toNat≤57):valL l<10 ^ l.length:=by
  induction l with
  | nil=>simp [valL]
  | cons c l ih=>
    have h1:=valL_append [c] l
    have h2:=ih (fun x hx=>h x (by simp [hx]))
    have h3:=h c (by simp)
    have h4:valL [c]≤9:=by simp [valL];omega
    rw [List.singleton_append] at h1
    rw [h1,List.length_cons,Nat.pow_succ]
    have:=Nat.mul_le_mul_right (10 ^ l.length) h4
    omega
theorem parseM:∀ (l:List UInt8) (acc:Nat),(∀ c ∈ l,48≤c.toNat∧c.toNat≤57)→acc*10 ^ l.length+10 ^ l.length≤1000000000→Lib.parseUintM (2 ^ 32 - 1) acc l=.ok (acc*10 ^ l.length+valL l)
  | [],acc,_,_=>by simp [Lib.parseUintM,valL]
  | c::l,acc,h,hb=>by
    have hc:=h c (by simp)
    have hp:0<10 ^ l.length:=Nat.pow_pos (by omega)
    rw [List.length_cons,Nat.pow_succ] at hb
    have h1:(acc+1)*(10 ^ l.length*10)≤1000000000:=by rw [Nat.add_mul];omega
    have h2:(acc+1)*10≤1000000000:=by
      have:(acc+1)*10≤(acc+1)*(10 ^ l.length*10):=Nat.mul_le_mul_left _ (by omega)
      omega
    have e:acc*(10 ^ l.length*10)=acc*10*10 ^ l.length:=by grind
    have h3:(c.toNat - 48)*10 ^ l.length≤9*10 ^ l.length:=Nat.mul_le_mul_right _ (by omega)
    have ih:=parseM l (acc*10+(c.toNat - 48)) (fun x hx=>h x (by simp [hx])) (by rw [Nat.add_mul];omega)
    unfold Lib.parseUintM
    rw [if_pos hc,if_neg (by omega),if_neg (by omega),ih]
    have h5:=valL_append [c] l
    rw [List.singleton_append] at h5
    have h6:valL [c]=c.toNat - 48:=by simp [valL]
    rw [h5,h6,List.length_cons,Nat.pow_succ,Nat.add_mul,e]
    congr 1
    omega
theorem parse32 {l:List UInt8} (h:∀ c ∈ l,48≤c.toNat∧c.toNat≤57) (h0:l≠[]) (h9:l.length≤9):Lib.parseUintB 32 l=.ok (valL l):=by
  unfold Lib.parseUintB
  rw [if_neg h0,parseM l 0 h (by
    have:10 ^ l.length≤10 ^ 9:=Nat.pow_le_pow_right (by omega) h9
    omega)]
  simp
theorem parse_uint (R:ByteArray) (h:∀ c ∈ R.data.toList,48≤c.toNat∧c.toNat≤57) (h0:0<R.size) (h9:R.size≤9) (w:World):
    Calls Tryz.prog 156 #[.string R,.int .i64 10,.int .i64 32] w fun e w'=>e=.returned (.tuple #[.int .u64 (valL R.data.toList:Int),.nilIface])∧Gr w w':=by
  have hl:R.data.toList.length=R.size:=by simp
  refine (Tryz.strconv_ParseUint_10_at32_ok R (by omega) (valL R.data.toList) (parse32 h (fun e=>by rw [e] at hl;simp at hl;omega) (by omega)) w).mono ?_
  rintro e w1 ⟨he,hw⟩
  refine ⟨he,?_⟩
  rcases hw with rfl | rfl
  · exact Gr.refl _
  · exact Go.Joins.below_bytesWorld _ _ _ _ (Nat.le_refl _)
/-- the closure:is it no digit? -/
theorem nodigit (x:Nat) (w:World):Calls Tryz.prog 155 #[.int .i32 (x:Int)] w fun e w'=>e=.returned (.bool (decide (x<48)||decide (57<x)))∧∃ q,w'=w.drewN q:=by
  by_cases h1:(x:Int)<48
  · have e1:decide (x<48)=true:=by simp;omega
    have E:=Lib.hid e1
    clear e1
    go_enter Tryz.func155,Tryz.ntmps155
    go_wp2
    go_ret
    exact ⟨by rw [E.out];rfl,0,rfl⟩
  · have e1:decide (x<48)=false:=by simp;omega
    by_cases h2:57<(x:Int)
    · have e2:(decide (x<48)||decide (57<x))=true:=by simp;omega
      have E:=Lib.hid e2
      clear e1 e2
      go_enter Tryz.func155,Tryz.ntmps155
      go_wp2
      go_ret
      exact ⟨by rw [E.out];rfl,0,rfl⟩
    · have e2:(decide (x<48)||decide (57<x))=false:=by simp;omega
      have E:=Lib.hid e2
      clear e1 e2
      go_enter Tryz.func155,Tryz.ntmps155
      go_wp2
      go_ret
      exact ⟨by rw [E.out];rfl,0,rfl⟩
theorem idx_none {D:ByteArray} (h:∀ c ∈ D.data.toList,48≤c.toNat∧c.toNat≤57):∀ (f pos:Nat),Lib.idxFuncFrom (fun x=>decide (x<48)||decide (57<x)) true D f pos=-1
  | 0,_=>rfl
  | f+1,pos=>by
    unfold Lib.idxFuncFrom
    by_cases hp:pos<D.size
    · have hc:=h D[pos] (List.mem_of_getElem? (toList_get hp))
      rw [if_pos hp,decode_ascii D pos hp (by omega),if_neg (by simp;omega)]
      exact idx_none h f _
    · rw [if_neg hp]
theorem contains_no (D:ByteArray) (h:∀ c ∈ D.data.toList,48≤c.toNat∧c.toNat≤57) (w:World):
    Calls Tryz.prog 154 #[.string D,.func (.func 155) #[] #[]] w fun e w'=>e=.returned (.bool false)∧Gr w w':=by
  refine (Tryz.strings_ContainsFunc 155 #[] (enters_of Tryz.func155 (by kernel_rfl) rfl) (fun x=>decide (x<48)||decide (57<x)) D w (fun W x _=>nodigit x W)).mono ?_
  rintro e w1 ⟨he,hb⟩
  refine ⟨?_,hb⟩
  rw [he]
  unfold Lib.idxFunc
  rw [idx_none h]
  rfl
end Go.Proofs.YtepgkcimmdmgcaaGreatDoor
