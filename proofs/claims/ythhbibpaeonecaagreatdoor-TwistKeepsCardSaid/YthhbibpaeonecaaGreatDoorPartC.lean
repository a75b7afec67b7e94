/- Joined of: Gen4, Txt, Gen12, Nbr, R2a, R2b, R2c, R2d, R2e, Scale, Pa1, Pa2, Gen31, Gen35, Gen32, Rat2, Gen33, Gen34, Lit2, Gen37, Mk, Rd1, Rd2, Rd3, Ok2, Ars, Arr, Peq. -/
import Derived.Test.YthhbibpaeonecaaGreatDoorPartB
import Derived.Test.YthhbibpaeonecaaGreatDoorPartA
import Derived.Lib.SmallJoins
import Derived.Laws.RangeString
import Derived.Shelf.Strings.SlTrimAscii
import Derived.ChangeKeysEq
import Derived.Laws.StructEq
namespace Go.Proofs.YthhbibpaeonecaaGreatDoor
open Go.RowKit

set_option maxRecDepth 100000 in
set_option maxHeartbeats 1000000 in
theorem add_tt {k m:Nat} {u0 u1 u2 u3 v0 v1 v2 v3:Value} {a b:Rat} {w:World} (ha:IsRat w k u0 u1 u2 u3 a) (hb:IsRat w m v0 v1 v2 v3 b) (_hk:k+m≤100000) (wa:a.den=1) (wb:b.den=1):
    Calls Tryz.prog 46 #[(.agg #[u0,u1,u2,u3]),(.agg #[v0,v1,v2,v3])] w fun e w'=>(∃ c0 c1 c2 c3,e=.returned (.agg #[c0,c1,c2,c3])∧IsRat w' (k+m+1) c0 c1 c2 c3 (a+b))∧Gr w w':=by
 have hka:=ha.big
 have hkb:=hb.big
 go_enter Tryz.func46,Tryz.ntmps46
 have hB:=Gr.refl w
 refine wp_seq_k (fun K1 k1=>?_)
 refine rg [0,1,2] ?_
 refine se ?_
 refine eb 33 #[u0,u1,u2,u3] 2 hB fun b2 w2 g2 L2 o2 q2 hB=>?_
 simp only [p3,p4]
 refine se ?_
 refine eb 33 #[v0,v1,v2,v3] 3 hB fun b3 w3 g3 L3 o3 q3 hB=>?_
 simp only [p3,p4]
 refine se ?_
 refine ea 33 #[.bool false,.slice none 0 0,.bool false,.slice none 0 0] 4 hB fun b4 w4 g4 L4 o4 q4 hB=>?_
 replace L2:=L2.gr g3
 simp only [p3,p4]
 refine za0 ?_
 refine k1 _ _ ?_
 try clear k1 K1
 refine wp_seq_k (fun K5 k5=>?_)
 refine wp_seq_k (fun K6 k6=>?_)
 refine rg [0,1,2,3,4,5] ?_
 replace L2:=L2.gr g4
 refine sw 5 (.agg #[u0,u1,u2,u3]) rfl (rl 33 0 [u0,u1,u2,u3] L2) ?_
 refine se ?_
 have ai:=g2.kp.trans (g3.kp.trans g4.kp)
 replace ha:=ha.kp ai
 refine ec 6 (zg0 ha (by omega) wa) ?_
 rintro e7 w7 ⟨rfl,g7⟩
 refine ⟨_,rfl,?_⟩
 replace hB:=hB.trans g7
 simp only [p3,p4]
 refine sv 7 (.bool true) ?_
 replace L3:=L3.gr (g4.trans g7)
 refine sw 8 (.agg #[v0,v1,v2,v3]) rfl (rl 33 0 [v0,v1,v2,v3] L3) ?_
 refine se ?_
 have ae:=g2.kp.trans (g3.kp.trans (g4.kp.trans g7.kp))
 replace hb:=hb.kp ae
 refine ec 9 (zg0 hb (by omega) wb) ?_
 rintro e9 w9 ⟨rfl,g9⟩
 refine ⟨_,rfl,?_⟩
 replace hB:=hB.trans g9
 simp only [p3,p4]
 refine sv 10 (.bool true) ?_
 refine za0 ?_
 refine k6 _ _ ?_
 try clear k6 K6
 refine wp_cond_true rfl ?_
 refine wp_seq_k (fun ak k11=>?_)
 refine rg [0,1,2,3,4,5,6] ?_
 refine sv 11 (.pointer (some ⟨b2,0,none⟩)) ?_
 replace L2:=L2.gr (g7.trans g9)
 refine sw 12 (.agg #[u0,u1]) rfl (rl 31 0 [u0,u1] L2) ?_
 refine sv 13 (.pointer (some ⟨b3,0,none⟩)) ?_
 replace L3:=L3.gr g9
 refine sw 14 (.agg #[v0,v1]) rfl (rl 31 0 [v0,v1] L3) ?_
 refine se ?_
 have af:=g7.kp.trans g9.kp
 replace ha:=ha.kp af
 replace hb:=hb.kp g9.kp
 refine ec 15 (add_e (k+m) ha.num hb.num (by omega) (by omega) (by omega)) ?_
 rintro e12 al ⟨⟨aa,ac,rfl,ab⟩,ah⟩
 refine ⟨_,rfl,?_⟩
 replace hB:=hB.trans ah
 simp only [p3,p4]
 refine sv 16 (.agg #[aa,ac,.bool false,.slice none 0 0]) ?_
 refine se ?_
 replace L4:=L4.gr (g7.trans (g9.trans ah))
 refine es 33 0 (.agg #[aa,ac,.bool false,.slice none 0 0]) [aa,ac,.bool false,.slice none 0 0] #[aa,ac,.bool false,.slice none 0 0] L4 hB q4 ⟨ab.one0,ab.one1,rfl,rfl,trivial⟩ fun ap aj ad L4 hB=>?_
 refine za0 ?_
 refine k11 _ _ ?_
 try clear k11 ak
 refine wp_ret ?_
 simp only [Exit.then]
 refine bodyPost_ret (v:=(.agg #[aa,ac,.bool false,.slice none 0 0])) (za6 _ _ _ rfl rfl L4 (by kernel_rfl)) rfl ⟨?_,hB⟩
 replace ab:=ab.kp ad
 exact ⟨_,_,_,_,rfl,by rw [← zu7 wa,← zu7 wb,← Rat.intCast_add];exact IsRat.int ab (by omega)⟩

set_option maxRecDepth 100000 in
set_option maxHeartbeats 1000000 in
theorem add_tf {k m:Nat} {u0 u1 u2 u3 v0 v1 v2 v3:Value} {a b:Rat} {w:World} (ha:IsRat w k u0 u1 u2 u3 a) (hb:IsRat w m v0 v1 v2 v3 b) (_hk:k+m≤100000) (wa:a.den=1) (wb:b.den≠1):
    Calls Tryz.prog 46 #[(.agg #[u0,u1,u2,u3]),(.agg #[v0,v1,v2,v3])] w fun e w'=>(∃ c0 c1 c2 c3,e=.returned (.agg #[c0,c1,c2,c3])∧IsRat w' (k+m+1) c0 c1 c2 c3 (a+b))∧Gr w w':=by
 have hka:=ha.big
 have hkb:=hb.big
 go_enter Tryz.func46,Tryz.ntmps46
 have hB:=Gr.refl w
 refine wp_seq_k (fun K1 k1=>?_)
 refine rg [0,1,2] ?_
 refine se ?_
 refine eb 33 #[u0,u1,u2,u3] 2 hB fun b2 w2 g2 L2 o2 q2 hB=>?_
 simp only [p3,p4]
 refine se ?_
 refine eb 33 #[v0,v1,v2,v3] 3 hB fun b3 w3 g3 L3 o3 q3 hB=>?_
 simp only [p3,p4]
 refine se ?_
 refine ea 33 #[.bool false,.slice none 0 0,.bool false,.slice none 0 0] 4 hB fun b4 w4 g4 L4 o4 q4 hB=>?_
 replace L2:=L2.gr g3
 have al:=L2.ne o4
 have ap:=L3.ne o4
 simp only [p3,p4]
 refine za0 ?_
 refine k1 _ _ ?_
 try clear k1 K1
 refine wp_seq_k (fun K5 k5=>?_)
 refine wp_seq_k (fun K6 k6=>?_)
 refine rg [0,1,2,3,4,5] ?_
 replace L2:=L2.gr g4
 refine sw 5 (.agg #[u0,u1,u2,u3]) rfl (rl 33 0 [u0,u1,u2,u3] L2) ?_
 refine se ?_
 have aK:=g2.kp.trans (g3.kp.trans g4.kp)
 replace ha:=ha.kp aK
 refine ec 6 (zg0 ha (by omega) wa) ?_
 rintro e7 w7 ⟨rfl,g7⟩
 refine ⟨_,rfl,?_⟩
 replace hB:=hB.trans g7
 simp only [p3,p4]
 refine sv 7 (.bool true) ?_
 replace L3:=L3.gr (g4.trans g7)
 refine sw 8 (.agg #[v0,v1,v2,v3]) rfl (rl 33 0 [v0,v1,v2,v3] L3) ?_
 refine se ?_
 have az:=g2.kp.trans (g3.kp.trans (g4.kp.trans g7.kp))
 replace hb:=hb.kp az
 refine ec 9 (zj5 hb (by omega) wb) ?_
 rintro e9 w9 ⟨rfl,g9⟩
 refine ⟨_,rfl,?_⟩
 replace hB:=hB.trans g9
 simp only [p3,p4]
 refine sv 10 (.bool false) ?_
 refine za0 ?_
 refine k6 _ _ ?_
 try clear k6 K6
 refine wp_cond_false rfl ?_
 refine wp_skip ?_
 refine k5 _ _ ?_
 try clear k5 K5
 refine wp_seq_k (fun aM k11=>?_)
 have aa:=Gr.drew w9
 replace hB:=hB.trans aa
 replace L2:=L2.gr (g7.trans (g9.trans aa))
 replace L3:=L3.gr (g9.trans aa)
 refine za1 (fun w'=>Lc w' b2 #[u0,u1,u2,u3] 33∧Lc w' b3 #[v0,v1,v2,v3] 33) [(true,0),(true,1),(true,2),(true,5),(true,6),(true,7),(true,11),(true,13),(false,3),(false,4),(false,8),(false,9),(false,10),(false,12),(false,14),(false,15),(false,16),(false,17)] (by kernel_rfl) (by kernel_rfl) (by kernel_rfl) (by decide) (fun _ _ _ _ _ h=>h) ⟨L2,L3⟩ ?_
 refine ov 17 (.pointer (some ⟨b2,0,none⟩)) ?_
 refine ow 18 (.agg #[u0,u1]) rfl (fun w' hS=>(rl 31 0 [u0,u1] hS.1)) ?_
 refine ow 19 (.agg #[v0,v1,v2,v3]) rfl (fun w' hS=>(rl 33 0 [v0,v1,v2,v3] hS.2)) ?_
 refine ov 22 (.pointer (some ⟨b3,0,none⟩)) ?_
 refine ow 23 (.agg #[v0,v1]) rfl (fun w' hS=>(rl 31 0 [v0,v1] hS.2)) ?_
 refine ow 24 (.agg #[u0,u1,u2,u3]) rfl (fun w' hS=>(rl 33 0 [u0,u1,u2,u3] hS.1)) ?_
 refine ow 28 (.agg #[u0,u1,u2,u3]) rfl (fun w' hS=>(rl 33 0 [u0,u1,u2,u3] hS.1)) ?_
 refine ow 30 (.agg #[v0,v1,v2,v3]) rfl (fun w' hS=>(rl 33 0 [v0,v1,v2,v3] hS.2)) ?_
 refine oe ?_
 have aF:=g9.kp.trans aa.kp
 replace hb:=hb.kp aF
 refine ec 20 (ze1 hb) ?_
 rintro aS bc ⟨⟨a2,aU,rfl,aQ⟩,af⟩
 refine ⟨_,rfl,?_⟩
 replace hB:=hB.trans af
 replace L2:=L2.gr af
 replace L3:=L3.gr af
 refine ⟨⟨L2,L3⟩,?_⟩
 simp only [p3,p4]
 refine oe ?_
 have ay:=g7.kp.trans (g9.kp.trans (aa.kp.trans af.kp))
 replace ha:=ha.kp ay
 refine ec 21 (zf9 ha.num aQ (by omega)) ?_
 rintro a7 a1 ⟨⟨aT,a3,rfl,aJ⟩,aj⟩
 refine ⟨_,rfl,?_⟩
 replace hB:=hB.trans aj
 replace L2:=L2.gr aj
 replace L3:=L3.gr aj
 refine ⟨⟨L2,L3⟩,?_⟩
 simp only [p3,p4]
 refine oe ?_
 replace ha:=ha.kp aj.kp
 refine ec 25 (ze1 ha) ?_
 rintro bp bf ⟨⟨aV,a4,rfl,aN⟩,ad⟩
 refine ⟨_,rfl,?_⟩
 replace hB:=hB.trans ad
 replace L2:=L2.gr ad
 replace L3:=L3.gr ad
 refine ⟨⟨L2,L3⟩,?_⟩
 simp only [p3,p4]
 refine oe ?_
 have aE:=af.kp.trans (aj.kp.trans ad.kp)
 replace hb:=hb.kp aE
 refine ec 26 (zf9 hb.num aN (by omega)) ?_
 rintro bj bm ⟨⟨a0,aW,rfl,aP⟩,ab⟩
 refine ⟨_,rfl,?_⟩
 replace hB:=hB.trans ab
 replace L2:=L2.gr ab
 replace L3:=L3.gr ab
 refine ⟨⟨L2,L3⟩,?_⟩
 simp only [p3,p4]
 refine oe ?_
 have aG:=ad.kp.trans ab.kp
 replace aJ:=aJ.kp aG
 refine ec 27 (add_e (k+m) aJ aP (by omega) (by omega) (by omega)) ?_
 rintro bo bh ⟨⟨bd,bk,rfl,aH⟩,ah⟩
 refine ⟨_,rfl,?_⟩
 replace hB:=hB.trans ah
 replace L2:=L2.gr ah
 replace L3:=L3.gr ah
 refine ⟨⟨L2,L3⟩,?_⟩
 simp only [p3,p4]
 refine oe ?_
 have aI:=ad.kp.trans (ab.kp.trans ah.kp)
 replace ha:=ha.kp aI
 refine ec 29 (ze1 ha) ?_
 rintro aR bt ⟨⟨bn,ba,rfl,aD⟩,ai⟩
 refine ⟨_,rfl,?_⟩
 replace hB:=hB.trans ai
 replace L2:=L2.gr ai
 replace L3:=L3.gr ai
 refine ⟨⟨L2,L3⟩,?_⟩
 simp only [p3,p4]
 refine oe ?_
 have aC:=ab.kp.trans (ah.kp.trans ai.kp)
 replace hb:=hb.kp aC
 refine ec 31 (ze1 hb) ?_
 rintro aZ bg ⟨⟨a5,a8,rfl,aO⟩,ae⟩
 refine ⟨_,rfl,?_⟩
 replace hB:=hB.trans ae
 replace L2:=L2.gr ae
 replace L3:=L3.gr ae
 refine ⟨⟨L2,L3⟩,?_⟩
 simp only [p3,p4]
 refine oe ?_
 replace aD:=aD.kp ae.kp
 refine ec 32 (zf9 aD aO (by omega)) ?_
 rintro a6 bb ⟨⟨bq,aX,rfl,aL⟩,ak⟩
 refine ⟨_,rfl,?_⟩
 replace hB:=hB.trans ak
 replace L2:=L2.gr ak
 replace L3:=L3.gr ak
 refine ⟨⟨L2,L3⟩,?_⟩
 simp only [p3,p4]
 refine oe ?_
 have aB:=ai.kp.trans (ae.kp.trans ak.kp)
 replace aH:=aH.kp aB
 refine ec 33 (zg1 ((k+m+1)) aH aL (Int.mul_pos (Int.natCast_pos.2 a.den_pos) (Int.natCast_pos.2 b.den_pos)) (by omega) (by omega) (by omega) (by omega)) ?_
 rintro bi aY ⟨⟨aw,av,au,ar,rfl,ac⟩,ax⟩
 refine ⟨_,rfl,?_⟩
 replace hB:=hB.trans ax
 replace L2:=L2.gr ax
 replace L3:=L3.gr ax
 refine ⟨⟨L2,L3⟩,?_⟩
 simp only [p3,p4]
 refine oe ?_
 replace L4:=L4.gr (g7.trans (g9.trans (aa.trans (af.trans (aj.trans (ad.trans (ab.trans (ah.trans (ai.trans (ae.trans (ak.trans ax)))))))))))
 refine es 33 0 (.agg #[aw,av,au,ar]) [aw,av,au,ar] #[aw,av,au,ar] L4 hB q4 ⟨ac.one0,ac.one1,ac.one2,ac.one3,trivial⟩ fun a9 aq aA L4 hB=>?_
 replace L2:=aq.lc L2 al
 replace L3:=aq.lc L3 ap
 refine ⟨⟨L2,L3⟩,?_⟩
 refine za2 ?_
 refine k11 _ _ ?_
 try clear k11 aM
 refine wp_ret ?_
 refine bodyPost_ret (v:=(.agg #[aw,av,au,ar])) (za6 _ _ _ rfl rfl L4 (by kernel_rfl)) rfl ⟨?_,hB⟩
 replace ac:=ac.kp aA
 exact ⟨_,_,_,_,rfl,by rw [← zI0];exact ac⟩

set_option maxRecDepth 100000 in
set_option maxHeartbeats 1000000 in
theorem add_f {k m:Nat} {u0 u1 u2 u3 v0 v1 v2 v3:Value} {a b:Rat} {w:World} (ha:IsRat w k u0 u1 u2 u3 a) (hb:IsRat w m v0 v1 v2 v3 b) (_hk:k+m≤100000) (wa:a.den≠1):
    Calls Tryz.prog 46 #[(.agg #[u0,u1,u2,u3]),(.agg #[v0,v1,v2,v3])] w fun e w'=>(∃ c0 c1 c2 c3,e=.returned (.agg #[c0,c1,c2,c3])∧IsRat w' (k+m+1) c0 c1 c2 c3 (a+b))∧Gr w w':=by
 have hka:=ha.big
 have hkb:=hb.big
 go_enter Tryz.func46,Tryz.ntmps46
 have hB:=Gr.refl w
 refine wp_seq_k (fun K1 k1=>?_)
 refine rg [0,1,2] ?_
 refine se ?_
 refine eb 33 #[u0,u1,u2,u3] 2 hB fun b2 w2 g2 L2 o2 q2 hB=>?_
 simp only [p3,p4]
 refine se ?_
 refine eb 33 #[v0,v1,v2,v3] 3 hB fun b3 w3 g3 L3 o3 q3 hB=>?_
 simp only [p3,p4]
 refine se ?_
 refine ea 33 #[.bool false,.slice none 0 0,.bool false,.slice none 0 0] 4 hB fun b4 w4 g4 L4 o4 q4 hB=>?_
 replace L2:=L2.gr g3
 have ap:=L2.ne o4
 have aq:=L3.ne o4
 simp only [p3,p4]
 refine za0 ?_
 refine k1 _ _ ?_
 try clear k1 K1
 refine wp_seq_k (fun K5 k5=>?_)
 refine wp_seq_k (fun K6 k6=>?_)
 refine rg [0,1,2,3,4,5] ?_
 replace L2:=L2.gr g4
 refine sw 5 (.agg #[u0,u1,u2,u3]) rfl (rl 33 0 [u0,u1,u2,u3] L2) ?_
 refine se ?_
 have aJ:=g2.kp.trans (g3.kp.trans g4.kp)
 replace ha:=ha.kp aJ
 refine ec 6 (zj5 ha (by omega) wa) ?_
 rintro e7 w7 ⟨rfl,g7⟩
 refine ⟨_,rfl,?_⟩
 replace hB:=hB.trans g7
 simp only [p3,p4]
 refine sv 7 (.bool false) ?_
 refine ss 8 ?_
 refine ss 9 ?_
 refine sv 10 (.bool false) ?_
 refine za0 ?_
 refine k6 _ _ ?_
 try clear k6 K6
 refine wp_cond_false rfl ?_
 refine wp_skip ?_
 refine k5 _ _ ?_
 try clear k5 K5
 refine wp_seq_k (fun K9 k9=>?_)
 have aa:=Gr.drew w7
 replace hB:=hB.trans aa
 replace L2:=L2.gr (g7.trans aa)
 replace L3:=L3.gr (g4.trans (g7.trans aa))
 refine za1 (fun w'=>Lc w' b2 #[u0,u1,u2,u3] 33∧Lc w' b3 #[v0,v1,v2,v3] 33) [(true,0),(true,1),(true,2),(true,5),(true,6),(true,7),(true,11),(true,13),(false,3),(false,4),(false,8),(false,9),(false,10),(false,12),(false,14),(false,15),(false,16),(false,17)] (by kernel_rfl) (by kernel_rfl) (by kernel_rfl) (by decide) (fun _ _ _ _ _ h=>h) ⟨L2,L3⟩ ?_
 refine ov 17 (.pointer (some ⟨b2,0,none⟩)) ?_
 refine ow 18 (.agg #[u0,u1]) rfl (fun w' hS=>(rl 31 0 [u0,u1] hS.1)) ?_
 refine ow 19 (.agg #[v0,v1,v2,v3]) rfl (fun w' hS=>(rl 33 0 [v0,v1,v2,v3] hS.2)) ?_
 refine ov 22 (.pointer (some ⟨b3,0,none⟩)) ?_
 refine ow 23 (.agg #[v0,v1]) rfl (fun w' hS=>(rl 31 0 [v0,v1] hS.2)) ?_
 refine ow 24 (.agg #[u0,u1,u2,u3]) rfl (fun w' hS=>(rl 33 0 [u0,u1,u2,u3] hS.1)) ?_
 refine ow 28 (.agg #[u0,u1,u2,u3]) rfl (fun w' hS=>(rl 33 0 [u0,u1,u2,u3] hS.1)) ?_
 refine ow 30 (.agg #[v0,v1,v2,v3]) rfl (fun w' hS=>(rl 33 0 [v0,v1,v2,v3] hS.2)) ?_
 refine oe ?_
 have aD:=g2.kp.trans (g3.kp.trans (g4.kp.trans (g7.kp.trans aa.kp)))
 replace hb:=hb.kp aD
 refine ec 20 (ze1 hb) ?_
 rintro aW bn ⟨⟨aP,aS,rfl,aK⟩,ae⟩
 refine ⟨_,rfl,?_⟩
 replace hB:=hB.trans ae
 replace L2:=L2.gr ae
 replace L3:=L3.gr ae
 refine ⟨⟨L2,L3⟩,?_⟩
 simp only [p3,p4]
 refine oe ?_
 have aG:=g7.kp.trans (aa.kp.trans ae.kp)
 replace ha:=ha.kp aG
 refine ec 21 (zf9 ha.num aK (by omega)) ?_
 rintro a0 a9 ⟨⟨bj,a1,rfl,aE⟩,af⟩
 refine ⟨_,rfl,?_⟩
 replace hB:=hB.trans af
 replace L2:=L2.gr af
 replace L3:=L3.gr af
 refine ⟨⟨L2,L3⟩,?_⟩
 simp only [p3,p4]
 refine oe ?_
 replace ha:=ha.kp af.kp
 refine ec 25 (ze1 ha) ?_
 rintro a7 ba ⟨⟨aY,aR,rfl,aN⟩,ac⟩
 refine ⟨_,rfl,?_⟩
 replace hB:=hB.trans ac
 replace L2:=L2.gr ac
 replace L3:=L3.gr ac
 refine ⟨⟨L2,L3⟩,?_⟩
 simp only [p3,p4]
 refine oe ?_
 have ay:=ae.kp.trans (af.kp.trans ac.kp)
 replace hb:=hb.kp ay
 refine ec 26 (zf9 hb.num aN (by omega)) ?_
 rintro bp bd ⟨⟨aU,a4,rfl,aL⟩,ad⟩
 refine ⟨_,rfl,?_⟩
 replace hB:=hB.trans ad
 replace L2:=L2.gr ad
 replace L3:=L3.gr ad
 refine ⟨⟨L2,L3⟩,?_⟩
 simp only [p3,p4]
 refine oe ?_
 have aA:=ac.kp.trans ad.kp
 replace aE:=aE.kp aA
 refine ec 27 (add_e (k+m) aE aL (by omega) (by omega) (by omega)) ?_
 rintro bg aZ ⟨⟨bk,bb,rfl,az⟩,ai⟩
 refine ⟨_,rfl,?_⟩
 replace hB:=hB.trans ai
 replace L2:=L2.gr ai
 replace L3:=L3.gr ai
 refine ⟨⟨L2,L3⟩,?_⟩
 simp only [p3,p4]
 refine oe ?_
 have aB:=ac.kp.trans (ad.kp.trans ai.kp)
 replace ha:=ha.kp aB
 refine ec 29 (ze1 ha) ?_
 rintro bm aQ ⟨⟨a6,aX,rfl,aH⟩,ah⟩
 refine ⟨_,rfl,?_⟩
 replace hB:=hB.trans ah
 replace L2:=L2.gr ah
 replace L3:=L3.gr ah
 refine ⟨⟨L2,L3⟩,?_⟩
 simp only [p3,p4]
 refine oe ?_
 have aI:=ad.kp.trans (ai.kp.trans ah.kp)
 replace hb:=hb.kp aI
 refine ec 31 (ze1 hb) ?_
 rintro a5 bi ⟨⟨bh,aV,rfl,aM⟩,aj⟩
 refine ⟨_,rfl,?_⟩
 replace hB:=hB.trans aj
 replace L2:=L2.gr aj
 replace L3:=L3.gr aj
 refine ⟨⟨L2,L3⟩,?_⟩
 simp only [p3,p4]
 refine oe ?_
 replace aH:=aH.kp aj.kp
 refine ec 32 (zf9 aH aM (by omega)) ?_
 rintro a3 a2 ⟨⟨aT,bf,rfl,aO⟩,al⟩
 refine ⟨_,rfl,?_⟩
 replace hB:=hB.trans al
 replace L2:=L2.gr al
 replace L3:=L3.gr al
 refine ⟨⟨L2,L3⟩,?_⟩
 simp only [p3,p4]
 refine oe ?_
 have aF:=ah.kp.trans (aj.kp.trans al.kp)
 replace az:=az.kp aF
 refine ec 33 (zg1 ((k+m+1)) az aO (Int.mul_pos (Int.natCast_pos.2 a.den_pos) (Int.natCast_pos.2 b.den_pos)) (by omega) (by omega) (by omega) (by omega)) ?_
 rintro a8 bc ⟨⟨au,aw,ar,ax,rfl,ab⟩,av⟩
 refine ⟨_,rfl,?_⟩
 replace hB:=hB.trans av
 replace L2:=L2.gr av
 replace L3:=L3.gr av
 refine ⟨⟨L2,L3⟩,?_⟩
 simp only [p3,p4]
 refine oe ?_
 replace L4:=L4.gr (g7.trans (aa.trans (ae.trans (af.trans (ac.trans (ad.trans (ai.trans (ah.trans (aj.trans (al.trans av))))))))))
 refine es 33 0 (.agg #[au,aw,ar,ax]) [au,aw,ar,ax] #[au,aw,ar,ax] L4 hB q4 ⟨ab.one0,ab.one1,ab.one2,ab.one3,trivial⟩ fun bo ak aC L4 hB=>?_
 replace L2:=ak.lc L2 ap
 replace L3:=ak.lc L3 aq
 refine ⟨⟨L2,L3⟩,?_⟩
 refine za2 ?_
 refine k9 _ _ ?_
 try clear k9 K9
 refine wp_ret ?_
 refine bodyPost_ret (v:=(.agg #[au,aw,ar,ax])) (za6 _ _ _ rfl rfl L4 (by kernel_rfl)) rfl ⟨?_,hB⟩
 replace ab:=ab.kp aC
 exact ⟨_,_,_,_,rfl,by rw [← zI0];exact ab⟩

theorem zw9 {k m:Nat} {u0 u1 u2 u3 v0 v1 v2 v3:Value} {a b:Rat} {w:World} (ha:IsRat w k u0 u1 u2 u3 a) (hb:IsRat w m v0 v1 v2 v3 b) (hk:k+m≤100000):
  Calls Tryz.prog 46 #[.agg #[u0,u1,u2,u3],.agg #[v0,v1,v2,v3]] w fun e w'=>(∃ c0 c1 c2 c3,e=.returned (.agg #[c0,c1,c2,c3])∧IsRat w' (k+m+1) c0 c1 c2 c3 (a+b))∧Gr w w':=by
 by_cases wa:a.den=1
 ·by_cases wb:b.den=1
  ·exact add_tt ha hb hk wa wb
  ·exact add_tf ha hb hk wa wb
 ·exact add_f ha hb hk wa

set_option maxRecDepth 100000 in
set_option maxHeartbeats 1000000 in
theorem mul_tt {k m:Nat} {u0 u1 u2 u3 v0 v1 v2 v3:Value} {a b:Rat} {w:World} (ha:IsRat w k u0 u1 u2 u3 a) (hb:IsRat w m v0 v1 v2 v3 b) (_hk:k+m≤100000) (wa:a.den=1) (wb:b.den=1):
    Calls Tryz.prog 53 #[(.agg #[u0,u1,u2,u3]),(.agg #[v0,v1,v2,v3])] w fun e w'=>(∃ c0 c1 c2 c3,e=.returned (.agg #[c0,c1,c2,c3])∧IsRat w' (k+m) c0 c1 c2 c3 (a*b))∧Gr w w':=by
 have hka:=ha.big
 have hkb:=hb.big
 go_enter Tryz.func53,Tryz.ntmps53
 have hB:=Gr.refl w
 refine wp_seq_k (fun K1 k1=>?_)
 refine rg [0,1,2] ?_
 refine se ?_
 refine eb 33 #[u0,u1,u2,u3] 2 hB fun b2 w2 g2 L2 o2 q2 hB=>?_
 simp only [p3,p4]
 refine se ?_
 refine eb 33 #[v0,v1,v2,v3] 3 hB fun b3 w3 g3 L3 o3 q3 hB=>?_
 simp only [p3,p4]
 refine se ?_
 refine ea 33 #[.bool false,.slice none 0 0,.bool false,.slice none 0 0] 4 hB fun b4 w4 g4 L4 o4 q4 hB=>?_
 replace L2:=L2.gr g3
 simp only [p3,p4]
 refine za0 ?_
 refine k1 _ _ ?_
 try clear k1 K1
 refine wp_seq_k (fun K5 k5=>?_)
 refine wp_seq_k (fun K6 k6=>?_)
 refine rg [0,1,2,3,4,5] ?_
 replace L2:=L2.gr g4
 refine sw 5 (.agg #[u0,u1,u2,u3]) rfl (rl 33 0 [u0,u1,u2,u3] L2) ?_
 refine se ?_
 have ai:=g2.kp.trans (g3.kp.trans g4.kp)
 replace ha:=ha.kp ai
 refine ec 6 (zg0 ha (by omega) wa) ?_
 rintro e7 w7 ⟨rfl,g7⟩
 refine ⟨_,rfl,?_⟩
 replace hB:=hB.trans g7
 simp only [p3,p4]
 refine sv 7 (.bool true) ?_
 replace L3:=L3.gr (g4.trans g7)
 refine sw 8 (.agg #[v0,v1,v2,v3]) rfl (rl 33 0 [v0,v1,v2,v3] L3) ?_
 refine se ?_
 have ae:=g2.kp.trans (g3.kp.trans (g4.kp.trans g7.kp))
 replace hb:=hb.kp ae
 refine ec 9 (zg0 hb (by omega) wb) ?_
 rintro e9 w9 ⟨rfl,g9⟩
 refine ⟨_,rfl,?_⟩
 replace hB:=hB.trans g9
 simp only [p3,p4]
 refine sv 10 (.bool true) ?_
 refine za0 ?_
 refine k6 _ _ ?_
 try clear k6 K6
 refine wp_cond_true rfl ?_
 refine wp_seq_k (fun ak k11=>?_)
 refine rg [0,1,2,3,4,5,6] ?_
 refine sv 11 (.pointer (some ⟨b2,0,none⟩)) ?_
 replace L2:=L2.gr (g7.trans g9)
 refine sw 12 (.agg #[u0,u1]) rfl (rl 31 0 [u0,u1] L2) ?_
 refine sv 13 (.pointer (some ⟨b3,0,none⟩)) ?_
 replace L3:=L3.gr g9
 refine sw 14 (.agg #[v0,v1]) rfl (rl 31 0 [v0,v1] L3) ?_
 refine se ?_
 have af:=g7.kp.trans g9.kp
 replace ha:=ha.kp af
 replace hb:=hb.kp g9.kp
 refine ec 15 (zf9 ha.num hb.num (by omega)) ?_
 rintro e12 al ⟨⟨aa,ac,rfl,ab⟩,ah⟩
 refine ⟨_,rfl,?_⟩
 replace hB:=hB.trans ah
 simp only [p3,p4]
 refine sv 16 (.agg #[aa,ac,.bool false,.slice none 0 0]) ?_
 refine se ?_
 replace L4:=L4.gr (g7.trans (g9.trans ah))
 refine es 33 0 (.agg #[aa,ac,.bool false,.slice none 0 0]) [aa,ac,.bool false,.slice none 0 0] #[aa,ac,.bool false,.slice none 0 0] L4 hB q4 ⟨ab.one0,ab.one1,rfl,rfl,trivial⟩ fun ap aj ad L4 hB=>?_
 refine za0 ?_
 refine k11 _ _ ?_
 try clear k11 ak
 refine wp_ret ?_
 simp only [Exit.then]
 refine bodyPost_ret (v:=(.agg #[aa,ac,.bool false,.slice none 0 0])) (za6 _ _ _ rfl rfl L4 (by kernel_rfl)) rfl ⟨?_,hB⟩
 replace ab:=ab.kp ad
 exact ⟨_,_,_,_,rfl,by rw [← zu7 wa,← zu7 wb,← Rat.intCast_mul];exact IsRat.int ab (by omega)⟩

set_option maxRecDepth 100000 in
set_option maxHeartbeats 1000000 in
theorem mul_tf {k m:Nat} {u0 u1 u2 u3 v0 v1 v2 v3:Value} {a b:Rat} {w:World} (ha:IsRat w k u0 u1 u2 u3 a) (hb:IsRat w m v0 v1 v2 v3 b) (_hk:k+m≤100000) (wa:a.den=1) (wb:b.den≠1):
    Calls Tryz.prog 53 #[(.agg #[u0,u1,u2,u3]),(.agg #[v0,v1,v2,v3])] w fun e w'=>(∃ c0 c1 c2 c3,e=.returned (.agg #[c0,c1,c2,c3])∧IsRat w' (k+m) c0 c1 c2 c3 (a*b))∧Gr w w':=by
 have hka:=ha.big
 have hkb:=hb.big
 go_enter Tryz.func53,Tryz.ntmps53
 have hB:=Gr.refl w
 refine wp_seq_k (fun K1 k1=>?_)
 refine rg [0,1,2] ?_
 refine se ?_
 refine eb 33 #[u0,u1,u2,u3] 2 hB fun b2 w2 g2 L2 o2 q2 hB=>?_
 simp only [p3,p4]
 refine se ?_
 refine eb 33 #[v0,v1,v2,v3] 3 hB fun b3 w3 g3 L3 o3 q3 hB=>?_
 simp only [p3,p4]
 refine se ?_
 refine ea 33 #[.bool false,.slice none 0 0,.bool false,.slice none 0 0] 4 hB fun b4 w4 g4 L4 o4 q4 hB=>?_
 replace L2:=L2.gr g3
 have ai:=L2.ne o4
 have aj:=L3.ne o4
 simp only [p3,p4]
 refine za0 ?_
 refine k1 _ _ ?_
 try clear k1 K1
 refine wp_seq_k (fun K5 k5=>?_)
 refine wp_seq_k (fun K6 k6=>?_)
 refine rg [0,1,2,3,4,5] ?_
 replace L2:=L2.gr g4
 refine sw 5 (.agg #[u0,u1,u2,u3]) rfl (rl 33 0 [u0,u1,u2,u3] L2) ?_
 refine se ?_
 have aC:=g2.kp.trans (g3.kp.trans g4.kp)
 replace ha:=ha.kp aC
 refine ec 6 (zg0 ha (by omega) wa) ?_
 rintro e7 w7 ⟨rfl,g7⟩
 refine ⟨_,rfl,?_⟩
 replace hB:=hB.trans g7
 simp only [p3,p4]
 refine sv 7 (.bool true) ?_
 replace L3:=L3.gr (g4.trans g7)
 refine sw 8 (.agg #[v0,v1,v2,v3]) rfl (rl 33 0 [v0,v1,v2,v3] L3) ?_
 refine se ?_
 have au:=g2.kp.trans (g3.kp.trans (g4.kp.trans g7.kp))
 replace hb:=hb.kp au
 refine ec 9 (zj5 hb (by omega) wb) ?_
 rintro e9 w9 ⟨rfl,g9⟩
 refine ⟨_,rfl,?_⟩
 replace hB:=hB.trans g9
 simp only [p3,p4]
 refine sv 10 (.bool false) ?_
 refine za0 ?_
 refine k6 _ _ ?_
 try clear k6 K6
 refine wp_cond_false rfl ?_
 refine wp_skip ?_
 refine k5 _ _ ?_
 try clear k5 K5
 refine wp_seq_k (fun aD k11=>?_)
 have aa:=Gr.drew w9
 replace hB:=hB.trans aa
 replace L2:=L2.gr (g7.trans (g9.trans aa))
 replace L3:=L3.gr (g9.trans aa)
 refine za1 (fun w'=>Lc w' b2 #[u0,u1,u2,u3] 33∧Lc w' b3 #[v0,v1,v2,v3] 33) [(true,0),(true,1),(true,2),(true,3),(true,5),(true,7),(false,4),(false,6),(false,8),(false,9),(false,10),(false,11)] (by kernel_rfl) (by kernel_rfl) (by kernel_rfl) (by decide) (fun _ _ _ _ _ h=>h) ⟨L2,L3⟩ ?_
 refine ov 17 (.pointer (some ⟨b2,0,none⟩)) ?_
 refine ow 18 (.agg #[u0,u1]) rfl (fun w' hS=>(rl 31 0 [u0,u1] hS.1)) ?_
 refine ov 19 (.pointer (some ⟨b3,0,none⟩)) ?_
 refine ow 20 (.agg #[v0,v1]) rfl (fun w' hS=>(rl 31 0 [v0,v1] hS.2)) ?_
 refine ow 22 (.agg #[u0,u1,u2,u3]) rfl (fun w' hS=>(rl 33 0 [u0,u1,u2,u3] hS.1)) ?_
 refine ow 24 (.agg #[v0,v1,v2,v3]) rfl (fun w' hS=>(rl 33 0 [v0,v1,v2,v3] hS.2)) ?_
 refine oe ?_
 have aA:=g7.kp.trans (g9.kp.trans aa.kp)
 replace ha:=ha.kp aA
 have ax:=g9.kp.trans aa.kp
 replace hb:=hb.kp ax
 refine ec 21 (zf9 ha.num hb.num (by omega)) ?_
 rintro e31 aR ⟨⟨aP,aN,rfl,av⟩,ad⟩
 refine ⟨_,rfl,?_⟩
 replace hB:=hB.trans ad
 replace L2:=L2.gr ad
 replace L3:=L3.gr ad
 refine ⟨⟨L2,L3⟩,?_⟩
 simp only [p3,p4]
 refine oe ?_
 replace ha:=ha.kp ad.kp
 refine ec 23 (ze1 ha) ?_
 rintro aS aW ⟨⟨aO,aV,rfl,aw⟩,ac⟩
 refine ⟨_,rfl,?_⟩
 replace hB:=hB.trans ac
 replace L2:=L2.gr ac
 replace L3:=L3.gr ac
 refine ⟨⟨L2,L3⟩,?_⟩
 simp only [p3,p4]
 refine oe ?_
 have az:=ad.kp.trans ac.kp
 replace hb:=hb.kp az
 refine ec 25 (ze1 hb) ?_
 rintro aJ aL ⟨⟨aU,aK,rfl,aF⟩,ae⟩
 refine ⟨_,rfl,?_⟩
 replace hB:=hB.trans ae
 replace L2:=L2.gr ae
 replace L3:=L3.gr ae
 refine ⟨⟨L2,L3⟩,?_⟩
 simp only [p3,p4]
 refine oe ?_
 replace aw:=aw.kp ae.kp
 refine ec 26 (zf9 aw aF (by omega)) ?_
 rintro aM aX ⟨⟨aG,aI,rfl,aE⟩,af⟩
 refine ⟨_,rfl,?_⟩
 replace hB:=hB.trans af
 replace L2:=L2.gr af
 replace L3:=L3.gr af
 refine ⟨⟨L2,L3⟩,?_⟩
 simp only [p3,p4]
 refine oe ?_
 have ay:=ac.kp.trans (ae.kp.trans af.kp)
 replace av:=av.kp ay
 refine ec 27 (zg1 ((k+m)) av aE (Int.mul_pos (Int.natCast_pos.2 a.den_pos) (Int.natCast_pos.2 b.den_pos)) (by omega) (by omega) (by omega) (by omega)) ?_
 rintro aH aT ⟨⟨ap,aq,ar,ak,rfl,ab⟩,al⟩
 refine ⟨_,rfl,?_⟩
 replace hB:=hB.trans al
 replace L2:=L2.gr al
 replace L3:=L3.gr al
 refine ⟨⟨L2,L3⟩,?_⟩
 simp only [p3,p4]
 refine oe ?_
 replace L4:=L4.gr (g7.trans (g9.trans (aa.trans (ad.trans (ac.trans (ae.trans (af.trans al)))))))
 refine es 33 0 (.agg #[ap,aq,ar,ak]) [ap,aq,ar,ak] #[ap,aq,ar,ak] L4 hB q4 ⟨ab.one0,ab.one1,ab.one2,ab.one3,trivial⟩ fun aQ ah aB L4 hB=>?_
 replace L2:=ah.lc L2 ai
 replace L3:=ah.lc L3 aj
 refine ⟨⟨L2,L3⟩,?_⟩
 refine za2 ?_
 refine k11 _ _ ?_
 try clear k11 aD
 refine wp_ret ?_
 refine bodyPost_ret (v:=(.agg #[ap,aq,ar,ak])) (za6 _ _ _ rfl rfl L4 (by kernel_rfl)) rfl ⟨?_,hB⟩
 replace ab:=ab.kp aB
 exact ⟨_,_,_,_,rfl,by rw [← zI1];exact ab⟩

set_option maxRecDepth 100000 in
set_option maxHeartbeats 1000000 in
theorem mul_f {k m:Nat} {u0 u1 u2 u3 v0 v1 v2 v3:Value} {a b:Rat} {w:World} (ha:IsRat w k u0 u1 u2 u3 a) (hb:IsRat w m v0 v1 v2 v3 b) (_hk:k+m≤100000) (wa:a.den≠1):
    Calls Tryz.prog 53 #[(.agg #[u0,u1,u2,u3]),(.agg #[v0,v1,v2,v3])] w fun e w'=>(∃ c0 c1 c2 c3,e=.returned (.agg #[c0,c1,c2,c3])∧IsRat w' (k+m) c0 c1 c2 c3 (a*b))∧Gr w w':=by
 have hka:=ha.big
 have hkb:=hb.big
 go_enter Tryz.func53,Tryz.ntmps53
 have hB:=Gr.refl w
 refine wp_seq_k (fun K1 k1=>?_)
 refine rg [0,1,2] ?_
 refine se ?_
 refine eb 33 #[u0,u1,u2,u3] 2 hB fun b2 w2 g2 L2 o2 q2 hB=>?_
 simp only [p3,p4]
 refine se ?_
 refine eb 33 #[v0,v1,v2,v3] 3 hB fun b3 w3 g3 L3 o3 q3 hB=>?_
 simp only [p3,p4]
 refine se ?_
 refine ea 33 #[.bool false,.slice none 0 0,.bool false,.slice none 0 0] 4 hB fun b4 w4 g4 L4 o4 q4 hB=>?_
 replace L2:=L2.gr g3
 have ai:=L2.ne o4
 have aj:=L3.ne o4
 simp only [p3,p4]
 refine za0 ?_
 refine k1 _ _ ?_
 try clear k1 K1
 refine wp_seq_k (fun K5 k5=>?_)
 refine wp_seq_k (fun K6 k6=>?_)
 refine rg [0,1,2,3,4,5] ?_
 replace L2:=L2.gr g4
 refine sw 5 (.agg #[u0,u1,u2,u3]) rfl (rl 33 0 [u0,u1,u2,u3] L2) ?_
 refine se ?_
 have aB:=g2.kp.trans (g3.kp.trans g4.kp)
 replace ha:=ha.kp aB
 refine ec 6 (zj5 ha (by omega) wa) ?_
 rintro e7 w7 ⟨rfl,g7⟩
 refine ⟨_,rfl,?_⟩
 replace hB:=hB.trans g7
 simp only [p3,p4]
 refine sv 7 (.bool false) ?_
 refine ss 8 ?_
 refine ss 9 ?_
 refine sv 10 (.bool false) ?_
 refine za0 ?_
 refine k6 _ _ ?_
 try clear k6 K6
 refine wp_cond_false rfl ?_
 refine wp_skip ?_
 refine k5 _ _ ?_
 try clear k5 K5
 refine wp_seq_k (fun K9 k9=>?_)
 have aa:=Gr.drew w7
 replace hB:=hB.trans aa
 replace L2:=L2.gr (g7.trans aa)
 replace L3:=L3.gr (g4.trans (g7.trans aa))
 refine za1 (fun w'=>Lc w' b2 #[u0,u1,u2,u3] 33∧Lc w' b3 #[v0,v1,v2,v3] 33) [(true,0),(true,1),(true,2),(true,3),(true,5),(true,7),(false,4),(false,6),(false,8),(false,9),(false,10),(false,11)] (by kernel_rfl) (by kernel_rfl) (by kernel_rfl) (by decide) (fun _ _ _ _ _ h=>h) ⟨L2,L3⟩ ?_
 refine ov 17 (.pointer (some ⟨b2,0,none⟩)) ?_
 refine ow 18 (.agg #[u0,u1]) rfl (fun w' hS=>(rl 31 0 [u0,u1] hS.1)) ?_
 refine ov 19 (.pointer (some ⟨b3,0,none⟩)) ?_
 refine ow 20 (.agg #[v0,v1]) rfl (fun w' hS=>(rl 31 0 [v0,v1] hS.2)) ?_
 refine ow 22 (.agg #[u0,u1,u2,u3]) rfl (fun w' hS=>(rl 33 0 [u0,u1,u2,u3] hS.1)) ?_
 refine ow 24 (.agg #[v0,v1,v2,v3]) rfl (fun w' hS=>(rl 33 0 [v0,v1,v2,v3] hS.2)) ?_
 refine oe ?_
 have au:=g7.kp.trans aa.kp
 replace ha:=ha.kp au
 have az:=g2.kp.trans (g3.kp.trans (g4.kp.trans (g7.kp.trans aa.kp)))
 replace hb:=hb.kp az
 refine ec 21 (zf9 ha.num hb.num (by omega)) ?_
 rintro aG aV ⟨⟨aF,aE,rfl,av⟩,ae⟩
 refine ⟨_,rfl,?_⟩
 replace hB:=hB.trans ae
 replace L2:=L2.gr ae
 replace L3:=L3.gr ae
 refine ⟨⟨L2,L3⟩,?_⟩
 simp only [p3,p4]
 refine oe ?_
 replace ha:=ha.kp ae.kp
 refine ec 23 (ze1 ha) ?_
 rintro e33 aO ⟨⟨aK,aN,rfl,ax⟩,ac⟩
 refine ⟨_,rfl,?_⟩
 replace hB:=hB.trans ac
 replace L2:=L2.gr ac
 replace L3:=L3.gr ac
 refine ⟨⟨L2,L3⟩,?_⟩
 simp only [p3,p4]
 refine oe ?_
 have ay:=ae.kp.trans ac.kp
 replace hb:=hb.kp ay
 refine ec 25 (ze1 hb) ?_
 rintro aP aT ⟨⟨aI,aS,rfl,aC⟩,ad⟩
 refine ⟨_,rfl,?_⟩
 replace hB:=hB.trans ad
 replace L2:=L2.gr ad
 replace L3:=L3.gr ad
 refine ⟨⟨L2,L3⟩,?_⟩
 simp only [p3,p4]
 refine oe ?_
 replace ax:=ax.kp ad.kp
 refine ec 26 (zf9 ax aC (by omega)) ?_
 rintro aR aJ ⟨⟨aQ,aL,rfl,aD⟩,ah⟩
 refine ⟨_,rfl,?_⟩
 replace hB:=hB.trans ah
 replace L2:=L2.gr ah
 replace L3:=L3.gr ah
 refine ⟨⟨L2,L3⟩,?_⟩
 simp only [p3,p4]
 refine oe ?_
 have aw:=ac.kp.trans (ad.kp.trans ah.kp)
 replace av:=av.kp aw
 refine ec 27 (zg1 ((k+m)) av aD (Int.mul_pos (Int.natCast_pos.2 a.den_pos) (Int.natCast_pos.2 b.den_pos)) (by omega) (by omega) (by omega) (by omega)) ?_
 rintro aH aU ⟨⟨al,ap,aq,ar,rfl,ab⟩,ak⟩
 refine ⟨_,rfl,?_⟩
 replace hB:=hB.trans ak
 replace L2:=L2.gr ak
 replace L3:=L3.gr ak
 refine ⟨⟨L2,L3⟩,?_⟩
 simp only [p3,p4]
 refine oe ?_
 replace L4:=L4.gr (g7.trans (aa.trans (ae.trans (ac.trans (ad.trans (ah.trans ak))))))
 refine es 33 0 (.agg #[al,ap,aq,ar]) [al,ap,aq,ar] #[al,ap,aq,ar] L4 hB q4 ⟨ab.one0,ab.one1,ab.one2,ab.one3,trivial⟩ fun aM af aA L4 hB=>?_
 replace L2:=af.lc L2 ai
 replace L3:=af.lc L3 aj
 refine ⟨⟨L2,L3⟩,?_⟩
 refine za2 ?_
 refine k9 _ _ ?_
 try clear k9 K9
 refine wp_ret ?_
 refine bodyPost_ret (v:=(.agg #[al,ap,aq,ar])) (za6 _ _ _ rfl rfl L4 (by kernel_rfl)) rfl ⟨?_,hB⟩
 replace ab:=ab.kp aA
 exact ⟨_,_,_,_,rfl,by rw [← zI1];exact ab⟩

theorem zm7 {k m:Nat} {u0 u1 u2 u3 v0 v1 v2 v3:Value} {a b:Rat} {w:World} (ha:IsRat w k u0 u1 u2 u3 a) (hb:IsRat w m v0 v1 v2 v3 b) (hk:k+m≤100000):
  Calls Tryz.prog 53 #[.agg #[u0,u1,u2,u3],.agg #[v0,v1,v2,v3]] w fun e w'=>(∃ c0 c1 c2 c3,e=.returned (.agg #[c0,c1,c2,c3])∧IsRat w' (k+m) c0 c1 c2 c3 (a*b))∧Gr w w':=by
 by_cases wa:a.den=1
 ·by_cases wb:b.den=1
  ·exact mul_tt ha hb hk wa wb
  ·exact mul_tf ha hb hk wa wb
 ·exact mul_f ha hb hk wa

set_option maxRecDepth 100000 in
set_option maxHeartbeats 1000000 in
theorem neg_r {k:Nat} {u0 u1 u2 u3:Value} {a:Rat} {w:World} (ha:IsRat w k u0 u1 u2 u3 a):
    Calls Tryz.prog 89 #[(.agg #[u0,u1,u2,u3])] w fun e w'=>(∃ c0 c1 c2 c3,e=.returned (.agg #[c0,c1,c2,c3])∧IsRat w' k c0 c1 c2 c3 (-a))∧Gr w w':=by
 go_enter Tryz.func89,Tryz.ntmps89
 have hB:=Gr.refl w
 refine wp_seq_k (fun K1 k1=>?_)
 refine rg [0,1] ?_
 refine se ?_
 refine eb 33 #[u0,u1,u2,u3] 1 hB fun b2 w2 g2 L2 o2 q2 hB=>?_
 simp only [p3,p4]
 refine se ?_
 refine ea 33 #[.bool false,.slice none 0 0,.bool false,.slice none 0 0] 2 hB fun b3 w3 g3 L3 o3 q3 hB=>?_
 have ab:=L2.ne o3
 simp only [p3,p4]
 refine za0 ?_
 refine k1 _ _ ?_
 try clear k1 K1
 refine wp_seq_k (fun K4 k4=>?_)
 have aa:=Gr.drew w3
 replace hB:=hB.trans aa
 replace L2:=L2.gr (g3.trans aa)
 refine za1 (fun w'=>Lc w' b2 #[u0,u1,u2,u3] 33) [(true,0),(true,1),(true,3),(true,4),(false,2),(true,5),(false,6)] (by kernel_rfl) (by kernel_rfl) (by kernel_rfl) (by decide) (fun _ _ _ _ _ h=>h) L2 ?_
 refine ov 3 (.pointer (some ⟨b2,0,none⟩)) ?_
 refine ow 4 (.agg #[u0,u1]) rfl (fun w' hS=>(rl 31 0 [u0,u1] hS)) ?_
 refine ov 6 (.pointer (some ⟨b2,2,none⟩)) ?_
 refine ow 7 (.agg #[u2,u3]) rfl (fun w' hS=>(rl 31 2 [u2,u3] hS)) ?_
 refine oe ?_
 have ak:=g2.kp.trans (g3.kp.trans aa.kp)
 replace ha:=ha.kp ak
 refine ec 5 (zQ2 ha.num) ?_
 rintro e13 al ⟨⟨af,ae,rfl,ad⟩,ah⟩
 refine ⟨_,rfl,?_⟩
 replace hB:=hB.trans ah
 replace L2:=L2.gr ah
 refine ⟨L2,?_⟩
 simp only [p3,p4]
 refine ov 8 (.agg #[af,ae,u2,u3]) ?_
 refine oe ?_
 replace L3:=L3.gr (aa.trans ah)
 refine es 33 0 (.agg #[af,ae,u2,u3]) [af,ae,u2,u3] #[af,ae,u2,u3] L3 hB q3 ⟨ad.one0,ad.one1,ha.one2,ha.one3,trivial⟩ fun ap ai ac L3 hB=>?_
 replace L2:=ai.lc L2 ab
 refine ⟨L2,?_⟩
 refine za2 ?_
 refine k4 _ _ ?_
 try clear k4 K4
 refine wp_ret ?_
 refine bodyPost_ret (v:=(.agg #[af,ae,u2,u3])) (za6 _ _ _ rfl rfl L3 (by kernel_rfl)) rfl ⟨?_,hB⟩
 have aj:=ah.kp.trans ac
 replace ha:=ha.kp aj
 replace ad:=ad.kp ac
 exact ⟨_,_,_,_,rfl,IsRat.neg ha ad⟩

set_option maxRecDepth 100000 in
set_option maxHeartbeats 1000000 in
theorem zP9 {k m:Nat} {u0 u1 u2 u3 v0 v1 v2 v3:Value} {a b:Rat} {w:World} (ha:IsRat w k u0 u1 u2 u3 a) (hb:IsRat w m v0 v1 v2 v3 b) (_hk:k+m≤100000):
    Calls Tryz.prog 61 #[(.agg #[u0,u1,u2,u3]),(.agg #[v0,v1,v2,v3])] w fun e w'=>(∃ c0 c1 c2 c3,e=.returned (.agg #[c0,c1,c2,c3])∧IsRat w' (k+m+1) c0 c1 c2 c3 (a - b))∧Gr w w':=by
 go_enter Tryz.func61,Tryz.ntmps61
 have hB:=Gr.refl w
 refine wp_seq_k (fun K1 k1=>?_)
 refine rg [0,1,2] ?_
 refine se ?_
 refine eb 33 #[u0,u1,u2,u3] 2 hB fun b2 w2 g2 L2 o2 q2 hB=>?_
 simp only [p3,p4]
 refine se ?_
 refine eb 33 #[v0,v1,v2,v3] 3 hB fun b3 w3 g3 L3 o3 q3 hB=>?_
 simp only [p3,p4]
 refine se ?_
 refine ea 33 #[.bool false,.slice none 0 0,.bool false,.slice none 0 0] 4 hB fun b4 w4 g4 L4 o4 q4 hB=>?_
 replace L2:=L2.gr g3
 have ad:=L2.ne o4
 have ae:=L3.ne o4
 simp only [p3,p4]
 refine za0 ?_
 refine k1 _ _ ?_
 try clear k1 K1
 refine wp_seq_k (fun K5 k5=>?_)
 have aa:=Gr.drew w4
 replace hB:=hB.trans aa
 replace L2:=L2.gr (g4.trans aa)
 replace L3:=L3.gr (g4.trans aa)
 refine za1 (fun w'=>Lc w' b2 #[u0,u1,u2,u3] 33∧Lc w' b3 #[v0,v1,v2,v3] 33) [(true,0),(true,1),(false,2),(false,3),(false,4)] (by kernel_rfl) (by kernel_rfl) (by kernel_rfl) (by decide) (fun _ _ _ _ _ h=>h) ⟨L2,L3⟩ ?_
 refine ow 5 (.agg #[u0,u1,u2,u3]) rfl (fun w' hS=>(rl 33 0 [u0,u1,u2,u3] hS.1)) ?_
 refine ow 6 (.agg #[v0,v1,v2,v3]) rfl (fun w' hS=>(rl 33 0 [v0,v1,v2,v3] hS.2)) ?_
 refine oe ?_
 have ar:=g2.kp.trans (g3.kp.trans (g4.kp.trans aa.kp))
 replace hb:=hb.kp ar
 refine ec 7 (neg_r hb) ?_
 rintro aw ax ⟨⟨aA,av,aD,ay,rfl,au⟩,af⟩
 refine ⟨_,rfl,?_⟩
 replace hB:=hB.trans af
 replace L2:=L2.gr af
 replace L3:=L3.gr af
 refine ⟨⟨L2,L3⟩,?_⟩
 simp only [p3,p4]
 refine oe ?_
 have ap:=g2.kp.trans (g3.kp.trans (g4.kp.trans (aa.kp.trans af.kp)))
 replace ha:=ha.kp ap
 refine ec 8 (zw9 ha au (by omega)) ?_
 rintro aC az ⟨⟨ai,ak,ah,al,rfl,ab⟩,aj⟩
 refine ⟨_,rfl,?_⟩
 replace hB:=hB.trans aj
 replace L2:=L2.gr aj
 replace L3:=L3.gr aj
 refine ⟨⟨L2,L3⟩,?_⟩
 simp only [p3,p4]
 refine oe ?_
 replace L4:=L4.gr (aa.trans (af.trans aj))
 refine es 33 0 (.agg #[ai,ak,ah,al]) [ai,ak,ah,al] #[ai,ak,ah,al] L4 hB q4 ⟨ab.one0,ab.one1,ab.one2,ab.one3,trivial⟩ fun aB ac aq L4 hB=>?_
 replace L2:=ac.lc L2 ad
 replace L3:=ac.lc L3 ae
 refine ⟨⟨L2,L3⟩,?_⟩
 refine za2 ?_
 refine k5 _ _ ?_
 try clear k5 K5
 refine wp_ret ?_
 refine bodyPost_ret (v:=(.agg #[ai,ak,ah,al])) (za6 _ _ _ rfl rfl L4 (by kernel_rfl)) rfl ⟨?_,hB⟩
 replace ab:=ab.kp aq
 exact ⟨_,_,_,_,rfl,by rw [Rat.sub_eq_add_neg];exact ab⟩

set_option maxRecDepth 100000 in
set_option maxHeartbeats 1000000 in
theorem num_r {k:Nat} {u0 u1 u2 u3:Value} {a:Rat} {w:World} (ha:IsRat w k u0 u1 u2 u3 a):
    Calls Tryz.prog 79 #[(.agg #[u0,u1,u2,u3])] w fun e w'=>(∃ x' y',e=.returned (.agg #[x',y'])∧IsInt w' k x' y' (a.num))∧Gr w w':=by
 go_enter Tryz.func79,Tryz.ntmps79
 have hB:=Gr.refl w
 refine wp_seq_k (fun K1 k1=>?_)
 refine rg [0,1] ?_
 refine se ?_
 refine eb 33 #[u0,u1,u2,u3] 1 hB fun b2 w2 g2 L2 o2 q2 hB=>?_
 simp only [p3,p4]
 refine se ?_
 refine ea 31 #[.bool false,.slice none 0 0] 2 hB fun b3 w3 g3 L3 o3 q3 hB=>?_
 simp only [p3,p4]
 refine za0 ?_
 refine k1 _ _ ?_
 try clear k1 K1
 refine wp_seq_k (fun K4 k4=>?_)
 refine rg [0,1,2] ?_
 refine sv 3 (.pointer (some ⟨b2,0,none⟩)) ?_
 replace L2:=L2.gr g3
 refine sw 4 (.agg #[u0,u1]) rfl (rl 31 0 [u0,u1] L2) ?_
 refine se ?_
 refine es 31 0 (.agg #[u0,u1]) [u0,u1] #[u0,u1] L3 hB q3 ⟨ha.one0,ha.one1,trivial⟩ fun w5 ac aa L3 hB=>?_
 refine za0 ?_
 refine k4 _ _ ?_
 try clear k4 K4
 refine wp_ret ?_
 refine bodyPost_ret (v:=(.agg #[u0,u1])) (za6 _ _ _ rfl rfl L3 (by kernel_rfl)) rfl ⟨?_,hB⟩
 have ab:=g2.kp.trans (g3.kp.trans aa)
 replace ha:=ha.kp ab
 exact ⟨_,_,rfl,ha.num⟩

set_option maxRecDepth 100000 in
set_option maxHeartbeats 1000000 in
theorem zD5 {k:Nat} {u0 u1 u2 u3:Value} {a:Rat} {w:World} (ha:IsRat w k u0 u1 u2 u3 a):
    Calls Tryz.prog 54 #[(.agg #[u0,u1,u2,u3])] w fun e w'=>e=.returned (.int .i64 (sgn a.num))∧Gr w w':=by
 go_enter Tryz.func54,Tryz.ntmps54
 have hB:=Gr.refl w
 refine wp_seq_k (fun K1 k1=>?_)
 refine rg [0,1] ?_
 refine se ?_
 refine eb 33 #[u0,u1,u2,u3] 1 hB fun b2 w2 g2 L2 o2 q2 hB=>?_
 simp only [p3,p4]
 refine sv 2 (.int .i64 0) ?_
 refine za0 ?_
 refine k1 _ _ ?_
 try clear k1 K1
 refine wp_seq_k (fun K3 k3=>?_)
 refine rg [0,1,2,3] ?_
 refine sv 3 (.pointer (some ⟨b2,0,none⟩)) ?_
 refine sw 4 (.agg #[u0,u1]) rfl (rl 31 0 [u0,u1] L2) ?_
 refine se ?_
 replace ha:=ha.kp g2.kp
 refine ec 5 (zL7 ha.num) ?_
 rintro e4 w4 ⟨rfl,g4⟩
 refine ⟨_,rfl,?_⟩
 replace hB:=hB.trans g4
 simp only [p3,p4]
 refine sv 2 (.int .i64 (sgn (a.num))) ?_
 refine za0 ?_
 refine k3 _ _ ?_
 try clear k3 K3
 refine wp_ret ?_
 refine bodyPost_ret (v:=(.int .i64 (sgn (a.num)))) (zb6 rfl rfl) rfl ⟨?_,hB⟩
 exact rfl

set_option maxRecDepth 100000 in
set_option maxHeartbeats 1000000 in
theorem zt1 (z:Int) (_h0:-9223372036854775808≤z) (_h1:z≤9223372036854775807) (w:World):
    Calls Tryz.prog 42 #[(.int .i64 (z))] w fun e w'=>(∃ c0 c1 c2 c3,e=.returned (.agg #[c0,c1,c2,c3])∧IsRat w' 64 c0 c1 c2 c3 ((z:Rat)))∧Gr w w':=by
 go_enter Tryz.func42,Tryz.ntmps42
 have hB:=Gr.refl w
 refine wp_seq_k (fun K1 k1=>?_)
 refine rg [0] ?_
 refine se ?_
 refine ea 33 #[.bool false,.slice none 0 0,.bool false,.slice none 0 0] 2 hB fun b2 w2 g2 L2 o2 q2 hB=>?_
 simp only [p3,p4]
 refine za0 ?_
 refine k1 _ _ ?_
 try clear k1 K1
 refine wp_seq_k (fun K3 k3=>?_)
 refine rg [0,1,2,3] ?_
 refine sv 3 (.int .i64 (z)) ?_
 refine se ?_
 refine ec 4 (zt3 (z) (by omega) (by omega) _) ?_
 rintro e4 w4 ⟨⟨x4,y4,rfl,h4⟩,g4⟩
 refine ⟨_,rfl,?_⟩
 replace hB:=hB.trans g4
 simp only [p3,p4]
 refine sv 5 (.agg #[x4,y4,.bool false,.slice none 0 0]) ?_
 refine se ?_
 replace L2:=L2.gr g4
 refine es 33 0 (.agg #[x4,y4,.bool false,.slice none 0 0]) [x4,y4,.bool false,.slice none 0 0] #[x4,y4,.bool false,.slice none 0 0] L2 hB q2 ⟨h4.one0,h4.one1,rfl,rfl,trivial⟩ fun w5 ab aa L2 hB=>?_
 refine za0 ?_
 refine k3 _ _ ?_
 try clear k3 K3
 refine wp_ret ?_
 refine bodyPost_ret (v:=(.agg #[x4,y4,.bool false,.slice none 0 0])) (za6 _ _ _ rfl rfl L2 (by kernel_rfl)) rfl ⟨?_,hB⟩
 replace h4:=h4.kp aa
 exact ⟨_,_,_,_,rfl,IsRat.int h4 (by omega)⟩

set_option maxRecDepth 100000 in
set_option maxHeartbeats 1000000 in
theorem make_r {k m:Nat} (K:Nat) {n0 n1 d0 d1:Value} {N D:Int} {w:World} (hn:IsInt w k n0 n1 N) (hd:IsInt w m d0 d1 D) (h0:0<D) (_h1:k≤K) (_h2:m≤K) (_h3:64≤K) (_h4:8*K≤1000000):
    Calls Tryz.prog 78 #[(.agg #[n0,n1]),(.agg #[d0,d1])] w fun e w'=>(∃ c0 c1 c2 c3,e=.returned (.tuple #[.agg #[c0,c1,c2,c3],.int .i64 0])∧IsRat w' K c0 c1 c2 c3 (Rat.divInt N D))∧Gr w w':=by
 go_enter Tryz.func78,Tryz.ntmps78
 have hB:=Gr.refl w
 refine wp_seq_k (fun K1 k1=>?_)
 refine rg [0,1,2,3] ?_
 refine se ?_
 refine eb 31 #[n0,n1] 2 hB fun b2 w2 g2 L2 o2 q2 hB=>?_
 simp only [p3,p4]
 refine se ?_
 refine eb 31 #[d0,d1] 3 hB fun b3 w3 g3 L3 o3 q3 hB=>?_
 simp only [p3,p4]
 refine se ?_
 refine ea 33 #[.bool false,.slice none 0 0,.bool false,.slice none 0 0] 4 hB fun b4 w4 g4 L4 o4 q4 hB=>?_
 replace L2:=L2.gr g3
 simp only [p3,p4]
 refine sv 5 (.int .i64 0) ?_
 refine za0 ?_
 refine k1 _ _ ?_
 try clear k1 K1
 refine wp_seq_k (fun K5 k5=>?_)
 refine wp_seq_k (fun K6 k6=>?_)
 refine rg [0,1,2] ?_
 replace L3:=L3.gr g4
 refine sw 6 (.agg #[d0,d1]) rfl (rl 31 0 [d0,d1] L3) ?_
 refine se ?_
 have aj:=g2.kp.trans (g3.kp.trans g4.kp)
 replace hd:=hd.kp aj
 refine ec 7 (zf2 hd (by omega)) ?_
 rintro e7 w7 ⟨rfl,g7⟩
 refine ⟨_,rfl,?_⟩
 replace hB:=hB.trans g7
 simp only [p3,p4]
 refine sv 8 (.bool false) ?_
 refine za0 ?_
 refine k6 _ _ ?_
 try clear k6 K6
 refine wp_cond_false rfl ?_
 refine wp_skip ?_
 refine k5 _ _ ?_
 try clear k5 K5
 refine wp_seq_k (fun K9 k9=>?_)
 refine rg [0,1,2,3,4] ?_
 replace L2:=L2.gr (g4.trans g7)
 refine sw 10 (.agg #[n0,n1]) rfl (rl 31 0 [n0,n1] L2) ?_
 replace L3:=L3.gr g7
 refine sw 11 (.agg #[d0,d1]) rfl (rl 31 0 [d0,d1] L3) ?_
 refine se ?_
 have af:=g2.kp.trans (g3.kp.trans (g4.kp.trans g7.kp))
 replace hn:=hn.kp af
 replace hd:=hd.kp g7.kp
 refine ec 12 (zg1 (K) hn hd h0 (by omega) (by omega) (by omega) (by omega)) ?_
 rintro al aq ⟨⟨ae,ab,ac,ad,rfl,aa⟩,ai⟩
 refine ⟨_,rfl,?_⟩
 replace hB:=hB.trans ai
 simp only [p3,p4]
 refine se ?_
 replace L4:=L4.gr (g7.trans ai)
 refine es 33 0 (.agg #[ae,ab,ac,ad]) [ae,ab,ac,ad] #[ae,ab,ac,ad] L4 hB q4 ⟨aa.one0,aa.one1,aa.one2,aa.one3,trivial⟩ fun ap ak ah L4 hB=>?_
 refine sv 5 (.int .i64 0) ?_
 refine za0 ?_
 refine k9 _ _ ?_
 try clear k9 K9
 refine wp_ret ?_
 refine bodyPost_ret (v:=(.tuple #[(.agg #[ae,ab,ac,ad]),.int .i64 0])) (za9 _ _ _ rfl rfl L4 (by kernel_rfl) rfl) rfl ⟨?_,hB⟩
 replace aa:=aa.kp ah
 exact ⟨_,_,_,_,rfl,aa⟩

theorem sign_rp {k:Nat} {u0 u1 u2 u3:Value} {a:Rat} {w:World} (ha:IsRat w k u0 u1 u2 u3 a) (h:0<a.num):
  Calls Tryz.prog 54 #[.agg #[u0,u1,u2,u3]] w fun e w'=>e=.returned (.int .i64 1)∧Gr w w':=by
 have:=zD5 ha
 rw [zo9 h] at this
 exact this

set_option maxRecDepth 100000 in
set_option maxHeartbeats 1000000 in
theorem div_r {k m:Nat} {u0 u1 u2 u3 v0 v1 v2 v3:Value} {a b:Rat} {w:World} (ha:IsRat w k u0 u1 u2 u3 a) (hb:IsRat w m v0 v1 v2 v3 b) (_hk:k+m≤100000) (h0:0<b.num):
    Calls Tryz.prog 41 #[(.agg #[u0,u1,u2,u3]),(.agg #[v0,v1,v2,v3])] w fun e w'=>(∃ c0 c1 c2 c3,e=.returned (.tuple #[.agg #[c0,c1,c2,c3],.int .i64 0])∧IsRat w' (k+m) c0 c1 c2 c3 (a/b))∧Gr w w':=by
 have hka:=ha.big
 have hkb:=hb.big
 go_enter Tryz.func41,Tryz.ntmps41
 have hB:=Gr.refl w
 refine wp_seq_k (fun K1 k1=>?_)
 refine rg [0,1,2,3] ?_
 refine se ?_
 refine eb 33 #[u0,u1,u2,u3] 2 hB fun b2 w2 g2 L2 o2 q2 hB=>?_
 simp only [p3,p4]
 refine se ?_
 refine eb 33 #[v0,v1,v2,v3] 3 hB fun b3 w3 g3 L3 o3 q3 hB=>?_
 simp only [p3,p4]
 refine se ?_
 refine ea 33 #[.bool false,.slice none 0 0,.bool false,.slice none 0 0] 4 hB fun b4 w4 g4 L4 o4 q4 hB=>?_
 replace L2:=L2.gr g3
 have ah:=L2.ne o4
 have ai:=L3.ne o4
 simp only [p3,p4]
 refine sv 5 (.int .i64 0) ?_
 refine za0 ?_
 refine k1 _ _ ?_
 try clear k1 K1
 refine wp_seq_k (fun K5 k5=>?_)
 refine wp_seq_k (fun K6 k6=>?_)
 refine rg [0,1,2] ?_
 replace L3:=L3.gr g4
 refine sw 6 (.agg #[v0,v1,v2,v3]) rfl (rl 33 0 [v0,v1,v2,v3] L3) ?_
 refine se ?_
 have aA:=g2.kp.trans (g3.kp.trans g4.kp)
 replace hb:=hb.kp aA
 refine ec 7 (sign_rp hb h0) ?_
 rintro e7 w7 ⟨rfl,g7⟩
 refine ⟨_,rfl,?_⟩
 replace hB:=hB.trans g7
 simp only [p3,p4]
 refine sv 8 (.bool false) ?_
 refine za0 ?_
 refine k6 _ _ ?_
 try clear k6 K6
 refine wp_cond_false rfl ?_
 refine wp_skip ?_
 refine k5 _ _ ?_
 try clear k5 K5
 refine wp_seq_k (fun K9 k9=>?_)
 have aa:=Gr.drew w7
 replace hB:=hB.trans aa
 replace L2:=L2.gr (g4.trans (g7.trans aa))
 replace L3:=L3.gr (g7.trans aa)
 refine za1 (fun w'=>Lc w' b2 #[u0,u1,u2,u3] 33∧Lc w' b3 #[v0,v1,v2,v3] 33) [(true,0),(true,1),(true,2),(true,5),(true,7),(true,8),(false,3),(false,4),(false,6),(false,9),(false,10),(false,11),(true,12)] (by kernel_rfl) (by kernel_rfl) (by kernel_rfl) (by decide) (fun _ _ _ _ _ h=>h) ⟨L2,L3⟩ ?_
 refine ov 10 (.pointer (some ⟨b2,0,none⟩)) ?_
 refine ow 11 (.agg #[u0,u1]) rfl (fun w' hS=>(rl 31 0 [u0,u1] hS.1)) ?_
 refine ow 12 (.agg #[v0,v1,v2,v3]) rfl (fun w' hS=>(rl 33 0 [v0,v1,v2,v3] hS.2)) ?_
 refine ow 15 (.agg #[u0,u1,u2,u3]) rfl (fun w' hS=>(rl 33 0 [u0,u1,u2,u3] hS.1)) ?_
 refine ov 17 (.pointer (some ⟨b3,0,none⟩)) ?_
 refine ow 18 (.agg #[v0,v1]) rfl (fun w' hS=>(rl 31 0 [v0,v1] hS.2)) ?_
 refine oe ?_
 have au:=g7.kp.trans aa.kp
 replace hb:=hb.kp au
 refine ec 13 (ze1 hb) ?_
 rintro aK aV ⟨⟨aJ,aE,rfl,aB⟩,ad⟩
 refine ⟨_,rfl,?_⟩
 replace hB:=hB.trans ad
 replace L2:=L2.gr ad
 replace L3:=L3.gr ad
 refine ⟨⟨L2,L3⟩,?_⟩
 simp only [p3,p4]
 refine oe ?_
 have av:=g2.kp.trans (g3.kp.trans (g4.kp.trans (g7.kp.trans (aa.kp.trans ad.kp))))
 replace ha:=ha.kp av
 refine ec 14 (zf9 ha.num aB (by omega)) ?_
 rintro e32 aQ ⟨⟨aF,aR,rfl,ay⟩,ae⟩
 refine ⟨_,rfl,?_⟩
 replace hB:=hB.trans ae
 replace L2:=L2.gr ae
 replace L3:=L3.gr ae
 refine ⟨⟨L2,L3⟩,?_⟩
 simp only [p3,p4]
 refine oe ?_
 replace ha:=ha.kp ae.kp
 refine ec 16 (ze1 ha) ?_
 rintro aO aT ⟨⟨aM,aS,rfl,aC⟩,ac⟩
 refine ⟨_,rfl,?_⟩
 replace hB:=hB.trans ac
 replace L2:=L2.gr ac
 replace L3:=L3.gr ac
 refine ⟨⟨L2,L3⟩,?_⟩
 simp only [p3,p4]
 refine oe ?_
 have aw:=ad.kp.trans (ae.kp.trans ac.kp)
 replace hb:=hb.kp aw
 refine ec 19 (zf9 aC hb.num (by omega)) ?_
 rintro aG aI ⟨⟨aP,aH,rfl,aD⟩,aj⟩
 refine ⟨_,rfl,?_⟩
 replace hB:=hB.trans aj
 replace L2:=L2.gr aj
 replace L3:=L3.gr aj
 refine ⟨⟨L2,L3⟩,?_⟩
 simp only [p3,p4]
 refine oe ?_
 have ax:=ac.kp.trans aj.kp
 replace ay:=ay.kp ax
 refine ec 20 (zg1 ((k+m)) ay aD (Int.mul_pos (Int.natCast_pos.2 a.den_pos) h0) (by omega) (by omega) (by omega) (by omega)) ?_
 rintro aL aU ⟨⟨al,ap,aq,ar,rfl,ab⟩,ak⟩
 refine ⟨_,rfl,?_⟩
 replace hB:=hB.trans ak
 replace L2:=L2.gr ak
 replace L3:=L3.gr ak
 refine ⟨⟨L2,L3⟩,?_⟩
 simp only [p3,p4]
 refine oe ?_
 replace L4:=L4.gr (g7.trans (aa.trans (ad.trans (ae.trans (ac.trans (aj.trans ak))))))
 refine es 33 0 (.agg #[al,ap,aq,ar]) [al,ap,aq,ar] #[al,ap,aq,ar] L4 hB q4 ⟨ab.one0,ab.one1,ab.one2,ab.one3,trivial⟩ fun aN af az L4 hB=>?_
 replace L2:=af.lc L2 ah
 replace L3:=af.lc L3 ai
 refine ⟨⟨L2,L3⟩,?_⟩
 refine ov 5 (.int .i64 0) ?_
 refine za2 ?_
 refine k9 _ _ ?_
 try clear k9 K9
 refine wp_ret ?_
 refine bodyPost_ret (v:=(.tuple #[(.agg #[al,ap,aq,ar]),.int .i64 0])) (za9 _ _ _ rfl rfl L4 (by kernel_rfl) rfl) rfl ⟨?_,hB⟩
 replace ab:=ab.kp az
 exact ⟨_,_,_,_,rfl,by rw [← zI2];exact ab⟩

set_option maxRecDepth 100000 in
set_option maxHeartbeats 1000000 in
theorem rcomp_tt {k m:Nat} {u0 u1 u2 u3 v0 v1 v2 v3:Value} {a b:Rat} {w:World} (ha:IsRat w k u0 u1 u2 u3 a) (hb:IsRat w m v0 v1 v2 v3 b) (_hk:k+m≤100000) (wa:a.den=1) (wb:b.den=1):
    Calls Tryz.prog 45 #[(.agg #[u0,u1,u2,u3]),(.agg #[v0,v1,v2,v3])] w fun e w'=>e=.returned (.int .i64 (zc0 a b))∧Gr w w':=by
 have hka:=ha.big
 have hkb:=hb.big
 go_enter Tryz.func45,Tryz.ntmps45
 have hB:=Gr.refl w
 refine wp_seq_k (fun K1 k1=>?_)
 refine rg [0,1,2] ?_
 refine se ?_
 refine eb 33 #[u0,u1,u2,u3] 2 hB fun b2 w2 g2 L2 o2 q2 hB=>?_
 simp only [p3,p4]
 refine se ?_
 refine eb 33 #[v0,v1,v2,v3] 3 hB fun b3 w3 g3 L3 o3 q3 hB=>?_
 simp only [p3,p4]
 refine sv 4 (.int .i64 0) ?_
 refine za0 ?_
 refine k1 _ _ ?_
 try clear k1 K1
 refine wp_seq_k (fun K4 k4=>?_)
 refine wp_seq_k (fun K5 k5=>?_)
 refine rg [0,1,2,3,4,5] ?_
 replace L2:=L2.gr g3
 refine sw 5 (.agg #[u0,u1,u2,u3]) rfl (rl 33 0 [u0,u1,u2,u3] L2) ?_
 refine se ?_
 have ac:=g2.kp.trans g3.kp
 replace ha:=ha.kp ac
 refine ec 6 (zg0 ha (by omega) wa) ?_
 rintro e6 w6 ⟨rfl,g6⟩
 refine ⟨_,rfl,?_⟩
 replace hB:=hB.trans g6
 simp only [p3,p4]
 refine sv 7 (.bool true) ?_
 replace L3:=L3.gr g6
 refine sw 8 (.agg #[v0,v1,v2,v3]) rfl (rl 33 0 [v0,v1,v2,v3] L3) ?_
 refine se ?_
 have af:=g2.kp.trans (g3.kp.trans g6.kp)
 replace hb:=hb.kp af
 refine ec 9 (zg0 hb (by omega) wb) ?_
 rintro e8 w8 ⟨rfl,g8⟩
 refine ⟨_,rfl,?_⟩
 replace hB:=hB.trans g8
 simp only [p3,p4]
 refine sv 10 (.bool true) ?_
 refine za0 ?_
 refine k5 _ _ ?_
 try clear k5 K5
 refine wp_cond_true rfl ?_
 refine wp_seq_k (fun ae ab=>?_)
 refine rg [0,1,2,3,4,5] ?_
 refine sv 11 (.pointer (some ⟨b2,0,none⟩)) ?_
 replace L2:=L2.gr (g6.trans g8)
 refine sw 12 (.agg #[u0,u1]) rfl (rl 31 0 [u0,u1] L2) ?_
 refine sv 13 (.pointer (some ⟨b3,0,none⟩)) ?_
 replace L3:=L3.gr g8
 refine sw 14 (.agg #[v0,v1]) rfl (rl 31 0 [v0,v1] L3) ?_
 refine se ?_
 have aa:=g6.kp.trans g8.kp
 replace ha:=ha.kp aa
 replace hb:=hb.kp g8.kp
 refine ec 15 (zd4 ha.num hb.num (by omega) (by omega)) ?_
 rintro e11 ah ⟨rfl,ad⟩
 refine ⟨_,rfl,?_⟩
 replace hB:=hB.trans ad
 simp only [p3,p4]
 refine sv 4 (.int .i64 (sgn (a.num - b.num))) ?_
 refine za0 ?_
 refine ab _ _ ?_
 try clear ab ae
 refine wp_ret ?_
 simp only [Exit.then]
 refine bodyPost_ret (v:=(.int .i64 (sgn (a.num - b.num)))) (zb6 rfl rfl) rfl ⟨?_,hB⟩
 exact by rw [rcmp_int wa wb]

set_option maxRecDepth 100000 in
set_option maxHeartbeats 1000000 in
theorem rcomp_tf {k m:Nat} {u0 u1 u2 u3 v0 v1 v2 v3:Value} {a b:Rat} {w:World} (ha:IsRat w k u0 u1 u2 u3 a) (hb:IsRat w m v0 v1 v2 v3 b) (_hk:k+m≤100000) (wa:a.den=1) (wb:b.den≠1):
    Calls Tryz.prog 45 #[(.agg #[u0,u1,u2,u3]),(.agg #[v0,v1,v2,v3])] w fun e w'=>e=.returned (.int .i64 (zc0 a b))∧Gr w w':=by
 have hka:=ha.big
 have hkb:=hb.big
 go_enter Tryz.func45,Tryz.ntmps45
 have hB:=Gr.refl w
 refine wp_seq_k (fun K1 k1=>?_)
 refine rg [0,1,2] ?_
 refine se ?_
 refine eb 33 #[u0,u1,u2,u3] 2 hB fun b2 w2 g2 L2 o2 q2 hB=>?_
 simp only [p3,p4]
 refine se ?_
 refine eb 33 #[v0,v1,v2,v3] 3 hB fun b3 w3 g3 L3 o3 q3 hB=>?_
 simp only [p3,p4]
 refine sv 4 (.int .i64 0) ?_
 refine za0 ?_
 refine k1 _ _ ?_
 try clear k1 K1
 refine wp_seq_k (fun K4 k4=>?_)
 refine wp_seq_k (fun K5 k5=>?_)
 refine rg [0,1,2,3,4,5] ?_
 replace L2:=L2.gr g3
 refine sw 5 (.agg #[u0,u1,u2,u3]) rfl (rl 33 0 [u0,u1,u2,u3] L2) ?_
 refine se ?_
 have aq:=g2.kp.trans g3.kp
 replace ha:=ha.kp aq
 refine ec 6 (zg0 ha (by omega) wa) ?_
 rintro e6 w6 ⟨rfl,g6⟩
 refine ⟨_,rfl,?_⟩
 replace hB:=hB.trans g6
 simp only [p3,p4]
 refine sv 7 (.bool true) ?_
 replace L3:=L3.gr g6
 refine sw 8 (.agg #[v0,v1,v2,v3]) rfl (rl 33 0 [v0,v1,v2,v3] L3) ?_
 refine se ?_
 have av:=g2.kp.trans (g3.kp.trans g6.kp)
 replace hb:=hb.kp av
 refine ec 9 (zj5 hb (by omega) wb) ?_
 rintro e8 w8 ⟨rfl,g8⟩
 refine ⟨_,rfl,?_⟩
 replace hB:=hB.trans g8
 simp only [p3,p4]
 refine sv 10 (.bool false) ?_
 refine za0 ?_
 refine k5 _ _ ?_
 try clear k5 K5
 refine wp_cond_false rfl ?_
 refine wp_skip ?_
 refine k4 _ _ ?_
 try clear k4 K4
 refine wp_seq_k (fun ar ap=>?_)
 have aa:=Gr.drew w8
 replace hB:=hB.trans aa
 replace L2:=L2.gr (g6.trans (g8.trans aa))
 replace L3:=L3.gr (g8.trans aa)
 refine za1 (fun w'=>Lc w' b2 #[u0,u1,u2,u3] 33∧Lc w' b3 #[v0,v1,v2,v3] 33) [(true,0),(true,1),(true,2),(true,5),(true,6),(true,7),(false,3),(false,4),(false,8),(false,9),(false,10),(true,11)] (by kernel_rfl) (by kernel_rfl) (by kernel_rfl) (by decide) (fun _ _ _ _ _ h=>h) ⟨L2,L3⟩ ?_
 refine ov 16 (.pointer (some ⟨b2,0,none⟩)) ?_
 refine ow 17 (.agg #[u0,u1]) rfl (fun w' hS=>(rl 31 0 [u0,u1] hS.1)) ?_
 refine ow 18 (.agg #[v0,v1,v2,v3]) rfl (fun w' hS=>(rl 33 0 [v0,v1,v2,v3] hS.2)) ?_
 refine ov 21 (.pointer (some ⟨b3,0,none⟩)) ?_
 refine ow 22 (.agg #[v0,v1]) rfl (fun w' hS=>(rl 31 0 [v0,v1] hS.2)) ?_
 refine ow 23 (.agg #[u0,u1,u2,u3]) rfl (fun w' hS=>(rl 33 0 [u0,u1,u2,u3] hS.1)) ?_
 refine oe ?_
 have ai:=g8.kp.trans aa.kp
 replace hb:=hb.kp ai
 refine ec 19 (ze1 hb) ?_
 rintro aM aO ⟨⟨aL,ay,rfl,au⟩,ad⟩
 refine ⟨_,rfl,?_⟩
 replace hB:=hB.trans ad
 replace L2:=L2.gr ad
 replace L3:=L3.gr ad
 refine ⟨⟨L2,L3⟩,?_⟩
 simp only [p3,p4]
 refine oe ?_
 have al:=g6.kp.trans (g8.kp.trans (aa.kp.trans ad.kp))
 replace ha:=ha.kp al
 refine ec 20 (zf9 ha.num au (by omega)) ?_
 rintro e31 aK ⟨⟨aG,aB,rfl,af⟩,ac⟩
 refine ⟨_,rfl,?_⟩
 replace hB:=hB.trans ac
 replace L2:=L2.gr ac
 replace L3:=L3.gr ac
 refine ⟨⟨L2,L3⟩,?_⟩
 simp only [p3,p4]
 refine oe ?_
 replace ha:=ha.kp ac.kp
 refine ec 24 (ze1 ha) ?_
 rintro aJ aN ⟨⟨az,aD,rfl,aw⟩,ab⟩
 refine ⟨_,rfl,?_⟩
 replace hB:=hB.trans ab
 replace L2:=L2.gr ab
 replace L3:=L3.gr ab
 refine ⟨⟨L2,L3⟩,?_⟩
 simp only [p3,p4]
 refine oe ?_
 have ak:=ad.kp.trans (ac.kp.trans ab.kp)
 replace hb:=hb.kp ak
 refine ec 25 (zf9 hb.num aw (by omega)) ?_
 rintro aI aE ⟨⟨aC,aH,rfl,ax⟩,ae⟩
 refine ⟨_,rfl,?_⟩
 replace hB:=hB.trans ae
 replace L2:=L2.gr ae
 replace L3:=L3.gr ae
 refine ⟨⟨L2,L3⟩,?_⟩
 simp only [p3,p4]
 refine oe ?_
 have aj:=ab.kp.trans ae.kp
 replace af:=af.kp aj
 refine ec 26 (zd4 af ax (by omega) (by omega)) ?_
 rintro aA aF ⟨rfl,ah⟩
 refine ⟨_,rfl,?_⟩
 replace hB:=hB.trans ah
 replace L2:=L2.gr ah
 replace L3:=L3.gr ah
 refine ⟨⟨L2,L3⟩,?_⟩
 simp only [p3,p4]
 refine ov 4 (.int .i64 (sgn ((a.num*(b.den:Int)) - (b.num*(a.den:Int))))) ?_
 refine za2 ?_
 refine ap _ _ ?_
 try clear ap ar
 refine wp_ret ?_
 refine bodyPost_ret (v:=(.int .i64 (sgn ((a.num*(b.den:Int)) - (b.num*(a.den:Int)))))) (zb6 rfl rfl) rfl ⟨?_,hB⟩
 exact rfl

set_option maxRecDepth 100000 in
set_option maxHeartbeats 1000000 in
theorem rcomp_f {k m:Nat} {u0 u1 u2 u3 v0 v1 v2 v3:Value} {a b:Rat} {w:World} (ha:IsRat w k u0 u1 u2 u3 a) (hb:IsRat w m v0 v1 v2 v3 b) (_hk:k+m≤100000) (wa:a.den≠1):
    Calls Tryz.prog 45 #[(.agg #[u0,u1,u2,u3]),(.agg #[v0,v1,v2,v3])] w fun e w'=>e=.returned (.int .i64 (zc0 a b))∧Gr w w':=by
 have hka:=ha.big
 have hkb:=hb.big
 go_enter Tryz.func45,Tryz.ntmps45
 have hB:=Gr.refl w
 refine wp_seq_k (fun K1 k1=>?_)
 refine rg [0,1,2] ?_
 refine se ?_
 refine eb 33 #[u0,u1,u2,u3] 2 hB fun b2 w2 g2 L2 o2 q2 hB=>?_
 simp only [p3,p4]
 refine se ?_
 refine eb 33 #[v0,v1,v2,v3] 3 hB fun b3 w3 g3 L3 o3 q3 hB=>?_
 simp only [p3,p4]
 refine sv 4 (.int .i64 0) ?_
 refine za0 ?_
 refine k1 _ _ ?_
 try clear k1 K1
 refine wp_seq_k (fun K4 k4=>?_)
 refine wp_seq_k (fun K5 k5=>?_)
 refine rg [0,1,2,3,4,5] ?_
 replace L2:=L2.gr g3
 refine sw 5 (.agg #[u0,u1,u2,u3]) rfl (rl 33 0 [u0,u1,u2,u3] L2) ?_
 refine se ?_
 have ap:=g2.kp.trans g3.kp
 replace ha:=ha.kp ap
 refine ec 6 (zj5 ha (by omega) wa) ?_
 rintro e6 w6 ⟨rfl,g6⟩
 refine ⟨_,rfl,?_⟩
 replace hB:=hB.trans g6
 simp only [p3,p4]
 refine sv 7 (.bool false) ?_
 refine ss 8 ?_
 refine ss 9 ?_
 refine sv 10 (.bool false) ?_
 refine za0 ?_
 refine k5 _ _ ?_
 try clear k5 K5
 refine wp_cond_false rfl ?_
 refine wp_skip ?_
 refine k4 _ _ ?_
 try clear k4 K4
 refine wp_seq_k (fun K8 k8=>?_)
 have aa:=Gr.drew w6
 replace hB:=hB.trans aa
 replace L2:=L2.gr (g6.trans aa)
 replace L3:=L3.gr (g6.trans aa)
 refine za1 (fun w'=>Lc w' b2 #[u0,u1,u2,u3] 33∧Lc w' b3 #[v0,v1,v2,v3] 33) [(true,0),(true,1),(true,2),(true,5),(true,6),(true,7),(false,3),(false,4),(false,8),(false,9),(false,10),(true,11)] (by kernel_rfl) (by kernel_rfl) (by kernel_rfl) (by decide) (fun _ _ _ _ _ h=>h) ⟨L2,L3⟩ ?_
 refine ov 16 (.pointer (some ⟨b2,0,none⟩)) ?_
 refine ow 17 (.agg #[u0,u1]) rfl (fun w' hS=>(rl 31 0 [u0,u1] hS.1)) ?_
 refine ow 18 (.agg #[v0,v1,v2,v3]) rfl (fun w' hS=>(rl 33 0 [v0,v1,v2,v3] hS.2)) ?_
 refine ov 21 (.pointer (some ⟨b3,0,none⟩)) ?_
 refine ow 22 (.agg #[v0,v1]) rfl (fun w' hS=>(rl 31 0 [v0,v1] hS.2)) ?_
 refine ow 23 (.agg #[u0,u1,u2,u3]) rfl (fun w' hS=>(rl 33 0 [u0,u1,u2,u3] hS.1)) ?_
 refine oe ?_
 have ak:=g2.kp.trans (g3.kp.trans (g6.kp.trans aa.kp))
 replace hb:=hb.kp ak
 refine ec 19 (ze1 hb) ?_
 rintro av aw ⟨⟨aG,aF,rfl,aq⟩,ab⟩
 refine ⟨_,rfl,?_⟩
 replace hB:=hB.trans ab
 replace L2:=L2.gr ab
 replace L3:=L3.gr ab
 refine ⟨⟨L2,L3⟩,?_⟩
 simp only [p3,p4]
 refine oe ?_
 have ah:=g6.kp.trans (aa.kp.trans ab.kp)
 replace ha:=ha.kp ah
 refine ec 20 (zf9 ha.num aq (by omega)) ?_
 rintro aD aL ⟨⟨aB,ax,rfl,ai⟩,ac⟩
 refine ⟨_,rfl,?_⟩
 replace hB:=hB.trans ac
 replace L2:=L2.gr ac
 replace L3:=L3.gr ac
 refine ⟨⟨L2,L3⟩,?_⟩
 simp only [p3,p4]
 refine oe ?_
 replace ha:=ha.kp ac.kp
 refine ec 24 (ze1 ha) ?_
 rintro e32 aI ⟨⟨ay,aJ,rfl,au⟩,ad⟩
 refine ⟨_,rfl,?_⟩
 replace hB:=hB.trans ad
 replace L2:=L2.gr ad
 replace L3:=L3.gr ad
 refine ⟨⟨L2,L3⟩,?_⟩
 simp only [p3,p4]
 refine oe ?_
 have af:=ab.kp.trans (ac.kp.trans ad.kp)
 replace hb:=hb.kp af
 refine ec 25 (zf9 hb.num au (by omega)) ?_
 rintro aH aK ⟨⟨aC,aE,rfl,ar⟩,ae⟩
 refine ⟨_,rfl,?_⟩
 replace hB:=hB.trans ae
 replace L2:=L2.gr ae
 replace L3:=L3.gr ae
 refine ⟨⟨L2,L3⟩,?_⟩
 simp only [p3,p4]
 refine oe ?_
 have aj:=ad.kp.trans ae.kp
 replace ai:=ai.kp aj
 refine ec 26 (zd4 ai ar (by omega) (by omega)) ?_
 rintro az aA ⟨rfl,al⟩
 refine ⟨_,rfl,?_⟩
 replace hB:=hB.trans al
 replace L2:=L2.gr al
 replace L3:=L3.gr al
 refine ⟨⟨L2,L3⟩,?_⟩
 simp only [p3,p4]
 refine ov 4 (.int .i64 (sgn ((a.num*(b.den:Int)) - (b.num*(a.den:Int))))) ?_
 refine za2 ?_
 refine k8 _ _ ?_
 try clear k8 K8
 refine wp_ret ?_
 refine bodyPost_ret (v:=(.int .i64 (sgn ((a.num*(b.den:Int)) - (b.num*(a.den:Int)))))) (zb6 rfl rfl) rfl ⟨?_,hB⟩
 exact rfl

theorem zd3 {k m:Nat} {u0 u1 u2 u3 v0 v1 v2 v3:Value} {a b:Rat} {w:World} (ha:IsRat w k u0 u1 u2 u3 a) (hb:IsRat w m v0 v1 v2 v3 b) (hk:k+m≤100000):
  Calls Tryz.prog 45 #[.agg #[u0,u1,u2,u3],.agg #[v0,v1,v2,v3]] w fun e w'=>e=.returned (.int .i64 (zc0 a b))∧Gr w w':=by
 by_cases wa:a.den=1
 ·by_cases wb:b.den=1
  ·exact rcomp_tt ha hb hk wa wb
  ·exact rcomp_tf ha hb hk wa wb
 ·exact rcomp_f ha hb hk wa

theorem itoa_n (n:Nat) (h1:n<1000000000) {w:World} (ht:Tab w):
  Calls Tryz.prog 83 #[.int .i64 (n:Int)] w fun e w'=>e=.returned (.string ⟨(Lib.decDigits n).toArray⟩)∧Gr w w':=itoa_t n (by omega) (by omega) ht
theorem short9 {ao:Option Addr} {la ca u:Nat} {w:World} (h:Mag w ao la ca (u:Int)) (hl:la≤1000000):
  Calls Tryz.prog 82 #[.slice ao la ca,.int .u32 1000000000] w fun e w'=>
   (∃ go k cap,e=.returned (.tuple #[.slice go k cap,.int .u32 ((u % 1000000000:Nat):Int)])∧Mag w' go k cap ((u/1000000000:Nat):Int))∧Gr w w':=
 zS5 ao la ca u 1000000000 w (by omega) h (by omega) (by omega)
theorem Mag.pos0 {w:World} {ao:Option Addr} {la ca u:Nat} (h:Mag w ao la ca (u:Int)) (hb:decide ((0:Int)<(la:Int))=true):0<u:=by
 have h0:(0:Int)<la:=by simpa using hb
 rcases Nat.eq_zero_or_pos u with e | e
 ·have:=h.nl.len_zero.2 (by omega);omega
 ·exact e
theorem Mag.zero0 {w:World} {ao:Option Addr} {la ca u:Nat} (h:Mag w ao la ca (u:Int)) (hb:decide ((0:Int)<(la:Int))=false):u=0:=by
 have h0:¬ (0:Int)<la:=by simpa using hb
 have:=h.nl.len_zero.1 (by omega)
 omega
theorem Mag.len9 {w:World} {ao:Option Addr} {la ca u k:Nat} (h:Mag w ao la ca (u:Int)) (hu:u<2 ^ k) (hk:k≤1000000):la≤1000000:=by
 have:=h.nl.len_sz (show Sz k (u:Int) by unfold Sz;simpa using hu)
 omega
set_option maxRecDepth 100000 in
set_option maxHeartbeats 4000000 in
theorem text_pos {k N:Nat} {s:Bool} {ao:Option Addr} {la ca:Nat} {w:World} (ha:Mag w ao la ca (N:Int)) (hN:0<N) (hNk:N<2 ^ k) (_hk:k≤900000) (ht:Tab w):
    Calls Tryz.prog 56 #[(.agg #[(.bool (s)),.slice ao la ca])] w fun e w'=>e=.returned (.string ⟨((if s then [45] else [])++Lib.decDigits N).toArray⟩)∧Gr w w':=by
 have hla:0<la:=by
    rcases Nat.eq_zero_or_pos la with e | e
    · have:=ha.nl.len_zero.1 e;omega
    · exact e
 have e0:((la:Int)==(0:Int))=false:=by simp;omega
 go_enter Tryz.func56,Tryz.ntmps56
 have hB:=Gr.refl w
 refine wp_seq_k (fun K1 k1=>?_)
 refine rg [0,1] ?_
 refine se ?_
 refine eb 31 #[(.bool (s)),.slice ao la ca] 1 hB fun b2 w2 g2 L2 o2 q2 hB=>?_
 simp only [p3,p4]
 refine sv 2 (.string ⟨([]:List UInt8).toArray⟩) ?_
 refine za0 ?_
 refine k1 _ _ ?_
 try clear k1 K1
 refine wp_seq_k (fun K3 k3=>?_)
 refine wp_seq_k (fun K4 k4=>?_)
 refine rg [0,1,2,3] ?_
 refine sv 9 (.pointer (some ⟨b2,1,none⟩)) ?_
 refine sw 10 (.slice ao la ca) rfl (rk 29 1 L2) ?_
 refine sv 11 (.int .i64 ((la:Int))) ?_
 refine sw 12 (.bool false) rfl (RunV.bool (x:=((la:Int)==(0:Int))) (rvk (by kernel_rfl)) e0) ?_
 refine za0 ?_
 refine k4 _ _ ?_
 try clear k4 K4
 refine wp_cond_false rfl ?_
 refine wp_skip ?_
 refine k3 _ _ ?_
 try clear k3 K3
 refine wp_seq_k (fun K5 k5=>?_)
 refine rg [0] ?_
 refine sv 3 (.slice none 0 0) ?_
 refine za0 ?_
 refine k5 _ _ ?_
 try clear k5 K5
 refine wp_seq_k (fun K6 k6=>?_)
 refine wp_seq_k (fun K7 k7=>?_)
 refine rg [0,1,2] ?_
 refine sv 13 (.pointer (some ⟨b2,1,none⟩)) ?_
 refine sw 14 (.slice ao la ca) rfl (rk 29 1 L2) ?_
 refine sv 4 (.slice ao la ca) ?_
 refine za0 ?_
 refine k7 _ _ ?_
 try clear k7 K7
 refine wp_block ?_
 replace ha:=ha.kp g2.kp
 refine zl6 (a:=⟨List.toArray ?l8,[]⟩) (fun n a w'=>∃ (u:Nat) (L:List (List UInt8)) (v:Value) (mo:Option Addr) (ml:Nat) (mc:Nat) (u8:Nat→Value),u=n∧a=⟨[(u8 0),(.pointer (some ⟨b2,0,none⟩)),(.string ⟨([]:List UInt8).toArray⟩),v,.slice mo ml mc,(u8 5),(u8 6),(u8 7),undef,(u8 9),(u8 10),(u8 11),.bool false,(u8 13),(u8 14),(u8 15),(u8 16),(u8 17),(u8 18),(u8 19),(u8 20),(u8 21),(u8 22),(u8 23),(u8 24),(u8 25),(u8 26),(u8 27),(u8 28),(u8 29),(u8 30),(u8 31),(u8 32),(u8 33),(u8 34),(u8 35),(u8 36),(u8 37),(u8 38),(u8 39),undef,undef,undef,undef,undef,undef,undef,undef,undef].toArray,[]⟩∧L++zG2 u=zG2 N∧u<2 ^ k∧Mag w' mo ml mc (u:Int)∧OwnS w' 9 w.heap.size v (L.map zR7)∧Lc w' b2 #[(.bool (s)),.slice ao la ca] 31∧Gr w w') (N) ?_ ?_
 ·exact ⟨N,[],.slice none 0 0,ao,la,ca,(fun i=>List.getD ?l8 i undef),rfl,rfl,(by simp),hNk,ha,(OwnS.nil _ _ _),L2,hB⟩
 rintro n8 a8 w8 ⟨u,L,v,mo,ml,mc,u8,rfl,rfl,hX,hu,hm,hown,L2,hB⟩ K8 k8
 have hln:L.length≤1000000:=by have h1:=zK7 k N hNk;rw [← hX,List.length_append] at h1;omega
 have h9:=dec9 u
 have bi:(Lib.repeatL [48] (9 - (Lib.decDigits (u % 1000000000)).length)).length≤9:=by rw [Lib.repeatL_length];simp
 refine wp_seq_k (fun K9 k9=>?_)
 refine wp_seq_k (fun aX aO=>?_)
 refine rg [0,1,2] ?_
 refine sv 15 (.slice mo ml mc) ?_
 refine sv 16 (.int .i64 ((ml:Int))) ?_
 refine sv 17 (.bool (decide ((0:Int)<(ml:Int)))) ?_
 refine za0 ?_
 refine aO _ _ ?_
 try clear aO aX
 refine wp_cond_split (t:=decide ((0:Int)<(ml:Int))) rfl (fun ah=>?_) (fun ah=>?_)
 ·have aw:=ah
  refine wp_skip ?_
  refine k9 _ _ ?_
  try clear k9 K9
  refine wp_block ?_
  refine wp_seq_k (fun a6 k12=>?_)
  refine rg [0,1,2,3,4,5,6] ?_
  refine sv 19 (.slice mo ml mc) ?_
  refine se ?_
  refine ec 20 (short9 hm (hm.len9 hu (by omega))) ?_
  rintro e13 bo ⟨⟨ab,k13,aa,rfl,ae⟩,aq⟩
  refine ⟨_,rfl,?_⟩
  replace hB:=hB.trans aq
  simp only [p3,p4]
  refine sv 18 (.tuple #[.slice ab k13 aa,(.int .u32 (((u % 1000000000:Nat):Int)))]) ?_
  refine sv 21 (.slice ab k13 aa) ?_
  refine sv 22 (.int .u32 (((u % 1000000000:Nat):Int))) ?_
  refine sv 5 (.slice ab k13 aa) ?_
  refine sv 6 (.int .u32 (((u % 1000000000:Nat):Int))) ?_
  refine za0 ?_
  refine k12 _ _ ?_
  try clear k12 a6
  refine wp_seq_k (fun a2 aL=>?_)
  refine rg [0,1,2,3] ?_
  refine sv 23 (.int .u32 (((u % 1000000000:Nat):Int))) ?_
  refine sw 24 (.int .i64 (((u % 1000000000:Nat):Int))) rfl (RunV.int (x:=IntKind.i64.wrap (((u % 1000000000:Nat):Int))) (y:=((u % 1000000000:Nat):Int)) (rvk (by kernel_rfl)) (by first | rfl | (rw [IntKind.wrap_i64];omega))) ?_
  refine se ?_
  refine ec 25 (itoa_n (u % 1000000000) (by omega) (ht.gr hB)) ?_
  rintro bp bh ⟨rfl,ai⟩
  refine ⟨_,rfl,?_⟩
  replace hB:=hB.trans ai
  simp only [p3,p4]
  refine sv 7 (.string ⟨(Lib.decDigits (u % 1000000000):List UInt8).toArray⟩) ?_
  refine za0 ?_
  refine aL _ _ ?_
  try clear aL a2
  refine wp_seq_k (fun aE au=>?_)
  refine wp_seq_k (fun ba aG=>?_)
  refine rg [0,1,2] ?_
  refine sv 26 (.slice ab k13 aa) ?_
  refine sv 27 (.int .i64 ((k13:Int))) ?_
  refine sv 28 (.bool (decide ((0:Int)<(k13:Int)))) ?_
  refine za0 ?_
  refine aG _ _ ?_
  try clear aG ba
  refine wp_cond_split (t:=decide ((0:Int)<(k13:Int))) rfl (fun af=>?_) (fun af=>?_)
  ·refine rg [0,1,2,3,4,5,6] ?_
   refine sv 29 (.string ⟨(Lib.decDigits (u % 1000000000):List UInt8).toArray⟩) ?_
   refine sv 30 (.int .i64 (((Lib.decDigits (u % 1000000000)).length:Int))) ?_
   refine sw 31 (.int .i64 ((9 - ((Lib.decDigits (u % 1000000000)).length:Int)))) rfl (RunV.int (x:=IntKind.i64.wrap ((9 - ((Lib.decDigits (u % 1000000000)).length:Int)))) (y:=(9 - ((Lib.decDigits (u % 1000000000)).length:Int))) (rvk (by kernel_rfl)) (by first | rfl | (rw [IntKind.wrap_i64];omega))) ?_
   refine se ?_
   refine ec 32 (repeat9 (Lib.decDigits (u % 1000000000)).length (dec9 u) _) ?_
   rintro bq bc ⟨rfl,ax⟩
   refine ⟨_,rfl,?_⟩
   replace hB:=hB.trans ax
   simp only [p3,p4]
   refine sv 33 (.string ⟨(Lib.decDigits (u % 1000000000):List UInt8).toArray⟩) ?_
   refine sw 34 (.string ⟨((Lib.repeatL [48] (9 - (Lib.decDigits (u % 1000000000)).length))++(Lib.decDigits (u % 1000000000)):List UInt8).toArray⟩) rfl (zx8 9 9 _ _ (Lib.repeatL [48] (9 - (Lib.decDigits (u % 1000000000)).length)) (Lib.decDigits (u % 1000000000)) rfl rfl rfl (by omega)) ?_
   refine sv 7 (.string ⟨((Lib.repeatL [48] (9 - (Lib.decDigits (u % 1000000000)).length))++(Lib.decDigits (u % 1000000000)):List UInt8).toArray⟩) ?_
   refine za0 ?_
   refine au _ _ ?_
   try clear au aE
   refine wp_seq_k (fun a0 aF=>?_)
   refine rg [0,1,2,3,4] ?_
   refine sv 35 v ?_
   refine sv 36 (.string ⟨((Lib.repeatL [48] (9 - (Lib.decDigits (u % 1000000000)).length))++(Lib.decDigits (u % 1000000000)):List UInt8).toArray⟩) ?_
   refine se ?_
   refine zD6 9 1 #[(.string ⟨((Lib.repeatL [48] (9 - (Lib.decDigits (u % 1000000000)).length))++(Lib.decDigits (u % 1000000000)):List UInt8).toArray⟩)] (some 37) rfl (fun _=>by kernel_rfl) (fun aU bg av a4 bd=>?_)
   replace L2:=L2.gr (aq.trans (ai.trans ax))
   replace hB:=hB.trans av
   simp only [zn2,p3,p4]
   refine se ?_
   replace hown:=hown.gr (aq.trans (ai.trans (ax.trans av)))
   refine zt4 _ _ 135 9 w.heap.size (.string ⟨([]:List UInt8).toArray⟩) v _ aU (.string ⟨((Lib.repeatL [48] (9 - (Lib.decDigits (u % 1000000000)).length))++(Lib.decDigits (u % 1000000000)):List UInt8).toArray⟩) 1 (some 38) 16 rfl rfl rfl rfl hown a4 rfl w hB (Nat.le_refl _) (Below.size hB) (by rw [List.length_map];exact hln) (by decide) (by kernel_rfl) (by kernel_rfl) rfl (fun aR bn ad al aA=>?_)
   replace hB:=aA
   replace ad:=OwnS.snoc (f:=zR7) ad
   simp only [zn2,p3,p4]
   refine sv 3 aR ?_
   refine za0 ?_
   refine aF _ _ ?_
   try clear aF a0
   refine rg [0,1] ?_
   refine sv 39 (.slice ab k13 aa) ?_
   refine sv 4 (.slice ab k13 aa) ?_
   refine za0 ?_
   have az:=ai.kp.trans (ax.kp.trans (av.kp.trans (al.kp (by decide))))
   replace ae:=ae.kp az
   replace L2:=al.lc (L2.gr av) (by decide)
   refine k8 (u/1000000000) ⟨List.toArray ?l24,[]⟩ _ (Nat.div_lt_self (Mag.pos0 hm aw) (by omega)) ?_
   exact ⟨u/1000000000,_,aR,ab,k13,aa,(fun i=>List.getD ?l24 i undef),rfl,rfl,(zD1 hX (Mag.pos0 hm aw) (grp_hi (Mag.pos0 ae af))),(Nat.lt_of_le_of_lt (Nat.div_le_self _ _) hu),ae,ad,L2,hB⟩
  ·refine wp_skip ?_
   refine au _ _ ?_
   try clear au aE
   refine wp_seq_k (fun a3 aT=>?_)
   refine rg [0,1,2,3,4] ?_
   refine sv 35 v ?_
   refine sv 36 (.string ⟨(Lib.decDigits (u % 1000000000):List UInt8).toArray⟩) ?_
   refine se ?_
   refine zD6 9 1 #[(.string ⟨(Lib.decDigits (u % 1000000000):List UInt8).toArray⟩)] (some 37) rfl (fun _=>by kernel_rfl) (fun aW bb ar a1 bm=>?_)
   replace L2:=L2.gr (aq.trans ai)
   replace hB:=hB.trans ar
   simp only [zn2,p3,p4]
   refine se ?_
   replace hown:=hown.gr (aq.trans (ai.trans ar))
   refine zt4 _ _ 135 9 w.heap.size (.string ⟨([]:List UInt8).toArray⟩) v _ aW (.string ⟨(Lib.decDigits (u % 1000000000):List UInt8).toArray⟩) 1 (some 38) 16 rfl rfl rfl rfl hown a1 rfl w hB (Nat.le_refl _) (Below.size hB) (by rw [List.length_map];exact hln) (by decide) (by kernel_rfl) (by kernel_rfl) rfl (fun aM bf ac ap aC=>?_)
   replace hB:=aC
   replace ac:=OwnS.snoc (f:=zR7) ac
   simp only [zn2,p3,p4]
   refine sv 3 aM ?_
   refine za0 ?_
   refine aT _ _ ?_
   try clear aT a3
   refine rg [0,1] ?_
   refine sv 39 (.slice ab k13 aa) ?_
   refine sv 4 (.slice ab k13 aa) ?_
   refine za0 ?_
   have aB:=ai.kp.trans (ar.kp.trans (ap.kp (by decide)))
   replace ae:=ae.kp aB
   replace L2:=ap.lc (L2.gr ar) (by decide)
   refine k8 (u/1000000000) ⟨List.toArray ?l29,[]⟩ _ (Nat.div_lt_self (Mag.pos0 hm aw) (by omega)) ?_
   exact ⟨u/1000000000,_,aM,ab,k13,aa,(fun i=>List.getD ?l29 i undef),rfl,rfl,(zD1 hX (Mag.pos0 hm aw) (grp_lo (by rw [Mag.zero0 ae af];omega))),(Nat.lt_of_le_of_lt (Nat.div_le_self _ _) hu),ae,ac,L2,hB⟩
 ·have hz:=Mag.zero0 hm ah
  subst hz
  rw [zm5,List.append_nil] at hX
  have aH:0<L.length:=by rw [hX];exact zS3 hN
  have htx:L.reverse.flatten=Lib.decDigits N:=by rw [hX];exact zS2 N N (Nat.le_refl _) hN
  have hfl:L.reverse.flatten.length≤140737488355328:=by rw [htx];have:=ze2 k N hNk;omega
  refine wp_exit ?_
  simp only [Exit.then,Exit.inBlock,↓reduceIte]
  refine k6 _ _ ?_
  try clear k6 K6
  refine wp_seq_k (fun aV aS=>?_)
  refine rg [0,1] ?_
  refine sv 40 v ?_
  refine se ?_
  refine zA7 (some 41) rfl (by kernel_rfl) (zI7 hown aH) ?_
  rintro e31 bj ⟨rfl,ak,ay,aD⟩
  refine ⟨_,rfl,?_⟩
  replace hB:=aD _ hB (Nat.le_refl _)
  simp only [zn2,p3,p4]
  refine za0 ?_
  refine aS _ _ ?_
  try clear aS aV
  refine wp_seq_k (fun a5 aQ=>?_)
  refine rg [0,1,2] ?_
  refine sv 42 v ?_
  refine se ?_
  refine ec 43 (join_own ak (by rw [List.length_reverse];exact aH) hfl (by rw [List.length_reverse];exact hln)) ?_
  rintro e33 bk ⟨rfl,aP⟩
  refine ⟨_,rfl,?_⟩
  replace hB:=hB.trans aP
  simp only [p3,p4]
  refine sv 8 (.string ⟨(((L).reverse).flatten:List UInt8).toArray⟩) ?_
  refine za0 ?_
  refine aQ _ _ ?_
  try clear aQ a5
  refine wp_seq_k (fun aZ aJ=>?_)
  refine wp_seq_k (fun a7 aK=>?_)
  refine rg [0,1] ?_
  refine sv 44 (.pointer (some ⟨b2,0,none⟩)) ?_
  replace L2:=(ay.lc L2 (by decide)).gr aP
  refine sw 45 (.bool (s)) rfl (rk 4 0 L2) ?_
  refine za0 ?_
  refine aK _ _ ?_
  try clear aK a7
  refine wp_cond_split (t:=s) rfl (fun aj=>?_) (fun aj=>?_)
  ·refine wp_seq_k (fun aY aI=>?_)
   refine rg [0,1,2] ?_
   refine sv 46 (.string ⟨(((L).reverse).flatten:List UInt8).toArray⟩) ?_
   refine sw 47 (.string ⟨(([45])++(((L).reverse).flatten):List UInt8).toArray⟩) rfl (zx8 9 9 _ _ ([45]) (((L).reverse).flatten) rfl rfl rfl (by simp only [List.length_cons,List.length_nil];omega)) ?_
   refine sv 2 (.string ⟨(([45])++(((L).reverse).flatten):List UInt8).toArray⟩) ?_
   refine za0 ?_
   refine aI _ _ ?_
   try clear aI aY
   refine wp_ret ?_
   simp only [Exit.then]
   refine bodyPost_ret (v:=(.string ⟨(([45])++(((L).reverse).flatten):List UInt8).toArray⟩)) (zb6 rfl rfl) rfl ⟨?_,hB⟩
   exact (by rw [aj];show Ending.returned _=_;rw [htx];rfl)
  ·refine wp_skip ?_
   refine aJ _ _ ?_
   try clear aJ aZ
   refine wp_seq_k (fun a9 aN=>?_)
   refine rg [0,1] ?_
   refine sv 48 (.string ⟨(((L).reverse).flatten:List UInt8).toArray⟩) ?_
   refine sv 2 (.string ⟨(((L).reverse).flatten:List UInt8).toArray⟩) ?_
   refine za0 ?_
   refine aN _ _ ?_
   try clear aN a9
   refine wp_ret ?_
   refine bodyPost_ret (v:=(.string ⟨(((L).reverse).flatten:List UInt8).toArray⟩)) (zb6 rfl rfl) rfl ⟨?_,hB⟩
   exact (by rw [aj];show Ending.returned _=_;rw [htx];rfl)

set_option maxRecDepth 100000 in
set_option maxHeartbeats 1000000 in
theorem zT3 {ao:Option Addr} {ca:Nat} (w:World):
    Calls Tryz.prog 56 #[(.agg #[.bool false,.slice ao 0 ca])] w fun e w'=>e=.returned (.string ⟨#[48]⟩)∧Gr w w':=by
 go_enter Tryz.func56,Tryz.ntmps56
 have hB:=Gr.refl w
 refine wp_seq_k (fun K1 k1=>?_)
 refine rg [0,1] ?_
 refine se ?_
 refine eb 31 #[.bool false,.slice ao 0 ca] 1 hB fun b2 w2 g2 L2 o2 q2 hB=>?_
 simp only [p3,p4]
 refine sv 2 (.string ⟨([]:List UInt8).toArray⟩) ?_
 refine za0 ?_
 refine k1 _ _ ?_
 try clear k1 K1
 refine wp_seq_k (fun K3 k3=>?_)
 refine wp_seq_k (fun K4 k4=>?_)
 refine rg [0,1,2,3] ?_
 refine sv 9 (.pointer (some ⟨b2,1,none⟩)) ?_
 refine sw 10 (.slice ao 0 ca) rfl (rk 29 1 L2) ?_
 refine sv 11 (.int .i64 0) ?_
 refine sv 12 (.bool true) ?_
 refine za0 ?_
 refine k4 _ _ ?_
 try clear k4 K4
 refine wp_cond_true rfl ?_
 refine wp_seq_k (fun K5 k5=>?_)
 refine rg [0] ?_
 refine sv 2 (.string ⟨([48]:List UInt8).toArray⟩) ?_
 refine za0 ?_
 refine k5 _ _ ?_
 try clear k5 K5
 refine wp_ret ?_
 simp only [Exit.then]
 refine bodyPost_ret (v:=(.string ⟨([48]:List UInt8).toArray⟩)) (zb6 rfl rfl) rfl ⟨?_,hB⟩
 exact rfl

theorem zx7 {k:Nat} {x y:Value} {z:Int} {w:World} (hz:IsInt w k x y z) (hk:k≤900000) (ht:Tab w):
  Calls Tryz.prog 56 #[.agg #[x,y]] w fun e w'=>e=.returned (.string ⟨(Lib.itoa z).toArray⟩)∧Gr w w':=by
 obtain ⟨ao,la,ca,rfl,rfl,ha,hs⟩:=hz
 by_cases h0:z=0
 ·subst h0
  have:la=0:=ha.nl.len_zero.2 rfl
  subst this
  have e1:decide ((0:Int)<0)=false:=by decide
  have e2:Lib.itoa 0=[48]:=by unfold Lib.itoa;rw [if_neg (by omega)];exact zc4 (by decide)
  rw [e1,e2]
  exact zT3 w
 ·have:=text_pos (s:=decide (z<0)) ha (by omega) (by unfold Sz at hs;exact hs) hk ht
  refine this.mono ?_
  rintro e w1 ⟨he,g⟩
  refine ⟨?_,g⟩
  rw [he]
  unfold Lib.itoa
  by_cases hz:z<0
  ·simp [hz]
  ·have:z.toNat=z.natAbs:=by omega
   simp [hz,this]

theorem zk1 {k:Nat} {z:Int} (h:Sz k z):(Lib.itoa z).length≤k+2:=by
 unfold Lib.itoa
 have h1:=ze2 k z.natAbs h
 split
 ·simp;omega
 ·have:z.toNat=z.natAbs:=by omega
  rw [this];omega
theorem zE7 {N D:Int} (h0:0<D):(Rat.divInt N D).num=N/(Int.gcd N D:Int)∧((Rat.divInt N D).den:Int)=D/(Int.gcd N D:Int)∧0<(Int.gcd N D:Int):=by
 refine ⟨by rw [Rat.num_divInt,Int.sign_eq_one_of_pos h0,Int.one_mul,Int.gcd_comm],?_,?_⟩
 ·rw [Rat.den_divInt,if_neg (by omega),Int.gcd_comm,Int.natCast_ediv]
  congr 1
  omega
 ·have:Int.gcd N D≠0:=by rw [Ne,Int.gcd_eq_zero_iff];omega
  omega
theorem sz_div {k:Nat} {N g:Int} (hN:Sz k N) (hg:0<g):Sz k (N/g):=by
 refine hN.of_le ?_
 rcases Int.lt_or_le N 0 with h | h
 ·have h1:N≤N/g:=by
   rw [Int.le_ediv_iff_mul_le hg]
   have:N*g≤N*1:=Int.mul_le_mul_of_nonpos_left (by omega) (by omega)
   omega
  have h2:N/g<0:=Int.ediv_neg_of_neg_of_pos h hg
  omega
 ·have h1:N/g≤N:=Int.ediv_le_self _ h
  have h2:0≤N/g:=Int.ediv_nonneg h (by omega)
  omega
section
variable {l:List UInt8} {most:Nat}
end
theorem zn1 {k:Nat} {q:Rat} (h1:Sz k q.num) (h2:Sz k (q.den:Int)):(za3 q).length≤2*k+5:=by
 have a:=zk1 h1
 have b:=zk1 h2
 unfold za3
 split
 ·omega
 ·simp only [List.length_append,List.length_singleton];omega
theorem zu6 (q:Rat):0<(q.den:Int):=Int.natCast_pos.2 q.den_pos
theorem zN1 (a b:Rat):0<(a.den:Int)*(b.den:Int):=Int.mul_pos (zu6 a) (zu6 b)
theorem rsz_neg {k:Nat} {a:Rat} (h:Sz k a.num∧Sz k (a.den:Int)):Sz k (-a).num∧Sz k ((-a).den:Int):=by
 rw [Rat.neg_num,Rat.neg_den]
 exact ⟨h.1.neg,h.2⟩
-- LEFT OUT:r1_check r1_digits r1_digits_i r1_divmod r1_gcd r1_minus r1_minus_f r1_minus_i r1_mul r1_order r1_order_i r1_plus r1_plus_i r1_sign_i r1_sign_n r1_sign_p r1_sign_v r1_sign_z r1_sub_one r1_text r1_text_s r1_text_z r1_trim r2_check r2_digits r2_parts r2_parts_q r2_slash r2_zeros text_at wpList_makeI
set_option maxRecDepth 100000 in
set_option maxHeartbeats 2000000 in
theorem zX4 (ao:Option Addr) (la ca:Nat) (m x p:Int) (w:World) (hla:la≤900000) (ha:Mag w ao la ca m) (ac:0≤x) (ae:x<4294967296) (ap:0≤p) (al:p<4294967296):
  Calls Tryz.prog 108 #[.slice ao la ca,.int .u32 x,.int .u32 p] w fun e w'=>(∃ go k cap,e=.returned (.slice go k cap)∧Mag w' go k cap (m*x+p)∧k≤la+1)∧Gr w w':=by
 go_enter Tryz.func108,Tryz.ntmps108
 go_wp2_with (at_make;refine zc3 _ rfl _ _ rfl _ _ (la+1) rfl rfl (by omega) (by omega) (by omega) ?_)
 intro w1 hO hB hsz
 go_wp2
 go_loopw [8,19] (fun c i wr=>∃ (k:Nat) (cr:Int) (d:Nat→Int),k≤la∧i=.int .i64 k∧c=.int .u64 cr∧0≤cr∧cr<4294967296∧Hid (hi (m*x+p) k=hi m k*x+cr)∧Below w.heap.size w wr∧
   Own wr w.heap.size (la+1) d∧Hid (∀ j,j<k→d j=dg (m*x+p) j)) (fun _ i _=>la - (intOf i).toNat)
 case atStart=>exact ⟨0,p,_,Nat.zero_le _,rfl,rfl,ap,al,by simp [Hid,zb9],hB,hO,fun j hj=>by omega⟩
 case round=>
  obtain ⟨k,cr,d,hk,rfl,rfl,af,aj,hz,hB,hO,hd⟩:=hrel
  by_cases hlt:k<la
  ·obtain ⟨b1,ai,rfl,ab⟩:=(ha.row.below hB).at_ (by omega)
   have ad:=ab k hlt
   clear ab
   have d0:=za5 m k
   have d1:=zc6 m k
   have aa:=hO.cell k (by omega)
   have hfree:=hO.free k
   have hs:=zy1 hz.out af aj ac ae
   have z0:=hs.2.2.2.2.1
   have z1:=hs.2.2.2.2.2
   have z2:dg m k*x≤18446744065119617025:=by
    have:=Int.mul_le_mul (show dg m k≤4294967295 by omega) (show x≤4294967295 by omega) ac (by omega)
    omega
   have HS:=Lib.hid hs
   clear hs
   go_wp2
   have hs:=HS.out
   go_roundw
   case rel=>
    refine ⟨k+1,_,_,by omega,by go_num,rfl,hs.2.2.1,hs.2.2.2.1,hs.2.1,hB.setCell (Nat.le_refl _) _,hO.set (by omega) _,fun j hj=>?_⟩
    by_cases e:j=k
    ·subst e;rw [zb3,hs.1]
    ·rw [za7 _ _ e];exact hd.out j (by omega)
   case measure=>simp [intOf];omega
  ·obtain rfl:k=la:=by omega
   have aa:=hO.cell k (by omega)
   have hfree:=hO.free k
   have ah:0≤m*x+p:=by have:=Int.mul_nonneg ha.nl.nonneg ac;omega
   have htop:hi (m*x+p) (k+1)=0:=by
    have h1:=hz.out
    rw [ha.nl.top,Int.zero_mul] at h1
    rw [zb2];omega
   have hdk:dg (m*x+p) k=cr:=by
    have h1:=hz.out
    rw [ha.nl.top,Int.zero_mul] at h1
    unfold dg;omega
   have HT:=Lib.hid htop
   have HD:=Lib.hid hdk
   clear htop hdk
   go_wp2_with fail
   have ak:=(hO.set (Nat.lt_succ_self k) cr).congr (d':=dg (m*x+p)) (fun j hj=>by
    by_cases e:j=k
    ·subst e;rw [zb3,HD.out]
    ·rw [za7 _ _ e];exact hd.out j (by omega))
   refine (zm8 _ _ _ (m*x+p) _ (by omega) (Nat.le_refl _) ah HT.out ak.row).mono ?_
   rintro e w3 ⟨⟨n,rfl,hm,hn⟩,rfl⟩
   go_wp2
   go_ret
   exact ⟨⟨_,_,_,rfl,hm,hn⟩,hB.setCell (Nat.le_refl _) _⟩
theorem zV6 (l:List UInt8):∀ acc:Nat,l.foldl (fun a c=>a*10+(c.toNat - 48)) acc=acc*10 ^ l.length+zm4 l:=by
 induction l with
 | nil=>intro acc;simp [zm4]
 | cons c l ih=>
  intro acc
  have hv:zm4 (c::l)=(c.toNat - 48)*10 ^ l.length+zm4 l:=by
   show l.foldl _ (0*10+(c.toNat - 48))=_
   rw [ih];simp
  rw [List.foldl_cons,ih,hv,List.length_cons,Nat.pow_succ,Nat.add_mul]
  have:acc*10*10 ^ l.length=acc*(10 ^ l.length*10):=by grind
  omega
theorem zi2 (a b:List UInt8):zm4 (a++b)=zm4 a*10 ^ b.length+zm4 b:=by
 show (a++b).foldl _ 0=_
 rw [List.foldl_append,zV6];rfl
theorem zV7 (l:List UInt8) (h:∀ c ∈ l,48≤c.toNat∧c.toNat≤57):zm4 l<10 ^ l.length:=by
 induction l with
 | nil=>simp [zm4]
 | cons c l ih=>
  have h1:=zi2 [c] l
  have h2:=ih (fun x hx=>h x (by simp [hx]))
  have h3:=h c (by simp)
  have h4:zm4 [c]≤9:=by simp [zm4];omega
  rw [List.singleton_append] at h1
  rw [h1,List.length_cons,Nat.pow_succ]
  have:=Nat.mul_le_mul_right (10 ^ l.length) h4
  omega
theorem parseM:∀ (l:List UInt8) (acc:Nat),(∀ c ∈ l,48≤c.toNat∧c.toNat≤57)→acc*10 ^ l.length+10 ^ l.length≤1000000000→Lib.parseUintM (2 ^ 32 - 1) acc l=.ok (acc*10 ^ l.length+zm4 l)
 | [],acc,_,_=>by simp [Lib.parseUintM,zm4]
 | c::l,acc,h,hb=>by
  have hc:=h c (by simp)
  have hp:0<10 ^ l.length:=Nat.pow_pos (by omega)
  rw [List.length_cons,Nat.pow_succ] at hb
  have h1:(acc+1)*(10 ^ l.length*10)≤1000000000:=by rw [Nat.add_mul];omega
  have h2:(acc+1)*10≤1000000000:=by
   have:(acc+1)*10≤(acc+1)*(10 ^ l.length*10):=Nat.mul_le_mul_left _ (by omega)
   omega
  have e:acc*(10 ^ l.length*10)=acc*10*10 ^ l.length:=by grind
  have h3:(c.toNat - 48)*10 ^ l.length≤9*10 ^ l.length:=Nat.mul_le_mul_right _ (by omega)
  have ih:=parseM l (acc*10+(c.toNat - 48)) (fun x hx=>h x (by simp [hx])) (by rw [Nat.add_mul];omega)
  unfold Lib.parseUintM
  rw [if_pos hc,if_neg (by omega),if_neg (by omega),ih]
  have h5:=zi2 [c] l
  rw [List.singleton_append] at h5
  have h6:zm4 [c]=c.toNat - 48:=by simp [zm4]
  rw [h5,h6,List.length_cons,Nat.pow_succ,Nat.add_mul,e]
  congr 1
  omega
theorem parse32 {l:List UInt8} (h:∀ c ∈ l,48≤c.toNat∧c.toNat≤57) (h0:l≠[]) (h9:l.length≤9):Lib.parseUintB 32 l=.ok (zm4 l):=by
 unfold Lib.parseUintB
 rw [if_neg h0,parseM l 0 h (by
  have:10 ^ l.length≤10 ^ 9:=Nat.pow_le_pow_right (by omega) h9
  omega)]
 simp
theorem zy2 (R:ByteArray) (h:∀ c ∈ R.data.toList,48≤c.toNat∧c.toNat≤57) (h0:0<R.size) (h9:R.size≤9) (w:World):
  Calls Tryz.prog 107 #[.string R,.int .i64 10,.int .i64 32] w fun e w'=>e=.returned (.tuple #[.int .u64 (zm4 R.data.toList:Int),.nilIface])∧Gr w w':=by
 have hl:R.data.toList.length=R.size:=by simp
 refine (Tryz.strconv_ParseUint_10_at32_ok R (by omega) (zm4 R.data.toList) (parse32 h (fun e=>by rw [e] at hl;simp at hl;omega) (by omega)) w).mono ?_
 rintro e w1 ⟨he,hw⟩
 refine ⟨he,?_⟩
 rcases hw with rfl | rfl
 ·exact Gr.refl _
 ·exact Go.Joins.below_bytesWorld _ _ _ _ (Nat.le_refl _)
theorem nodigit (x:Nat) (w:World):Calls Tryz.prog 106 #[.int .i32 (x:Int)] w fun e w'=>e=.returned (.bool (decide (x<48)||decide (57<x)))∧∃ q,w'=w.drewN q:=by
 by_cases h1:(x:Int)<48
 ·have e1:decide (x<48)=true:=by simp;omega
  have E:=Lib.hid e1
  clear e1
  go_enter Tryz.func106,Tryz.ntmps106
  go_wp2
  go_ret
  exact ⟨by rw [E.out];rfl,0,rfl⟩
 ·have e1:decide (x<48)=false:=by simp;omega
  by_cases h2:57<(x:Int)
  ·have e2:(decide (x<48)||decide (57<x))=true:=by simp;omega
   have E:=Lib.hid e2
   clear e1 e2
   go_enter Tryz.func106,Tryz.ntmps106
   go_wp2
   go_ret
   exact ⟨by rw [E.out];rfl,0,rfl⟩
  ·have e2:(decide (x<48)||decide (57<x))=false:=by simp;omega
   have E:=Lib.hid e2
   clear e1 e2
   go_enter Tryz.func106,Tryz.ntmps106
   go_wp2
   go_ret
   exact ⟨by rw [E.out];rfl,0,rfl⟩
theorem zM7 {D:ByteArray} (h:∀ c ∈ D.data.toList,48≤c.toNat∧c.toNat≤57):∀ (f pos:Nat),Lib.idxFuncFrom (fun x=>decide (x<48)||decide (57<x)) true D f pos=-1
 | 0,_=>rfl
 | f+1,pos=>by
  unfold Lib.idxFuncFrom
  by_cases hp:pos<D.size
  ·have hc:=h D[pos] (List.mem_of_getElem? (zQ8 hp))
   rw [if_pos hp,decode_ascii D pos hp (by omega),if_neg (by simp;omega)]
   exact zM7 h f _
  ·rw [if_neg hp]
theorem zH7 (D:ByteArray) (h:∀ c ∈ D.data.toList,48≤c.toNat∧c.toNat≤57) (w:World):
  Calls Tryz.prog 105 #[.string D,.func (.func 106) #[] #[]] w fun e w'=>e=.returned (.bool false)∧Gr w w':=by
 refine (Tryz.strings_ContainsFunc 106 #[] (enters_of Tryz.func106 (by kernel_rfl) rfl) (fun x=>decide (x<48)||decide (57<x)) D w (fun W x _=>nodigit x W)).mono ?_
 rintro e w1 ⟨he,hb⟩
 refine ⟨?_,hb⟩
 rw [he]
 unfold Lib.idxFunc
 rw [zM7 h]
 rfl
theorem zV8 (z:Int) (w:World):Calls Tryz.prog 104 #[.string ⟨(Lib.itoa z).toArray⟩,.string ⟨#[45]⟩] w fun e w'=>
  e=.returned (.tuple #[.string ⟨(Lib.decDigits z.natAbs).toArray⟩,.bool (decide (z<0))])∧w=w':=by
 refine (Tryz.strings_CutPrefix _ _ _).mono ?_
 rintro e w1 ⟨he,rfl⟩
 refine ⟨?_,rfl⟩
 rw [he]
 show Ending.returned (.tuple #[.string ⟨(Lib.trimPrefix (Lib.itoa z) [45]).toArray⟩,.bool (Lib.hasPrefix (Lib.itoa z) [45])])=_
 by_cases h:z<0
 ·have h1:Lib.hasPrefix (Lib.itoa z) [45]=true:=by rw [zk8 h];simp [Lib.hasPrefix]
  rw [Lib.trimPrefix,h1,if_pos rfl,zk8 h,decide_eq_true h];rfl
 ·have h1:Lib.hasPrefix (Lib.itoa z) [45]=false:=by
   rw [zd1 (by omega)]
   rcases hd:Lib.decDigits z.natAbs with _ | ⟨c,l⟩
   ·rfl
   ·have hc:=zq2 z.natAbs c (by rw [hd];simp)
    have hne:¬ (45:UInt8)=c:=fun e=>by rw [← e] at hc;simp at hc
    simp [Lib.hasPrefix,List.isPrefixOf,hne]
  rw [Lib.trimPrefix,h1,if_neg (by decide),zd1 (by omega),decide_eq_false h]
def zA4 (v:Value):Nat:=match v with | .string s=>s.size | _=>0
theorem zr0 (R:ByteArray) (q:Nat):(R.extract 0 q).data.toList=R.data.toList.take q:=by rw [Lib.extract_data];simp
theorem zr1 (R:ByteArray) (q:Nat):(R.extract q R.size).data.toList=R.data.toList.drop q:=by
 rw [Lib.extract_data,List.take_of_length_le];simp
set_option maxRecDepth 100000 in
set_option maxHeartbeats 4000000 in
theorem zH8 {k:Nat} (z:Int) (hz:Sz k z) (hk:k≤60000) (w:World):
  Calls Tryz.prog 73 #[.string ⟨(Lib.itoa z).toArray⟩] w fun e w'=>(∃ x y,e=.returned (.tuple #[.agg #[x,y],.int .i64 0])∧IsInt w' k x y z)∧Gr w w':=by
 obtain ⟨n,hn⟩:∃ n,n=z.natAbs:=⟨_,rfl⟩
 have hnk:n<2 ^ k:=by rw [hn];exact hz
 have hlen:=ze2 k n hnk
 have hit:(Lib.itoa z).length≤k+2:=by
  by_cases h:z<0
  ·rw [zk8 h,← hn];simp;omega
  ·rw [zd1 (by omega),← hn];omega
 obtain ⟨s,hs⟩:∃ s:ByteArray,s=⟨(Lib.itoa z).toArray⟩:=⟨_,rfl⟩
 have hss:s.size≤65536:=by rw [hs];show (Lib.itoa z).toArray.size≤_;simp;omega
 obtain ⟨D,hD⟩:∃ D:ByteArray,D=⟨(Lib.decDigits n).toArray⟩:=⟨_,rfl⟩
 have HD:Hid (D.data.toList=Lib.decDigits n):=by rw [Hid,hD]
 have hDs:D.size=(Lib.decDigits n).length:=by rw [hD];show (Lib.decDigits n).toArray.size=_;simp
 have ay:0<D.size:=by rw [hDs];exact zS1 n
 have ar:D.size≤60001:=by omega
 have hc:=zV8 z (w.alloc (.cells #[.bool false,.slice none 0 0] 31))
 rw [← hn,← hD,← hs] at hc
 have hda:∀ c ∈ D.data.toList,48≤c.toNat∧c.toNat≤57:=by rw [HD.out];exact zq2 n
 have hcn:=zH7 D hda
 have hne:(D.toList==[])=false:=by
  rw [beq_eq_false_iff_ne,ByteArray.toList_eq,HD.out];exact zW6 n
 have au:(D[0].toNat:Int)=48→D.size=1∧n=0:=by
  intro h
  rcases Nat.eq_zero_or_pos n with e | e
  ·rw [hDs,e];exact ⟨by rw [dec_zero];rfl,rfl⟩
  ·obtain ⟨c,aG,aI,_⟩:=zO7 e
   have:=zx0 HD.out ay aG
   rw [this] at h
   omega
 have HN:=Lib.hid hn
 have aE:=Lib.hid au
 have HDa:=Lib.hid hda
 have HDs:=Lib.hid hDs
 have HS:=Lib.hid hs
 rw [← hs]
 clear hn au hda hDs hD hit hs
 go_enter Tryz.func73,Tryz.ntmps73
 go_wp2_with fail
 (with_reducible refine hc.mono ?_)
 rintro e w1 ⟨rfl,rfl⟩
 clear hc
 go_wp2_with fail
 (with_reducible refine (hcn _).mono ?_)
 rintro e w2 ⟨rfl,g2⟩
 clear hcn
 by_cases h48:(D[0].toNat:Int)=48
 ·have hzz:=aE.out h48
  have aK:¬ (1:Int)<(D.size:Int):=by omega
  have aJ:¬ z<0:=by have:=HN.out;omega
  have aq:((D[0].toNat:Int)==48)=true:=by simpa using h48
  clear h48 hzz
  go_wp2
  go_loopw [4,6] (fun r m wr=>∃ (R:ByteArray) (V:Nat) (mo:Option Addr) (ml mc:Nat),r=.string R∧m=.slice mo ml mc∧ml≤k∧R.size≤60001∧Hid (Mag wr mo ml mc (V:Int)∧(∀ c ∈ R.data.toList,48≤c.toNat∧c.toNat≤57)∧V*10 ^ R.size+zm4 R.data.toList=n)∧Gr (w.alloc (.cells #[.bool false,.slice none 0 0] 31)) wr) (fun r _ _=>zA4 r)
  case atStart=>exact ⟨D,0,none,0,0,rfl,rfl,by omega,ar,⟨⟨Nat.le_refl _,NL.zero,Row.nil _ _ _⟩,HDa.out,by rw [HD.out,zO8];simp⟩,g2⟩
  case round=>
   obtain ⟨R,V,mo,ml,mc,rfl,rfl,hml,aB,hh,hG⟩:=hrel
   by_cases hp:0<R.size
   ·obtain ⟨q,hq⟩:∃ q:Nat,q=(R.size - 1) % 9+1:=⟨_,rfl⟩
    have ak:q≤9:=by omega
    have ax:0<q:=by omega
    have hqR:q≤R.size:=by omega
    have hqe:((R.size:Int) - 1) % 9+1=(q:Int):=by omega
    have HQ:=Lib.hid hq
    clear hq
    go_wp2
    obtain ⟨wo,hwo⟩:∃ wo:World,wo=wr:=⟨_,rfl⟩
    subst hwo
    go_loopw [8,48] (fun b i wq=>∃ (j:Nat) (x:Int),b=.int .u32 x∧i=.int .i64 j∧j≤q∧1≤x∧x≤1000000000∧Hid (x=10 ^ j)∧wq=wo) (fun _ i _=>q - (intOf i).toNat)
    case atStart=>exact ⟨0,1,rfl,rfl,by omega,by omega,by omega,rfl,rfl⟩
    case round=>
     obtain ⟨j,x,rfl,rfl,hj,aw,aC,hx,rfl⟩:=hrel
     by_cases hlt:j<q
     ·have aD:x≤100000000:=by
       rw [hx.out]
       have h8:(10:Nat) ^ j≤100000000:=Nat.le_trans (Nat.pow_le_pow_right (by omega) (show j≤8 by omega)) (by decide)
       have h9:=Int.ofNat_le.2 h8
       rw [Int.natCast_pow] at h9
       exact h9
      go_wp2
      go_roundw
      case rel=>exact ⟨j+1,x*10,rfl,by go_num,by omega,by omega,by omega,by rw [Hid,hx.out,Int.pow_succ],by first | rfl | trivial⟩
      case measure=>simp [intOf];omega
     ·obtain rfl:j=q:=by omega
      obtain ⟨T,hT⟩:∃ T,R.extract 0 j=T:=⟨_,rfl⟩
      obtain ⟨U,hU⟩:∃ U,R.extract j R.size=U:=⟨_,rfl⟩
      have hTl:T.data.toList=R.data.toList.take j:=by rw [← hT,zr0]
      have hUl:U.data.toList=R.data.toList.drop j:=by rw [← hU,zr1]
      have hRl:R.data.toList.length=R.size:=by simp
      have hTs:T.size=j:=by
       have h1:=congrArg List.length hTl
       rw [List.length_take,hRl] at h1
       have h2:T.data.toList.length=T.size:=by simp
       omega
      have hUs:U.size=R.size - j:=by
       have h1:=congrArg List.length hUl
       rw [List.length_drop,hRl] at h1
       have h2:U.data.toList.length=U.size:=by simp
       omega
      obtain ⟨hm,hda,hval⟩:=hh.out
      have hTd:∀ c ∈ T.data.toList,48≤c.toNat∧c.toNat≤57:=fun c hc=>hda c (by rw [hTl] at hc;exact List.mem_of_mem_take hc)
      have hUd:∀ c ∈ U.data.toList,48≤c.toNat∧c.toNat≤57:=fun c hc=>hda c (by rw [hUl] at hc;exact List.mem_of_mem_drop hc)
      obtain ⟨u,hu⟩:∃ u,u=zm4 T.data.toList:=⟨_,rfl⟩
      have aF:u<1000000000:=by
       have h1:=zV7 _ hTd
       have h2:T.data.toList.length=T.size:=by simp
       rw [h2,hTs] at h1
       have:(10:Nat) ^ j≤10 ^ 9:=Nat.pow_le_pow_right (by omega) ak
       omega
      have aa:(V*10 ^ j+u)*10 ^ U.size+zm4 U.data.toList=n:=by
       have h1:=zi2 (R.data.toList.take j) (R.data.toList.drop j)
       rw [List.take_append_drop,← hTl,← hUl] at h1
       have h2:U.data.toList.length=U.size:=by simp
       rw [h1,h2,← hu,show R.size=j+U.size by omega,Nat.pow_add] at hval
       rw [← hval];grind
      have hVk:V*10 ^ j+u<2 ^ k:=by
       have h1:V*10 ^ j+u≤(V*10 ^ j+u)*10 ^ U.size:=Nat.le_mul_of_pos_right _ (Nat.pow_pos (by omega))
       omega
      have hpu:=zy2 T hTd (by omega) (by omega)
      rw [← hu] at hpu
      have ah:=Lib.hid aa
      have HVk:=Lib.hid hVk
      have HUd:=Lib.hid hUd
      have HX:=hx
      have ai:T.size≤9:=by omega
      have aj:U.size<R.size:=by omega
      have ad:U.size≤60001:=by omega
      clear hTl hUl hRl hTd hUd hda hval aa hVk hu hTs hUs hqe
      have av:(u:Int)<1000000000:=by omega
      go_wp2_with fail
      (with_reducible refine (hpu _).mono ?_)
      rintro e w5 ⟨rfl,g5⟩
      clear hpu
      go_wp2_with fail
      (with_reducible refine (zX4 mo ml mc (V:Int) x (u:Int) _ (by omega) (hm.kp g5.kp) (by omega) (by omega) (by omega) (by omega)).mono ?_)
      rintro e w6 ⟨⟨go,k6,c6,rfl,ac,aA⟩,g6⟩
      have ae:Mag w6 go k6 c6 ((V*10 ^ j+u:Nat):Int):=by
       rw [HX.out] at ac
       have e:((V*10 ^ j+u:Nat):Int)=(V:Int)*10 ^ j+(u:Int):=by push_cast;rfl
       rw [e];exact ac
      have al:k6≤k:=ae.nl.len_sz (show Sz k _ by unfold Sz;rw [Int.natAbs_natCast];exact HVk.out)
      clear ac
      go_wp2
      go_roundw
      case rel=>exact ⟨U,V*10 ^ j+u,go,k6,c6,rfl,rfl,al,ad,⟨ae,HUd.out,ah.out⟩,(hG.trans g5).trans g6⟩
      case measure=>simp [zA4];omega
   ·have ab:R.size=0:=by omega
    obtain ⟨hm,hda,hval⟩:=hh.out
    have hVn:V=n:=by
     have h2:R.data.toList.length=R.size:=by simp
     have h1:R.data.toList=[]:=List.length_eq_zero_iff.1 (by rw [h2];exact ab)
     rw [h1,ab] at hval
     simpa [zm4] using hval
    rw [hVn] at hm
    have aH:=Lib.hid ab
    clear ab hda hval hh hVn
    have p2:=Gr.heap hG (heap_alloc_new w (.cells #[.bool false,.slice none 0 0] 31))
    go_wp2_with fail
    (with_reducible refine (zf1 (decide (z<0)) mo ml mc (n:Int) _ (by omega) hm.cap hm.nl.nonneg hm.nl.top hm.row).mono ?_)
    rintro e w5 ⟨⟨k5,rfl,af,az⟩,g5⟩
    have p3:=Gr.heap g5 p2
    have d0:=zb1 p3 0
    have d1:=zb1 p3 1
    have d2:=zj3 p3
    have ap:Gr w w5:=(Gr.alloc w _).trans (hG.trans g5)
    have hint:=IsInt.mk' (z:=z) (s:=decide (z<0)) (k:=k) (af.gr g5) (by rw [HN.out]) (fun _=>rfl) hz
    obtain ⟨bb,hbb⟩:∃ bb,bb=(decide (z<0)&&decide (0<k5)):=⟨_,rfl⟩
    rw [← hbb] at hint ⊢
    clear hbb hm af p2
    go_wp2
    have p4:=za8 (i:=1) (.slice mo k5 mc) (za8 (i:=0) (.bool bb) p3)
    have hst:=(St.setCell w5 w.heap.size 0 (.bool bb)).trans (St.setCell _ w.heap.size 1 (.slice mo k5 mc))
    exact bodyPost_ret (v:=.tuple #[.agg #[.bool bb,.slice mo k5 mc],.int .i64 0]) (za9 _ _ _ rfl rfl p4 (by kernel_rfl) rfl) rfl ⟨⟨_,_,rfl,hint.kp (hst.kp p3 (by decide))⟩,hst.gr ap (Nat.le_refl _)⟩
 ·have aq:((D[0].toNat:Int)==48)=false:=by simpa using h48
  clear h48
  go_wp2
  go_loopw [4,6] (fun r m wr=>∃ (R:ByteArray) (V:Nat) (mo:Option Addr) (ml mc:Nat),r=.string R∧m=.slice mo ml mc∧ml≤k∧R.size≤60001∧Hid (Mag wr mo ml mc (V:Int)∧(∀ c ∈ R.data.toList,48≤c.toNat∧c.toNat≤57)∧V*10 ^ R.size+zm4 R.data.toList=n)∧Gr (w.alloc (.cells #[.bool false,.slice none 0 0] 31)) wr) (fun r _ _=>zA4 r)
  case atStart=>exact ⟨D,0,none,0,0,rfl,rfl,by omega,ar,⟨⟨Nat.le_refl _,NL.zero,Row.nil _ _ _⟩,HDa.out,by rw [HD.out,zO8];simp⟩,g2⟩
  case round=>
   obtain ⟨R,V,mo,ml,mc,rfl,rfl,hml,aB,hh,hG⟩:=hrel
   by_cases hp:0<R.size
   ·obtain ⟨q,hq⟩:∃ q:Nat,q=(R.size - 1) % 9+1:=⟨_,rfl⟩
    have ak:q≤9:=by omega
    have ax:0<q:=by omega
    have hqR:q≤R.size:=by omega
    have hqe:((R.size:Int) - 1) % 9+1=(q:Int):=by omega
    have HQ:=Lib.hid hq
    clear hq
    go_wp2
    obtain ⟨wo,hwo⟩:∃ wo:World,wo=wr:=⟨_,rfl⟩
    subst hwo
    go_loopw [8,48] (fun b i wq=>∃ (j:Nat) (x:Int),b=.int .u32 x∧i=.int .i64 j∧j≤q∧1≤x∧x≤1000000000∧Hid (x=10 ^ j)∧wq=wo) (fun _ i _=>q - (intOf i).toNat)
    case atStart=>exact ⟨0,1,rfl,rfl,by omega,by omega,by omega,rfl,rfl⟩
    case round=>
     obtain ⟨j,x,rfl,rfl,hj,aw,aC,hx,rfl⟩:=hrel
     by_cases hlt:j<q
     ·have aD:x≤100000000:=by
       rw [hx.out]
       have h8:(10:Nat) ^ j≤100000000:=Nat.le_trans (Nat.pow_le_pow_right (by omega) (show j≤8 by omega)) (by decide)
       have h9:=Int.ofNat_le.2 h8
       rw [Int.natCast_pow] at h9
       exact h9
      go_wp2
      go_roundw
      case rel=>exact ⟨j+1,x*10,rfl,by go_num,by omega,by omega,by omega,by rw [Hid,hx.out,Int.pow_succ],by first | rfl | trivial⟩
      case measure=>simp [intOf];omega
     ·obtain rfl:j=q:=by omega
      obtain ⟨T,hT⟩:∃ T,R.extract 0 j=T:=⟨_,rfl⟩
      obtain ⟨U,hU⟩:∃ U,R.extract j R.size=U:=⟨_,rfl⟩
      have hTl:T.data.toList=R.data.toList.take j:=by rw [← hT,zr0]
      have hUl:U.data.toList=R.data.toList.drop j:=by rw [← hU,zr1]
      have hRl:R.data.toList.length=R.size:=by simp
      have hTs:T.size=j:=by
       have h1:=congrArg List.length hTl
       rw [List.length_take,hRl] at h1
       have h2:T.data.toList.length=T.size:=by simp
       omega
      have hUs:U.size=R.size - j:=by
       have h1:=congrArg List.length hUl
       rw [List.length_drop,hRl] at h1
       have h2:U.data.toList.length=U.size:=by simp
       omega
      obtain ⟨hm,hda,hval⟩:=hh.out
      have hTd:∀ c ∈ T.data.toList,48≤c.toNat∧c.toNat≤57:=fun c hc=>hda c (by rw [hTl] at hc;exact List.mem_of_mem_take hc)
      have hUd:∀ c ∈ U.data.toList,48≤c.toNat∧c.toNat≤57:=fun c hc=>hda c (by rw [hUl] at hc;exact List.mem_of_mem_drop hc)
      obtain ⟨u,hu⟩:∃ u,u=zm4 T.data.toList:=⟨_,rfl⟩
      have aF:u<1000000000:=by
       have h1:=zV7 _ hTd
       have h2:T.data.toList.length=T.size:=by simp
       rw [h2,hTs] at h1
       have:(10:Nat) ^ j≤10 ^ 9:=Nat.pow_le_pow_right (by omega) ak
       omega
      have aa:(V*10 ^ j+u)*10 ^ U.size+zm4 U.data.toList=n:=by
       have h1:=zi2 (R.data.toList.take j) (R.data.toList.drop j)
       rw [List.take_append_drop,← hTl,← hUl] at h1
       have h2:U.data.toList.length=U.size:=by simp
       rw [h1,h2,← hu,show R.size=j+U.size by omega,Nat.pow_add] at hval
       rw [← hval];grind
      have hVk:V*10 ^ j+u<2 ^ k:=by
       have h1:V*10 ^ j+u≤(V*10 ^ j+u)*10 ^ U.size:=Nat.le_mul_of_pos_right _ (Nat.pow_pos (by omega))
       omega
      have hpu:=zy2 T hTd (by omega) (by omega)
      rw [← hu] at hpu
      have ah:=Lib.hid aa
      have HVk:=Lib.hid hVk
      have HUd:=Lib.hid hUd
      have HX:=hx
      have ai:T.size≤9:=by omega
      have aj:U.size<R.size:=by omega
      have ad:U.size≤60001:=by omega
      clear hTl hUl hRl hTd hUd hda hval aa hVk hu hTs hUs hqe
      have av:(u:Int)<1000000000:=by omega
      go_wp2_with fail
      (with_reducible refine (hpu _).mono ?_)
      rintro e w5 ⟨rfl,g5⟩
      clear hpu
      go_wp2_with fail
      (with_reducible refine (zX4 mo ml mc (V:Int) x (u:Int) _ (by omega) (hm.kp g5.kp) (by omega) (by omega) (by omega) (by omega)).mono ?_)
      rintro e w6 ⟨⟨go,k6,c6,rfl,ac,aA⟩,g6⟩
      have ae:Mag w6 go k6 c6 ((V*10 ^ j+u:Nat):Int):=by
       rw [HX.out] at ac
       have e:((V*10 ^ j+u:Nat):Int)=(V:Int)*10 ^ j+(u:Int):=by push_cast;rfl
       rw [e];exact ac
      have al:k6≤k:=ae.nl.len_sz (show Sz k _ by unfold Sz;rw [Int.natAbs_natCast];exact HVk.out)
      clear ac
      go_wp2
      go_roundw
      case rel=>exact ⟨U,V*10 ^ j+u,go,k6,c6,rfl,rfl,al,ad,⟨ae,HUd.out,ah.out⟩,(hG.trans g5).trans g6⟩
      case measure=>simp [zA4];omega
   ·have ab:R.size=0:=by omega
    obtain ⟨hm,hda,hval⟩:=hh.out
    have hVn:V=n:=by
     have h2:R.data.toList.length=R.size:=by simp
     have h1:R.data.toList=[]:=List.length_eq_zero_iff.1 (by rw [h2];exact ab)
     rw [h1,ab] at hval
     simpa [zm4] using hval
    rw [hVn] at hm
    have aH:=Lib.hid ab
    clear ab hda hval hh hVn
    have p2:=Gr.heap hG (heap_alloc_new w (.cells #[.bool false,.slice none 0 0] 31))
    go_wp2_with fail
    (with_reducible refine (zf1 (decide (z<0)) mo ml mc (n:Int) _ (by omega) hm.cap hm.nl.nonneg hm.nl.top hm.row).mono ?_)
    rintro e w5 ⟨⟨k5,rfl,af,az⟩,g5⟩
    have p3:=Gr.heap g5 p2
    have d0:=zb1 p3 0
    have d1:=zb1 p3 1
    have d2:=zj3 p3
    have ap:Gr w w5:=(Gr.alloc w _).trans (hG.trans g5)
    have hint:=IsInt.mk' (z:=z) (s:=decide (z<0)) (k:=k) (af.gr g5) (by rw [HN.out]) (fun _=>rfl) hz
    obtain ⟨bb,hbb⟩:∃ bb,bb=(decide (z<0)&&decide (0<k5)):=⟨_,rfl⟩
    rw [← hbb] at hint ⊢
    clear hbb hm af p2
    go_wp2
    have p4:=za8 (i:=1) (.slice mo k5 mc) (za8 (i:=0) (.bool bb) p3)
    have hst:=(St.setCell w5 w.heap.size 0 (.bool bb)).trans (St.setCell _ w.heap.size 1 (.slice mo k5 mc))
    exact bodyPost_ret (v:=.tuple #[.agg #[.bool bb,.slice mo k5 mc],.int .i64 0]) (za9 _ _ _ rfl rfl p4 (by kernel_rfl) rfl) rfl ⟨⟨_,_,rfl,hint.kp (hst.kp p3 (by decide))⟩,hst.gr ap (Nat.le_refl _)⟩
set_option maxRecDepth 100000 in
set_option maxHeartbeats 1000000 in
theorem zP7 {k:Nat} {n0 n1 d0 d1:Value} {N D:Int} {w:World} (hn:IsInt w k n0 n1 N) (hd:IsInt w k d0 d1 D) (_hk:k+k+k+k+k+k+66≤1000000) (_h0:D<0) (hg:(sgn ((Int.gcd ((-N)) ((-D)):Int) - 1) !=0)=false):
    Calls Tryz.prog 63 #[(.agg #[n0,n1]),(.agg #[d0,d1])] w fun e w'=>(∃ x y x2 y2,e=.returned (.agg #[x,y,x2,y2])∧IsInt w' k x y ((-N))∧IsInt w' k x2 y2 ((-D)))∧Gr w w':=by
 go_enter Tryz.func63,Tryz.ntmps63
 have hB:=Gr.refl w
 refine wp_seq_k (fun K1 k1=>?_)
 refine rg [0,1,2] ?_
 refine se ?_
 refine eb 31 #[n0,n1] 2 hB fun b2 w2 g2 L2 o2 q2 hB=>?_
 simp only [p3,p4]
 refine se ?_
 refine eb 31 #[d0,d1] 3 hB fun b3 w3 g3 L3 o3 q3 hB=>?_
 have ak:=L2.ne o3
 simp only [p3,p4]
 refine se ?_
 refine ea 33 #[.bool false,.slice none 0 0,.bool false,.slice none 0 0] 4 hB fun b4 w4 g4 L4 o4 q4 hB=>?_
 replace L2:=L2.gr g3
 have aF:=L2.ne o4
 have aH:=L3.ne o4
 simp only [p3,p4]
 refine za0 ?_
 refine k1 _ _ ?_
 try clear k1 K1
 refine wp_seq_k (fun K5 k5=>?_)
 refine wp_seq_k (fun K6 k6=>?_)
 refine rg [0,1,2] ?_
 replace L3:=L3.gr g4
 refine sw 6 (.agg #[d0,d1]) rfl (rl 31 0 [d0,d1] L3) ?_
 refine se ?_
 have aW:=g2.kp.trans (g3.kp.trans g4.kp)
 replace hd:=hd.kp aW
 refine ec 7 (zA0 hd (by omega)) ?_
 rintro e7 w7 ⟨rfl,g7⟩
 refine ⟨_,rfl,?_⟩
 replace hB:=hB.trans g7
 simp only [p3,p4]
 refine sv 8 (.bool true) ?_
 refine za0 ?_
 refine k6 _ _ ?_
 try clear k6 K6
 refine wp_cond_true rfl ?_
 have ab:=Gr.drew w7
 replace hB:=hB.trans ab
 replace L2:=L2.gr (g4.trans (g7.trans ab))
 replace L3:=L3.gr (g7.trans ab)
 refine zb7 (fun _=>True) [([4],(fun w'=>Lc w' b2 #[n0,n1] 31)),([5],(fun w'=>Lc w' b3 #[d0,d1] 31))] [(true,0),(true,2),(false,1),(false,3),(false,4),(false,5)] (by kernel_rfl) (by kernel_rfl) (by kernel_rfl) (by decide) (fun _ _ _ _ _ h=>h) trivial ⟨fun _=>L2,fun _=>L3,trivial⟩ ?_
 refine tw 9 (.agg #[n0,n1]) rfl (fun w' hS=>(rl 31 0 [n0,n1] (hS.2.1 (by kernel_rfl)))) ?_
 refine tw 11 (.agg #[d0,d1]) rfl (fun w' hS=>(rl 31 0 [d0,d1] (hS.2.2.1 (by kernel_rfl)))) ?_
 refine te ?_
 have aR:=g2.kp.trans (g3.kp.trans (g4.kp.trans (g7.kp.trans ab.kp)))
 replace hn:=hn.kp aR
 refine ec 10 (zQ2 hn) ?_
 rintro e12 bd ⟨⟨ae,ac,rfl,aj⟩,aC⟩
 refine ⟨_,rfl,?_⟩
 replace hB:=hB.trans aC
 replace L2:=L2.gr aC
 replace L3:=L3.gr aC
 refine ⟨trivial,⟨fun _=>L2,fun _=>L3,trivial⟩,?_⟩
 simp only [p3,p4]
 refine te ?_
 have aN:=g7.kp.trans (ab.kp.trans aC.kp)
 replace hd:=hd.kp aN
 refine ec 12 (zQ2 hd) ?_
 rintro bj bb ⟨⟨ad,af,rfl,ai⟩,aJ⟩
 refine ⟨_,rfl,?_⟩
 replace hB:=hB.trans aJ
 replace L2:=L2.gr aJ
 replace L3:=L3.gr aJ
 refine ⟨trivial,⟨fun _=>L2,fun _=>L3,trivial⟩,?_⟩
 simp only [p3,p4]
 refine te ?_
 refine es 31 0 (.agg #[ae,ac]) [ae,ac] #[ae,ac] L2 hB q2 ⟨aj.one0,aj.one1,trivial⟩ fun bk ay az L2 hB=>?_
 replace L3:=ay.lc L3 (Ne.symm ak)
 refine ⟨trivial,⟨zh3 (by kernel_rfl),fun _=>L3,trivial⟩,?_⟩
 refine te ?_
 refine es 31 0 (.agg #[ad,af]) [ad,af] #[ad,af] L3 hB q3 ⟨ai.one0,ai.one1,trivial⟩ fun bf aD aK L3 hB=>?_
 refine ⟨trivial,⟨zh3 (by kernel_rfl),zh3 (by kernel_rfl),trivial⟩,?_⟩
 refine zi1 ?_
 refine k5 _ _ ?_
 try clear k5 K5
 refine wp_seq_k (fun a1 aS=>?_)
 refine rg [0,1,2,3,4] ?_
 replace L2:=aD.lc L2 ak
 refine sw 13 (.agg #[ae,ac]) rfl (rl 31 0 [ae,ac] L2) ?_
 refine sw 14 (.agg #[ad,af]) rfl (rl 31 0 [ad,af] L3) ?_
 refine se ?_
 have aL:=aJ.kp.trans (az.trans aK)
 replace aj:=aj.kp aL
 have aQ:=az.trans aK
 replace ai:=ai.kp aQ
 refine ec 15 (zr6 aj ai (by omega)) ?_
 rintro e22 bi ⟨⟨ax,av,rfl,aB⟩,aG⟩
 refine ⟨_,rfl,?_⟩
 replace hB:=hB.trans aG
 simp only [p3,p4]
 refine se ?_
 refine ea 31 #[.bool false,.slice none 0 0] 5 hB fun a4 bc aA ah aM a3 hB=>?_
 replace L2:=L2.gr aG
 have ap:=L2.ne aM
 replace L3:=L3.gr aG
 have aq:=L3.ne aM
 replace L4:=(aD.lc (ay.lc (L4.gr (g7.trans (ab.trans (aC.trans aJ)))) (Ne.symm aF)) (Ne.symm aH)).gr aG
 have ar:=L4.ne aM
 simp only [p3,p4]
 refine se ?_
 refine es 31 0 (.agg #[ax,av]) [ax,av] #[ax,av] ah hB a3 ⟨aB.one0,aB.one1,trivial⟩ fun aX al aI ah hB=>?_
 refine za0 ?_
 refine aS _ _ ?_
 try clear aS a1
 refine wp_seq_k (fun a2 aV=>?_)
 refine wp_seq_k (fun a0 aU=>?_)
 have aa:=Gr.drew aX
 replace hB:=hB.trans aa
 replace ah:=ah.gr aa
 refine za1 (fun w'=>Lc w' a4 #[ax,av] 31) [(true,0),(false,1),(false,2),(true,3)] (by kernel_rfl) (by kernel_rfl) (by kernel_rfl) (by decide) (fun _ _ _ _ _ h=>h) ah ?_
 refine ow 16 (.agg #[ax,av]) rfl (fun w' hS=>(rl 31 0 [ax,av] hS)) ?_
 refine oe ?_
 refine ec 17 (zD4 _) ?_
 rintro a6 a8 ⟨⟨bh,a7,rfl,a5⟩,au⟩
 refine ⟨_,rfl,?_⟩
 replace hB:=hB.trans au
 replace ah:=ah.gr au
 refine ⟨ah,?_⟩
 simp only [p3,p4]
 refine oe ?_
 have aP:=aA.kp.trans (aI.trans (aa.kp.trans au.kp))
 replace aB:=aB.kp aP
 refine ec 18 (zd4 aB a5 (by omega) (by omega)) ?_
 rintro a9 ba ⟨rfl,aw⟩
 refine ⟨_,rfl,?_⟩
 replace hB:=hB.trans aw
 replace ah:=ah.gr aw
 refine ⟨ah,?_⟩
 simp only [p3,p4]
 refine ow 19 (.bool false) rfl (fun w' hS=>(RunV.bool (x:=(sgn ((Int.gcd ((-N)) ((-D)):Int) - 1) !=(0:Int))) (rvk (by kernel_rfl)) hg)) ?_
 refine za2 ?_
 refine aU _ _ ?_
 try clear aU a0
 refine wp_cond_false rfl ?_
 refine wp_skip ?_
 refine aV _ _ ?_
 try clear aV a2
 refine wp_seq_k (fun aZ aT=>?_)
 refine rg [0,1,2,3] ?_
 replace L2:=(al.lc (L2.gr aA) ap).gr (aa.trans (au.trans aw))
 refine sw 34 (.agg #[ae,ac]) rfl (rl 31 0 [ae,ac] L2) ?_
 replace L3:=(al.lc (L3.gr aA) aq).gr (aa.trans (au.trans aw))
 refine sw 35 (.agg #[ad,af]) rfl (rl 31 0 [ad,af] L3) ?_
 refine sv 36 (.agg #[ae,ac,ad,af]) ?_
 refine se ?_
 replace L4:=(al.lc (L4.gr aA) ar).gr (aa.trans (au.trans aw))
 refine es 33 0 (.agg #[ae,ac,ad,af]) [ae,ac,ad,af] #[ae,ac,ad,af] L4 hB q4 ⟨aj.one0,aj.one1,ai.one0,ai.one1,trivial⟩ fun bg aY aO L4 hB=>?_
 refine za0 ?_
 refine aT _ _ ?_
 try clear aT aZ
 refine wp_ret ?_
 refine bodyPost_ret (v:=(.agg #[ae,ac,ad,af])) (za6 _ _ _ rfl rfl L4 (by kernel_rfl)) rfl ⟨?_,hB⟩
 have aE:=aG.kp.trans (aA.kp.trans (aI.trans (aa.kp.trans (au.kp.trans (aw.kp.trans aO)))))
 replace aj:=aj.kp aE
 replace ai:=ai.kp aE
 exact ⟨_,_,_,_,rfl,aj,ai⟩

set_option maxRecDepth 100000 in
set_option maxHeartbeats 1000000 in
theorem zP8 {k:Nat} {n0 n1 d0 d1:Value} {N D:Int} {w:World} (hn:IsInt w k n0 n1 N) (hd:IsInt w k d0 d1 D) (_hk:k+k+k+k+k+k+66≤1000000) (_h0:D<0) (hg:(sgn ((Int.gcd ((-N)) ((-D)):Int) - 1) !=0)=true) (hxn:0<(Int.gcd ((-N)) ((-D)):Int)∧(Int.gcd ((-N)) ((-D)):Int)∣(-N)) (_hxd:0<(Int.gcd ((-N)) ((-D)):Int)∧(Int.gcd ((-N)) ((-D)):Int)∣(-D)):
    Calls Tryz.prog 63 #[(.agg #[n0,n1]),(.agg #[d0,d1])] w fun e w'=>(∃ x y x2 y2,e=.returned (.agg #[x,y,x2,y2])∧IsInt w' k x y ((-N)/(Int.gcd ((-N)) ((-D)):Int))∧IsInt w' k x2 y2 ((-D)/(Int.gcd ((-N)) ((-D)):Int)))∧Gr w w':=by
 go_enter Tryz.func63,Tryz.ntmps63
 have hB:=Gr.refl w
 refine wp_seq_k (fun K1 k1=>?_)
 refine rg [0,1,2] ?_
 refine se ?_
 refine eb 31 #[n0,n1] 2 hB fun b2 w2 g2 L2 o2 q2 hB=>?_
 simp only [p3,p4]
 refine se ?_
 refine eb 31 #[d0,d1] 3 hB fun b3 w3 g3 L3 o3 q3 hB=>?_
 have ac:=L2.ne o3
 simp only [p3,p4]
 refine se ?_
 refine ea 33 #[.bool false,.slice none 0 0,.bool false,.slice none 0 0] 4 hB fun b4 w4 g4 L4 o4 q4 hB=>?_
 replace L2:=L2.gr g3
 have av:=L2.ne o4
 have aw:=L3.ne o4
 simp only [p3,p4]
 refine za0 ?_
 refine k1 _ _ ?_
 try clear k1 K1
 refine wp_seq_k (fun K5 k5=>?_)
 refine wp_seq_k (fun K6 k6=>?_)
 refine rg [0,1,2] ?_
 replace L3:=L3.gr g4
 refine sw 6 (.agg #[d0,d1]) rfl (rl 31 0 [d0,d1] L3) ?_
 refine se ?_
 have bi:=g2.kp.trans (g3.kp.trans g4.kp)
 replace hd:=hd.kp bi
 refine ec 7 (zA0 hd (by omega)) ?_
 rintro e7 w7 ⟨rfl,g7⟩
 refine ⟨_,rfl,?_⟩
 replace hB:=hB.trans g7
 simp only [p3,p4]
 refine sv 8 (.bool true) ?_
 refine za0 ?_
 refine k6 _ _ ?_
 try clear k6 K6
 refine wp_cond_true rfl ?_
 have ad:=Gr.drew w7
 replace hB:=hB.trans ad
 replace L2:=L2.gr (g4.trans (g7.trans ad))
 replace L3:=L3.gr (g7.trans ad)
 refine zb7 (fun _=>True) [([4],(fun w'=>Lc w' b2 #[n0,n1] 31)),([5],(fun w'=>Lc w' b3 #[d0,d1] 31))] [(true,0),(true,2),(false,1),(false,3),(false,4),(false,5)] (by kernel_rfl) (by kernel_rfl) (by kernel_rfl) (by decide) (fun _ _ _ _ _ h=>h) trivial ⟨fun _=>L2,fun _=>L3,trivial⟩ ?_
 refine tw 9 (.agg #[n0,n1]) rfl (fun w' hS=>(rl 31 0 [n0,n1] (hS.2.1 (by kernel_rfl)))) ?_
 refine tw 11 (.agg #[d0,d1]) rfl (fun w' hS=>(rl 31 0 [d0,d1] (hS.2.2.1 (by kernel_rfl)))) ?_
 refine te ?_
 have bb:=g2.kp.trans (g3.kp.trans (g4.kp.trans (g7.kp.trans ad.kp)))
 replace hn:=hn.kp bb
 refine ec 10 (zQ2 hn) ?_
 rintro e12 bK ⟨⟨aE,ay,rfl,ar⟩,aS⟩
 refine ⟨_,rfl,?_⟩
 replace hB:=hB.trans aS
 replace L2:=L2.gr aS
 replace L3:=L3.gr aS
 refine ⟨trivial,⟨fun _=>L2,fun _=>L3,trivial⟩,?_⟩
 simp only [p3,p4]
 refine te ?_
 have a5:=g7.kp.trans (ad.kp.trans aS.kp)
 replace hd:=hd.kp a5
 refine ec 12 (zQ2 hd) ?_
 rintro bS bG ⟨⟨aA,aI,rfl,aq⟩,aX⟩
 refine ⟨_,rfl,?_⟩
 replace hB:=hB.trans aX
 replace L2:=L2.gr aX
 replace L3:=L3.gr aX
 refine ⟨trivial,⟨fun _=>L2,fun _=>L3,trivial⟩,?_⟩
 simp only [p3,p4]
 refine te ?_
 refine es 31 0 (.agg #[aE,ay]) [aE,ay] #[aE,ay] L2 hB q2 ⟨ar.one0,ar.one1,trivial⟩ fun bT aO aP L2 hB=>?_
 replace L3:=aO.lc L3 (Ne.symm ac)
 refine ⟨trivial,⟨zh3 (by kernel_rfl),fun _=>L3,trivial⟩,?_⟩
 refine te ?_
 refine es 31 0 (.agg #[aA,aI]) [aA,aI] #[aA,aI] L3 hB q3 ⟨aq.one0,aq.one1,trivial⟩ fun bL aT aY L3 hB=>?_
 refine ⟨trivial,⟨zh3 (by kernel_rfl),zh3 (by kernel_rfl),trivial⟩,?_⟩
 refine zi1 ?_
 refine k5 _ _ ?_
 try clear k5 K5
 refine wp_seq_k (fun bo bc=>?_)
 refine rg [0,1,2,3,4] ?_
 replace L2:=aT.lc L2 ac
 refine sw 13 (.agg #[aE,ay]) rfl (rl 31 0 [aE,ay] L2) ?_
 refine sw 14 (.agg #[aA,aI]) rfl (rl 31 0 [aA,aI] L3) ?_
 refine se ?_
 have a2:=aX.kp.trans (aP.trans aY)
 replace ar:=ar.kp a2
 have ba:=aP.trans aY
 replace aq:=aq.kp ba
 refine ec 15 (zr6 ar aq (by omega)) ?_
 rintro e22 bP ⟨⟨ap,al,rfl,ak⟩,aM⟩
 refine ⟨_,rfl,?_⟩
 replace hB:=hB.trans aM
 simp only [p3,p4]
 refine se ?_
 refine ea 31 #[.bool false,.slice none 0 0] 5 hB fun bv bH aL ab a3 bt hB=>?_
 replace L2:=L2.gr aM
 have aj:=L2.ne a3
 replace L3:=L3.gr aM
 have aG:=L3.ne a3
 replace L4:=(aT.lc (aO.lc (L4.gr (g7.trans (ad.trans (aS.trans aX)))) (Ne.symm av)) (Ne.symm aw)).gr aM
 have aK:=L4.ne a3
 simp only [p3,p4]
 refine se ?_
 refine es 31 0 (.agg #[ap,al]) [ap,al] #[ap,al] ab hB bt ⟨ak.one0,ak.one1,trivial⟩ fun bj aB aF ab hB=>?_
 refine za0 ?_
 refine bc _ _ ?_
 try clear bc bo
 refine wp_seq_k (fun bq bg=>?_)
 refine wp_seq_k (fun bn bf=>?_)
 have aa:=Gr.drew bj
 replace hB:=hB.trans aa
 replace ab:=ab.gr aa
 refine za1 (fun w'=>Lc w' bv #[ap,al] 31) [(true,0),(false,1),(false,2),(true,3)] (by kernel_rfl) (by kernel_rfl) (by kernel_rfl) (by decide) (fun _ _ _ _ _ h=>h) ab ?_
 refine ow 16 (.agg #[ap,al]) rfl (fun w' hS=>(rl 31 0 [ap,al] hS)) ?_
 refine oe ?_
 refine ec 17 (zD4 _) ?_
 rintro bA bC ⟨⟨bO,bB,rfl,bw⟩,ax⟩
 refine ⟨_,rfl,?_⟩
 replace hB:=hB.trans ax
 replace ab:=ab.gr ax
 refine ⟨ab,?_⟩
 simp only [p3,p4]
 refine oe ?_
 have a9:=aL.kp.trans (aF.trans (aa.kp.trans ax.kp))
 replace ak:=ak.kp a9
 refine ec 18 (zd4 ak bw (by omega) (by omega)) ?_
 rintro bD bE ⟨rfl,au⟩
 refine ⟨_,rfl,?_⟩
 replace hB:=hB.trans au
 replace ab:=ab.gr au
 refine ⟨ab,?_⟩
 simp only [p3,p4]
 refine ow 19 (.bool true) rfl (fun w' hS=>(RunV.bool (x:=(sgn ((Int.gcd ((-N)) ((-D)):Int) - 1) !=(0:Int))) (rvk (by kernel_rfl)) hg)) ?_
 refine za2 ?_
 refine bf _ _ ?_
 try clear bf bn
 refine wp_cond_true rfl ?_
 refine wp_seq_k (fun bm bd=>?_)
 refine rg [0,1,2,3,4,5,6,7] ?_
 replace L2:=(aB.lc (L2.gr aL) aj).gr (aa.trans (ax.trans au))
 refine sw 21 (.agg #[aE,ay]) rfl (rl 31 0 [aE,ay] L2) ?_
 refine sw 22 (.agg #[ap,al]) rfl (rl 31 0 [ap,al] ab) ?_
 refine se ?_
 have a8:=aM.kp.trans (aL.kp.trans (aF.trans (aa.kp.trans (ax.kp.trans au.kp))))
 replace ar:=ar.kp a8
 replace ak:=ak.kp au.kp
 refine ec 23 (zg8 ar ak hxn.1 (by omega)) ?_
 rintro bz bM ⟨⟨ah,af,aR,aU,rfl,aJ,bk⟩,aC⟩
 refine ⟨_,rfl,?_⟩
 replace hB:=hB.trans aC
 simp only [p3,p4]
 refine sv 20 (.tuple #[(.agg #[ah,af]),(.agg #[aR,aU]),.int .i64 0]) ?_
 refine sv 24 (.agg #[ah,af]) ?_
 refine sv 25 (.agg #[aR,aU]) ?_
 refine sv 26 (.int .i64 0) ?_
 refine se ?_
 replace L2:=L2.gr aC
 refine es 31 0 (.agg #[ah,af]) [ah,af] #[ah,af] L2 hB q2 ⟨aJ.one0,aJ.one1,trivial⟩ fun bR az aD L2 hB=>?_
 refine za0 ?_
 refine bd _ _ ?_
 try clear bd bm
 refine rg [0,1,2,3,4,5,6,7] ?_
 replace L3:=az.lc ((aB.lc (L3.gr aL) aG).gr (aa.trans (ax.trans (au.trans aC)))) (Ne.symm ac)
 refine sw 28 (.agg #[aA,aI]) rfl (rl 31 0 [aA,aI] L3) ?_
 replace ab:=az.lc (ab.gr aC) (Ne.symm aj)
 refine sw 29 (.agg #[ap,al]) rfl (rl 31 0 [ap,al] ab) ?_
 refine se ?_
 have a1:=aM.kp.trans (aL.kp.trans (aF.trans (aa.kp.trans (ax.kp.trans (au.kp.trans (aC.kp.trans aD))))))
 replace aq:=aq.kp a1
 have a4:=aC.kp.trans aD
 replace ak:=ak.kp a4
 refine ec 30 (zg8 aq ak hxn.1 (by omega)) ?_
 rintro bJ bF ⟨⟨ae,ai,a0,aW,rfl,aH,bx⟩,aV⟩
 refine ⟨_,rfl,?_⟩
 replace hB:=hB.trans aV
 simp only [p3,p4]
 refine sv 27 (.tuple #[(.agg #[ae,ai]),(.agg #[a0,aW]),.int .i64 0]) ?_
 refine sv 31 (.agg #[ae,ai]) ?_
 refine sv 32 (.agg #[a0,aW]) ?_
 refine sv 33 (.int .i64 0) ?_
 refine se ?_
 replace L3:=L3.gr aV
 refine es 31 0 (.agg #[ae,ai]) [ae,ai] #[ae,ai] L3 hB q3 ⟨aH.one0,aH.one1,trivial⟩ fun bN aN aZ L3 hB=>?_
 refine za0 ?_
 refine bg _ _ ?_
 try clear bg bq
 refine wp_seq_k (fun bp bh=>?_)
 refine rg [0,1,2,3] ?_
 replace L2:=aN.lc (L2.gr aV) ac
 refine sw 34 (.agg #[ah,af]) rfl (rl 31 0 [ah,af] L2) ?_
 refine sw 35 (.agg #[ae,ai]) rfl (rl 31 0 [ae,ai] L3) ?_
 refine sv 36 (.agg #[ah,af,ae,ai]) ?_
 refine se ?_
 replace L4:=aN.lc ((az.lc ((aB.lc (L4.gr aL) aK).gr (aa.trans (ax.trans (au.trans aC)))) (Ne.symm av)).gr aV) (Ne.symm aw)
 refine es 33 0 (.agg #[ah,af,ae,ai]) [ah,af,ae,ai] #[ah,af,ae,ai] L4 hB q4 ⟨aJ.one0,aJ.one1,aH.one0,aH.one1,trivial⟩ fun bQ bu aQ L4 hB=>?_
 refine za0 ?_
 refine bh _ _ ?_
 try clear bh bp
 refine wp_ret ?_
 refine bodyPost_ret (v:=(.agg #[ah,af,ae,ai])) (za6 _ _ _ rfl rfl L4 (by kernel_rfl)) rfl ⟨?_,hB⟩
 have a7:=aD.trans (aV.kp.trans (aZ.trans aQ))
 replace aJ:=aJ.kp a7
 have a6:=aZ.trans aQ
 replace aH:=aH.kp a6
 exact ⟨_,_,_,_,rfl,aJ,aH⟩

theorem zW8 {k m:Nat} (K:Nat) {n0 n1 d0 d1:Value} {N D:Int} {w:World} (hn:IsInt w k n0 n1 N) (hd:IsInt w m d0 d1 D) (h0:D≠0) (h1:k≤K) (h2:m≤K) (h3:64≤K) (h4:8*K≤1000000):
  Calls Tryz.prog 63 #[.agg #[n0,n1],.agg #[d0,d1]] w fun e w'=>(∃ c0 c1 c2 c3,e=.returned (.agg #[c0,c1,c2,c3])∧IsRat w' K c0 c1 c2 c3 (Rat.divInt N D))∧Gr w w':=by
 rcases Int.lt_or_gt_of_ne h0 with hneg | hpos
 ·have hN:=hn.mono h1
  have hD:=hd.mono h2
  have hp:0< -D:=by omega
  have e0:Rat.divInt N D=Rat.divInt (-N) (-D):=(Rat.neg_divInt_neg N D).symm
  have en:(Rat.divInt N D).num=(-N)/(Int.gcd (-N) (-D):Int):=by
   rw [e0,Rat.num_divInt,Int.sign_eq_one_of_pos hp,Int.one_mul,Int.gcd_comm]
  have ed:((Rat.divInt N D).den:Int)=(-D)/(Int.gcd (-N) (-D):Int):=by
   rw [e0,Rat.den_divInt,if_neg (by omega),Int.gcd_comm,Int.natCast_ediv]
   congr 1
   omega
  have ab:0<(Int.gcd (-N) (-D):Int):=by
   have:Int.gcd (-N) (-D)≠0:=by rw [Ne,Int.gcd_eq_zero_iff];omega
   omega
  by_cases hg:(Int.gcd (-N) (-D):Int)=1
  ·refine (zP7 hN hD (by omega) hneg (by rw [hg];rfl)).mono ?_
   rintro e w1 ⟨⟨x,y,x2,y2,he,hi,aa⟩,g⟩
   rw [hg,Int.ediv_one] at en ed
   exact ⟨⟨x,y,x2,y2,he,by rw [en];exact hi,⟨_,aa,.inl ed.symm⟩,h3⟩,g⟩
  ·have hb:(sgn ((Int.gcd (-N) (-D):Int) - 1) !=0)=true:=by
    have:sgn ((Int.gcd (-N) (-D):Int) - 1)≠0:=fun h=>hg (by have:=zd7.1 h;omega)
    simpa using this
   refine (zP8 hN hD (by omega) hneg hb ⟨ab,Int.gcd_dvd_left ..⟩ ⟨ab,Int.gcd_dvd_right ..⟩).mono ?_
   rintro e w1 ⟨⟨x,y,x2,y2,he,hi,aa⟩,g⟩
   exact ⟨⟨x,y,x2,y2,he,by rw [en];exact hi,⟨_,aa,.inl ed.symm⟩,h3⟩,g⟩
 ·exact zg1 K hn hd hpos h1 h2 h3 h4
set_option maxRecDepth 100000 in
set_option maxHeartbeats 1000000 in
theorem number_w {k:Nat} {u0 u1 u2 u3:Value} {a:Rat} {w:World} (ha:IsRat w k u0 u1 u2 u3 a) (_hk:k≤800000) (ht:Tab w) (hw:a.den=1):
    Calls Tryz.prog 35 #[(.agg #[u0,u1,u2,u3])] w fun e w'=>e=.returned (.string ⟨(za3 a).toArray⟩)∧Gr w w':=by
 go_enter Tryz.func35,Tryz.ntmps35
 have hB:=Gr.refl w
 refine wp_seq_k (fun K1 k1=>?_)
 refine rg [0,1] ?_
 refine se ?_
 refine eb 33 #[u0,u1,u2,u3] 1 hB fun b2 w2 g2 L2 o2 q2 hB=>?_
 simp only [p3,p4]
 refine sv 2 (.string ⟨([]:List UInt8).toArray⟩) ?_
 refine za0 ?_
 refine k1 _ _ ?_
 try clear k1 K1
 refine wp_seq_k (fun K3 k3=>?_)
 refine wp_seq_k (fun K4 k4=>?_)
 refine rg [0,1] ?_
 refine sw 3 (.agg #[u0,u1,u2,u3]) rfl (rl 33 0 [u0,u1,u2,u3] L2) ?_
 refine se ?_
 replace ha:=ha.kp g2.kp
 refine ec 4 (zg0 ha (by omega) hw) ?_
 rintro e5 w5 ⟨rfl,g5⟩
 refine ⟨_,rfl,?_⟩
 replace hB:=hB.trans g5
 simp only [p3,p4]
 refine za0 ?_
 refine k4 _ _ ?_
 try clear k4 K4
 refine wp_cond_true rfl ?_
 refine wp_seq_k (fun K6 k6=>?_)
 refine rg [0,1,2,3] ?_
 refine sv 5 (.pointer (some ⟨b2,0,none⟩)) ?_
 replace L2:=L2.gr g5
 refine sw 6 (.agg #[u0,u1]) rfl (rl 31 0 [u0,u1] L2) ?_
 refine se ?_
 replace ha:=ha.kp g5.kp
 refine ec 7 (zx7 ha.num (by omega) (ht.gr hB)) ?_
 rintro e7 w7 ⟨rfl,g7⟩
 refine ⟨_,rfl,?_⟩
 replace hB:=hB.trans g7
 simp only [p3,p4]
 refine sv 2 (.string ⟨(Lib.itoa (a.num):List UInt8).toArray⟩) ?_
 refine za0 ?_
 refine k6 _ _ ?_
 try clear k6 K6
 refine wp_ret ?_
 simp only [Exit.then]
 refine bodyPost_ret (v:=(.string ⟨(Lib.itoa (a.num):List UInt8).toArray⟩)) (zb6 rfl rfl) rfl ⟨?_,hB⟩
 exact (by rw [zK8 hw])

set_option maxRecDepth 100000 in
set_option maxHeartbeats 1000000 in
theorem number_d {k:Nat} {u0 u1 u2 u3:Value} {a:Rat} {w:World} (ha:IsRat w k u0 u1 u2 u3 a) (_hk:k≤800000) (ht:Tab w) (hd:IsInt w k u2 u3 (a.den:Int)) (hw:¬ a.den=1):
    Calls Tryz.prog 35 #[(.agg #[u0,u1,u2,u3])] w fun e w'=>e=.returned (.string ⟨(za3 a).toArray⟩)∧Gr w w':=by
 have ak:=zk1 ha.num.sz
 have al:=zk1 hd.sz
 go_enter Tryz.func35,Tryz.ntmps35
 have hB:=Gr.refl w
 refine wp_seq_k (fun K1 k1=>?_)
 refine rg [0,1] ?_
 refine se ?_
 refine eb 33 #[u0,u1,u2,u3] 1 hB fun b2 w2 g2 L2 o2 q2 hB=>?_
 simp only [p3,p4]
 refine sv 2 (.string ⟨([]:List UInt8).toArray⟩) ?_
 refine za0 ?_
 refine k1 _ _ ?_
 try clear k1 K1
 refine wp_seq_k (fun K3 k3=>?_)
 refine wp_seq_k (fun K4 k4=>?_)
 refine rg [0,1] ?_
 refine sw 3 (.agg #[u0,u1,u2,u3]) rfl (rl 33 0 [u0,u1,u2,u3] L2) ?_
 refine se ?_
 replace ha:=ha.kp g2.kp
 refine ec 4 (zj5 ha (by omega) hw) ?_
 rintro e5 w5 ⟨rfl,g5⟩
 refine ⟨_,rfl,?_⟩
 replace hB:=hB.trans g5
 simp only [p3,p4]
 refine za0 ?_
 refine k4 _ _ ?_
 try clear k4 K4
 refine wp_cond_false rfl ?_
 refine wp_skip ?_
 refine k3 _ _ ?_
 try clear k3 K3
 refine wp_seq_k (fun K6 k6=>?_)
 have aa:=Gr.drew w5
 replace hB:=hB.trans aa
 replace L2:=L2.gr (g5.trans aa)
 refine za1 (fun w'=>Lc w' b2 #[u0,u1,u2,u3] 33) [(true,0),(true,1),(true,4),(true,5),(false,2),(true,3),(false,6),(true,7),(true,8)] (by kernel_rfl) (by kernel_rfl) (by kernel_rfl) (by decide) (fun _ _ _ _ _ h=>h) L2 ?_
 refine ov 8 (.pointer (some ⟨b2,0,none⟩)) ?_
 refine ow 9 (.agg #[u0,u1]) rfl (fun w' hS=>(rl 31 0 [u0,u1] hS)) ?_
 refine ov 12 (.pointer (some ⟨b2,2,none⟩)) ?_
 refine ow 13 (.agg #[u2,u3]) rfl (fun w' hS=>(rl 31 2 [u2,u3] hS)) ?_
 refine oe ?_
 have ac:=g5.kp.trans aa.kp
 replace ha:=ha.kp ac
 refine ec 10 (zx7 ha.num (by omega) (ht.gr hB)) ?_
 rintro ah ai ⟨rfl,ab⟩
 refine ⟨_,rfl,?_⟩
 replace hB:=hB.trans ab
 replace L2:=L2.gr ab
 refine ⟨L2,?_⟩
 simp only [p3,p4]
 refine ow 11 (.string ⟨((Lib.itoa (a.num))++([47]):List UInt8).toArray⟩) rfl (fun w' hS=>(zx8 9 9 _ _ (Lib.itoa (a.num)) ([47]) rfl rfl rfl (by simp only [List.length_cons,List.length_nil];omega))) ?_
 refine oe ?_
 have ad:=g2.kp.trans (g5.kp.trans (aa.kp.trans ab.kp))
 replace hd:=hd.kp ad
 refine ec 14 (zx7 hd (by omega) (ht.gr hB)) ?_
 rintro aj af ⟨rfl,ae⟩
 refine ⟨_,rfl,?_⟩
 replace hB:=hB.trans ae
 replace L2:=L2.gr ae
 refine ⟨L2,?_⟩
 simp only [p3,p4]
 refine ow 15 (.string ⟨(((Lib.itoa (a.num))++([47]))++(Lib.itoa ((a.den:Int))):List UInt8).toArray⟩) rfl (fun w' hS=>(zx8 9 9 _ _ ((Lib.itoa (a.num))++([47])) (Lib.itoa ((a.den:Int))) rfl rfl rfl (by simp only [List.length_append,List.length_cons,List.length_nil];omega))) ?_
 refine ov 2 (.string ⟨(((Lib.itoa (a.num))++([47]))++(Lib.itoa ((a.den:Int))):List UInt8).toArray⟩) ?_
 refine za2 ?_
 refine k6 _ _ ?_
 try clear k6 K6
 refine wp_ret ?_
 refine bodyPost_ret (v:=(.string ⟨(((Lib.itoa (a.num))++([47]))++(Lib.itoa ((a.den:Int))):List UInt8).toArray⟩)) (zb6 rfl rfl) rfl ⟨?_,hB⟩
 exact (by rw [ratL_f hw])

theorem number_r {k:Nat} {u0 u1 u2 u3:Value} {a:Rat} {w:World} (ha:IsRat w k u0 u1 u2 u3 a) (hk:k≤800000) (ht:Tab w):
  Calls Tryz.prog 35 #[.agg #[u0,u1,u2,u3]] w fun e w'=>e=.returned (.string ⟨(za3 a).toArray⟩)∧Gr w w':=by
 by_cases hw:a.den=1
 ·exact number_w ha hk ht hw
 ·obtain ⟨D,h2,h3⟩:=ha.den
  rcases h3 with h3 | ⟨_,h4⟩
  ·subst h3;exact number_d ha hk ht h2 hw
  ·exact absurd h4 hw

theorem zU7 {x:Int} (z:Nat) (e:x=(z:Int)) (h1:z<10):Lib.itoa x=[UInt8.ofNat (48+z)]:=by
 unfold Lib.itoa
 rw [e,if_neg (by omega),Int.toNat_natCast,zc4 h1]
theorem text_lit {X Y:List UInt8} (h:X=Y):(X==Y)=true:=by rw [h];exact beq_self_eq_true _
theorem zU8 {q:Rat} {Y:List UInt8} (h:(q.den==1)=true) (e:Lib.itoa q.num=Y):(za3 q==Y)=true:=by
 rw [zK8 (by simpa using h)];exact text_lit e
theorem zt5 {k:Nat} {x y:Int} (hx:Sz k x) (hy:Sz k y) (h0:y≠0):Sz k (Rat.divInt x y).num∧Sz k ((Rat.divInt x y).den:Int):=by
 have key:∀ {x y:Int},Sz k x→Sz k y→0<y→Sz k (Rat.divInt x y).num∧Sz k ((Rat.divInt x y).den:Int):=by
  intro x y hx hy h0
  obtain ⟨h1,h2,h3⟩:=zE7 (N:=x) h0
  rw [h1,h2]
  exact ⟨sz_div hx h3,sz_div hy h3⟩
 rcases Int.lt_or_gt_of_ne h0 with h | h
 ·have:=key hx.neg hy.neg (by omega)
  rwa [Rat.neg_divInt_neg] at this
 ·exact key hx hy h
-- LEFT OUT:r1_check r1_check_l r1_digits r1_digits_i r1_divmod r1_gcd r1_minus r1_minus_f r1_minus_i r1_mul r1_order r1_order_i r1_plus r1_plus_i r1_sign_i r1_sign_n r1_sign_p r1_sign_v r1_sign_z r1_sub_one r1_text r1_text_s r1_text_z r1_trim r2_check r2_digits r2_parts r2_parts_q r2_slash r2_text_q r2_zeros text_at wpList_makeI
theorem zE8:∀ (l:List UInt8),Lib.index l [47]=(match (zo6 l).2 with | none=>-1 | some _=>((zo6 l).1.length:Int))
 | []=>rfl
 | c::l=>by
  have ih:=zE8 l
  unfold Lib.index
  by_cases h:c=47
  ·subst h
   have e:zo6 (47::l)=([],some l):=by simp [zo6]
   rw [e]
   simp [List.isPrefixOf]
  ·have e:zo6 (c::l)=(c::(zo6 l).1,(zo6 l).2):=by
    conv=>lhs;unfold zo6
    rw [if_neg h]
   have h2:¬ (47:UInt8)=c:=fun x=>h x.symm
   have h3:[47].isPrefixOf (c::l)=false:=by simp [List.isPrefixOf,h2]
   rw [e,h3,ih]
   cases hd:(zo6 l).2 with
   | none=>simp
   | some d=>
    have:¬ (((zo6 l).1.length:Int)==-1)=true:=by simp
    simp [this]
theorem zW9 (l:List UInt8):Lib.cut l [47]=(numL l,((zo6 l).2.getD [],(zo6 l).2.isSome)):=by
 have h1:=zE8 l
 have h2:=zR9 l
 unfold Lib.cut numL
 cases hd:(zo6 l).2 with
 | none=>
  rw [hd] at h1 h2;dsimp only at h1 h2
  rw [h1,if_neg (by omega)]
  simp [← h2]
 | some d=>
  rw [hd] at h1 h2;dsimp only at h1 h2
  rw [h1,if_pos (Int.natCast_nonneg _)]
  generalize (zo6 l).1=a at*
  subst h2
  simp
def Mx (w:World):Prop:=∃ m:Int,w.cell? ⟨0,0,none⟩=some (.int .i64 m)
theorem Mx.gr {w w':World} (h:Mx w) (g:Gr w w'):Mx w':=by
 obtain ⟨m,hm⟩:=h
 exact ⟨m,(Below.cell g (World.block_lt_of_cell? w _ hm)).trans hm⟩
theorem cut_q (q:Rat) {k:Nat} (h1:Sz k q.num) (h2:Sz k (q.den:Int)) (hk:k≤400000) {w:World} (hm:Mx w):
  Calls Tryz.prog 69 #[.string ⟨(za3 q).toArray⟩,.string ⟨#[47]⟩] w fun e w'=>e=.returned (.tuple #[.string ⟨(Lib.itoa q.num).toArray⟩,.string ⟨(if q.den=1 then [] else Lib.itoa (q.den:Int)).toArray⟩,.bool (decide (q.den≠1))])∧Gr w w':=by
 obtain ⟨m,hm⟩:=hm
 have hl:=zn1 h1 h2
 refine (Tryz.strings_Cut ⟨(za3 q).toArray⟩ ⟨#[47]⟩ m w (by show (za3 q).toArray.size<_;simp;omega) hm).mono ?_
 rintro e w1 ⟨he,n,rfl⟩
 refine ⟨?_,(Below.refl _ _).drewN _⟩
 rw [he]
 have e1:(⟨(za3 q).toArray⟩:ByteArray).data.toList=za3 q:=by simp
 rw [e1,show (⟨#[47]⟩:ByteArray).data.toList=[47] from rfl,zW9,zS0,zC9]
 by_cases h:q.den=1<;>simp [h]
theorem zi8 (z:Int) (w:World):Calls Tryz.prog 71 #[.string ⟨(Lib.itoa z).toArray⟩,.string ⟨#[45]⟩] w fun e w'=>e=.returned (.string ⟨(Lib.decDigits z.natAbs).toArray⟩)∧Gr w w':=by
 refine (Tryz.strings_TrimPrefix _ _ _).mono ?_
 rintro e w1 ⟨he,rfl⟩
 refine ⟨?_,Gr.refl _⟩
 rw [he]
 show Ending.returned (.string ⟨(Lib.trimPrefix (Lib.itoa z) [45]).toArray⟩)=_
 by_cases h:z<0
 ·have h1:Lib.hasPrefix (Lib.itoa z) [45]=true:=by rw [zk8 h];simp [Lib.hasPrefix]
  rw [Lib.trimPrefix,h1,if_pos rfl,zk8 h];rfl
 ·have h1:Lib.hasPrefix (Lib.itoa z) [45]=false:=by
   rw [zd1 (by omega)]
   rcases hd:Lib.decDigits z.natAbs with _ | ⟨c,l⟩
   ·rfl
   ·have hc:=zq2 z.natAbs c (by rw [hd];simp)
    have hne:¬ (45:UInt8)=c:=fun e=>by rw [← e] at hc;simp at hc
    simp [Lib.hasPrefix,List.isPrefixOf,hne]
  rw [Lib.trimPrefix,h1,if_neg (by decide),zd1 (by omega)]
theorem zX0 {l cs:List UInt8} (h:∀ c ∈ l,cs.contains c=true):Lib.trimS l cs=[]:=by
 have key:∀ {l:List UInt8},(∀ c ∈ l,cs.contains c=true)→l.dropWhile (cs.contains ·)=[]:=by
  intro l
  induction l with
  | nil=>intro _;rfl
  | cons c l ih=>intro h;rw [List.dropWhile_cons,if_pos (h c (by simp))];exact ih (fun x hx=>h x (by simp [hx]))
 unfold Lib.trimS Lib.trimRightS Lib.trimLeftS
 rw [key (l:=l.reverse) (fun c hc=>h c (by simpa using hc))]
 rfl
theorem digit_in {c:UInt8} (h:48≤c.toNat∧c.toNat≤57):[48,49,50,51,52,53,54,55,56,57].contains c=true:=by
 have:c=48∨c=49∨c=50∨c=51∨c=52∨c=53∨c=54∨c=55∨c=56∨c=57:=by
  simp only [← UInt8.toNat_inj]
  simp
  omega
 rcases this with rfl | rfl | rfl | rfl | rfl | rfl | rfl | rfl | rfl | rfl<;>decide
theorem zI3 (n:Nat) (hn:(Lib.decDigits n).length≤1000000) (w:World):
  Calls Tryz.prog 72 #[.string ⟨(Lib.decDigits n).toArray⟩,.string ⟨#[48,49,50,51,52,53,54,55,56,57]⟩] w fun e w'=>e=.returned (.string ⟨#[]⟩)∧Gr w w':=by
 refine (Any.strings_Trim_laid Tryz.lays160 (by kernel_rfl) ⟨(Lib.decDigits n).toArray⟩ ⟨#[48,49,50,51,52,53,54,55,56,57]⟩ w (by show (Lib.decDigits n).toArray.size≤_;simp;omega) (by decide) (ascii_of_all (by decide))).mono ?_
 rintro e w1 ⟨he,g⟩
 refine ⟨?_,g⟩
 rw [he,zX0 (l:=(⟨(Lib.decDigits n).toArray⟩:ByteArray).data.toList) (fun c hc=>digit_in (zq2 n c (by simpa using hc)))]
set_option maxHeartbeats 1000000 in
theorem zX1 (n:Nat) (hn:(Lib.decDigits n).length≤1000000) (w:World):
  Calls Tryz.prog 70 #[.string ⟨(Lib.decDigits n).toArray⟩] w fun e w'=>e=.returned (.bool true)∧Gr w w':=by
 obtain ⟨D,hD⟩:∃ D:ByteArray,D=⟨(Lib.decDigits n).toArray⟩:=⟨_,rfl⟩
 have hc:=zI3 n hn
 have hne:(D.toList==[])=false:=by
  rw [beq_eq_false_iff_ne,ByteArray.toList_eq,hD]
  simpa using zW6 n
 rw [← hD] at hc ⊢
 clear hD
 go_enter Tryz.func70,Tryz.ntmps70
 go_wp2_with fail
 (with_reducible refine (hc _).mono ?_)
 rintro e w1 ⟨rfl,g1⟩
 clear hc
 go_wp2
 go_ret
 exact ⟨rfl,g1⟩
theorem zA6 {p:UInt8→Bool}:∀ {l:List UInt8} {c:UInt8},c ∈ l→p c=false→c ∈ l.dropWhile p
 | [],_,h,_=>by cases h
 | x::l,c,h,hc=>by
  rw [List.dropWhile_cons]
  by_cases hx:p x=true
  ·rw [if_pos hx]
   rcases List.mem_cons.1 h with e | h
   ·rw [e,hx] at hc;cases hc
   ·exact zA6 h hc
  ·rw [if_neg hx];exact h
theorem zQ9 {l cs:List UInt8} {c:UInt8} (h:c ∈ l) (hc:cs.contains c=false):Lib.trimS l cs≠[]:=by
 have h1:c ∈ Lib.trimRightS l cs:=by
  unfold Lib.trimRightS
  rw [List.mem_reverse]
  exact zA6 (by simpa using h) hc
 exact fun e=>by have:=zA6 (p:=(cs.contains ·)) h1 hc;unfold Lib.trimS Lib.trimLeftS at e;rw [e] at this;cases this
theorem zX2 (d:Nat) (hd:0<d) (hn:(Lib.decDigits d).length≤1000000) (w:World):
  Calls Tryz.prog 72 #[.string ⟨(Lib.decDigits d).toArray⟩,.string ⟨#[48]⟩] w fun e w'=>(∃ L:List UInt8,e=.returned (.string ⟨L.toArray⟩)∧L≠[])∧Gr w w':=by
 refine (Any.strings_Trim_laid Tryz.lays160 (by kernel_rfl) ⟨(Lib.decDigits d).toArray⟩ ⟨#[48]⟩ w (by show (Lib.decDigits d).toArray.size≤_;simp;omega) (by decide) (ascii_of_all (by decide))).mono ?_
 rintro e w1 ⟨he,g⟩
 obtain ⟨c,hc,h1,_⟩:=zO7 hd
 refine ⟨⟨_,he,zQ9 (c:=c) (by simpa using List.mem_of_getElem? hc) ?_⟩,g⟩
 have:¬ c=48:=fun e=>by rw [e] at h1;simp at h1
 simp [this]
theorem cut_w (q:Rat) {k:Nat} (h1:Sz k q.num) (h2:Sz k (q.den:Int)) (hk:k≤400000) (hw:q.den=1) {w:World} (hm:Mx w):
  Calls Tryz.prog 69 #[.string ⟨(za3 q).toArray⟩,.string ⟨#[47]⟩] w fun e w'=>e=.returned (.tuple #[.string ⟨(Lib.itoa q.num).toArray⟩,.string ⟨([]:List UInt8).toArray⟩,.bool false])∧Gr w w':=by
 have:=cut_q q h1 h2 hk hm
 rw [if_pos hw,show decide (q.den≠1)=false by simp [hw]] at this
 exact this
theorem cut_f (q:Rat) {k:Nat} (h1:Sz k q.num) (h2:Sz k (q.den:Int)) (hk:k≤400000) (hw:¬ q.den=1) {w:World} (hm:Mx w):
  Calls Tryz.prog 69 #[.string ⟨(za3 q).toArray⟩,.string ⟨#[47]⟩] w fun e w'=>e=.returned (.tuple #[.string ⟨(Lib.itoa q.num).toArray⟩,.string ⟨(Lib.itoa (q.den:Int)).toArray⟩,.bool true])∧Gr w w':=by
 have:=cut_q q h1 h2 hk hm
 rw [if_neg hw,show decide (q.den≠1)=true by simp [hw]] at this
 exact this
theorem zu8 {k:Nat} (z:Int) (h:Sz k z) (hk:k≤400000) (w:World):
  Calls Tryz.prog 70 #[.string ⟨(Lib.decDigits z.natAbs).toArray⟩] w fun e w'=>e=.returned (.bool true)∧Gr w w':=
 zX1 _ (by have:=zy3 h;omega) w
theorem zX3 {k:Nat} (d:Nat) (h:Sz k (d:Int)) (hk:k≤400000) (w:World):
  Calls Tryz.prog 70 #[.string ⟨(Lib.itoa (d:Int)).toArray⟩] w fun e w'=>e=.returned (.bool true)∧Gr w w':=by
 have:=zu8 (d:Int) h hk w
 rw [← zd1 (by omega)] at this
 exact this
theorem zI4 {k:Nat} (d:Nat) (h:Sz k (d:Int)) (hd:0<d) (hk:k≤400000) (w:World):
  Calls Tryz.prog 72 #[.string ⟨(Lib.itoa (d:Int)).toArray⟩,.string ⟨#[48]⟩] w fun e w'=>(∃ L:List UInt8,e=.returned (.string ⟨L.toArray⟩)∧(L==[])=false)∧Gr w w':=by
 have:=zX2 d hd (by have:=zy3 h;rw [Int.natAbs_natCast] at this;omega) w
 rw [zd1 (by omega),Int.natAbs_natCast]
 refine this.mono ?_
 rintro e w1 ⟨⟨L,he,hL⟩,g⟩
 exact ⟨⟨L,he,beq_eq_false_iff_ne.2 hL⟩,g⟩
theorem zI5 {w:World} {k:Nat} {x y x2 y2:Value} {q:Rat} (h1:IsInt w k x y q.num) (h2:IsInt w k x2 y2 (q.den:Int)) (h3:64≤k):IsRat w k x y x2 y2 q:=⟨h1,⟨_,h2,.inl rfl⟩,h3⟩
theorem zI6 (q:Rat):(Int.gcd q.num (q.den:Int):Int)=1:=by
 have:=q.reduced
 show ((Nat.gcd q.num.natAbs (q.den:Int).natAbs:Nat):Int)=1
 rw [Int.natAbs_natCast]
 have h:Nat.gcd q.num.natAbs q.den=1:=this
 rw [h];rfl
def sEq:List (List UInt8)→List (List UInt8)→Bool
 | x::xs,y::ys=>x==y&&sEq xs ys
 | _,_=>true
theorem zo7 {P:Program} {w:World} {d e:Nat} (he:P.underlying e=some .string) (hp:P.plainKey e=true) (A B:Array Value):
  ∀ (X Y:List (List UInt8)) (i0:Nat),X.length=Y.length→(∀ j x,X[j]?=some x→A[i0+j]?=some (.string ⟨x.toArray⟩))→(∀ j y,Y[j]?=some y→B[i0+j]?=some (.string ⟨y.toArray⟩))→
   (Op.eqItems (d+1) e 1 A B (List.range' i0 X.length)).run P w=.ok (sEq X Y) w
 | [],_,_,_,_,_=>by simp [Op.eqItems,sEq]
 | x::xs,[],_,h,_,_=>by simp at h
 | x::xs,y::ys,i0,h,hA,hB=>by
  have h1:A[i0]?=some (.string ⟨x.toArray⟩):=hA 0 x rfl
  have h2:B[i0]?=some (.string ⟨y.toArray⟩):=hB 0 y rfl
  have ih:=zo7 (w:=w) (d:=d) he hp A B xs ys (i0+1) (by simpa using h) (fun j z hj=>by have:=hA (j+1) z hj;rwa [show i0+(j+1)=i0+1+j by omega] at this)
   (fun j z hj=>by have:=hB (j+1) z hj;rwa [show i0+(j+1)=i0+1+j by omega] at this)
  have e:((⟨x.toArray⟩:ByteArray).toList==(⟨y.toArray⟩:ByteArray).toList)=(x==y):=by rw [ByteArray.toList_eq,ByteArray.toList_eq]
  rw [List.length_cons,List.range'_succ]
  simp only [Op.eqItems,Sem.run_bind,Nat.mul_one,run_part_plain w hp h1,run_part_plain w hp h2,Result.andThen_ok,run_equalIn_string w d _ _ _ he,e,sEq]
  cases hxy:(x==y) with
  | true=>simpa using ih
  | false=>simp
section
variable {P:Program} {a:Act} {o:Oper} {w:World}
theorem zx4 {t e:Nat} (X Y:List (List UInt8)) (hu:P.underlying t=some (.array X.length e)) (hn:X.length=Y.length)
  (he:(P.underlying e,(P.info? e).isSome,P.cellsOf e,P.plainKey e)=(some .string,true,1,true)):
  (Op.equal t (.agg (X.map fun l=>Value.string ⟨l.toArray⟩).toArray) (.agg (Y.map fun l=>Value.string ⟨l.toArray⟩).toArray)).run P w=.ok (sEq X Y) w:=by
 simp only [Prod.mk.injEq] at he
 obtain ⟨h1,h2,h3,h4⟩:=he
 obtain ⟨i,hi⟩:=Option.isSome_iff_exists.1 h2
 show (Op.equalIn (9999+1) t _ _).run P w=_
 rw [run_equalIn_array w 9999 _ _ hu hi,h3,List.range_eq_range']
 exact zo7 (d:=9998) h1 h4 _ _ X Y 0 hn (fun j x hj=>by simp [hj]) (fun j y hj=>by simp [hj])
theorem rv_ssq (t t2 e:Nat) (x y:Operand) (X Y:List (List UInt8)) (hop:o.op=.binOp .eql t x y t2) (hx:a.eval x=.agg (X.map fun l=>Value.string ⟨l.toArray⟩).toArray) (hy:a.eval y=.agg (Y.map fun l=>Value.string ⟨l.toArray⟩).toArray)
  (hu:(P.underlying t,decide (X.length=Y.length))=(some (.array X.length e),true)) (he:(P.underlying e,(P.info? e).isSome,P.cellsOf e,P.plainKey e)=(some .string,true,1,true)) (hg:P.eqGuardType P.depth t=false):
  RunV P a o w (.bool (sEq X Y)):=by
 simp only [Prod.mk.injEq,decide_eq_true_eq] at hu
 have h:=zx4 (w:=w) X Y hu.1 hu.2 he
 unfold RunV execOp
 simp only [hop,hx,hy]
 simp [go_sem,binOp,eqGuard,hg,h]
theorem rv_ssn (t t2 e:Nat) (x y:Operand) (X Y:List (List UInt8)) (hop:o.op=.binOp .neq t x y t2) (hx:a.eval x=.agg (X.map fun l=>Value.string ⟨l.toArray⟩).toArray) (hy:a.eval y=.agg (Y.map fun l=>Value.string ⟨l.toArray⟩).toArray)
  (hu:(P.underlying t,decide (X.length=Y.length))=(some (.array X.length e),true)) (he:(P.underlying e,(P.info? e).isSome,P.cellsOf e,P.plainKey e)=(some .string,true,1,true)) (hg:P.eqGuardType P.depth t=false):
  RunV P a o w (.bool (!sEq X Y)):=by
 simp only [Prod.mk.injEq,decide_eq_true_eq] at hu
 have h:=zx4 (w:=w) X Y hu.1 hu.2 he
 unfold RunV execOp
 simp only [hop,hx,hy]
 simp [go_sem,binOp,eqGuard,hg,h]
end
abbrev RS (k:Nat) (a:Rat):Prop:=Sz k a.num∧Sz k (a.den:Int)
theorem RS.add {k m:Nat} {a b:Rat} (ha:RS k a) (hb:RS m b):RS (k+m+1) (a+b):=by
 rw [← zI0]
 have h:=(ha.1.mul hb.2).add' (by have:=hb.1.mul ha.2;rw [Nat.add_comm] at this;exact this)
 exact zt5 h ((ha.2.mul hb.2).mono (by omega)) (Int.ne_of_gt (zN1 a b))
theorem RS.mul {k m:Nat} {a b:Rat} (ha:RS k a) (hb:RS m b):RS (k+m) (a*b):=by
 rw [← zI1]
 exact zt5 (ha.1.mul hb.1) (ha.2.mul hb.2) (Int.ne_of_gt (zN1 a b))
theorem RS.neg {k:Nat} {a:Rat} (h:RS k a):RS k (-a):=rsz_neg h
theorem RS.sub {k m:Nat} {a b:Rat} (ha:RS k a) (hb:RS m b):RS (k+m+1) (a - b):=by
 rw [Rat.sub_eq_add_neg];exact ha.add hb.neg
theorem RS.div {k m:Nat} {a b:Rat} (ha:RS k a) (hb:RS m b) (h0:b.num≠0):RS (k+m) (a/b):=by
 rw [← zI2]
 exact zt5 (ha.1.mul hb.2) (ha.2.mul hb.1) (Int.mul_ne_zero (Int.ne_of_gt (zu6 a)) h0)
theorem RS.int {k:Nat} {z:Int} (h:Sz k z) (hk:0<k):RS k (z:Rat):=⟨h,show (1:Nat)<2 ^ k from Nat.one_lt_two_pow (by omega)⟩
theorem RS.mono {k m:Nat} {a:Rat} (h:RS k a) (hk:k≤m):RS m a:=⟨h.1.mono hk,h.2.mono hk⟩
def zi9:List Int→List Int→Bool
 | x::xs,y::ys=>x==y&&zi9 xs ys
 | _,_=>true
def eqL:Bool→List Int→List Int→Bool
 | b,x::xs,y::ys=>eqL (b&&x==y) xs ys
 | b,_,_=>b
theorem zR8:∀ (X Y:List Int) (b:Bool),eqL b X Y=(b&&zi9 X Y)
 | [],_,b=>by simp [eqL,zi9]
 | _::_,[],b=>by simp [eqL,zi9]
 | x::xs,y::ys,b=>by rw [eqL,zR8 xs ys,zi9,Bool.and_assoc]
def zC4:List Int→List Int→Bool
 | x::xs,y::ys=>eqL (x==y) xs ys
 | _,_=>true
theorem zC5 (X Y:List Int):zC4 X Y=zi9 X Y:=by
 cases X with
 | nil=>cases Y<;>rfl
 | cons x xs=>cases Y with
  | nil=>rfl
  | cons y ys=>rw [zC4,zR8,zi9]

theorem zt0 {P:Program} {w:World} {d e:Nat} {k:IntKind} (he:P.underlying e=some (.int k)) (hp:P.plainKey e=true) (A B:Array Value):
  ∀ (X Y:List Int) (i0:Nat),X.length=Y.length→(∀ j x,X[j]?=some x→A[i0+j]?=some (.int k x))→(∀ j y,Y[j]?=some y→B[i0+j]?=some (.int k y))→
   (Op.eqItems (d+1) e 1 A B (List.range' i0 X.length)).run P w=.ok (zi9 X Y) w
 | [],_,_,_,_,_=>by simp [Op.eqItems,zi9]
 | x::xs,[],_,h,_,_=>by simp at h
 | x::xs,y::ys,i0,h,hA,hB=>by
  have h1:A[i0]?=some (.int k x):=hA 0 x rfl
  have h2:B[i0]?=some (.int k y):=hB 0 y rfl
  have ih:=zt0 (w:=w) (d:=d) he hp A B xs ys (i0+1) (by simpa using h) (fun j z hj=>by have:=hA (j+1) z hj;rwa [show i0+(j+1)=i0+1+j by omega] at this)
   (fun j z hj=>by have:=hB (j+1) z hj;rwa [show i0+(j+1)=i0+1+j by omega] at this)
  rw [List.length_cons,List.range'_succ]
  simp only [Op.eqItems,Sem.run_bind,Nat.mul_one,run_part_plain w hp h1,run_part_plain w hp h2,Result.andThen_ok,run_equalIn_int w d e k k x y he,zi9]
  cases hxy:(x==y) with
  | true=>simpa using ih
  | false=>simp

section
variable {P:Program} {a:Act} {o:Oper} {w:World}
theorem zC6 {t e:Nat} {k:IntKind} (X Y:List Int) (hu:P.underlying t=some (.array X.length e)) (hn:X.length=Y.length)
  (he:(P.underlying e,(P.info? e).isSome,P.cellsOf e,P.plainKey e)=(some (.int k),true,1,true)):
  (Op.equal t (.agg (X.map (Value.int k)).toArray) (.agg (Y.map (Value.int k)).toArray)).run P w=.ok (zi9 X Y) w:=by
 simp only [Prod.mk.injEq] at he
 obtain ⟨h1,h2,h3,h4⟩:=he
 obtain ⟨i,hi⟩:=Option.isSome_iff_exists.1 h2
 show (Op.equalIn (9999+1) t _ _).run P w=_
 rw [run_equalIn_array w 9999 _ _ hu hi,h3,List.range_eq_range']
 exact zt0 (d:=9998) h1 h4 _ _ X Y 0 hn (fun j x hj=>by simp [hj]) (fun j y hj=>by simp [hj])
theorem rv_arreq (t t2 e:Nat) {k:IntKind} (x y:Operand) (X Y:List Int) (hop:o.op=.binOp .eql t x y t2) (hx:a.eval x=.agg (X.map (Value.int k)).toArray) (hy:a.eval y=.agg (Y.map (Value.int k)).toArray)
  (hu:(P.underlying t,decide (X.length=Y.length))=(some (.array X.length e),true)) (he:(P.underlying e,(P.info? e).isSome,P.cellsOf e,P.plainKey e)=(some (.int k),true,1,true)) (hg:P.eqGuardType P.depth t=false):
  RunV P a o w (.bool (zC4 X Y)):=by
 simp only [Prod.mk.injEq,decide_eq_true_eq] at hu
 have h:=zC6 (w:=w) X Y hu.1 hu.2 he
 rw [zC5]
 unfold RunV execOp
 simp only [hop,hx,hy]
 simp [go_sem,binOp,eqGuard,hg,h]
theorem rv_arrne (t t2 e:Nat) {k:IntKind} (x y:Operand) (X Y:List Int) (hop:o.op=.binOp .neq t x y t2) (hx:a.eval x=.agg (X.map (Value.int k)).toArray) (hy:a.eval y=.agg (Y.map (Value.int k)).toArray)
  (hu:(P.underlying t,decide (X.length=Y.length))=(some (.array X.length e),true)) (he:(P.underlying e,(P.info? e).isSome,P.cellsOf e,P.plainKey e)=(some (.int k),true,1,true)) (hg:P.eqGuardType P.depth t=false):
  RunV P a o w (.bool (!zC4 X Y)):=by
 simp only [Prod.mk.injEq,decide_eq_true_eq] at hu
 have h:=zC6 (w:=w) X Y hu.1 hu.2 he
 rw [zC5]
 unfold RunV execOp
 simp only [hop,hx,hy]
 simp [go_sem,binOp,eqGuard,hg,h]
end
section
variable {P:Program} {a:Act} {o:Oper} {w:World}
theorem zg9 {e n e' off:Nat} {xs:Array Value} (hu:P.underlying e=some (.array n e')):(part e xs off).run P w=.ok (.agg (xs.extract off (off+P.cellsOf e))) w:=by
 obtain ⟨i,hi⟩:=info_of_underlying hu
 simp [part,isAgg,run_underlying hu,run_sizeOf w hi]
theorem zE3 {t tA tS eA eS:Nat} (z0 z1 z2 z3 y0 y1 y2 y3:Int) (X0 X1 X2 Y0 Y1 Y2:List UInt8)
  (ht:P.underlying t=some (.struct (P.fieldsOf t))) (hs:P.stoodInHeld t=false)
  (hf:((P.fieldsOf t).toList.map fun f=>(f.name=="_",f.type,f.offset))=[(false,tA,0),(false,tS,4)])
  (hA:(P.underlying tA,P.cellsOf tA)=(some (.array 4 eA),4)) (hS:(P.underlying tS,P.cellsOf tS)=(some (.array 3 eS),3))
  (heA:(P.underlying eA,(P.info? eA).isSome,P.cellsOf eA,P.plainKey eA)=(some (.int .i64),true,1,true))
  (heS:(P.underlying eS,(P.info? eS).isSome,P.cellsOf eS,P.plainKey eS)=(some .string,true,1,true)):
  (Op.equal t (.agg #[.int .i64 z0,.int .i64 z1,.int .i64 z2,.int .i64 z3,.string ⟨X0.toArray⟩,.string ⟨X1.toArray⟩,.string ⟨X2.toArray⟩])
   (.agg #[.int .i64 y0,.int .i64 y1,.int .i64 y2,.int .i64 y3,.string ⟨Y0.toArray⟩,.string ⟨Y1.toArray⟩,.string ⟨Y2.toArray⟩])).run P w
   =.ok (zi9 [z0,z1,z2,z3] [y0,y1,y2,y3]&&sEq [X0,X1,X2] [Y0,Y1,Y2]) w:=by
 simp only [Prod.mk.injEq] at hA hS
 obtain ⟨ab,ac⟩:=hA
 obtain ⟨aa,ad⟩:=hS
 obtain ⟨f1,f2,hfs⟩:∃ f1 f2,(P.fieldsOf t).toList=[f1,f2]:=by
  generalize (P.fieldsOf t).toList=l at hf
  rcases l with _ | ⟨f1,_ | ⟨f2,_ | ⟨f3,l⟩⟩⟩
  ·simp at hf
  ·simp at hf
  ·exact ⟨f1,f2,rfl⟩
  ·simp at hf
 rw [hfs] at hf
 simp only [List.map_cons,List.map_nil,List.cons.injEq,Prod.mk.injEq,and_true,beq_eq_false_iff_ne,ne_eq] at hf
 obtain ⟨⟨n1,t1,o1⟩,n2,t2,o2⟩:=hf
 have p1:=zg9 (P:=P) (w:=w) (off:=0) (xs:=#[.int .i64 z0,.int .i64 z1,.int .i64 z2,.int .i64 z3,.string ⟨X0.toArray⟩,.string ⟨X1.toArray⟩,.string ⟨X2.toArray⟩]) ab
 have p2:=zg9 (P:=P) (w:=w) (off:=0) (xs:=#[.int .i64 y0,.int .i64 y1,.int .i64 y2,.int .i64 y3,.string ⟨Y0.toArray⟩,.string ⟨Y1.toArray⟩,.string ⟨Y2.toArray⟩]) ab
 have p3:=zg9 (P:=P) (w:=w) (off:=4) (xs:=#[.int .i64 z0,.int .i64 z1,.int .i64 z2,.int .i64 z3,.string ⟨X0.toArray⟩,.string ⟨X1.toArray⟩,.string ⟨X2.toArray⟩]) aa
 have p4:=zg9 (P:=P) (w:=w) (off:=4) (xs:=#[.int .i64 y0,.int .i64 y1,.int .i64 y2,.int .i64 y3,.string ⟨Y0.toArray⟩,.string ⟨Y1.toArray⟩,.string ⟨Y2.toArray⟩]) aa
 rw [ac] at p1 p2
 rw [ad] at p3 p4
 have q1:(Op.equalIn 9999 tA (.agg #[.int .i64 z0,.int .i64 z1,.int .i64 z2,.int .i64 z3]) (.agg #[.int .i64 y0,.int .i64 y1,.int .i64 y2,.int .i64 y3])).run P w=.ok (zi9 [z0,z1,z2,z3] [y0,y1,y2,y3]) w:=by
  simp only [Prod.mk.injEq] at heA
  obtain ⟨h1,h2,h3,h4⟩:=heA
  obtain ⟨i,hi⟩:=Option.isSome_iff_exists.1 h2
  show (Op.equalIn (9998+1) tA _ _).run P w=_
  rw [run_equalIn_array w 9998 _ _ ab hi,h3,List.range_eq_range']
  exact zt0 (d:=9997) h1 h4 _ _ [z0,z1,z2,z3] [y0,y1,y2,y3] 0 rfl (fun j x hj=>by
   rcases j with _ | _ | _ | _ | j<;>simp_all) (fun j x hj=>by rcases j with _ | _ | _ | _ | j<;>simp_all)
 have q2:(Op.equalIn 9999 tS (.agg #[.string ⟨X0.toArray⟩,.string ⟨X1.toArray⟩,.string ⟨X2.toArray⟩]) (.agg #[.string ⟨Y0.toArray⟩,.string ⟨Y1.toArray⟩,.string ⟨Y2.toArray⟩])).run P w=.ok (sEq [X0,X1,X2] [Y0,Y1,Y2]) w:=by
  simp only [Prod.mk.injEq] at heS
  obtain ⟨h1,h2,h3,h4⟩:=heS
  obtain ⟨i,hi⟩:=Option.isSome_iff_exists.1 h2
  show (Op.equalIn (9998+1) tS _ _).run P w=_
  rw [run_equalIn_array w 9998 _ _ aa hi,h3,List.range_eq_range']
  exact zo7 (d:=9997) h1 h4 _ _ [X0,X1,X2] [Y0,Y1,Y2] 0 rfl (fun j x hj=>by
   rcases j with _ | _ | _ | j<;>simp_all) (fun j x hj=>by rcases j with _ | _ | _ | j<;>simp_all)
 show (Op.equalIn (9999+1) t _ _).run P w=_
 rw [run_equalIn_struct w 9999 t _ _ ht hs,hfs]
 simp only [Op.eqFields,n1,n2,t1,t2,o1,o2,not_false_eq_true,ne_eq,if_true,Sem.run_bind,p1,p2,Result.andThen_ok]
 simp only [Array.extract,Nat.zero_add]
 refine Eq.trans (b:=Result.andThen (.ok (zi9 [z0,z1,z2,z3] [y0,y1,y2,y3]) w) _) (congrArg (fun r=>Result.andThen r _) q1) ?_
 rw [Result.andThen_ok]
 cases h:zi9 [z0,z1,z2,z3] [y0,y1,y2,y3] with
 | false=>simp
 | true=>
  simp only [Bool.not_true,Bool.false_eq_true,if_false,Sem.run_bind,p3,p4,Result.andThen_ok]
  refine Eq.trans (b:=Result.andThen (.ok (sEq [X0,X1,X2] [Y0,Y1,Y2]) w) _) (congrArg (fun r=>Result.andThen r _) q2) ?_
  rw [Result.andThen_ok]
  cases h2:sEq [X0,X1,X2] [Y0,Y1,Y2]<;>simp
theorem rv_plceq (t t2 tA tS eA eS:Nat) (x y:Operand) (z0 z1 z2 z3 y0 y1 y2 y3:Int) (X0 X1 X2 Y0 Y1 Y2:List UInt8) (hop:o.op=.binOp .eql t x y t2)
  (hx:a.eval x=.agg #[.int .i64 z0,.int .i64 z1,.int .i64 z2,.int .i64 z3,.string ⟨X0.toArray⟩,.string ⟨X1.toArray⟩,.string ⟨X2.toArray⟩])
  (hy:a.eval y=.agg #[.int .i64 y0,.int .i64 y1,.int .i64 y2,.int .i64 y3,.string ⟨Y0.toArray⟩,.string ⟨Y1.toArray⟩,.string ⟨Y2.toArray⟩])
  (ht:P.underlying t=some (.struct (P.fieldsOf t))) (hs:P.stoodInHeld t=false)
  (hf:((P.fieldsOf t).toList.map fun f=>(f.name=="_",f.type,f.offset))=[(false,tA,0),(false,tS,4)])
  (hA:(P.underlying tA,P.cellsOf tA)=(some (.array 4 eA),4)) (hS:(P.underlying tS,P.cellsOf tS)=(some (.array 3 eS),3))
  (heA:(P.underlying eA,(P.info? eA).isSome,P.cellsOf eA,P.plainKey eA)=(some (.int .i64),true,1,true))
  (heS:(P.underlying eS,(P.info? eS).isSome,P.cellsOf eS,P.plainKey eS)=(some .string,true,1,true)) (hg:P.eqGuardType P.depth t=false):
  RunV P a o w (.bool (zi9 [z0,z1,z2,z3] [y0,y1,y2,y3]&&sEq [X0,X1,X2] [Y0,Y1,Y2])):=by
 have h:=zE3 (P:=P) (w:=w) z0 z1 z2 z3 y0 y1 y2 y3 X0 X1 X2 Y0 Y1 Y2 ht hs hf hA hS heA heS
 unfold RunV execOp
 simp only [hop,hx,hy]
 simp [go_sem,binOp,eqGuard,hg,h]
theorem rv_plcne (t t2 tA tS eA eS:Nat) (x y:Operand) (z0 z1 z2 z3 y0 y1 y2 y3:Int) (X0 X1 X2 Y0 Y1 Y2:List UInt8) (hop:o.op=.binOp .neq t x y t2)
  (hx:a.eval x=.agg #[.int .i64 z0,.int .i64 z1,.int .i64 z2,.int .i64 z3,.string ⟨X0.toArray⟩,.string ⟨X1.toArray⟩,.string ⟨X2.toArray⟩])
  (hy:a.eval y=.agg #[.int .i64 y0,.int .i64 y1,.int .i64 y2,.int .i64 y3,.string ⟨Y0.toArray⟩,.string ⟨Y1.toArray⟩,.string ⟨Y2.toArray⟩])
  (ht:P.underlying t=some (.struct (P.fieldsOf t))) (hs:P.stoodInHeld t=false)
  (hf:((P.fieldsOf t).toList.map fun f=>(f.name=="_",f.type,f.offset))=[(false,tA,0),(false,tS,4)])
  (hA:(P.underlying tA,P.cellsOf tA)=(some (.array 4 eA),4)) (hS:(P.underlying tS,P.cellsOf tS)=(some (.array 3 eS),3))
  (heA:(P.underlying eA,(P.info? eA).isSome,P.cellsOf eA,P.plainKey eA)=(some (.int .i64),true,1,true))
  (heS:(P.underlying eS,(P.info? eS).isSome,P.cellsOf eS,P.plainKey eS)=(some .string,true,1,true)) (hg:P.eqGuardType P.depth t=false):
  RunV P a o w (.bool (!(zi9 [z0,z1,z2,z3] [y0,y1,y2,y3]&&sEq [X0,X1,X2] [Y0,Y1,Y2]))):=by
 have h:=zE3 (P:=P) (w:=w) z0 z1 z2 z3 y0 y1 y2 y3 X0 X1 X2 Y0 Y1 Y2 ht hs hf hA hS heA heS
 unfold RunV execOp
 simp only [hop,hx,hy]
 simp [go_sem,binOp,eqGuard,hg,h]
def plcT (P:Program) (t:TypeId):Bool:=match P.underlying t with
 | some (.struct fs)=>match fs.toList with
  | [f,g]=>f.name !="_"&&g.name !="_"&&Nat.beq f.offset 0&&Nat.beq g.offset 4&&!P.stoodInHeld t&&(match P.underlying f.type,P.underlying g.type with
   | some (.array 4 d),some (.array 3 e)=>Nat.beq (P.cellsOf f.type) 4&&Nat.beq (P.cellsOf g.type) 3&&(match P.underlying d,P.underlying e with
    | some (.int .i64),some .string=>(P.info? d).isSome&&Nat.beq (P.cellsOf d) 1&&P.plainKey d&&(P.info? e).isSome&&Nat.beq (P.cellsOf e) 1&&P.plainKey e
    | _,_=>false)
   | _,_=>false)
  | _=>false
 | _=>false
theorem plcT_ok {t:TypeId} (h:plcT P t=true):∃ tA tS eA eS,P.underlying t=some (.struct (P.fieldsOf t))∧P.stoodInHeld t=false∧((P.fieldsOf t).toList.map fun f=>(f.name=="_",f.type,f.offset))=[(false,tA,0),(false,tS,4)]∧
  (P.underlying tA,P.cellsOf tA)=(some (.array 4 eA),4)∧(P.underlying tS,P.cellsOf tS)=(some (.array 3 eS),3)∧(P.underlying eA,(P.info? eA).isSome,P.cellsOf eA,P.plainKey eA)=(some (.int .i64),true,1,true)∧
  (P.underlying eS,(P.info? eS).isSome,P.cellsOf eS,P.plainKey eS)=(some .string,true,1,true):=by
 unfold plcT at h
 split at h
 ·rename_i fs hu
  split at h
  ·rename_i f g hl
   simp only [Bool.and_eq_true,Nat.beq_eq,bne_iff_ne,ne_eq,Bool.not_eq_true'] at h
   obtain ⟨⟨⟨⟨⟨n1,n2⟩,o1⟩,o2⟩,hs⟩,h⟩:=h
   split at h
   ·rename_i d e hd he
    simp only [Bool.and_eq_true,Nat.beq_eq] at h
    obtain ⟨⟨c1,c2⟩,h⟩:=h
    split at h
    ·rename_i kd ke
     simp only [Bool.and_eq_true,Nat.beq_eq] at h
     obtain ⟨⟨⟨⟨⟨i1,i2⟩,i3⟩,j1⟩,j2⟩,j3⟩:=h
     have hf:P.fieldsOf t=fs:=by unfold Program.fieldsOf;rw [hu]
     refine ⟨f.type,g.type,d,e,by rw [hf];exact hu,hs,?_,by rw [hd,c1],by rw [he,c2],by rw [kd,i1,i2,i3],by rw [ke,j1,j2,j3]⟩
     rw [hf,hl]
     simp [n1,n2,o1,o2]
    ·cases h
   ·cases h
  ·cases h
 ·cases h
end
end Go.Proofs.YthhbibpaeonecaaGreatDoor
