/- Joined of: Gen5, Gen6, Gen60, Rord, Gen7, Gen8, Prim, Vec, Inti, Gen52, Vin, Sy2, Sy3, Sy4, Sy5, Sy6, Sy7. -/
import Derived.Test.YthhbibpaeonecaaGreatDoorPartC
import Derived.Test.YthhbibpaeonecaaGreatDoorPartA
import Derived.Test.YthhbibpaeonecaaGreatDoorPartB
namespace Go.Proofs.YthhbibpaeonecaaGreatDoor
open Go.RowKit

set_option maxRecDepth 100000 in
set_option maxHeartbeats 4000000 in
theorem each_add {k m:Nat} {ak aq aG aC al ac az aA ax aB aj ar:Value} {a1 a2 a3:Rat} {aF ai af aE ap ad ab av au aw aa ah:Value} {c1 c2 c3:Rat} {w:World} (aZ:IsRat w k ak aq aG aC a1) (bb:IsRat w k al ac az aA a2) (a9:IsRat w k ax aB aj ar a3) (ba:IsRat w m aF ai af aE c1) (bc:IsRat w m ap ad ab av c2) (a8:IsRat w m au aw aa ah c3) (_hk:k+m≤100000):
    Calls Tryz.prog 60 #[(.agg #[ak,aq,aG,aC,al,ac,az,aA,ax,aB,aj,ar]),(.agg #[aF,ai,af,aE,ap,ad,ab,av,au,aw,aa,ah]),(.func (.func 46) #[] #[])] w fun e w'=>(∃ t0 t1 t2 t3 t4 t5 t6 t7 t8 t9 bC bv,e=.returned (.agg #[t0,t1,t2,t3,t4,t5,t6,t7,t8,t9,bC,bv])∧IsRat w' (k+m+1) t0 t1 t2 t3 ((a1+c1))∧IsRat w' (k+m+1) t4 t5 t6 t7 ((a2+c2))∧IsRat w' (k+m+1) t8 t9 bC bv ((a3+c3)))∧Gr w w':=by
 go_enter Tryz.func60,Tryz.ntmps60
 have hB:=Gr.refl w
 refine wp_seq_k (fun K1 k1=>?_)
 refine rg [0,1,2] ?_
 refine se ?_
 refine eb 35 #[ak,aq,aG,aC,al,ac,az,aA,ax,aB,aj,ar] 3 hB fun b2 w2 g2 L2 o2 q2 hB=>?_
 simp only [p3,p4]
 refine se ?_
 refine eb 35 #[aF,ai,af,aE,ap,ad,ab,av,au,aw,aa,ah] 4 hB fun b3 w3 g3 L3 o3 q3 hB=>?_
 simp only [p3,p4]
 refine se ?_
 refine ea 35 #[.bool false,.slice none 0 0,.bool false,.slice none 0 0,.bool false,.slice none 0 0,.bool false,.slice none 0 0,.bool false,.slice none 0 0,.bool false,.slice none 0 0] 6 hB fun b4 w4 g4 L4 o4 q4 hB=>?_
 replace L2:=L2.gr g3
 simp only [p3,p4]
 refine za0 ?_
 refine k1 _ _ ?_
 try clear k1 K1
 refine wp_seq_k (fun K5 k5=>?_)
 refine rg [0] ?_
 refine se ?_
 refine ea 35 #[.bool false,.slice none 0 0,.bool false,.slice none 0 0,.bool false,.slice none 0 0,.bool false,.slice none 0 0,.bool false,.slice none 0 0,.bool false,.slice none 0 0] 7 hB fun b6 w6 g6 L6 o6 q6 hB=>?_
 replace L2:=L2.gr g4
 have aQ:=L2.ne o6
 replace L3:=L3.gr g4
 have aM:=L3.ne o6
 have aJ:=L4.ne o6
 simp only [p3,p4]
 refine za0 ?_
 refine k5 _ _ ?_
 try clear k5 K5
 refine wp_seq_k (fun K7 k7=>?_)
 refine wp_seq_k (fun K8 k8=>?_)
 refine rg [0] ?_
 refine sv 9 (.int .i64 0) ?_
 refine za0 ?_
 refine k8 _ _ ?_
 try clear k8 K8
 refine wp_block ?_
 refine wp_loop_rounds 4 ?_
 show Code.wp _ _ _ _ _
 refine wp_seq_k (fun K9 k9=>?_)
 refine rg [0] ?_
 refine sv 10 (.bool true) ?_
 refine za0 ?_
 refine k9 _ _ ?_
 try clear k9 K9
 refine wp_seq_k (fun bO bA=>?_)
 refine wp_cond_true rfl ?_
 refine wp_skip ?_
 refine bA _ _ ?_
 try clear bA bO
 refine wp_seq_k (fun bJ k11=>?_)
 refine wp_block ?_
 refine wp_seq_k (fun bS k12=>?_)
 refine rg [0,1] ?_
 refine sv 11 (.int .i64 0) ?_
 refine sv 8 (.int .i64 0) ?_
 refine za0 ?_
 refine k12 _ _ ?_
 try clear k12 bS
 have ay:=Gr.drew w6
 replace hB:=hB.trans ay
 replace L2:=L2.gr (g6.trans ay)
 replace L3:=L3.gr (g6.trans ay)
 refine za1 (fun w'=>Lc w' b2 #[ak,aq,aG,aC,al,ac,az,aA,ax,aB,aj,ar] 35∧Lc w' b3 #[aF,ai,af,aE,ap,ad,ab,av,au,aw,aa,ah] 35) [(true,0),(true,1),(true,2),(true,3),(true,4),(true,5),(true,6),(true,7),(false,8),(true,9),(false,10)] (by kernel_rfl) (by kernel_rfl) (by kernel_rfl) (by decide) (fun _ _ _ _ _ h=>h) ⟨L2,L3⟩ ?_
 refine ov 12 (.int .i64 0) ?_
 refine ov 13 (.func (.func 46) #[] #[]) ?_
 refine ov 14 (.int .i64 0) ?_
 refine ov 15 (.pointer (some ⟨b2,0,none⟩)) ?_
 refine ow 16 (.agg #[ak,aq,aG,aC]) rfl (fun w' hS=>(rl 33 0 [ak,aq,aG,aC] hS.1)) ?_
 refine ov 17 (.int .i64 0) ?_
 refine ov 18 (.pointer (some ⟨b3,0,none⟩)) ?_
 refine ow 19 (.agg #[aF,ai,af,aE]) rfl (fun w' hS=>(rl 33 0 [aF,ai,af,aE] hS.2)) ?_
 refine oe ?_
 have bm:=g2.kp.trans (g3.kp.trans (g4.kp.trans (g6.kp.trans ay.kp)))
 replace aZ:=aZ.kp bm
 replace ba:=ba.kp bm
 refine ec 20 (zw9 aZ ba (by omega)) ?_
 rintro e21 b5 ⟨⟨aL,aK,aI,aN,rfl,aH⟩,a6⟩
 refine ⟨_,rfl,?_⟩
 replace hB:=hB.trans a6
 replace L2:=L2.gr a6
 replace L3:=L3.gr a6
 refine ⟨⟨L2,L3⟩,?_⟩
 simp only [p3,p4]
 refine ov 21 (.pointer (some ⟨b6,0,none⟩)) ?_
 refine oe ?_
 replace L6:=L6.gr (ay.trans a6)
 refine es 33 0 (.agg #[aL,aK,aI,aN]) [aL,aK,aI,aN] #[aL,aK,aI,aN,.bool false,.slice none 0 0,.bool false,.slice none 0 0,.bool false,.slice none 0 0,.bool false,.slice none 0 0] L6 hB q6 ⟨aH.one0,aH.one1,aH.one2,aH.one3,trivial⟩ fun bQ a5 bg L6 hB=>?_
 replace L2:=a5.lc L2 aQ
 replace L3:=a5.lc L3 aM
 refine ⟨⟨L2,L3⟩,?_⟩
 refine za2 ?_
 refine k11 _ _ ?_
 try clear k11 bJ
 refine rg [0,1] ?_
 refine sv 22 (.int .i64 1) ?_
 refine sv 9 (.int .i64 1) ?_
 refine za0 ?_
 show Code.rounds _ _ _ _ _ _
 show Code.wp _ _ _ _ _
 refine wp_seq_k (fun bR bF=>?_)
 refine rg [0] ?_
 refine sv 10 (.bool true) ?_
 refine za0 ?_
 refine bF _ _ ?_
 try clear bF bR
 refine wp_seq_k (fun bT bB=>?_)
 refine wp_cond_true rfl ?_
 refine wp_skip ?_
 refine bB _ _ ?_
 try clear bB bT
 refine wp_seq_k (fun bP bD=>?_)
 refine wp_block ?_
 refine wp_seq_k (fun bN bx=>?_)
 refine rg [0,1] ?_
 refine sv 11 (.int .i64 1) ?_
 refine sv 8 (.int .i64 1) ?_
 refine za0 ?_
 refine bx _ _ ?_
 try clear bx bN
 have ae:=Gr.drew bQ
 replace hB:=hB.trans ae
 replace L2:=L2.gr ae
 replace L3:=L3.gr ae
 refine za1 (fun w'=>Lc w' b2 #[ak,aq,aG,aC,al,ac,az,aA,ax,aB,aj,ar] 35∧Lc w' b3 #[aF,ai,af,aE,ap,ad,ab,av,au,aw,aa,ah] 35) [(true,0),(true,1),(true,2),(true,3),(true,4),(true,5),(true,6),(true,7),(false,8),(true,9),(false,10)] (by kernel_rfl) (by kernel_rfl) (by kernel_rfl) (by decide) (fun _ _ _ _ _ h=>h) ⟨L2,L3⟩ ?_
 refine ov 12 (.int .i64 1) ?_
 refine ov 13 (.func (.func 46) #[] #[]) ?_
 refine ov 14 (.int .i64 1) ?_
 refine ov 15 (.pointer (some ⟨b2,4,none⟩)) ?_
 refine ow 16 (.agg #[al,ac,az,aA]) rfl (fun w' hS=>(rl 33 4 [al,ac,az,aA] hS.1)) ?_
 refine ov 17 (.int .i64 1) ?_
 refine ov 18 (.pointer (some ⟨b3,4,none⟩)) ?_
 refine ow 19 (.agg #[ap,ad,ab,av]) rfl (fun w' hS=>(rl 33 4 [ap,ad,ab,av] hS.2)) ?_
 refine oe ?_
 have bj:=g2.kp.trans (g3.kp.trans (g4.kp.trans (g6.kp.trans (ay.kp.trans (a6.kp.trans (bg.trans ae.kp))))))
 replace bb:=bb.kp bj
 replace bc:=bc.kp bj
 refine ec 20 (zw9 bb bc (by omega)) ?_
 rintro bX bY ⟨⟨aS,aT,aR,aU,rfl,aP⟩,bi⟩
 refine ⟨_,rfl,?_⟩
 replace hB:=hB.trans bi
 replace L2:=L2.gr bi
 replace L3:=L3.gr bi
 refine ⟨⟨L2,L3⟩,?_⟩
 simp only [p3,p4]
 refine ov 21 (.pointer (some ⟨b6,4,none⟩)) ?_
 refine oe ?_
 replace L6:=L6.gr (ae.trans bi)
 refine es 33 4 (.agg #[aS,aT,aR,aU]) [aS,aT,aR,aU] #[aL,aK,aI,aN,aS,aT,aR,aU,.bool false,.slice none 0 0,.bool false,.slice none 0 0] L6 hB q6 ⟨aP.one0,aP.one1,aP.one2,aP.one3,trivial⟩ fun bW a4 bh L6 hB=>?_
 replace L2:=a4.lc L2 aQ
 replace L3:=a4.lc L3 aM
 refine ⟨⟨L2,L3⟩,?_⟩
 refine za2 ?_
 refine bD _ _ ?_
 try clear bD bP
 refine rg [0,1] ?_
 refine sv 22 (.int .i64 2) ?_
 refine sv 9 (.int .i64 2) ?_
 refine za0 ?_
 show Code.rounds _ _ _ _ _ _
 show Code.wp _ _ _ _ _
 refine wp_seq_k (fun bK bw=>?_)
 refine rg [0] ?_
 refine sv 10 (.bool true) ?_
 refine za0 ?_
 refine bw _ _ ?_
 try clear bw bK
 refine wp_seq_k (fun bG bE=>?_)
 refine wp_cond_true rfl ?_
 refine wp_skip ?_
 refine bE _ _ ?_
 try clear bE bG
 refine wp_seq_k (fun bH bq=>?_)
 refine wp_block ?_
 refine wp_seq_k (fun bU bz=>?_)
 refine rg [0,1] ?_
 refine sv 11 (.int .i64 2) ?_
 refine sv 8 (.int .i64 2) ?_
 refine za0 ?_
 refine bz _ _ ?_
 try clear bz bU
 have aD:=Gr.drew bW
 replace hB:=hB.trans aD
 replace L2:=L2.gr aD
 replace L3:=L3.gr aD
 refine za1 (fun w'=>Lc w' b2 #[ak,aq,aG,aC,al,ac,az,aA,ax,aB,aj,ar] 35∧Lc w' b3 #[aF,ai,af,aE,ap,ad,ab,av,au,aw,aa,ah] 35) [(true,0),(true,1),(true,2),(true,3),(true,4),(true,5),(true,6),(true,7),(false,8),(true,9),(false,10)] (by kernel_rfl) (by kernel_rfl) (by kernel_rfl) (by decide) (fun _ _ _ _ _ h=>h) ⟨L2,L3⟩ ?_
 refine ov 12 (.int .i64 2) ?_
 refine ov 13 (.func (.func 46) #[] #[]) ?_
 refine ov 14 (.int .i64 2) ?_
 refine ov 15 (.pointer (some ⟨b2,8,none⟩)) ?_
 refine ow 16 (.agg #[ax,aB,aj,ar]) rfl (fun w' hS=>(rl 33 8 [ax,aB,aj,ar] hS.1)) ?_
 refine ov 17 (.int .i64 2) ?_
 refine ov 18 (.pointer (some ⟨b3,8,none⟩)) ?_
 refine ow 19 (.agg #[au,aw,aa,ah]) rfl (fun w' hS=>(rl 33 8 [au,aw,aa,ah] hS.2)) ?_
 refine oe ?_
 have bk:=g2.kp.trans (g3.kp.trans (g4.kp.trans (g6.kp.trans (ay.kp.trans (a6.kp.trans (bg.trans (ae.kp.trans (bi.kp.trans (bh.trans aD.kp)))))))))
 replace a9:=a9.kp bk
 replace a8:=a8.kp bk
 refine ec 20 (zw9 a9 a8 (by omega)) ?_
 rintro ca b8 ⟨⟨aV,aY,aX,aW,rfl,aO⟩,a7⟩
 refine ⟨_,rfl,?_⟩
 replace hB:=hB.trans a7
 replace L2:=L2.gr a7
 replace L3:=L3.gr a7
 refine ⟨⟨L2,L3⟩,?_⟩
 simp only [p3,p4]
 refine ov 21 (.pointer (some ⟨b6,8,none⟩)) ?_
 refine oe ?_
 replace L6:=L6.gr (aD.trans a7)
 refine es 33 8 (.agg #[aV,aY,aX,aW]) [aV,aY,aX,aW] #[aL,aK,aI,aN,aS,aT,aR,aU,aV,aY,aX,aW] L6 hB q6 ⟨aO.one0,aO.one1,aO.one2,aO.one3,trivial⟩ fun cc bf bd L6 hB=>?_
 replace L2:=bf.lc L2 aQ
 replace L3:=bf.lc L3 aM
 refine ⟨⟨L2,L3⟩,?_⟩
 refine za2 ?_
 refine bq _ _ ?_
 try clear bq bH
 refine rg [0,1] ?_
 refine sv 22 (.int .i64 3) ?_
 refine sv 9 (.int .i64 3) ?_
 refine za0 ?_
 show Code.rounds _ _ _ _ _ _
 show Code.wp _ _ _ _ _
 refine wp_seq_k (fun bM bu=>?_)
 refine rg [0] ?_
 refine sv 10 (.bool false) ?_
 refine za0 ?_
 refine bu _ _ ?_
 try clear bu bM
 refine wp_seq_k (fun b9 b7=>?_)
 refine wp_cond_false rfl ?_
 refine wp_exit ?_
 simp only [Exit.then,Exit.inBlock,↓reduceIte]
 refine k7 _ _ ?_
 try clear k7 K7
 refine wp_seq_k (fun bL bt=>?_)
 refine rg [0,1] ?_
 refine sw 23 (.agg #[aL,aK,aI,aN,aS,aT,aR,aU,aV,aY,aX,aW]) rfl (rl 35 0 [aL,aK,aI,aN,aS,aT,aR,aU,aV,aY,aX,aW] L6) ?_
 refine se ?_
 replace L4:=bf.lc ((a4.lc ((a5.lc (L4.gr (g6.trans (ay.trans a6))) aJ).gr (ae.trans bi)) aJ).gr (aD.trans a7)) aJ
 refine es 35 0 (.agg #[aL,aK,aI,aN,aS,aT,aR,aU,aV,aY,aX,aW]) [aL,aK,aI,aN,aS,aT,aR,aU,aV,aY,aX,aW] #[aL,aK,aI,aN,aS,aT,aR,aU,aV,aY,aX,aW] L4 hB q4 ⟨aH.one0,aH.one1,aH.one2,aH.one3,aP.one0,aP.one1,aP.one2,aP.one3,aO.one0,aO.one1,aO.one2,aO.one3,trivial⟩ fun bZ bV a0 L4 hB=>?_
 refine za0 ?_
 refine bt _ _ ?_
 try clear bt bL
 refine wp_ret ?_
 refine bodyPost_ret (v:=(.agg #[aL,aK,aI,aN,aS,aT,aR,aU,aV,aY,aX,aW])) (za6 _ _ _ rfl rfl L4 (by kernel_rfl)) rfl ⟨?_,hB⟩
 have bn:=bg.trans (ae.kp.trans (bi.kp.trans (bh.trans (aD.kp.trans (a7.kp.trans (bd.trans a0))))))
 replace aH:=aH.kp bn
 have bp:=bh.trans (aD.kp.trans (a7.kp.trans (bd.trans a0)))
 replace aP:=aP.kp bp
 have bo:=bd.trans a0
 replace aO:=aO.kp bo
 exact ⟨_,_,_,_,_,_,_,_,_,_,_,_,rfl,aH,aP,aO⟩

set_option maxRecDepth 100000 in
set_option maxHeartbeats 4000000 in
theorem each_mul {k m:Nat} {ak aq aG aC al ac az aA ax aB aj ar:Value} {a1 a2 a3:Rat} {aF ai af aE ap ad ab av au aw aa ah:Value} {c1 c2 c3:Rat} {w:World} (aZ:IsRat w k ak aq aG aC a1) (bb:IsRat w k al ac az aA a2) (a9:IsRat w k ax aB aj ar a3) (ba:IsRat w m aF ai af aE c1) (bc:IsRat w m ap ad ab av c2) (a8:IsRat w m au aw aa ah c3) (_hk:k+m≤100000):
    Calls Tryz.prog 60 #[(.agg #[ak,aq,aG,aC,al,ac,az,aA,ax,aB,aj,ar]),(.agg #[aF,ai,af,aE,ap,ad,ab,av,au,aw,aa,ah]),(.func (.func 53) #[] #[])] w fun e w'=>(∃ t0 t1 t2 t3 t4 t5 t6 t7 t8 t9 bC bv,e=.returned (.agg #[t0,t1,t2,t3,t4,t5,t6,t7,t8,t9,bC,bv])∧IsRat w' (k+m) t0 t1 t2 t3 ((a1*c1))∧IsRat w' (k+m) t4 t5 t6 t7 ((a2*c2))∧IsRat w' (k+m) t8 t9 bC bv ((a3*c3)))∧Gr w w':=by
 go_enter Tryz.func60,Tryz.ntmps60
 have hB:=Gr.refl w
 refine wp_seq_k (fun K1 k1=>?_)
 refine rg [0,1,2] ?_
 refine se ?_
 refine eb 35 #[ak,aq,aG,aC,al,ac,az,aA,ax,aB,aj,ar] 3 hB fun b2 w2 g2 L2 o2 q2 hB=>?_
 simp only [p3,p4]
 refine se ?_
 refine eb 35 #[aF,ai,af,aE,ap,ad,ab,av,au,aw,aa,ah] 4 hB fun b3 w3 g3 L3 o3 q3 hB=>?_
 simp only [p3,p4]
 refine se ?_
 refine ea 35 #[.bool false,.slice none 0 0,.bool false,.slice none 0 0,.bool false,.slice none 0 0,.bool false,.slice none 0 0,.bool false,.slice none 0 0,.bool false,.slice none 0 0] 6 hB fun b4 w4 g4 L4 o4 q4 hB=>?_
 replace L2:=L2.gr g3
 simp only [p3,p4]
 refine za0 ?_
 refine k1 _ _ ?_
 try clear k1 K1
 refine wp_seq_k (fun K5 k5=>?_)
 refine rg [0] ?_
 refine se ?_
 refine ea 35 #[.bool false,.slice none 0 0,.bool false,.slice none 0 0,.bool false,.slice none 0 0,.bool false,.slice none 0 0,.bool false,.slice none 0 0,.bool false,.slice none 0 0] 7 hB fun b6 w6 g6 L6 o6 q6 hB=>?_
 replace L2:=L2.gr g4
 have aQ:=L2.ne o6
 replace L3:=L3.gr g4
 have aM:=L3.ne o6
 have aJ:=L4.ne o6
 simp only [p3,p4]
 refine za0 ?_
 refine k5 _ _ ?_
 try clear k5 K5
 refine wp_seq_k (fun K7 k7=>?_)
 refine wp_seq_k (fun K8 k8=>?_)
 refine rg [0] ?_
 refine sv 9 (.int .i64 0) ?_
 refine za0 ?_
 refine k8 _ _ ?_
 try clear k8 K8
 refine wp_block ?_
 refine wp_loop_rounds 4 ?_
 show Code.wp _ _ _ _ _
 refine wp_seq_k (fun K9 k9=>?_)
 refine rg [0] ?_
 refine sv 10 (.bool true) ?_
 refine za0 ?_
 refine k9 _ _ ?_
 try clear k9 K9
 refine wp_seq_k (fun bO bA=>?_)
 refine wp_cond_true rfl ?_
 refine wp_skip ?_
 refine bA _ _ ?_
 try clear bA bO
 refine wp_seq_k (fun bJ k11=>?_)
 refine wp_block ?_
 refine wp_seq_k (fun bS k12=>?_)
 refine rg [0,1] ?_
 refine sv 11 (.int .i64 0) ?_
 refine sv 8 (.int .i64 0) ?_
 refine za0 ?_
 refine k12 _ _ ?_
 try clear k12 bS
 have ay:=Gr.drew w6
 replace hB:=hB.trans ay
 replace L2:=L2.gr (g6.trans ay)
 replace L3:=L3.gr (g6.trans ay)
 refine za1 (fun w'=>Lc w' b2 #[ak,aq,aG,aC,al,ac,az,aA,ax,aB,aj,ar] 35∧Lc w' b3 #[aF,ai,af,aE,ap,ad,ab,av,au,aw,aa,ah] 35) [(true,0),(true,1),(true,2),(true,3),(true,4),(true,5),(true,6),(true,7),(false,8),(true,9),(false,10)] (by kernel_rfl) (by kernel_rfl) (by kernel_rfl) (by decide) (fun _ _ _ _ _ h=>h) ⟨L2,L3⟩ ?_
 refine ov 12 (.int .i64 0) ?_
 refine ov 13 (.func (.func 53) #[] #[]) ?_
 refine ov 14 (.int .i64 0) ?_
 refine ov 15 (.pointer (some ⟨b2,0,none⟩)) ?_
 refine ow 16 (.agg #[ak,aq,aG,aC]) rfl (fun w' hS=>(rl 33 0 [ak,aq,aG,aC] hS.1)) ?_
 refine ov 17 (.int .i64 0) ?_
 refine ov 18 (.pointer (some ⟨b3,0,none⟩)) ?_
 refine ow 19 (.agg #[aF,ai,af,aE]) rfl (fun w' hS=>(rl 33 0 [aF,ai,af,aE] hS.2)) ?_
 refine oe ?_
 have bm:=g2.kp.trans (g3.kp.trans (g4.kp.trans (g6.kp.trans ay.kp)))
 replace aZ:=aZ.kp bm
 replace ba:=ba.kp bm
 refine ec 20 (zm7 aZ ba (by omega)) ?_
 rintro e21 b5 ⟨⟨aL,aK,aI,aN,rfl,aH⟩,a6⟩
 refine ⟨_,rfl,?_⟩
 replace hB:=hB.trans a6
 replace L2:=L2.gr a6
 replace L3:=L3.gr a6
 refine ⟨⟨L2,L3⟩,?_⟩
 simp only [p3,p4]
 refine ov 21 (.pointer (some ⟨b6,0,none⟩)) ?_
 refine oe ?_
 replace L6:=L6.gr (ay.trans a6)
 refine es 33 0 (.agg #[aL,aK,aI,aN]) [aL,aK,aI,aN] #[aL,aK,aI,aN,.bool false,.slice none 0 0,.bool false,.slice none 0 0,.bool false,.slice none 0 0,.bool false,.slice none 0 0] L6 hB q6 ⟨aH.one0,aH.one1,aH.one2,aH.one3,trivial⟩ fun bQ a5 bg L6 hB=>?_
 replace L2:=a5.lc L2 aQ
 replace L3:=a5.lc L3 aM
 refine ⟨⟨L2,L3⟩,?_⟩
 refine za2 ?_
 refine k11 _ _ ?_
 try clear k11 bJ
 refine rg [0,1] ?_
 refine sv 22 (.int .i64 1) ?_
 refine sv 9 (.int .i64 1) ?_
 refine za0 ?_
 show Code.rounds _ _ _ _ _ _
 show Code.wp _ _ _ _ _
 refine wp_seq_k (fun bR bF=>?_)
 refine rg [0] ?_
 refine sv 10 (.bool true) ?_
 refine za0 ?_
 refine bF _ _ ?_
 try clear bF bR
 refine wp_seq_k (fun bT bB=>?_)
 refine wp_cond_true rfl ?_
 refine wp_skip ?_
 refine bB _ _ ?_
 try clear bB bT
 refine wp_seq_k (fun bP bD=>?_)
 refine wp_block ?_
 refine wp_seq_k (fun bN bx=>?_)
 refine rg [0,1] ?_
 refine sv 11 (.int .i64 1) ?_
 refine sv 8 (.int .i64 1) ?_
 refine za0 ?_
 refine bx _ _ ?_
 try clear bx bN
 have ae:=Gr.drew bQ
 replace hB:=hB.trans ae
 replace L2:=L2.gr ae
 replace L3:=L3.gr ae
 refine za1 (fun w'=>Lc w' b2 #[ak,aq,aG,aC,al,ac,az,aA,ax,aB,aj,ar] 35∧Lc w' b3 #[aF,ai,af,aE,ap,ad,ab,av,au,aw,aa,ah] 35) [(true,0),(true,1),(true,2),(true,3),(true,4),(true,5),(true,6),(true,7),(false,8),(true,9),(false,10)] (by kernel_rfl) (by kernel_rfl) (by kernel_rfl) (by decide) (fun _ _ _ _ _ h=>h) ⟨L2,L3⟩ ?_
 refine ov 12 (.int .i64 1) ?_
 refine ov 13 (.func (.func 53) #[] #[]) ?_
 refine ov 14 (.int .i64 1) ?_
 refine ov 15 (.pointer (some ⟨b2,4,none⟩)) ?_
 refine ow 16 (.agg #[al,ac,az,aA]) rfl (fun w' hS=>(rl 33 4 [al,ac,az,aA] hS.1)) ?_
 refine ov 17 (.int .i64 1) ?_
 refine ov 18 (.pointer (some ⟨b3,4,none⟩)) ?_
 refine ow 19 (.agg #[ap,ad,ab,av]) rfl (fun w' hS=>(rl 33 4 [ap,ad,ab,av] hS.2)) ?_
 refine oe ?_
 have bj:=g2.kp.trans (g3.kp.trans (g4.kp.trans (g6.kp.trans (ay.kp.trans (a6.kp.trans (bg.trans ae.kp))))))
 replace bb:=bb.kp bj
 replace bc:=bc.kp bj
 refine ec 20 (zm7 bb bc (by omega)) ?_
 rintro bX bY ⟨⟨aS,aT,aR,aU,rfl,aP⟩,bi⟩
 refine ⟨_,rfl,?_⟩
 replace hB:=hB.trans bi
 replace L2:=L2.gr bi
 replace L3:=L3.gr bi
 refine ⟨⟨L2,L3⟩,?_⟩
 simp only [p3,p4]
 refine ov 21 (.pointer (some ⟨b6,4,none⟩)) ?_
 refine oe ?_
 replace L6:=L6.gr (ae.trans bi)
 refine es 33 4 (.agg #[aS,aT,aR,aU]) [aS,aT,aR,aU] #[aL,aK,aI,aN,aS,aT,aR,aU,.bool false,.slice none 0 0,.bool false,.slice none 0 0] L6 hB q6 ⟨aP.one0,aP.one1,aP.one2,aP.one3,trivial⟩ fun bW a4 bh L6 hB=>?_
 replace L2:=a4.lc L2 aQ
 replace L3:=a4.lc L3 aM
 refine ⟨⟨L2,L3⟩,?_⟩
 refine za2 ?_
 refine bD _ _ ?_
 try clear bD bP
 refine rg [0,1] ?_
 refine sv 22 (.int .i64 2) ?_
 refine sv 9 (.int .i64 2) ?_
 refine za0 ?_
 show Code.rounds _ _ _ _ _ _
 show Code.wp _ _ _ _ _
 refine wp_seq_k (fun bK bw=>?_)
 refine rg [0] ?_
 refine sv 10 (.bool true) ?_
 refine za0 ?_
 refine bw _ _ ?_
 try clear bw bK
 refine wp_seq_k (fun bG bE=>?_)
 refine wp_cond_true rfl ?_
 refine wp_skip ?_
 refine bE _ _ ?_
 try clear bE bG
 refine wp_seq_k (fun bH bq=>?_)
 refine wp_block ?_
 refine wp_seq_k (fun bU bz=>?_)
 refine rg [0,1] ?_
 refine sv 11 (.int .i64 2) ?_
 refine sv 8 (.int .i64 2) ?_
 refine za0 ?_
 refine bz _ _ ?_
 try clear bz bU
 have aD:=Gr.drew bW
 replace hB:=hB.trans aD
 replace L2:=L2.gr aD
 replace L3:=L3.gr aD
 refine za1 (fun w'=>Lc w' b2 #[ak,aq,aG,aC,al,ac,az,aA,ax,aB,aj,ar] 35∧Lc w' b3 #[aF,ai,af,aE,ap,ad,ab,av,au,aw,aa,ah] 35) [(true,0),(true,1),(true,2),(true,3),(true,4),(true,5),(true,6),(true,7),(false,8),(true,9),(false,10)] (by kernel_rfl) (by kernel_rfl) (by kernel_rfl) (by decide) (fun _ _ _ _ _ h=>h) ⟨L2,L3⟩ ?_
 refine ov 12 (.int .i64 2) ?_
 refine ov 13 (.func (.func 53) #[] #[]) ?_
 refine ov 14 (.int .i64 2) ?_
 refine ov 15 (.pointer (some ⟨b2,8,none⟩)) ?_
 refine ow 16 (.agg #[ax,aB,aj,ar]) rfl (fun w' hS=>(rl 33 8 [ax,aB,aj,ar] hS.1)) ?_
 refine ov 17 (.int .i64 2) ?_
 refine ov 18 (.pointer (some ⟨b3,8,none⟩)) ?_
 refine ow 19 (.agg #[au,aw,aa,ah]) rfl (fun w' hS=>(rl 33 8 [au,aw,aa,ah] hS.2)) ?_
 refine oe ?_
 have bk:=g2.kp.trans (g3.kp.trans (g4.kp.trans (g6.kp.trans (ay.kp.trans (a6.kp.trans (bg.trans (ae.kp.trans (bi.kp.trans (bh.trans aD.kp)))))))))
 replace a9:=a9.kp bk
 replace a8:=a8.kp bk
 refine ec 20 (zm7 a9 a8 (by omega)) ?_
 rintro ca b8 ⟨⟨aV,aY,aX,aW,rfl,aO⟩,a7⟩
 refine ⟨_,rfl,?_⟩
 replace hB:=hB.trans a7
 replace L2:=L2.gr a7
 replace L3:=L3.gr a7
 refine ⟨⟨L2,L3⟩,?_⟩
 simp only [p3,p4]
 refine ov 21 (.pointer (some ⟨b6,8,none⟩)) ?_
 refine oe ?_
 replace L6:=L6.gr (aD.trans a7)
 refine es 33 8 (.agg #[aV,aY,aX,aW]) [aV,aY,aX,aW] #[aL,aK,aI,aN,aS,aT,aR,aU,aV,aY,aX,aW] L6 hB q6 ⟨aO.one0,aO.one1,aO.one2,aO.one3,trivial⟩ fun cc bf bd L6 hB=>?_
 replace L2:=bf.lc L2 aQ
 replace L3:=bf.lc L3 aM
 refine ⟨⟨L2,L3⟩,?_⟩
 refine za2 ?_
 refine bq _ _ ?_
 try clear bq bH
 refine rg [0,1] ?_
 refine sv 22 (.int .i64 3) ?_
 refine sv 9 (.int .i64 3) ?_
 refine za0 ?_
 show Code.rounds _ _ _ _ _ _
 show Code.wp _ _ _ _ _
 refine wp_seq_k (fun bM bu=>?_)
 refine rg [0] ?_
 refine sv 10 (.bool false) ?_
 refine za0 ?_
 refine bu _ _ ?_
 try clear bu bM
 refine wp_seq_k (fun b9 b7=>?_)
 refine wp_cond_false rfl ?_
 refine wp_exit ?_
 simp only [Exit.then,Exit.inBlock,↓reduceIte]
 refine k7 _ _ ?_
 try clear k7 K7
 refine wp_seq_k (fun bL bt=>?_)
 refine rg [0,1] ?_
 refine sw 23 (.agg #[aL,aK,aI,aN,aS,aT,aR,aU,aV,aY,aX,aW]) rfl (rl 35 0 [aL,aK,aI,aN,aS,aT,aR,aU,aV,aY,aX,aW] L6) ?_
 refine se ?_
 replace L4:=bf.lc ((a4.lc ((a5.lc (L4.gr (g6.trans (ay.trans a6))) aJ).gr (ae.trans bi)) aJ).gr (aD.trans a7)) aJ
 refine es 35 0 (.agg #[aL,aK,aI,aN,aS,aT,aR,aU,aV,aY,aX,aW]) [aL,aK,aI,aN,aS,aT,aR,aU,aV,aY,aX,aW] #[aL,aK,aI,aN,aS,aT,aR,aU,aV,aY,aX,aW] L4 hB q4 ⟨aH.one0,aH.one1,aH.one2,aH.one3,aP.one0,aP.one1,aP.one2,aP.one3,aO.one0,aO.one1,aO.one2,aO.one3,trivial⟩ fun bZ bV a0 L4 hB=>?_
 refine za0 ?_
 refine bt _ _ ?_
 try clear bt bL
 refine wp_ret ?_
 refine bodyPost_ret (v:=(.agg #[aL,aK,aI,aN,aS,aT,aR,aU,aV,aY,aX,aW])) (za6 _ _ _ rfl rfl L4 (by kernel_rfl)) rfl ⟨?_,hB⟩
 have bn:=bg.trans (ae.kp.trans (bi.kp.trans (bh.trans (aD.kp.trans (a7.kp.trans (bd.trans a0))))))
 replace aH:=aH.kp bn
 have bp:=bh.trans (aD.kp.trans (a7.kp.trans (bd.trans a0)))
 replace aP:=aP.kp bp
 have bo:=bd.trans a0
 replace aO:=aO.kp bo
 exact ⟨_,_,_,_,_,_,_,_,_,_,_,_,rfl,aH,aP,aO⟩

set_option maxRecDepth 100000 in
set_option maxHeartbeats 1000000 in
theorem zz5 {k m:Nat} {kb:Nat} {s0 s1 s2 s3:Value} {sq:Rat} {u0 u1 u2 u3 v0 v1 v2 v3:Value} {a:Rat} {w:World} (ha:IsRat w k u0 u1 u2 u3 a) (hL:Lc w kb #[s0,s1,s2,s3] 33) (hs:IsRat w m s0 s1 s2 s3 sq) (_hk:k+m≤100000):
    Calls Tryz.prog 80 #[(.agg #[u0,u1,u2,u3]),(.agg #[v0,v1,v2,v3]),(.pointer (some ⟨kb,0,none⟩))] w fun e w'=>(∃ z0 z1 z2 z3,e=.returned (.agg #[z0,z1,z2,z3])∧IsRat w' (m+k) z0 z1 z2 z3 (sq*a))∧Gr w w':=by
 go_enter Tryz.func80,Tryz.ntmps80
 have hB:=Gr.refl w
 refine wp_seq_k (fun K1 k1=>?_)
 refine rg [0,1,2] ?_
 refine se ?_
 refine eb 33 #[u0,u1,u2,u3] 3 hB fun b2 w2 g2 L2 o2 q2 hB=>?_
 simp only [p3,p4]
 refine se ?_
 refine eb 33 #[v0,v1,v2,v3] 4 hB fun b3 w3 g3 L3 o3 q3 hB=>?_
 replace hL:=hL.gr g2
 simp only [p3,p4]
 refine se ?_
 refine ea 33 #[.bool false,.slice none 0 0,.bool false,.slice none 0 0] 5 hB fun b4 w4 g4 L4 o4 q4 hB=>?_
 replace hL:=hL.gr g3
 replace L2:=L2.gr g3
 simp only [p3,p4]
 refine za0 ?_
 refine k1 _ _ ?_
 try clear k1 K1
 refine wp_seq_k (fun K5 k5=>?_)
 refine rg [0,1,2,3] ?_
 replace hL:=hL.gr g4
 refine sw 6 (.agg #[s0,s1,s2,s3]) rfl (rl 33 0 [s0,s1,s2,s3] hL) ?_
 replace L2:=L2.gr g4
 refine sw 7 (.agg #[u0,u1,u2,u3]) rfl (rl 33 0 [u0,u1,u2,u3] L2) ?_
 refine se ?_
 have aa:=g2.kp.trans (g3.kp.trans g4.kp)
 replace hs:=hs.kp aa
 replace ha:=ha.kp aa
 refine ec 8 (zm7 hs ha (by omega)) ?_
 rintro e6 w6 ⟨⟨p6,q6,r6,s6,rfl,h6⟩,g6⟩
 refine ⟨_,rfl,?_⟩
 replace hB:=hB.trans g6
 simp only [p3,p4]
 refine se ?_
 replace L4:=L4.gr g6
 refine es 33 0 (.agg #[p6,q6,r6,s6]) [p6,q6,r6,s6] #[p6,q6,r6,s6] L4 hB q4 ⟨h6.one0,h6.one1,h6.one2,h6.one3,trivial⟩ fun w8 ac ab L4 hB=>?_
 refine za0 ?_
 refine k5 _ _ ?_
 try clear k5 K5
 refine wp_ret ?_
 refine bodyPost_ret (v:=(.agg #[p6,q6,r6,s6])) (za6 _ _ _ rfl rfl L4 (by kernel_rfl)) rfl ⟨?_,hB⟩
 replace h6:=h6.kp ab
 exact ⟨_,_,_,_,rfl,h6⟩

set_option maxRecDepth 100000 in
set_option maxHeartbeats 4000000 in
theorem zQ0 {k m:Nat} {kb:Nat} {s0 s1 s2 s3:Value} {sq:Rat} {ak al ah af aa ai ad ap ac ae aj ab:Value} {a1 a2 a3:Rat} {w:World} (aU:IsRat w k ak al ah af a1) (aX:IsRat w k aa ai ad ap a2) (a0:IsRat w k ac ae aj ab a3) (hL:Lc w kb #[s0,s1,s2,s3] 33) (hs:IsRat w m s0 s1 s2 s3 sq) (_hk:k+m≤100000):
    Calls Tryz.prog 60 #[(.agg #[ak,al,ah,af,aa,ai,ad,ap,ac,ae,aj,ab]),(.agg #[ak,al,ah,af,aa,ai,ad,ap,ac,ae,aj,ab]),(.func (.func 80) #[] #[(.pointer (some ⟨kb,0,none⟩))])] w fun e w'=>(∃ t0 t1 t2 t3 t4 t5 t6 t7 t8 t9 bg bi,e=.returned (.agg #[t0,t1,t2,t3,t4,t5,t6,t7,t8,t9,bg,bi])∧IsRat w' (m+k) t0 t1 t2 t3 (sq*a1)∧IsRat w' (m+k) t4 t5 t6 t7 (sq*a2)∧IsRat w' (m+k) t8 t9 bg bi (sq*a3))∧Gr w w':=by
 go_enter Tryz.func60,Tryz.ntmps60
 have hB:=Gr.refl w
 refine wp_seq_k (fun K1 k1=>?_)
 refine rg [0,1,2] ?_
 refine se ?_
 refine eb 35 #[ak,al,ah,af,aa,ai,ad,ap,ac,ae,aj,ab] 3 hB fun b2 w2 g2 L2 o2 q2 hB=>?_
 simp only [p3,p4]
 refine se ?_
 refine eb 35 #[ak,al,ah,af,aa,ai,ad,ap,ac,ae,aj,ab] 4 hB fun b3 w3 g3 L3 o3 q3 hB=>?_
 replace hL:=hL.gr g2
 simp only [p3,p4]
 refine se ?_
 refine ea 35 #[.bool false,.slice none 0 0,.bool false,.slice none 0 0,.bool false,.slice none 0 0,.bool false,.slice none 0 0,.bool false,.slice none 0 0,.bool false,.slice none 0 0] 6 hB fun b4 w4 g4 L4 o4 q4 hB=>?_
 replace hL:=hL.gr g3
 replace L2:=L2.gr g3
 simp only [p3,p4]
 refine za0 ?_
 refine k1 _ _ ?_
 try clear k1 K1
 refine wp_seq_k (fun K5 k5=>?_)
 refine rg [0] ?_
 refine se ?_
 refine ea 35 #[.bool false,.slice none 0 0,.bool false,.slice none 0 0,.bool false,.slice none 0 0,.bool false,.slice none 0 0,.bool false,.slice none 0 0,.bool false,.slice none 0 0] 7 hB fun b6 w6 g6 L6 o6 q6 hB=>?_
 replace hL:=hL.gr g4
 have aT:=hL.ne o6
 replace L2:=L2.gr g4
 have aC:=L2.ne o6
 replace L3:=L3.gr g4
 have az:=L3.ne o6
 have aw:=L4.ne o6
 simp only [p3,p4]
 refine za0 ?_
 refine k5 _ _ ?_
 try clear k5 K5
 refine wp_seq_k (fun K7 k7=>?_)
 refine wp_seq_k (fun K8 k8=>?_)
 refine rg [0] ?_
 refine sv 9 (.int .i64 0) ?_
 refine za0 ?_
 refine k8 _ _ ?_
 try clear k8 K8
 refine wp_block ?_
 refine wp_loop_rounds 4 ?_
 show Code.wp _ _ _ _ _
 refine wp_seq_k (fun K9 k9=>?_)
 refine rg [0] ?_
 refine sv 10 (.bool true) ?_
 refine za0 ?_
 refine k9 _ _ ?_
 try clear k9 K9
 refine wp_seq_k (fun bF bo=>?_)
 refine wp_cond_true rfl ?_
 refine wp_skip ?_
 refine bo _ _ ?_
 try clear bo bF
 refine wp_seq_k (fun bE k11=>?_)
 refine wp_block ?_
 refine wp_seq_k (fun bB k12=>?_)
 refine rg [0,1] ?_
 refine sv 11 (.int .i64 0) ?_
 refine sv 8 (.int .i64 0) ?_
 refine za0 ?_
 refine k12 _ _ ?_
 try clear k12 bB
 have au:=Gr.drew w6
 replace hB:=hB.trans au
 replace L2:=L2.gr (g6.trans au)
 replace L3:=L3.gr (g6.trans au)
 refine za1 (fun w'=>Lc w' b2 #[ak,al,ah,af,aa,ai,ad,ap,ac,ae,aj,ab] 35∧Lc w' b3 #[ak,al,ah,af,aa,ai,ad,ap,ac,ae,aj,ab] 35) [(true,0),(true,1),(true,2),(true,3),(true,4),(true,5),(true,6),(true,7),(false,8),(true,9),(false,10)] (by kernel_rfl) (by kernel_rfl) (by kernel_rfl) (by decide) (fun _ _ _ _ _ h=>h) ⟨L2,L3⟩ ?_
 refine ov 12 (.int .i64 0) ?_
 refine ov 13 (.func (.func 80) #[] #[(.pointer (some ⟨kb,0,none⟩))]) ?_
 refine ov 14 (.int .i64 0) ?_
 refine ov 15 (.pointer (some ⟨b2,0,none⟩)) ?_
 refine ow 16 (.agg #[ak,al,ah,af]) rfl (fun w' hS=>(rl 33 0 [ak,al,ah,af] hS.1)) ?_
 refine ov 17 (.int .i64 0) ?_
 refine ov 18 (.pointer (some ⟨b3,0,none⟩)) ?_
 refine ow 19 (.agg #[ak,al,ah,af]) rfl (fun w' hS=>(rl 33 0 [ak,al,ah,af] hS.2)) ?_
 refine oe ?_
 have a4:=g2.kp.trans (g3.kp.trans (g4.kp.trans (g6.kp.trans au.kp)))
 replace aU:=aU.kp a4
 replace hs:=hs.kp a4
 replace hL:=hL.gr (g6.trans au)
 refine ec 20 (zz5 (v0:=ak) (v1:=al) (v2:=ah) (v3:=af) aU hL hs (by omega)) ?_
 rintro e21 bP ⟨⟨ay,ax,av,aA,rfl,aD⟩,aK⟩
 refine ⟨_,rfl,?_⟩
 replace hB:=hB.trans aK
 replace L2:=L2.gr aK
 replace L3:=L3.gr aK
 refine ⟨⟨L2,L3⟩,?_⟩
 simp only [p3,p4]
 refine ov 21 (.pointer (some ⟨b6,0,none⟩)) ?_
 refine oe ?_
 replace L6:=L6.gr (au.trans aK)
 refine es 33 0 (.agg #[ay,ax,av,aA]) [ay,ax,av,aA] #[ay,ax,av,aA,.bool false,.slice none 0 0,.bool false,.slice none 0 0,.bool false,.slice none 0 0,.bool false,.slice none 0 0] L6 hB q6 ⟨aD.one0,aD.one1,aD.one2,aD.one3,trivial⟩ fun bz aQ aM L6 hB=>?_
 replace L2:=aQ.lc L2 aC
 replace L3:=aQ.lc L3 az
 refine ⟨⟨L2,L3⟩,?_⟩
 refine za2 ?_
 refine k11 _ _ ?_
 try clear k11 bE
 refine rg [0,1] ?_
 refine sv 22 (.int .i64 1) ?_
 refine sv 9 (.int .i64 1) ?_
 refine za0 ?_
 show Code.rounds _ _ _ _ _ _
 show Code.wp _ _ _ _ _
 refine wp_seq_k (fun bH bh=>?_)
 refine rg [0] ?_
 refine sv 10 (.bool true) ?_
 refine za0 ?_
 refine bh _ _ ?_
 try clear bh bH
 refine wp_seq_k (fun bJ bd=>?_)
 refine wp_cond_true rfl ?_
 refine wp_skip ?_
 refine bd _ _ ?_
 try clear bd bJ
 refine wp_seq_k (fun bw bq=>?_)
 refine wp_block ?_
 refine wp_seq_k (fun bv bk=>?_)
 refine rg [0,1] ?_
 refine sv 11 (.int .i64 1) ?_
 refine sv 8 (.int .i64 1) ?_
 refine za0 ?_
 refine bk _ _ ?_
 try clear bk bv
 have ar:=Gr.drew bz
 replace hB:=hB.trans ar
 replace L2:=L2.gr ar
 replace L3:=L3.gr ar
 refine za1 (fun w'=>Lc w' b2 #[ak,al,ah,af,aa,ai,ad,ap,ac,ae,aj,ab] 35∧Lc w' b3 #[ak,al,ah,af,aa,ai,ad,ap,ac,ae,aj,ab] 35) [(true,0),(true,1),(true,2),(true,3),(true,4),(true,5),(true,6),(true,7),(false,8),(true,9),(false,10)] (by kernel_rfl) (by kernel_rfl) (by kernel_rfl) (by decide) (fun _ _ _ _ _ h=>h) ⟨L2,L3⟩ ?_
 refine ov 12 (.int .i64 1) ?_
 refine ov 13 (.func (.func 80) #[] #[(.pointer (some ⟨kb,0,none⟩))]) ?_
 refine ov 14 (.int .i64 1) ?_
 refine ov 15 (.pointer (some ⟨b2,4,none⟩)) ?_
 refine ow 16 (.agg #[aa,ai,ad,ap]) rfl (fun w' hS=>(rl 33 4 [aa,ai,ad,ap] hS.1)) ?_
 refine ov 17 (.int .i64 1) ?_
 refine ov 18 (.pointer (some ⟨b3,4,none⟩)) ?_
 refine ow 19 (.agg #[aa,ai,ad,ap]) rfl (fun w' hS=>(rl 33 4 [aa,ai,ad,ap] hS.2)) ?_
 refine oe ?_
 have a6:=g2.kp.trans (g3.kp.trans (g4.kp.trans (g6.kp.trans (au.kp.trans (aK.kp.trans (aM.trans ar.kp))))))
 replace aX:=aX.kp a6
 have a8:=aK.kp.trans (aM.trans ar.kp)
 replace hs:=hs.kp a8
 replace hL:=(aQ.lc (hL.gr aK) aT).gr ar
 refine ec 20 (zz5 (v0:=aa) (v1:=ai) (v2:=ad) (v3:=ap) aX hL hs (by omega)) ?_
 rintro bQ bN ⟨⟨aG,aI,aH,aF,rfl,aE⟩,aR⟩
 refine ⟨_,rfl,?_⟩
 replace hB:=hB.trans aR
 replace L2:=L2.gr aR
 replace L3:=L3.gr aR
 refine ⟨⟨L2,L3⟩,?_⟩
 simp only [p3,p4]
 refine ov 21 (.pointer (some ⟨b6,4,none⟩)) ?_
 refine oe ?_
 replace L6:=L6.gr (ar.trans aR)
 refine es 33 4 (.agg #[aG,aI,aH,aF]) [aG,aI,aH,aF] #[ay,ax,av,aA,aG,aI,aH,aF,.bool false,.slice none 0 0,.bool false,.slice none 0 0] L6 hB q6 ⟨aE.one0,aE.one1,aE.one2,aE.one3,trivial⟩ fun bA aO aS L6 hB=>?_
 replace L2:=aO.lc L2 aC
 replace L3:=aO.lc L3 az
 refine ⟨⟨L2,L3⟩,?_⟩
 refine za2 ?_
 refine bq _ _ ?_
 try clear bq bw
 refine rg [0,1] ?_
 refine sv 22 (.int .i64 2) ?_
 refine sv 9 (.int .i64 2) ?_
 refine za0 ?_
 show Code.rounds _ _ _ _ _ _
 show Code.wp _ _ _ _ _
 refine wp_seq_k (fun bD bc=>?_)
 refine rg [0] ?_
 refine sv 10 (.bool true) ?_
 refine za0 ?_
 refine bc _ _ ?_
 try clear bc bD
 refine wp_seq_k (fun bC bn=>?_)
 refine wp_cond_true rfl ?_
 refine wp_skip ?_
 refine bn _ _ ?_
 try clear bn bC
 refine wp_seq_k (fun bt bj=>?_)
 refine wp_block ?_
 refine wp_seq_k (fun bx bf=>?_)
 refine rg [0,1] ?_
 refine sv 11 (.int .i64 2) ?_
 refine sv 8 (.int .i64 2) ?_
 refine za0 ?_
 refine bf _ _ ?_
 try clear bf bx
 have aq:=Gr.drew bA
 replace hB:=hB.trans aq
 replace L2:=L2.gr aq
 replace L3:=L3.gr aq
 refine za1 (fun w'=>Lc w' b2 #[ak,al,ah,af,aa,ai,ad,ap,ac,ae,aj,ab] 35∧Lc w' b3 #[ak,al,ah,af,aa,ai,ad,ap,ac,ae,aj,ab] 35) [(true,0),(true,1),(true,2),(true,3),(true,4),(true,5),(true,6),(true,7),(false,8),(true,9),(false,10)] (by kernel_rfl) (by kernel_rfl) (by kernel_rfl) (by decide) (fun _ _ _ _ _ h=>h) ⟨L2,L3⟩ ?_
 refine ov 12 (.int .i64 2) ?_
 refine ov 13 (.func (.func 80) #[] #[(.pointer (some ⟨kb,0,none⟩))]) ?_
 refine ov 14 (.int .i64 2) ?_
 refine ov 15 (.pointer (some ⟨b2,8,none⟩)) ?_
 refine ow 16 (.agg #[ac,ae,aj,ab]) rfl (fun w' hS=>(rl 33 8 [ac,ae,aj,ab] hS.1)) ?_
 refine ov 17 (.int .i64 2) ?_
 refine ov 18 (.pointer (some ⟨b3,8,none⟩)) ?_
 refine ow 19 (.agg #[ac,ae,aj,ab]) rfl (fun w' hS=>(rl 33 8 [ac,ae,aj,ab] hS.2)) ?_
 refine oe ?_
 have a9:=g2.kp.trans (g3.kp.trans (g4.kp.trans (g6.kp.trans (au.kp.trans (aK.kp.trans (aM.trans (ar.kp.trans (aR.kp.trans (aS.trans aq.kp)))))))))
 replace a0:=a0.kp a9
 have ba:=aR.kp.trans (aS.trans aq.kp)
 replace hs:=hs.kp ba
 replace hL:=(aO.lc (hL.gr aR) aT).gr aq
 refine ec 20 (zz5 (v0:=ac) (v1:=ae) (v2:=aj) (v3:=ab) a0 hL hs (by omega)) ?_
 rintro bL bT ⟨⟨aJ,aP,aN,aL,rfl,aB⟩,aW⟩
 refine ⟨_,rfl,?_⟩
 replace hB:=hB.trans aW
 replace L2:=L2.gr aW
 replace L3:=L3.gr aW
 refine ⟨⟨L2,L3⟩,?_⟩
 simp only [p3,p4]
 refine ov 21 (.pointer (some ⟨b6,8,none⟩)) ?_
 refine oe ?_
 replace L6:=L6.gr (aq.trans aW)
 refine es 33 8 (.agg #[aJ,aP,aN,aL]) [aJ,aP,aN,aL] #[ay,ax,av,aA,aG,aI,aH,aF,aJ,aP,aN,aL] L6 hB q6 ⟨aB.one0,aB.one1,aB.one2,aB.one3,trivial⟩ fun bO aY aV L6 hB=>?_
 replace L2:=aY.lc L2 aC
 replace L3:=aY.lc L3 az
 refine ⟨⟨L2,L3⟩,?_⟩
 refine za2 ?_
 refine bj _ _ ?_
 try clear bj bt
 refine rg [0,1] ?_
 refine sv 22 (.int .i64 3) ?_
 refine sv 9 (.int .i64 3) ?_
 refine za0 ?_
 show Code.rounds _ _ _ _ _ _
 show Code.wp _ _ _ _ _
 refine wp_seq_k (fun bG bp=>?_)
 refine rg [0] ?_
 refine sv 10 (.bool false) ?_
 refine za0 ?_
 refine bp _ _ ?_
 try clear bp bG
 refine wp_seq_k (fun bR bS=>?_)
 refine wp_cond_false rfl ?_
 refine wp_exit ?_
 simp only [Exit.then,Exit.inBlock,↓reduceIte]
 refine k7 _ _ ?_
 try clear k7 K7
 refine wp_seq_k (fun bK bm=>?_)
 refine rg [0,1] ?_
 refine sw 23 (.agg #[ay,ax,av,aA,aG,aI,aH,aF,aJ,aP,aN,aL]) rfl (rl 35 0 [ay,ax,av,aA,aG,aI,aH,aF,aJ,aP,aN,aL] L6) ?_
 refine se ?_
 replace L4:=aY.lc ((aO.lc ((aQ.lc (L4.gr (g6.trans (au.trans aK))) aw).gr (ar.trans aR)) aw).gr (aq.trans aW)) aw
 refine es 35 0 (.agg #[ay,ax,av,aA,aG,aI,aH,aF,aJ,aP,aN,aL]) [ay,ax,av,aA,aG,aI,aH,aF,aJ,aP,aN,aL] #[ay,ax,av,aA,aG,aI,aH,aF,aJ,aP,aN,aL] L4 hB q4 ⟨aD.one0,aD.one1,aD.one2,aD.one3,aE.one0,aE.one1,aE.one2,aE.one3,aB.one0,aB.one1,aB.one2,aB.one3,trivial⟩ fun bM bu aZ L4 hB=>?_
 refine za0 ?_
 refine bm _ _ ?_
 try clear bm bK
 refine wp_ret ?_
 refine bodyPost_ret (v:=(.agg #[ay,ax,av,aA,aG,aI,aH,aF,aJ,aP,aN,aL])) (za6 _ _ _ rfl rfl L4 (by kernel_rfl)) rfl ⟨?_,hB⟩
 have a5:=aM.trans (ar.kp.trans (aR.kp.trans (aS.trans (aq.kp.trans (aW.kp.trans (aV.trans aZ))))))
 replace aD:=aD.kp a5
 have a7:=aS.trans (aq.kp.trans (aW.kp.trans (aV.trans aZ)))
 replace aE:=aE.kp a7
 have bb:=aV.trans aZ
 replace aB:=aB.kp bb
 exact ⟨_,_,_,_,_,_,_,_,_,_,_,_,rfl,aD,aE,aB⟩

set_option maxRecDepth 100000 in
set_option maxHeartbeats 1000000 in
theorem vadd_v {k m:Nat} {al ar aF aC ap ae az aA ay aB ak au:Value} {a1 a2 a3:Rat} {aE aj ah aD aq af ad aw av ax ac ai:Value} {c1 c2 c3:Rat} {w:World} (aQ:IsRat w k al ar aF aC a1) (aW:IsRat w k ap ae az aA a2) (aU:IsRat w k ay aB ak au a3) (aV:IsRat w m aE aj ah aD c1) (aX:IsRat w m aq af ad aw c2) (aT:IsRat w m av ax ac ai c3) (_hk:k+m≤100000):
    Calls Tryz.prog 37 #[(.agg #[al,ar,aF,aC,ap,ae,az,aA,ay,aB,ak,au]),(.agg #[aE,aj,ah,aD,aq,af,ad,aw,av,ax,ac,ai])] w fun e w'=>(∃ t0 t1 t2 t3 t4 t5 t6 t7 t8 t9 a5 a4,e=.returned (.agg #[t0,t1,t2,t3,t4,t5,t6,t7,t8,t9,a5,a4])∧IsRat w' (k+m+1) t0 t1 t2 t3 ((a1+c1))∧IsRat w' (k+m+1) t4 t5 t6 t7 ((a2+c2))∧IsRat w' (k+m+1) t8 t9 a5 a4 ((a3+c3)))∧Gr w w':=by
 go_enter Tryz.func37,Tryz.ntmps37
 have hB:=Gr.refl w
 refine wp_seq_k (fun K1 k1=>?_)
 refine rg [0,1,2] ?_
 refine se ?_
 refine eb 35 #[al,ar,aF,aC,ap,ae,az,aA,ay,aB,ak,au] 2 hB fun b2 w2 g2 L2 o2 q2 hB=>?_
 simp only [p3,p4]
 refine se ?_
 refine eb 35 #[aE,aj,ah,aD,aq,af,ad,aw,av,ax,ac,ai] 3 hB fun b3 w3 g3 L3 o3 q3 hB=>?_
 simp only [p3,p4]
 refine se ?_
 refine ea 35 #[.bool false,.slice none 0 0,.bool false,.slice none 0 0,.bool false,.slice none 0 0,.bool false,.slice none 0 0,.bool false,.slice none 0 0,.bool false,.slice none 0 0] 4 hB fun b4 w4 g4 L4 o4 q4 hB=>?_
 replace L2:=L2.gr g3
 simp only [p3,p4]
 refine za0 ?_
 refine k1 _ _ ?_
 try clear k1 K1
 refine wp_seq_k (fun K5 k5=>?_)
 refine rg [0,1,2,3] ?_
 replace L2:=L2.gr g4
 refine sw 5 (.agg #[al,ar,aF,aC,ap,ae,az,aA,ay,aB,ak,au]) rfl (rl 35 0 [al,ar,aF,aC,ap,ae,az,aA,ay,aB,ak,au] L2) ?_
 replace L3:=L3.gr g4
 refine sw 6 (.agg #[aE,aj,ah,aD,aq,af,ad,aw,av,ax,ac,ai]) rfl (rl 35 0 [aE,aj,ah,aD,aq,af,ad,aw,av,ax,ac,ai] L3) ?_
 refine se ?_
 have aZ:=g2.kp.trans (g3.kp.trans g4.kp)
 replace aQ:=aQ.kp aZ
 replace aW:=aW.kp aZ
 replace aU:=aU.kp aZ
 replace aV:=aV.kp aZ
 replace aX:=aX.kp aZ
 replace aT:=aT.kp aZ
 refine ec 7 (each_add aQ aW aU aV aX aT (by omega)) ?_
 rintro e6 w6 ⟨⟨aG,aP,aH,aL,aN,aI,aK,aO,aM,aJ,ab,aa,rfl,aR,aY,aS⟩,g6⟩
 refine ⟨_,rfl,?_⟩
 replace hB:=hB.trans g6
 simp only [p3,p4]
 refine se ?_
 replace L4:=L4.gr g6
 refine es 35 0 (.agg #[aG,aP,aH,aL,aN,aI,aK,aO,aM,aJ,ab,aa]) [aG,aP,aH,aL,aN,aI,aK,aO,aM,aJ,ab,aa] #[aG,aP,aH,aL,aN,aI,aK,aO,aM,aJ,ab,aa] L4 hB q4 ⟨aR.one0,aR.one1,aR.one2,aR.one3,aY.one0,aY.one1,aY.one2,aY.one3,aS.one0,aS.one1,aS.one2,aS.one3,trivial⟩ fun w8 a6 a0 L4 hB=>?_
 refine za0 ?_
 refine k5 _ _ ?_
 try clear k5 K5
 refine wp_ret ?_
 refine bodyPost_ret (v:=(.agg #[aG,aP,aH,aL,aN,aI,aK,aO,aM,aJ,ab,aa])) (za6 _ _ _ rfl rfl L4 (by kernel_rfl)) rfl ⟨?_,hB⟩
 replace aR:=aR.kp a0
 replace aY:=aY.kp a0
 replace aS:=aS.kp a0
 exact ⟨_,_,_,_,_,_,_,_,_,_,_,_,rfl,aR,aY,aS⟩

set_option maxRecDepth 100000 in
set_option maxHeartbeats 1000000 in
theorem zz6 {k m:Nat} {s0 s1 s2 s3:Value} {sq:Rat} {ac ak ap aj ah aa ae af ad ai ab al:Value} {a1 a2 a3:Rat} {w:World} (aE:IsRat w k ac ak ap aj a1) (aG:IsRat w k ah aa ae af a2) (aJ:IsRat w k ad ai ab al a3) (hs:IsRat w m s0 s1 s2 s3 sq) (_hk:k+m≤100000):
    Calls Tryz.prog 52 #[(.agg #[ac,ak,ap,aj,ah,aa,ae,af,ad,ai,ab,al]),(.agg #[s0,s1,s2,s3])] w fun e w'=>(∃ t0 t1 t2 t3 t4 t5 t6 t7 t8 t9 aM aN,e=.returned (.agg #[t0,t1,t2,t3,t4,t5,t6,t7,t8,t9,aM,aN])∧IsRat w' (m+k) t0 t1 t2 t3 (sq*a1)∧IsRat w' (m+k) t4 t5 t6 t7 (sq*a2)∧IsRat w' (m+k) t8 t9 aM aN (sq*a3))∧Gr w w':=by
 go_enter Tryz.func52,Tryz.ntmps52
 have hB:=Gr.refl w
 refine wp_seq_k (fun K1 k1=>?_)
 refine rg [0,1,2] ?_
 refine se ?_
 refine eb 35 #[ac,ak,ap,aj,ah,aa,ae,af,ad,ai,ab,al] 2 hB fun b2 w2 g2 L2 o2 q2 hB=>?_
 simp only [p3,p4]
 refine se ?_
 refine eb 33 #[s0,s1,s2,s3] 3 hB fun b3 w3 g3 L3 o3 q3 hB=>?_
 simp only [p3,p4]
 refine se ?_
 refine ea 35 #[.bool false,.slice none 0 0,.bool false,.slice none 0 0,.bool false,.slice none 0 0,.bool false,.slice none 0 0,.bool false,.slice none 0 0,.bool false,.slice none 0 0] 4 hB fun b4 w4 g4 L4 o4 q4 hB=>?_
 replace L2:=L2.gr g3
 simp only [p3,p4]
 refine za0 ?_
 refine k1 _ _ ?_
 try clear k1 K1
 refine wp_seq_k (fun K5 k5=>?_)
 refine rg [0,1,2,3,4] ?_
 replace L2:=L2.gr g4
 refine sw 5 (.agg #[ac,ak,ap,aj,ah,aa,ae,af,ad,ai,ab,al]) rfl (rl 35 0 [ac,ak,ap,aj,ah,aa,ae,af,ad,ai,ab,al] L2) ?_
 refine sw 6 (.agg #[ac,ak,ap,aj,ah,aa,ae,af,ad,ai,ab,al]) rfl (rl 35 0 [ac,ak,ap,aj,ah,aa,ae,af,ad,ai,ab,al] L2) ?_
 refine sv 7 (.func (.func 80) #[] #[(.pointer (some ⟨b3,0,none⟩))]) ?_
 refine se ?_
 have aK:=g2.kp.trans (g3.kp.trans g4.kp)
 replace hs:=hs.kp aK
 replace aE:=aE.kp aK
 replace aG:=aG.kp aK
 replace aJ:=aJ.kp aK
 replace L3:=L3.gr g4
 refine ec 8 (zQ0 aE aG aJ L3 hs (by omega)) ?_
 rintro e6 w6 ⟨⟨au,aB,av,aC,ay,aw,aA,az,aD,ax,ar,aq,rfl,aF,aI,aH⟩,g6⟩
 refine ⟨_,rfl,?_⟩
 replace hB:=hB.trans g6
 simp only [p3,p4]
 refine se ?_
 replace L4:=L4.gr g6
 refine es 35 0 (.agg #[au,aB,av,aC,ay,aw,aA,az,aD,ax,ar,aq]) [au,aB,av,aC,ay,aw,aA,az,aD,ax,ar,aq] #[au,aB,av,aC,ay,aw,aA,az,aD,ax,ar,aq] L4 hB q4 ⟨aF.one0,aF.one1,aF.one2,aF.one3,aI.one0,aI.one1,aI.one2,aI.one3,aH.one0,aH.one1,aH.one2,aH.one3,trivial⟩ fun w8 aO aL L4 hB=>?_
 refine za0 ?_
 refine k5 _ _ ?_
 try clear k5 K5
 refine wp_ret ?_
 refine bodyPost_ret (v:=(.agg #[au,aB,av,aC,ay,aw,aA,az,aD,ax,ar,aq])) (za6 _ _ _ rfl rfl L4 (by kernel_rfl)) rfl ⟨?_,hB⟩
 replace aF:=aF.kp aL
 replace aI:=aI.kp aL
 replace aH:=aH.kp aL
 exact ⟨_,_,_,_,_,_,_,_,_,_,_,_,rfl,aF,aI,aH⟩

set_option maxRecDepth 100000 in
set_option maxHeartbeats 4000000 in
theorem sum3_r {k:Nat} {ab:Nat} {al ap ai ah aa aj ae aq ad af ak ac:Value} {a1 a2 a3:Rat} {w:World} (ar:IsRat w k al ap ai ah a1) (au:IsRat w k aa aj ae aq a2) (av:IsRat w k ad af ak ac a3) (hL:Lc w ab #[al,ap,ai,ah,aa,aj,ae,aq,ad,af,ak,ac] 35) (_hk:k≤25000):
    Calls Tryz.prog 62 #[(.slice (some ⟨ab,0,none⟩) 3 3)] w fun e w'=>(∃ z0 z1 z2 z3,e=.returned (.agg #[z0,z1,z2,z3])∧IsRat w' (64+k+1+k+1+k+1) z0 z1 z2 z3 (0+a1+a2+a3))∧Gr w w':=by
 have hbig:=ar.big
 go_enter Tryz.func62,Tryz.ntmps62
 have hB:=Gr.refl w
 refine wp_seq_k (fun K1 k1=>?_)
 refine rg [0] ?_
 refine se ?_
 refine ea 33 #[.bool false,.slice none 0 0,.bool false,.slice none 0 0] 2 hB fun b2 w2 g2 L2 o2 q2 hB=>?_
 simp only [p3,p4]
 refine za0 ?_
 refine k1 _ _ ?_
 try clear k1 K1
 refine wp_seq_k (fun K3 k3=>?_)
 refine rg [0] ?_
 refine se ?_
 refine ea 33 #[.bool false,.slice none 0 0,.bool false,.slice none 0 0] 3 hB fun b4 w4 g4 L4 o4 q4 hB=>?_
 replace hL:=hL.gr g2
 have aC:=hL.ne o4
 have ax:=L2.ne o4
 simp only [p3,p4]
 refine za0 ?_
 refine k3 _ _ ?_
 try clear k3 K3
 refine wp_seq_k (fun K5 k5=>?_)
 refine wp_seq_k (fun K6 k6=>?_)
 refine rg [0,1,2] ?_
 refine sv 6 (.slice (some ⟨ab,0,none⟩) 3 3) ?_
 refine sv 7 (.int .i64 3) ?_
 refine sv 8 (.int .i64 0) ?_
 refine za0 ?_
 refine k6 _ _ ?_
 try clear k6 K6
 refine wp_block ?_
 refine wp_loop_rounds 4 ?_
 show Code.wp _ _ _ _ _
 refine wp_seq_k (fun K7 k7=>?_)
 refine rg [0] ?_
 refine sv 9 (.bool true) ?_
 refine za0 ?_
 refine k7 _ _ ?_
 try clear k7 K7
 refine wp_seq_k (fun K8 k8=>?_)
 refine wp_cond_true rfl ?_
 refine wp_skip ?_
 refine k8 _ _ ?_
 try clear k8 K8
 refine wp_seq_k (fun K9 k9=>?_)
 refine wp_block ?_
 refine wp_seq_k (fun bV bG=>?_)
 refine rg [0,1,2,3] ?_
 refine sv 10 (.pointer (some ⟨ab,0,none⟩)) ?_
 replace hL:=hL.gr g4
 refine sw 11 (.agg #[al,ap,ai,ah]) rfl (rl 33 0 [al,ap,ai,ah] hL) ?_
 refine se ?_
 refine ea 33 #[.bool false,.slice none 0 0,.bool false,.slice none 0 0] 5 hB fun cd bZ aT bg bn bO hB=>?_
 have aN:=hL.ne bn
 replace L2:=L2.gr g4
 have aM:=L2.ne bn
 have aG:=L4.ne bn
 simp only [p3,p4]
 refine se ?_
 refine es 33 0 (.agg #[al,ap,ai,ah]) [al,ap,ai,ah] #[al,ap,ai,ah] bg hB bO ⟨ar.one0,ar.one1,ar.one2,ar.one3,trivial⟩ fun b8 aQ aI bg hB=>?_
 refine za0 ?_
 refine bG _ _ ?_
 try clear bG bV
 refine rg [0,1,2,3] ?_
 replace L4:=aQ.lc (L4.gr aT) aG
 refine sw 12 (.agg #[.bool false,.slice none 0 0,.bool false,.slice none 0 0]) rfl (rl 33 0 [.bool false,.slice none 0 0,.bool false,.slice none 0 0] L4) ?_
 refine sw 13 (.agg #[al,ap,ai,ah]) rfl (rl 33 0 [al,ap,ai,ah] bg) ?_
 refine se ?_
 have bj:=g2.kp.trans (g4.kp.trans (aT.kp.trans aI))
 replace ar:=ar.kp bj
 refine ec 14 (zw9 (IsRat.zero _ (k:=64) (Nat.le_refl _)) ar (by omega)) ?_
 rintro e13 cc ⟨⟨bb,a7,a9,aX,rfl,aE⟩,aS⟩
 refine ⟨_,rfl,?_⟩
 replace hB:=hB.trans aS
 simp only [p3,p4]
 refine se ?_
 replace L4:=L4.gr aS
 refine es 33 0 (.agg #[bb,a7,a9,aX]) [bb,a7,a9,aX] #[bb,a7,a9,aX] L4 hB q4 ⟨aE.one0,aE.one1,aE.one2,aE.one3,trivial⟩ fun ck a6 aK L4 hB=>?_
 refine za0 ?_
 refine k9 _ _ ?_
 try clear k9 K9
 refine rg [0,1] ?_
 refine sv 15 (.int .i64 1) ?_
 refine sv 8 (.int .i64 1) ?_
 refine za0 ?_
 show Code.rounds _ _ _ _ _ _
 show Code.wp _ _ _ _ _
 refine wp_seq_k (fun bK bC=>?_)
 refine rg [0] ?_
 refine sv 9 (.bool true) ?_
 refine za0 ?_
 refine bC _ _ ?_
 try clear bC bK
 refine wp_seq_k (fun bT bx=>?_)
 refine wp_cond_true rfl ?_
 refine wp_skip ?_
 refine bx _ _ ?_
 try clear bx bT
 refine wp_seq_k (fun bW bz=>?_)
 refine wp_block ?_
 refine wp_seq_k (fun bU bE=>?_)
 refine rg [0,1,2,3] ?_
 refine sv 10 (.pointer (some ⟨ab,4,none⟩)) ?_
 replace hL:=a6.lc ((aQ.lc (hL.gr aT) aN).gr aS) aC
 refine sw 11 (.agg #[aa,aj,ae,aq]) rfl (rl 33 4 [aa,aj,ae,aq] hL) ?_
 refine se ?_
 refine ea 33 #[.bool false,.slice none 0 0,.bool false,.slice none 0 0] 5 hB fun co cl aU bt bd bQ hB=>?_
 have aF:=hL.ne bd
 replace L2:=a6.lc ((aQ.lc (L2.gr aT) aM).gr aS) ax
 have aL:=L2.ne bd
 have aH:=L4.ne bd
 simp only [p3,p4]
 refine se ?_
 refine es 33 0 (.agg #[aa,aj,ae,aq]) [aa,aj,ae,aq] #[aa,aj,ae,aq] bt hB bQ ⟨au.one0,au.one1,au.one2,au.one3,trivial⟩ fun cj aR aO bt hB=>?_
 refine za0 ?_
 refine bE _ _ ?_
 try clear bE bU
 refine rg [0,1,2,3] ?_
 replace L4:=aR.lc (L4.gr aU) aH
 refine sw 12 (.agg #[bb,a7,a9,aX]) rfl (rl 33 0 [bb,a7,a9,aX] L4) ?_
 refine sw 13 (.agg #[aa,aj,ae,aq]) rfl (rl 33 0 [aa,aj,ae,aq] bt) ?_
 refine se ?_
 have bm:=aK.trans (aU.kp.trans aO)
 replace aE:=aE.kp bm
 have bi:=g2.kp.trans (g4.kp.trans (aT.kp.trans (aI.trans (aS.kp.trans (aK.trans (aU.kp.trans aO))))))
 replace au:=au.kp bi
 refine ec 14 (zw9 aE au (by omega)) ?_
 rintro e22 ca ⟨⟨ba,aV,a8,aY,rfl,aP⟩,aW⟩
 refine ⟨_,rfl,?_⟩
 replace hB:=hB.trans aW
 simp only [p3,p4]
 refine se ?_
 replace L4:=L4.gr aW
 refine es 33 0 (.agg #[ba,aV,a8,aY]) [ba,aV,a8,aY] #[ba,aV,a8,aY] L4 hB q4 ⟨aP.one0,aP.one1,aP.one2,aP.one3,trivial⟩ fun b7 a5 aZ L4 hB=>?_
 refine za0 ?_
 refine bz _ _ ?_
 try clear bz bW
 refine rg [0,1] ?_
 refine sv 15 (.int .i64 2) ?_
 refine sv 8 (.int .i64 2) ?_
 refine za0 ?_
 show Code.rounds _ _ _ _ _ _
 show Code.wp _ _ _ _ _
 refine wp_seq_k (fun bX bA=>?_)
 refine rg [0] ?_
 refine sv 9 (.bool true) ?_
 refine za0 ?_
 refine bA _ _ ?_
 try clear bA bX
 refine wp_seq_k (fun bP bH=>?_)
 refine wp_cond_true rfl ?_
 refine wp_skip ?_
 refine bH _ _ ?_
 try clear bH bP
 refine wp_seq_k (fun bN bD=>?_)
 refine wp_block ?_
 refine wp_seq_k (fun bS bJ=>?_)
 refine rg [0,1,2,3] ?_
 refine sv 10 (.pointer (some ⟨ab,8,none⟩)) ?_
 replace hL:=a5.lc ((aR.lc (hL.gr aU) aF).gr aW) aC
 refine sw 11 (.agg #[ad,af,ak,ac]) rfl (rl 33 8 [ad,af,ak,ac] hL) ?_
 refine se ?_
 refine ea 33 #[.bool false,.slice none 0 0,.bool false,.slice none 0 0] 5 hB fun cg ce bc bo bw bM hB=>?_
 replace L2:=a5.lc ((aR.lc (L2.gr aU) aL).gr aW) ax
 have aJ:=L2.ne bw
 have aD:=L4.ne bw
 simp only [p3,p4]
 refine se ?_
 refine es 33 0 (.agg #[ad,af,ak,ac]) [ad,af,ak,ac] #[ad,af,ak,ac] bo hB bM ⟨av.one0,av.one1,av.one2,av.one3,trivial⟩ fun cm a0 a4 bo hB=>?_
 refine za0 ?_
 refine bJ _ _ ?_
 try clear bJ bS
 refine rg [0,1,2,3] ?_
 replace L4:=a0.lc (L4.gr bc) aD
 refine sw 12 (.agg #[ba,aV,a8,aY]) rfl (rl 33 0 [ba,aV,a8,aY] L4) ?_
 refine sw 13 (.agg #[ad,af,ak,ac]) rfl (rl 33 0 [ad,af,ak,ac] bo) ?_
 refine se ?_
 have bp:=aZ.trans (bc.kp.trans a4)
 replace aP:=aP.kp bp
 have bh:=g2.kp.trans (g4.kp.trans (aT.kp.trans (aI.trans (aS.kp.trans (aK.trans (aU.kp.trans (aO.trans (aW.kp.trans (aZ.trans (bc.kp.trans a4))))))))))
 replace av:=av.kp bh
 refine ec 14 (zw9 aP av (by omega)) ?_
 rintro e32 b9 ⟨⟨aA,az,ay,aB,rfl,aw⟩,bv⟩
 refine ⟨_,rfl,?_⟩
 replace hB:=hB.trans bv
 simp only [p3,p4]
 refine se ?_
 replace L4:=L4.gr bv
 refine es 33 0 (.agg #[aA,az,ay,aB]) [aA,az,ay,aB] #[aA,az,ay,aB] L4 hB q4 ⟨aw.one0,aw.one1,aw.one2,aw.one3,trivial⟩ fun cn bq bf L4 hB=>?_
 refine za0 ?_
 refine bD _ _ ?_
 try clear bD bN
 refine rg [0,1] ?_
 refine sv 15 (.int .i64 3) ?_
 refine sv 8 (.int .i64 3) ?_
 refine za0 ?_
 show Code.rounds _ _ _ _ _ _
 show Code.wp _ _ _ _ _
 refine wp_seq_k (fun bR bB=>?_)
 refine rg [0] ?_
 refine sv 9 (.bool false) ?_
 refine za0 ?_
 refine bB _ _ ?_
 try clear bB bR
 refine wp_seq_k (fun b6 b5=>?_)
 refine wp_cond_false rfl ?_
 refine wp_exit ?_
 simp only [Exit.then,Exit.inBlock,↓reduceIte]
 refine k5 _ _ ?_
 try clear k5 K5
 refine wp_seq_k (fun bY bF=>?_)
 refine rg [0,1] ?_
 refine sw 16 (.agg #[aA,az,ay,aB]) rfl (rl 33 0 [aA,az,ay,aB] L4) ?_
 refine se ?_
 replace L2:=bq.lc ((a0.lc (L2.gr bc) aJ).gr bv) ax
 refine es 33 0 (.agg #[aA,az,ay,aB]) [aA,az,ay,aB] #[aA,az,ay,aB] L2 hB q2 ⟨aw.one0,aw.one1,aw.one2,aw.one3,trivial⟩ fun ch bL bk L2 hB=>?_
 refine za0 ?_
 refine bF _ _ ?_
 try clear bF bY
 refine wp_ret ?_
 refine bodyPost_ret (v:=(.agg #[aA,az,ay,aB])) (za6 _ _ _ rfl rfl L2 (by kernel_rfl)) rfl ⟨?_,hB⟩
 have bu:=bf.trans bk
 replace aw:=aw.kp bu
 exact ⟨_,_,_,_,rfl,aw⟩

set_option maxRecDepth 100000 in
set_option maxHeartbeats 1000000 in
theorem dot_v {k m:Nat} {ak aq aF aB al ac ay az ax aA aj ar:Value} {a1 a2 a3:Rat} {aE ai af aC ap ae ab av au aw aa ah:Value} {c1 c2 c3:Rat} {w:World} (aG:IsRat w k ak aq aF aB a1) (aV:IsRat w k al ac ay az a2) (aT:IsRat w k ax aA aj ar a3) (aU:IsRat w m aE ai af aC c1) (aW:IsRat w m ap ae ab av c2) (aS:IsRat w m au aw aa ah c3) (_hk:k+m≤25000):
    Calls Tryz.prog 40 #[(.agg #[ak,aq,aF,aB,al,ac,ay,az,ax,aA,aj,ar]),(.agg #[aE,ai,af,aC,ap,ae,ab,av,au,aw,aa,ah])] w fun e w'=>(∃ z0 z1 z2 z3,e=.returned (.agg #[z0,z1,z2,z3])∧IsRat w' (64+(k+m)+1+(k+m)+1+(k+m)+1) z0 z1 z2 z3 (0+a1*c1+a2*c2+a3*c3))∧Gr w w':=by
 go_enter Tryz.func40,Tryz.ntmps40
 have hB:=Gr.refl w
 refine wp_seq_k (fun K1 k1=>?_)
 refine rg [0,1,2] ?_
 refine se ?_
 refine eb 35 #[ak,aq,aF,aB,al,ac,ay,az,ax,aA,aj,ar] 2 hB fun b2 w2 g2 L2 o2 q2 hB=>?_
 simp only [p3,p4]
 refine se ?_
 refine eb 35 #[aE,ai,af,aC,ap,ae,ab,av,au,aw,aa,ah] 3 hB fun b3 w3 g3 L3 o3 q3 hB=>?_
 simp only [p3,p4]
 refine se ?_
 refine ea 33 #[.bool false,.slice none 0 0,.bool false,.slice none 0 0] 4 hB fun b4 w4 g4 L4 o4 q4 hB=>?_
 replace L2:=L2.gr g3
 simp only [p3,p4]
 refine za0 ?_
 refine k1 _ _ ?_
 try clear k1 K1
 refine wp_seq_k (fun K5 k5=>?_)
 refine rg [0,1,2,3,4] ?_
 replace L2:=L2.gr g4
 refine sw 6 (.agg #[ak,aq,aF,aB,al,ac,ay,az,ax,aA,aj,ar]) rfl (rl 35 0 [ak,aq,aF,aB,al,ac,ay,az,ax,aA,aj,ar] L2) ?_
 replace L3:=L3.gr g4
 refine sw 7 (.agg #[aE,ai,af,aC,ap,ae,ab,av,au,aw,aa,ah]) rfl (rl 35 0 [aE,ai,af,aC,ap,ae,ab,av,au,aw,aa,ah] L3) ?_
 refine se ?_
 have a4:=g2.kp.trans (g3.kp.trans g4.kp)
 replace aG:=aG.kp a4
 replace aV:=aV.kp a4
 replace aT:=aT.kp a4
 replace aU:=aU.kp a4
 replace aW:=aW.kp a4
 replace aS:=aS.kp a4
 refine ec 8 (each_mul aG aV aT aU aW aS (by omega)) ?_
 rintro e6 w6 ⟨⟨aJ,aZ,aK,aQ,aX,aM,aP,aY,aR,aN,aD,ad,rfl,aH,a0,aO⟩,g6⟩
 refine ⟨_,rfl,?_⟩
 replace hB:=hB.trans g6
 simp only [p3,p4]
 refine se ?_
 refine ea 35 #[.bool false,.slice none 0 0,.bool false,.slice none 0 0,.bool false,.slice none 0 0,.bool false,.slice none 0 0,.bool false,.slice none 0 0,.bool false,.slice none 0 0] 5 hB fun b8 w8 g8 L8 o8 q8 hB=>?_
 replace L4:=L4.gr g6
 have a5:=L4.ne o8
 simp only [p3,p4]
 refine se ?_
 refine es 35 0 (.agg #[aJ,aZ,aK,aQ,aX,aM,aP,aY,aR,aN,aD,ad]) [aJ,aZ,aK,aQ,aX,aM,aP,aY,aR,aN,aD,ad] #[aJ,aZ,aK,aQ,aX,aM,aP,aY,aR,aN,aD,ad] L8 hB q8 ⟨aH.one0,aH.one1,aH.one2,aH.one3,a0.one0,a0.one1,a0.one2,a0.one3,aO.one0,aO.one1,aO.one2,aO.one3,trivial⟩ fun w9 bf bd L8 hB=>?_
 refine za0 ?_
 refine k5 _ _ ?_
 try clear k5 K5
 refine wp_seq_k (fun bg bb=>?_)
 refine rg [0,1,2] ?_
 refine sv 9 (.slice (some ⟨b8,0,none⟩) 3 3) ?_
 refine se ?_
 have aI:=g8.kp.trans bd
 replace aH:=aH.kp aI
 replace a0:=a0.kp aI
 replace aO:=aO.kp aI
 refine ec 10 (sum3_r aH a0 aO L8 (by omega)) ?_
 rintro e11 bi ⟨⟨a9,a8,a7,a6,rfl,aL⟩,bc⟩
 refine ⟨_,rfl,?_⟩
 replace hB:=hB.trans bc
 simp only [p3,p4]
 refine se ?_
 replace L4:=(bf.lc (L4.gr g8) a5).gr bc
 refine es 33 0 (.agg #[a9,a8,a7,a6]) [a9,a8,a7,a6] #[a9,a8,a7,a6] L4 hB q4 ⟨aL.one0,aL.one1,aL.one2,aL.one3,trivial⟩ fun bj bh ba L4 hB=>?_
 refine za0 ?_
 refine bb _ _ ?_
 try clear bb bg
 refine wp_ret ?_
 refine bodyPost_ret (v:=(.agg #[a9,a8,a7,a6])) (za6 _ _ _ rfl rfl L4 (by kernel_rfl)) rfl ⟨?_,hB⟩
 replace aL:=aL.kp ba
 exact ⟨_,_,_,_,rfl,aL⟩

set_option maxRecDepth 100000 in
set_option maxHeartbeats 8000000 in
theorem zH1 {k m:Nat} {al ar aF aC ap ae az aA ay aB ak au:Value} {a1 a2 a3:Rat} {aE aj ah aD aq af ad aw av ax ac ai:Value} {c1 c2 c3:Rat} {w:World} (aI:IsRat w k al ar aF aC a1) (aM:IsRat w k ap ae az aA a2) (aK:IsRat w k ay aB ak au a3) (aL:IsRat w m aE aj ah aD c1) (aN:IsRat w m aq af ad aw c2) (aJ:IsRat w m av ax ac ai c3) (_hk:k+m≤25000):
    Calls Tryz.prog 38 #[(.agg #[al,ar,aF,aC,ap,ae,az,aA,ay,aB,ak,au]),(.agg #[aE,aj,ah,aD,aq,af,ad,aw,av,ax,ac,ai])] w fun e w'=>(∃ t0 t1 t2 t3 t4 t5 t6 t7 t8 t9 bY bQ,e=.returned (.agg #[t0,t1,t2,t3,t4,t5,t6,t7,t8,t9,bY,bQ])∧IsRat w' (k+m+(k+m)+1) t0 t1 t2 t3 (a2*c3 - a3*c2)∧IsRat w' (k+m+(k+m)+1) t4 t5 t6 t7 (a3*c1 - a1*c3)∧IsRat w' (k+m+(k+m)+1) t8 t9 bY bQ (a1*c2 - a2*c1))∧Gr w w':=by
 go_enter Tryz.func38,Tryz.ntmps38
 have hB:=Gr.refl w
 refine wp_seq_k (fun K1 k1=>?_)
 refine rg [0,1,2] ?_
 refine se ?_
 refine eb 35 #[al,ar,aF,aC,ap,ae,az,aA,ay,aB,ak,au] 2 hB fun b2 w2 g2 L2 o2 q2 hB=>?_
 simp only [p3,p4]
 refine se ?_
 refine eb 35 #[aE,aj,ah,aD,aq,af,ad,aw,av,ax,ac,ai] 3 hB fun b3 w3 g3 L3 o3 q3 hB=>?_
 simp only [p3,p4]
 refine se ?_
 refine ea 35 #[.bool false,.slice none 0 0,.bool false,.slice none 0 0,.bool false,.slice none 0 0,.bool false,.slice none 0 0,.bool false,.slice none 0 0,.bool false,.slice none 0 0] 4 hB fun b4 w4 g4 L4 o4 q4 hB=>?_
 replace L2:=L2.gr g3
 simp only [p3,p4]
 refine za0 ?_
 refine k1 _ _ ?_
 try clear k1 K1
 refine wp_seq_k (fun K5 k5=>?_)
 refine rg [0] ?_
 refine se ?_
 refine ea 35 #[.bool false,.slice none 0 0,.bool false,.slice none 0 0,.bool false,.slice none 0 0,.bool false,.slice none 0 0,.bool false,.slice none 0 0,.bool false,.slice none 0 0] 5 hB fun b6 w6 g6 L6 o6 q6 hB=>?_
 replace L2:=L2.gr g4
 have a6:=L2.ne o6
 replace L3:=L3.gr g4
 have aT:=L3.ne o6
 have aQ:=L4.ne o6
 simp only [p3,p4]
 refine za0 ?_
 refine k5 _ _ ?_
 try clear k5 K5
 refine wp_seq_k (fun K7 k7=>?_)
 refine wp_seq_k (fun K8 k8=>?_)
 refine rg [0] ?_
 refine sv 9 (.int .i64 0) ?_
 refine za0 ?_
 refine k8 _ _ ?_
 try clear k8 K8
 refine wp_block ?_
 refine wp_loop_rounds 4 ?_
 show Code.wp _ _ _ _ _
 refine wp_seq_k (fun K9 k9=>?_)
 refine rg [0] ?_
 refine sv 10 (.bool true) ?_
 refine za0 ?_
 refine k9 _ _ ?_
 try clear k9 K9
 refine wp_seq_k (fun ce bU=>?_)
 refine wp_cond_true rfl ?_
 refine wp_skip ?_
 refine bU _ _ ?_
 try clear bU ce
 refine wp_seq_k (fun b8 k11=>?_)
 refine wp_block ?_
 refine wp_seq_k (fun ck k12=>?_)
 refine rg [0,1] ?_
 refine sv 11 (.int .i64 0) ?_
 refine sv 6 (.int .i64 0) ?_
 refine za0 ?_
 refine k12 _ _ ?_
 try clear k12 ck
 refine wp_seq_k (fun ca k13=>?_)
 refine rg [0,1,2,3,4,5,6,7] ?_
 refine sv 12 (.int .i64 0) ?_
 refine sv 13 (.int .i64 1) ?_
 refine sv 14 (.int .i64 1) ?_
 refine sv 15 (.int .i64 0) ?_
 refine sv 16 (.int .i64 2) ?_
 refine sv 17 (.int .i64 2) ?_
 refine sv 7 (.int .i64 1) ?_
 refine sv 8 (.int .i64 2) ?_
 refine za0 ?_
 refine k13 _ _ ?_
 try clear k13 ca
 have aG:=Gr.drew w6
 replace hB:=hB.trans aG
 replace L2:=L2.gr (g6.trans aG)
 replace L3:=L3.gr (g6.trans aG)
 refine za1 (fun w'=>Lc w' b2 #[al,ar,aF,aC,ap,ae,az,aA,ay,aB,ak,au] 35∧Lc w' b3 #[aE,aj,ah,aD,aq,af,ad,aw,av,ax,ac,ai] 35) [(true,0),(true,1),(true,2),(true,3),(true,4),(true,5),(true,6),(true,8),(true,9),(true,10),(true,11),(true,12),(true,13),(false,7),(false,14),(false,15),(true,16),(false,17)] (by kernel_rfl) (by kernel_rfl) (by kernel_rfl) (by decide) (fun _ _ _ _ _ h=>h) ⟨L2,L3⟩ ?_
 refine ov 18 (.int .i64 0) ?_
 refine ov 19 (.int .i64 1) ?_
 refine ov 20 (.pointer (some ⟨b2,4,none⟩)) ?_
 refine ow 21 (.agg #[ap,ae,az,aA]) rfl (fun w' hS=>(rl 33 4 [ap,ae,az,aA] hS.1)) ?_
 refine ov 22 (.int .i64 2) ?_
 refine ov 23 (.pointer (some ⟨b3,8,none⟩)) ?_
 refine ow 24 (.agg #[av,ax,ac,ai]) rfl (fun w' hS=>(rl 33 8 [av,ax,ac,ai] hS.2)) ?_
 refine ov 26 (.int .i64 2) ?_
 refine ov 27 (.pointer (some ⟨b2,8,none⟩)) ?_
 refine ow 28 (.agg #[ay,aB,ak,au]) rfl (fun w' hS=>(rl 33 8 [ay,aB,ak,au] hS.1)) ?_
 refine ov 29 (.int .i64 1) ?_
 refine ov 30 (.pointer (some ⟨b3,4,none⟩)) ?_
 refine ow 31 (.agg #[aq,af,ad,aw]) rfl (fun w' hS=>(rl 33 4 [aq,af,ad,aw] hS.2)) ?_
 refine oe ?_
 have bu:=g2.kp.trans (g3.kp.trans (g4.kp.trans (g6.kp.trans aG.kp)))
 replace aM:=aM.kp bu
 replace aJ:=aJ.kp bu
 refine ec 25 (zm7 aM aJ (by omega)) ?_
 rintro cF cS ⟨⟨dj,db,du,cM,rfl,bJ⟩,bb⟩
 refine ⟨_,rfl,?_⟩
 replace hB:=hB.trans bb
 replace L2:=L2.gr bb
 replace L3:=L3.gr bb
 refine ⟨⟨L2,L3⟩,?_⟩
 simp only [p3,p4]
 refine oe ?_
 have bx:=g2.kp.trans (g3.kp.trans (g4.kp.trans (g6.kp.trans (aG.kp.trans bb.kp))))
 replace aK:=aK.kp bx
 replace aN:=aN.kp bx
 refine ec 32 (zm7 aK aN (by omega)) ?_
 rintro cD cE ⟨⟨cJ,cH,cU,df,rfl,cA⟩,aP⟩
 refine ⟨_,rfl,?_⟩
 replace hB:=hB.trans aP
 replace L2:=L2.gr aP
 replace L3:=L3.gr aP
 refine ⟨⟨L2,L3⟩,?_⟩
 simp only [p3,p4]
 refine oe ?_
 replace bJ:=bJ.kp aP.kp
 refine ec 33 (zP9 bJ cA (by omega)) ?_
 rintro e33 de ⟨⟨aS,aR,aU,aY,rfl,a0⟩,aW⟩
 refine ⟨_,rfl,?_⟩
 replace hB:=hB.trans aW
 replace L2:=L2.gr aW
 replace L3:=L3.gr aW
 refine ⟨⟨L2,L3⟩,?_⟩
 simp only [p3,p4]
 refine ov 34 (.pointer (some ⟨b6,0,none⟩)) ?_
 refine oe ?_
 replace L6:=L6.gr (aG.trans (bb.trans (aP.trans aW)))
 refine es 33 0 (.agg #[aS,aR,aU,aY]) [aS,aR,aU,aY] #[aS,aR,aU,aY,.bool false,.slice none 0 0,.bool false,.slice none 0 0,.bool false,.slice none 0 0,.bool false,.slice none 0 0] L6 hB q6 ⟨a0.one0,a0.one1,a0.one2,a0.one3,trivial⟩ fun cl bm aH L6 hB=>?_
 replace L2:=bm.lc L2 a6
 replace L3:=bm.lc L3 aT
 refine ⟨⟨L2,L3⟩,?_⟩
 refine za2 ?_
 refine k11 _ _ ?_
 try clear k11 b8
 refine rg [0,1] ?_
 refine sv 35 (.int .i64 1) ?_
 refine sv 9 (.int .i64 1) ?_
 refine za0 ?_
 show Code.rounds _ _ _ _ _ _
 show Code.wp _ _ _ _ _
 refine wp_seq_k (fun cj bX=>?_)
 refine rg [0] ?_
 refine sv 10 (.bool true) ?_
 refine za0 ?_
 refine bX _ _ ?_
 try clear bX cj
 refine wp_seq_k (fun cg bR=>?_)
 refine wp_cond_true rfl ?_
 refine wp_skip ?_
 refine bR _ _ ?_
 try clear bR cg
 refine wp_seq_k (fun cq bT=>?_)
 refine wp_block ?_
 refine wp_seq_k (fun cc bM=>?_)
 refine rg [0,1] ?_
 refine sv 11 (.int .i64 1) ?_
 refine sv 6 (.int .i64 1) ?_
 refine za0 ?_
 refine bM _ _ ?_
 try clear bM cc
 refine wp_seq_k (fun cx bV=>?_)
 refine rg [0,1,2,3,4,5,6,7] ?_
 refine sv 12 (.int .i64 1) ?_
 refine sv 13 (.int .i64 2) ?_
 refine sv 14 (.int .i64 2) ?_
 refine sv 15 (.int .i64 1) ?_
 refine sv 16 (.int .i64 3) ?_
 refine sv 17 (.int .i64 0) ?_
 refine sv 7 (.int .i64 2) ?_
 refine sv 8 (.int .i64 0) ?_
 refine za0 ?_
 refine bV _ _ ?_
 try clear bV cx
 have aa:=Gr.drew cl
 replace hB:=hB.trans aa
 replace L2:=L2.gr aa
 replace L3:=L3.gr aa
 refine za1 (fun w'=>Lc w' b2 #[al,ar,aF,aC,ap,ae,az,aA,ay,aB,ak,au] 35∧Lc w' b3 #[aE,aj,ah,aD,aq,af,ad,aw,av,ax,ac,ai] 35) [(true,0),(true,1),(true,2),(true,3),(true,4),(true,5),(true,6),(true,8),(true,9),(true,10),(true,11),(true,12),(true,13),(false,7),(false,14),(false,15),(true,16),(false,17)] (by kernel_rfl) (by kernel_rfl) (by kernel_rfl) (by decide) (fun _ _ _ _ _ h=>h) ⟨L2,L3⟩ ?_
 refine ov 18 (.int .i64 1) ?_
 refine ov 19 (.int .i64 2) ?_
 refine ov 20 (.pointer (some ⟨b2,8,none⟩)) ?_
 refine ow 21 (.agg #[ay,aB,ak,au]) rfl (fun w' hS=>(rl 33 8 [ay,aB,ak,au] hS.1)) ?_
 refine ov 22 (.int .i64 0) ?_
 refine ov 23 (.pointer (some ⟨b3,0,none⟩)) ?_
 refine ow 24 (.agg #[aE,aj,ah,aD]) rfl (fun w' hS=>(rl 33 0 [aE,aj,ah,aD] hS.2)) ?_
 refine ov 26 (.int .i64 0) ?_
 refine ov 27 (.pointer (some ⟨b2,0,none⟩)) ?_
 refine ow 28 (.agg #[al,ar,aF,aC]) rfl (fun w' hS=>(rl 33 0 [al,ar,aF,aC] hS.1)) ?_
 refine ov 29 (.int .i64 2) ?_
 refine ov 30 (.pointer (some ⟨b3,8,none⟩)) ?_
 refine ow 31 (.agg #[av,ax,ac,ai]) rfl (fun w' hS=>(rl 33 8 [av,ax,ac,ai] hS.2)) ?_
 refine oe ?_
 have bF:=aP.kp.trans (aW.kp.trans (aH.trans aa.kp))
 replace aK:=aK.kp bF
 have bH:=g2.kp.trans (g3.kp.trans (g4.kp.trans (g6.kp.trans (aG.kp.trans (bb.kp.trans (aP.kp.trans (aW.kp.trans (aH.trans aa.kp))))))))
 replace aL:=aL.kp bH
 refine ec 25 (zm7 aK aL (by omega)) ?_
 rintro cC dv ⟨⟨cG,cR,cN,dd,rfl,bD⟩,aX⟩
 refine ⟨_,rfl,?_⟩
 replace hB:=hB.trans aX
 replace L2:=L2.gr aX
 replace L3:=L3.gr aX
 refine ⟨⟨L2,L3⟩,?_⟩
 simp only [p3,p4]
 refine oe ?_
 have bB:=g2.kp.trans (g3.kp.trans (g4.kp.trans (g6.kp.trans (aG.kp.trans (bb.kp.trans (aP.kp.trans (aW.kp.trans (aH.trans (aa.kp.trans aX.kp)))))))))
 replace aI:=aI.kp bB
 have bK:=bb.kp.trans (aP.kp.trans (aW.kp.trans (aH.trans (aa.kp.trans aX.kp))))
 replace aJ:=aJ.kp bK
 refine ec 32 (zm7 aI aJ (by omega)) ?_
 rintro da cX ⟨⟨cV,dk,cO,cQ,rfl,co⟩,aZ⟩
 refine ⟨_,rfl,?_⟩
 replace hB:=hB.trans aZ
 replace L2:=L2.gr aZ
 replace L3:=L3.gr aZ
 refine ⟨⟨L2,L3⟩,?_⟩
 simp only [p3,p4]
 refine oe ?_
 replace bD:=bD.kp aZ.kp
 refine ec 33 (zP9 bD co (by omega)) ?_
 rintro di cT ⟨⟨ba,a9,a8,a7,rfl,aV⟩,bc⟩
 refine ⟨_,rfl,?_⟩
 replace hB:=hB.trans bc
 replace L2:=L2.gr bc
 replace L3:=L3.gr bc
 refine ⟨⟨L2,L3⟩,?_⟩
 simp only [p3,p4]
 refine ov 34 (.pointer (some ⟨b6,4,none⟩)) ?_
 refine oe ?_
 replace L6:=L6.gr (aa.trans (aX.trans (aZ.trans bc)))
 refine es 33 4 (.agg #[ba,a9,a8,a7]) [ba,a9,a8,a7] #[aS,aR,aU,aY,ba,a9,a8,a7,.bool false,.slice none 0 0,.bool false,.slice none 0 0] L6 hB q6 ⟨aV.one0,aV.one1,aV.one2,aV.one3,trivial⟩ fun cn bn aO L6 hB=>?_
 replace L2:=bn.lc L2 a6
 replace L3:=bn.lc L3 aT
 refine ⟨⟨L2,L3⟩,?_⟩
 refine za2 ?_
 refine bT _ _ ?_
 try clear bT cq
 refine rg [0,1] ?_
 refine sv 35 (.int .i64 2) ?_
 refine sv 9 (.int .i64 2) ?_
 refine za0 ?_
 show Code.rounds _ _ _ _ _ _
 show Code.wp _ _ _ _ _
 refine wp_seq_k (fun cm bN=>?_)
 refine rg [0] ?_
 refine sv 10 (.bool true) ?_
 refine za0 ?_
 refine bN _ _ ?_
 try clear bN cm
 refine wp_seq_k (fun cu bW=>?_)
 refine wp_cond_true rfl ?_
 refine wp_skip ?_
 refine bW _ _ ?_
 try clear bW cu
 refine wp_seq_k (fun b7 bO=>?_)
 refine wp_block ?_
 refine wp_seq_k (fun cB bZ=>?_)
 refine rg [0,1] ?_
 refine sv 11 (.int .i64 2) ?_
 refine sv 6 (.int .i64 2) ?_
 refine za0 ?_
 refine bZ _ _ ?_
 try clear bZ cB
 refine wp_seq_k (fun ch b5=>?_)
 refine rg [0,1,2,3,4,5,6,7] ?_
 refine sv 12 (.int .i64 2) ?_
 refine sv 13 (.int .i64 3) ?_
 refine sv 14 (.int .i64 0) ?_
 refine sv 15 (.int .i64 2) ?_
 refine sv 16 (.int .i64 4) ?_
 refine sv 17 (.int .i64 1) ?_
 refine sv 7 (.int .i64 0) ?_
 refine sv 8 (.int .i64 1) ?_
 refine za0 ?_
 refine b5 _ _ ?_
 try clear b5 ch
 have ab:=Gr.drew cn
 replace hB:=hB.trans ab
 replace L2:=L2.gr ab
 replace L3:=L3.gr ab
 refine za1 (fun w'=>Lc w' b2 #[al,ar,aF,aC,ap,ae,az,aA,ay,aB,ak,au] 35∧Lc w' b3 #[aE,aj,ah,aD,aq,af,ad,aw,av,ax,ac,ai] 35) [(true,0),(true,1),(true,2),(true,3),(true,4),(true,5),(true,6),(true,8),(true,9),(true,10),(true,11),(true,12),(true,13),(false,7),(false,14),(false,15),(true,16),(false,17)] (by kernel_rfl) (by kernel_rfl) (by kernel_rfl) (by decide) (fun _ _ _ _ _ h=>h) ⟨L2,L3⟩ ?_
 refine ov 18 (.int .i64 2) ?_
 refine ov 19 (.int .i64 0) ?_
 refine ov 20 (.pointer (some ⟨b2,0,none⟩)) ?_
 refine ow 21 (.agg #[al,ar,aF,aC]) rfl (fun w' hS=>(rl 33 0 [al,ar,aF,aC] hS.1)) ?_
 refine ov 22 (.int .i64 1) ?_
 refine ov 23 (.pointer (some ⟨b3,4,none⟩)) ?_
 refine ow 24 (.agg #[aq,af,ad,aw]) rfl (fun w' hS=>(rl 33 4 [aq,af,ad,aw] hS.2)) ?_
 refine ov 26 (.int .i64 1) ?_
 refine ov 27 (.pointer (some ⟨b2,4,none⟩)) ?_
 refine ow 28 (.agg #[ap,ae,az,aA]) rfl (fun w' hS=>(rl 33 4 [ap,ae,az,aA] hS.1)) ?_
 refine ov 29 (.int .i64 0) ?_
 refine ov 30 (.pointer (some ⟨b3,0,none⟩)) ?_
 refine ow 31 (.agg #[aE,aj,ah,aD]) rfl (fun w' hS=>(rl 33 0 [aE,aj,ah,aD] hS.2)) ?_
 refine oe ?_
 have bL:=aZ.kp.trans (bc.kp.trans (aO.trans ab.kp))
 replace aI:=aI.kp bL
 have bA:=aP.kp.trans (aW.kp.trans (aH.trans (aa.kp.trans (aX.kp.trans (aZ.kp.trans (bc.kp.trans (aO.trans ab.kp)))))))
 replace aN:=aN.kp bA
 refine ec 25 (zm7 aI aN (by omega)) ?_
 rintro dh dp ⟨⟨dl,cK,dt,c9,rfl,bz⟩,bh⟩
 refine ⟨_,rfl,?_⟩
 replace hB:=hB.trans bh
 replace L2:=L2.gr bh
 replace L3:=L3.gr bh
 refine ⟨⟨L2,L3⟩,?_⟩
 simp only [p3,p4]
 refine oe ?_
 have bC:=bb.kp.trans (aP.kp.trans (aW.kp.trans (aH.trans (aa.kp.trans (aX.kp.trans (aZ.kp.trans (bc.kp.trans (aO.trans (ab.kp.trans bh.kp)))))))))
 replace aM:=aM.kp bC
 have bE:=aX.kp.trans (aZ.kp.trans (bc.kp.trans (aO.trans (ab.kp.trans bh.kp))))
 replace aL:=aL.kp bE
 refine ec 32 (zm7 aM aL (by omega)) ?_
 rintro cY dm ⟨⟨cP,dw,dx,cW,rfl,cd⟩,bj⟩
 refine ⟨_,rfl,?_⟩
 replace hB:=hB.trans bj
 replace L2:=L2.gr bj
 replace L3:=L3.gr bj
 refine ⟨⟨L2,L3⟩,?_⟩
 simp only [p3,p4]
 refine oe ?_
 replace bz:=bz.kp bj.kp
 refine ec 33 (zP9 bz cd (by omega)) ?_
 rintro dq cZ ⟨⟨bf,bi,bd,bg,rfl,a4⟩,bp⟩
 refine ⟨_,rfl,?_⟩
 replace hB:=hB.trans bp
 replace L2:=L2.gr bp
 replace L3:=L3.gr bp
 refine ⟨⟨L2,L3⟩,?_⟩
 simp only [p3,p4]
 refine ov 34 (.pointer (some ⟨b6,8,none⟩)) ?_
 refine oe ?_
 replace L6:=L6.gr (ab.trans (bh.trans (bj.trans bp)))
 refine es 33 8 (.agg #[bf,bi,bd,bg]) [bf,bi,bd,bg] #[aS,aR,aU,aY,ba,a9,a8,a7,bf,bi,bd,bg] L6 hB q6 ⟨a4.one0,a4.one1,a4.one2,a4.one3,trivial⟩ fun dc bo bk L6 hB=>?_
 replace L2:=bo.lc L2 a6
 replace L3:=bo.lc L3 aT
 refine ⟨⟨L2,L3⟩,?_⟩
 refine za2 ?_
 refine bO _ _ ?_
 try clear bO b7
 refine rg [0,1] ?_
 refine sv 35 (.int .i64 3) ?_
 refine sv 9 (.int .i64 3) ?_
 refine za0 ?_
 show Code.rounds _ _ _ _ _ _
 show Code.wp _ _ _ _ _
 refine wp_seq_k (fun cy bP=>?_)
 refine rg [0] ?_
 refine sv 10 (.bool false) ?_
 refine za0 ?_
 refine bP _ _ ?_
 try clear bP cy
 refine wp_seq_k (fun cL dn=>?_)
 refine wp_cond_false rfl ?_
 refine wp_exit ?_
 simp only [Exit.then,Exit.inBlock,↓reduceIte]
 refine k7 _ _ ?_
 try clear k7 K7
 refine wp_seq_k (fun bG bw=>?_)
 refine rg [0,1] ?_
 refine sw 36 (.agg #[aS,aR,aU,aY,ba,a9,a8,a7,bf,bi,bd,bg]) rfl (rl 35 0 [aS,aR,aU,aY,ba,a9,a8,a7,bf,bi,bd,bg] L6) ?_
 refine se ?_
 replace L4:=bo.lc ((bn.lc ((bm.lc (L4.gr (g6.trans (aG.trans (bb.trans (aP.trans aW))))) aQ).gr (aa.trans (aX.trans (aZ.trans bc)))) aQ).gr (ab.trans (bh.trans (bj.trans bp)))) aQ
 refine es 35 0 (.agg #[aS,aR,aU,aY,ba,a9,a8,a7,bf,bi,bd,bg]) [aS,aR,aU,aY,ba,a9,a8,a7,bf,bi,bd,bg] #[aS,aR,aU,aY,ba,a9,a8,a7,bf,bi,bd,bg] L4 hB q4 ⟨a0.one0,a0.one1,a0.one2,a0.one3,aV.one0,aV.one1,aV.one2,aV.one3,a4.one0,a4.one1,a4.one2,a4.one3,trivial⟩ fun b9 bS a5 L4 hB=>?_
 refine za0 ?_
 refine bw _ _ ?_
 try clear bw bG
 refine wp_ret ?_
 refine bodyPost_ret (v:=(.agg #[aS,aR,aU,aY,ba,a9,a8,a7,bf,bi,bd,bg])) (za6 _ _ _ rfl rfl L4 (by kernel_rfl)) rfl ⟨?_,hB⟩
 have bv:=aH.trans (aa.kp.trans (aX.kp.trans (aZ.kp.trans (bc.kp.trans (aO.trans (ab.kp.trans (bh.kp.trans (bj.kp.trans (bp.kp.trans (bk.trans a5))))))))))
 replace a0:=a0.kp bv
 have bq:=aO.trans (ab.kp.trans (bh.kp.trans (bj.kp.trans (bp.kp.trans (bk.trans a5)))))
 replace aV:=aV.kp bq
 have bt:=bk.trans a5
 replace a4:=a4.kp bt
 exact ⟨_,_,_,_,_,_,_,_,_,_,_,_,rfl,a0,aV,a4⟩

def zR5 (a1 a2 a3 c1 c2 c3:Rat):Int:=if zc0 a1 c1=0 then if zc0 a2 c2=0 then zc0 a3 c3 else zc0 a2 c2 else zc0 a1 c1
theorem zU1 {a1 a2 a3 c1 c2 c3:Rat}:zR5 a1 a2 a3 c1 c2 c3=0↔a1=c1∧a2=c2∧a3=c3:=by
 unfold zR5
 rw [← zj6 (a:=a1),← zj6 (a:=a2),← zj6 (a:=a3)]
 split
 ·split<;>simp_all
 ·simp_all

set_option maxRecDepth 100000 in
set_option maxHeartbeats 1000000 in
theorem vcomp_1 {k m:Nat} {ac ad ai ae au al aC aD aB aE ar aw:Value} {a1 a2 a3:Rat} {ah ab aa af av ap ak az ay aA aj aq:Value} {c1 c2 c3:Rat} {w:World} (aF:IsRat w k ac ad ai ae a1) (_hua2:IsRat w k au al aC aD a2) (_hua3:IsRat w k aB aE ar aw a3) (aG:IsRat w m ah ab aa af c1) (_hva2:IsRat w m av ap ak az c2) (_hva3:IsRat w m ay aA aj aq c3) (_hk:k+m≤100000) (e1:(zc0 a1 c1 !=(0:Int))=true):
    Calls Tryz.prog 39 #[(.agg #[ac,ad,ai,ae,au,al,aC,aD,aB,aE,ar,aw]),(.agg #[ah,ab,aa,af,av,ap,ak,az,ay,aA,aj,aq])] w fun e w'=>e=.returned (.int .i64 (zc0 a1 c1))∧Gr w w':=by
 go_enter Tryz.func39,Tryz.ntmps39
 have hB:=Gr.refl w
 refine wp_seq_k (fun K1 k1=>?_)
 refine rg [0,1,2] ?_
 refine se ?_
 refine eb 35 #[ac,ad,ai,ae,au,al,aC,aD,aB,aE,ar,aw] 2 hB fun b2 w2 g2 L2 o2 q2 hB=>?_
 simp only [p3,p4]
 refine se ?_
 refine eb 35 #[ah,ab,aa,af,av,ap,ak,az,ay,aA,aj,aq] 3 hB fun b3 w3 g3 L3 o3 q3 hB=>?_
 simp only [p3,p4]
 refine sv 4 (.int .i64 0) ?_
 refine za0 ?_
 refine k1 _ _ ?_
 try clear k1 K1
 refine wp_seq_k (fun K4 k4=>?_)
 refine wp_seq_k (fun K5 k5=>?_)
 refine rg [0] ?_
 refine sv 7 (.int .i64 0) ?_
 refine za0 ?_
 refine k5 _ _ ?_
 try clear k5 K5
 refine wp_block ?_
 refine wp_loop_rounds 4 ?_
 show Code.wp _ _ _ _ _
 refine wp_seq_k (fun K6 k6=>?_)
 refine rg [0] ?_
 refine sv 8 (.bool true) ?_
 refine za0 ?_
 refine k6 _ _ ?_
 try clear k6 K6
 refine wp_seq_k (fun K7 k7=>?_)
 refine wp_cond_true rfl ?_
 refine wp_skip ?_
 refine k7 _ _ ?_
 try clear k7 K7
 refine wp_seq_k (fun K8 k8=>?_)
 refine wp_block ?_
 refine wp_seq_k (fun K9 k9=>?_)
 refine rg [0,1] ?_
 refine sv 9 (.int .i64 0) ?_
 refine sv 5 (.int .i64 0) ?_
 refine za0 ?_
 refine k9 _ _ ?_
 try clear k9 K9
 refine wp_seq_k (fun aN aL=>?_)
 have ax:=Gr.drew w3
 replace hB:=hB.trans ax
 replace L2:=L2.gr (g3.trans ax)
 replace L3:=L3.gr ax
 refine za1 (fun w'=>Lc w' b2 #[ac,ad,ai,ae,au,al,aC,aD,aB,aE,ar,aw] 35∧Lc w' b3 #[ah,ab,aa,af,av,ap,ak,az,ay,aA,aj,aq] 35) [(true,0),(true,1),(true,2),(true,3),(true,4),(true,5),(false,6),(true,7)] (by kernel_rfl) (by kernel_rfl) (by kernel_rfl) (by decide) (fun _ _ _ _ _ h=>h) ⟨L2,L3⟩ ?_
 refine ov 10 (.int .i64 0) ?_
 refine ov 11 (.pointer (some ⟨b2,0,none⟩)) ?_
 refine ow 12 (.agg #[ac,ad,ai,ae]) rfl (fun w' hS=>(rl 33 0 [ac,ad,ai,ae] hS.1)) ?_
 refine ov 13 (.int .i64 0) ?_
 refine ov 14 (.pointer (some ⟨b3,0,none⟩)) ?_
 refine ow 15 (.agg #[ah,ab,aa,af]) rfl (fun w' hS=>(rl 33 0 [ah,ab,aa,af] hS.2)) ?_
 refine oe ?_
 have aH:=g2.kp.trans (g3.kp.trans ax.kp)
 replace aF:=aF.kp aH
 replace aG:=aG.kp aH
 refine ec 16 (zd3 aF aG (by omega)) ?_
 rintro aQ aP ⟨rfl,aI⟩
 refine ⟨_,rfl,?_⟩
 replace hB:=hB.trans aI
 replace L2:=L2.gr aI
 replace L3:=L3.gr aI
 refine ⟨⟨L2,L3⟩,?_⟩
 simp only [p3,p4]
 refine ov 6 (.int .i64 (zc0 a1 c1)) ?_
 refine za2 ?_
 refine aL _ _ ?_
 try clear aL aN
 refine wp_seq_k (fun aM aK=>?_)
 refine rg [0,1] ?_
 refine sv 17 (.int .i64 (zc0 a1 c1)) ?_
 refine sw 18 (.bool true) rfl (RunV.bool (x:=(zc0 a1 c1 !=(0:Int))) (rvk (by kernel_rfl)) e1) ?_
 refine za0 ?_
 refine aK _ _ ?_
 try clear aK aM
 refine wp_cond_true rfl ?_
 refine wp_seq_k (fun aO aJ=>?_)
 refine rg [0,1] ?_
 refine sv 19 (.int .i64 (zc0 a1 c1)) ?_
 refine sv 4 (.int .i64 (zc0 a1 c1)) ?_
 refine za0 ?_
 refine aJ _ _ ?_
 try clear aJ aO
 refine wp_ret ?_
 simp only [Exit.then,Exit.inBlock]
 refine bodyPost_ret (v:=(.int .i64 (zc0 a1 c1))) (zb6 rfl rfl) rfl ⟨?_,hB⟩
 exact rfl

set_option maxRecDepth 100000 in
set_option maxHeartbeats 1000000 in
theorem vcomp_2 {k m:Nat} {af aj av aq ah ab al ap aD aE ay az:Value} {a1 a2 a3:Rat} {au ae ad ar ai ac aa ak aB aC aw ax:Value} {c1 c2 c3:Rat} {w:World} (aG:IsRat w k af aj av aq a1) (aI:IsRat w k ah ab al ap a2) (_hua3:IsRat w k aD aE ay az a3) (aH:IsRat w m au ae ad ar c1) (aJ:IsRat w m ai ac aa ak c2) (_hva3:IsRat w m aB aC aw ax c3) (_hk:k+m≤100000) (e1:(zc0 a1 c1 !=(0:Int))=false) (e2:(zc0 a2 c2 !=(0:Int))=true):
    Calls Tryz.prog 39 #[(.agg #[af,aj,av,aq,ah,ab,al,ap,aD,aE,ay,az]),(.agg #[au,ae,ad,ar,ai,ac,aa,ak,aB,aC,aw,ax])] w fun e w'=>e=.returned (.int .i64 (zc0 a2 c2))∧Gr w w':=by
 go_enter Tryz.func39,Tryz.ntmps39
 have hB:=Gr.refl w
 refine wp_seq_k (fun K1 k1=>?_)
 refine rg [0,1,2] ?_
 refine se ?_
 refine eb 35 #[af,aj,av,aq,ah,ab,al,ap,aD,aE,ay,az] 2 hB fun b2 w2 g2 L2 o2 q2 hB=>?_
 simp only [p3,p4]
 refine se ?_
 refine eb 35 #[au,ae,ad,ar,ai,ac,aa,ak,aB,aC,aw,ax] 3 hB fun b3 w3 g3 L3 o3 q3 hB=>?_
 simp only [p3,p4]
 refine sv 4 (.int .i64 0) ?_
 refine za0 ?_
 refine k1 _ _ ?_
 try clear k1 K1
 refine wp_seq_k (fun K4 k4=>?_)
 refine wp_seq_k (fun K5 k5=>?_)
 refine rg [0] ?_
 refine sv 7 (.int .i64 0) ?_
 refine za0 ?_
 refine k5 _ _ ?_
 try clear k5 K5
 refine wp_block ?_
 refine wp_loop_rounds 4 ?_
 show Code.wp _ _ _ _ _
 refine wp_seq_k (fun K6 k6=>?_)
 refine rg [0] ?_
 refine sv 8 (.bool true) ?_
 refine za0 ?_
 refine k6 _ _ ?_
 try clear k6 K6
 refine wp_seq_k (fun K7 k7=>?_)
 refine wp_cond_true rfl ?_
 refine wp_skip ?_
 refine k7 _ _ ?_
 try clear k7 K7
 refine wp_seq_k (fun K8 k8=>?_)
 refine wp_block ?_
 refine wp_seq_k (fun K9 k9=>?_)
 refine rg [0,1] ?_
 refine sv 9 (.int .i64 0) ?_
 refine sv 5 (.int .i64 0) ?_
 refine za0 ?_
 refine k9 _ _ ?_
 try clear k9 K9
 refine wp_seq_k (fun aY aS=>?_)
 have aA:=Gr.drew w3
 replace hB:=hB.trans aA
 replace L2:=L2.gr (g3.trans aA)
 replace L3:=L3.gr aA
 refine za1 (fun w'=>Lc w' b2 #[af,aj,av,aq,ah,ab,al,ap,aD,aE,ay,az] 35∧Lc w' b3 #[au,ae,ad,ar,ai,ac,aa,ak,aB,aC,aw,ax] 35) [(true,0),(true,1),(true,2),(true,3),(true,4),(true,5),(false,6),(true,7)] (by kernel_rfl) (by kernel_rfl) (by kernel_rfl) (by decide) (fun _ _ _ _ _ h=>h) ⟨L2,L3⟩ ?_
 refine ov 10 (.int .i64 0) ?_
 refine ov 11 (.pointer (some ⟨b2,0,none⟩)) ?_
 refine ow 12 (.agg #[af,aj,av,aq]) rfl (fun w' hS=>(rl 33 0 [af,aj,av,aq] hS.1)) ?_
 refine ov 13 (.int .i64 0) ?_
 refine ov 14 (.pointer (some ⟨b3,0,none⟩)) ?_
 refine ow 15 (.agg #[au,ae,ad,ar]) rfl (fun w' hS=>(rl 33 0 [au,ae,ad,ar] hS.2)) ?_
 refine oe ?_
 have aK:=g2.kp.trans (g3.kp.trans aA.kp)
 replace aG:=aG.kp aK
 replace aH:=aH.kp aK
 refine ec 16 (zd3 aG aH (by omega)) ?_
 rintro a8 aV ⟨rfl,aM⟩
 refine ⟨_,rfl,?_⟩
 replace hB:=hB.trans aM
 replace L2:=L2.gr aM
 replace L3:=L3.gr aM
 refine ⟨⟨L2,L3⟩,?_⟩
 simp only [p3,p4]
 refine ov 6 (.int .i64 (zc0 a1 c1)) ?_
 refine za2 ?_
 refine aS _ _ ?_
 try clear aS aY
 refine wp_seq_k (fun aW aR=>?_)
 refine rg [0,1] ?_
 refine sv 17 (.int .i64 (zc0 a1 c1)) ?_
 refine sw 18 (.bool false) rfl (RunV.bool (x:=(zc0 a1 c1 !=(0:Int))) (rvk (by kernel_rfl)) e1) ?_
 refine za0 ?_
 refine aR _ _ ?_
 try clear aR aW
 refine wp_cond_false rfl ?_
 refine wp_skip ?_
 refine k8 _ _ ?_
 try clear k8 K8
 refine rg [0,1] ?_
 refine sv 20 (.int .i64 1) ?_
 refine sv 7 (.int .i64 1) ?_
 refine za0 ?_
 show Code.rounds _ _ _ _ _ _
 show Code.wp _ _ _ _ _
 refine wp_seq_k (fun a0 aP=>?_)
 refine rg [0] ?_
 refine sv 8 (.bool true) ?_
 refine za0 ?_
 refine aP _ _ ?_
 try clear aP a0
 refine wp_seq_k (fun aX aO=>?_)
 refine wp_cond_true rfl ?_
 refine wp_skip ?_
 refine aO _ _ ?_
 try clear aO aX
 refine wp_seq_k (fun a6 k22=>?_)
 refine wp_block ?_
 refine wp_seq_k (fun aU k23=>?_)
 refine rg [0,1] ?_
 refine sv 9 (.int .i64 1) ?_
 refine sv 5 (.int .i64 1) ?_
 refine za0 ?_
 refine k23 _ _ ?_
 try clear k23 aU
 refine wp_seq_k (fun a5 aT=>?_)
 have aF:=Gr.drew aV
 replace hB:=hB.trans aF
 replace L2:=L2.gr aF
 replace L3:=L3.gr aF
 refine za1 (fun w'=>Lc w' b2 #[af,aj,av,aq,ah,ab,al,ap,aD,aE,ay,az] 35∧Lc w' b3 #[au,ae,ad,ar,ai,ac,aa,ak,aB,aC,aw,ax] 35) [(true,0),(true,1),(true,2),(true,3),(true,4),(true,5),(false,6),(true,7)] (by kernel_rfl) (by kernel_rfl) (by kernel_rfl) (by decide) (fun _ _ _ _ _ h=>h) ⟨L2,L3⟩ ?_
 refine ov 10 (.int .i64 1) ?_
 refine ov 11 (.pointer (some ⟨b2,4,none⟩)) ?_
 refine ow 12 (.agg #[ah,ab,al,ap]) rfl (fun w' hS=>(rl 33 4 [ah,ab,al,ap] hS.1)) ?_
 refine ov 13 (.int .i64 1) ?_
 refine ov 14 (.pointer (some ⟨b3,4,none⟩)) ?_
 refine ow 15 (.agg #[ai,ac,aa,ak]) rfl (fun w' hS=>(rl 33 4 [ai,ac,aa,ak] hS.2)) ?_
 refine oe ?_
 have aL:=g2.kp.trans (g3.kp.trans (aA.kp.trans (aM.kp.trans aF.kp)))
 replace aI:=aI.kp aL
 replace aJ:=aJ.kp aL
 refine ec 16 (zd3 aI aJ (by omega)) ?_
 rintro e31 a7 ⟨rfl,aN⟩
 refine ⟨_,rfl,?_⟩
 replace hB:=hB.trans aN
 replace L2:=L2.gr aN
 replace L3:=L3.gr aN
 refine ⟨⟨L2,L3⟩,?_⟩
 simp only [p3,p4]
 refine ov 6 (.int .i64 (zc0 a2 c2)) ?_
 refine za2 ?_
 refine aT _ _ ?_
 try clear aT a5
 refine wp_seq_k (fun a4 k33=>?_)
 refine rg [0,1] ?_
 refine sv 17 (.int .i64 (zc0 a2 c2)) ?_
 refine sw 18 (.bool true) rfl (RunV.bool (x:=(zc0 a2 c2 !=(0:Int))) (rvk (by kernel_rfl)) e2) ?_
 refine za0 ?_
 refine k33 _ _ ?_
 try clear k33 a4
 refine wp_cond_true rfl ?_
 refine wp_seq_k (fun aZ aQ=>?_)
 refine rg [0,1] ?_
 refine sv 19 (.int .i64 (zc0 a2 c2)) ?_
 refine sv 4 (.int .i64 (zc0 a2 c2)) ?_
 refine za0 ?_
 refine aQ _ _ ?_
 try clear aQ aZ
 refine wp_ret ?_
 simp only [Exit.then,Exit.inBlock]
 refine bodyPost_ret (v:=(.int .i64 (zc0 a2 c2))) (zb6 rfl rfl) rfl ⟨?_,hB⟩
 exact rfl

set_option maxRecDepth 100000 in
set_option maxHeartbeats 1000000 in
theorem vcomp_3 {k m:Nat} {aj ap aD aA ak ac ax ay aw az ai aq:Value} {a1 a2 a3:Rat} {aC ah ae aB al ad ab au ar av aa af:Value} {c1 c2 c3:Rat} {w:World} (aH:IsRat w k aj ap aD aA a1) (aL:IsRat w k ak ac ax ay a2) (aJ:IsRat w k aw az ai aq a3) (aK:IsRat w m aC ah ae aB c1) (aM:IsRat w m al ad ab au c2) (aI:IsRat w m ar av aa af c3) (_hk:k+m≤100000) (e1:(zc0 a1 c1 !=(0:Int))=false) (e2:(zc0 a2 c2 !=(0:Int))=false) (e3:(zc0 a3 c3 !=(0:Int))=true):
    Calls Tryz.prog 39 #[(.agg #[aj,ap,aD,aA,ak,ac,ax,ay,aw,az,ai,aq]),(.agg #[aC,ah,ae,aB,al,ad,ab,au,ar,av,aa,af])] w fun e w'=>e=.returned (.int .i64 (zc0 a3 c3))∧Gr w w':=by
 go_enter Tryz.func39,Tryz.ntmps39
 have hB:=Gr.refl w
 refine wp_seq_k (fun K1 k1=>?_)
 refine rg [0,1,2] ?_
 refine se ?_
 refine eb 35 #[aj,ap,aD,aA,ak,ac,ax,ay,aw,az,ai,aq] 2 hB fun b2 w2 g2 L2 o2 q2 hB=>?_
 simp only [p3,p4]
 refine se ?_
 refine eb 35 #[aC,ah,ae,aB,al,ad,ab,au,ar,av,aa,af] 3 hB fun b3 w3 g3 L3 o3 q3 hB=>?_
 simp only [p3,p4]
 refine sv 4 (.int .i64 0) ?_
 refine za0 ?_
 refine k1 _ _ ?_
 try clear k1 K1
 refine wp_seq_k (fun K4 k4=>?_)
 refine wp_seq_k (fun K5 k5=>?_)
 refine rg [0] ?_
 refine sv 7 (.int .i64 0) ?_
 refine za0 ?_
 refine k5 _ _ ?_
 try clear k5 K5
 refine wp_block ?_
 refine wp_loop_rounds 4 ?_
 show Code.wp _ _ _ _ _
 refine wp_seq_k (fun K6 k6=>?_)
 refine rg [0] ?_
 refine sv 8 (.bool true) ?_
 refine za0 ?_
 refine k6 _ _ ?_
 try clear k6 K6
 refine wp_seq_k (fun K7 k7=>?_)
 refine wp_cond_true rfl ?_
 refine wp_skip ?_
 refine k7 _ _ ?_
 try clear k7 K7
 refine wp_seq_k (fun K8 k8=>?_)
 refine wp_block ?_
 refine wp_seq_k (fun K9 k9=>?_)
 refine rg [0,1] ?_
 refine sv 9 (.int .i64 0) ?_
 refine sv 5 (.int .i64 0) ?_
 refine za0 ?_
 refine k9 _ _ ?_
 try clear k9 K9
 refine wp_seq_k (fun bc a0=>?_)
 have aE:=Gr.drew w3
 replace hB:=hB.trans aE
 replace L2:=L2.gr (g3.trans aE)
 replace L3:=L3.gr aE
 refine za1 (fun w'=>Lc w' b2 #[aj,ap,aD,aA,ak,ac,ax,ay,aw,az,ai,aq] 35∧Lc w' b3 #[aC,ah,ae,aB,al,ad,ab,au,ar,av,aa,af] 35) [(true,0),(true,1),(true,2),(true,3),(true,4),(true,5),(false,6),(true,7)] (by kernel_rfl) (by kernel_rfl) (by kernel_rfl) (by decide) (fun _ _ _ _ _ h=>h) ⟨L2,L3⟩ ?_
 refine ov 10 (.int .i64 0) ?_
 refine ov 11 (.pointer (some ⟨b2,0,none⟩)) ?_
 refine ow 12 (.agg #[aj,ap,aD,aA]) rfl (fun w' hS=>(rl 33 0 [aj,ap,aD,aA] hS.1)) ?_
 refine ov 13 (.int .i64 0) ?_
 refine ov 14 (.pointer (some ⟨b3,0,none⟩)) ?_
 refine ow 15 (.agg #[aC,ah,ae,aB]) rfl (fun w' hS=>(rl 33 0 [aC,ah,ae,aB] hS.2)) ?_
 refine oe ?_
 have aP:=g2.kp.trans (g3.kp.trans aE.kp)
 replace aH:=aH.kp aP
 replace aK:=aK.kp aP
 refine ec 16 (zd3 aH aK (by omega)) ?_
 rintro bv a9 ⟨rfl,aO⟩
 refine ⟨_,rfl,?_⟩
 replace hB:=hB.trans aO
 replace L2:=L2.gr aO
 replace L3:=L3.gr aO
 refine ⟨⟨L2,L3⟩,?_⟩
 simp only [p3,p4]
 refine ov 6 (.int .i64 (zc0 a1 c1)) ?_
 refine za2 ?_
 refine a0 _ _ ?_
 try clear a0 bc
 refine wp_seq_k (fun ba aX=>?_)
 refine rg [0,1] ?_
 refine sv 17 (.int .i64 (zc0 a1 c1)) ?_
 refine sw 18 (.bool false) rfl (RunV.bool (x:=(zc0 a1 c1 !=(0:Int))) (rvk (by kernel_rfl)) e1) ?_
 refine za0 ?_
 refine aX _ _ ?_
 try clear aX ba
 refine wp_cond_false rfl ?_
 refine wp_skip ?_
 refine k8 _ _ ?_
 try clear k8 K8
 refine rg [0,1] ?_
 refine sv 20 (.int .i64 1) ?_
 refine sv 7 (.int .i64 1) ?_
 refine za0 ?_
 show Code.rounds _ _ _ _ _ _
 show Code.wp _ _ _ _ _
 refine wp_seq_k (fun bg aU=>?_)
 refine rg [0] ?_
 refine sv 8 (.bool true) ?_
 refine za0 ?_
 refine aU _ _ ?_
 try clear aU bg
 refine wp_seq_k (fun bb aT=>?_)
 refine wp_cond_true rfl ?_
 refine wp_skip ?_
 refine aT _ _ ?_
 try clear aT bb
 refine wp_seq_k (fun bi k22=>?_)
 refine wp_block ?_
 refine wp_seq_k (fun a7 k23=>?_)
 refine rg [0,1] ?_
 refine sv 9 (.int .i64 1) ?_
 refine sv 5 (.int .i64 1) ?_
 refine za0 ?_
 refine k23 _ _ ?_
 try clear k23 a7
 refine wp_seq_k (fun bk a5=>?_)
 have aF:=Gr.drew a9
 replace hB:=hB.trans aF
 replace L2:=L2.gr aF
 replace L3:=L3.gr aF
 refine za1 (fun w'=>Lc w' b2 #[aj,ap,aD,aA,ak,ac,ax,ay,aw,az,ai,aq] 35∧Lc w' b3 #[aC,ah,ae,aB,al,ad,ab,au,ar,av,aa,af] 35) [(true,0),(true,1),(true,2),(true,3),(true,4),(true,5),(false,6),(true,7)] (by kernel_rfl) (by kernel_rfl) (by kernel_rfl) (by decide) (fun _ _ _ _ _ h=>h) ⟨L2,L3⟩ ?_
 refine ov 10 (.int .i64 1) ?_
 refine ov 11 (.pointer (some ⟨b2,4,none⟩)) ?_
 refine ow 12 (.agg #[ak,ac,ax,ay]) rfl (fun w' hS=>(rl 33 4 [ak,ac,ax,ay] hS.1)) ?_
 refine ov 13 (.int .i64 1) ?_
 refine ov 14 (.pointer (some ⟨b3,4,none⟩)) ?_
 refine ow 15 (.agg #[al,ad,ab,au]) rfl (fun w' hS=>(rl 33 4 [al,ad,ab,au] hS.2)) ?_
 refine oe ?_
 have aQ:=g2.kp.trans (g3.kp.trans (aE.kp.trans (aO.kp.trans aF.kp)))
 replace aL:=aL.kp aQ
 replace aM:=aM.kp aQ
 refine ec 16 (zd3 aL aM (by omega)) ?_
 rintro e31 bj ⟨rfl,aR⟩
 refine ⟨_,rfl,?_⟩
 replace hB:=hB.trans aR
 replace L2:=L2.gr aR
 replace L3:=L3.gr aR
 refine ⟨⟨L2,L3⟩,?_⟩
 simp only [p3,p4]
 refine ov 6 (.int .i64 (zc0 a2 c2)) ?_
 refine za2 ?_
 refine a5 _ _ ?_
 try clear a5 bk
 refine wp_seq_k (fun bh k33=>?_)
 refine rg [0,1] ?_
 refine sv 17 (.int .i64 (zc0 a2 c2)) ?_
 refine sw 18 (.bool false) rfl (RunV.bool (x:=(zc0 a2 c2 !=(0:Int))) (rvk (by kernel_rfl)) e2) ?_
 refine za0 ?_
 refine k33 _ _ ?_
 try clear k33 bh
 refine wp_cond_false rfl ?_
 refine wp_skip ?_
 refine k22 _ _ ?_
 try clear k22 bi
 refine rg [0,1] ?_
 refine sv 20 (.int .i64 2) ?_
 refine sv 7 (.int .i64 2) ?_
 refine za0 ?_
 show Code.rounds _ _ _ _ _ _
 show Code.wp _ _ _ _ _
 refine wp_seq_k (fun bf aW=>?_)
 refine rg [0] ?_
 refine sv 8 (.bool true) ?_
 refine za0 ?_
 refine aW _ _ ?_
 try clear aW bf
 refine wp_seq_k (fun bm aY=>?_)
 refine wp_cond_true rfl ?_
 refine wp_skip ?_
 refine aY _ _ ?_
 try clear aY bm
 refine wp_seq_k (fun bt bu=>?_)
 refine wp_block ?_
 refine wp_seq_k (fun bd aV=>?_)
 refine rg [0,1] ?_
 refine sv 9 (.int .i64 2) ?_
 refine sv 5 (.int .i64 2) ?_
 refine za0 ?_
 refine aV _ _ ?_
 try clear aV bd
 refine wp_seq_k (fun bn aZ=>?_)
 have aG:=Gr.drew bj
 replace hB:=hB.trans aG
 replace L2:=L2.gr aG
 replace L3:=L3.gr aG
 refine za1 (fun w'=>Lc w' b2 #[aj,ap,aD,aA,ak,ac,ax,ay,aw,az,ai,aq] 35∧Lc w' b3 #[aC,ah,ae,aB,al,ad,ab,au,ar,av,aa,af] 35) [(true,0),(true,1),(true,2),(true,3),(true,4),(true,5),(false,6),(true,7)] (by kernel_rfl) (by kernel_rfl) (by kernel_rfl) (by decide) (fun _ _ _ _ _ h=>h) ⟨L2,L3⟩ ?_
 refine ov 10 (.int .i64 2) ?_
 refine ov 11 (.pointer (some ⟨b2,8,none⟩)) ?_
 refine ow 12 (.agg #[aw,az,ai,aq]) rfl (fun w' hS=>(rl 33 8 [aw,az,ai,aq] hS.1)) ?_
 refine ov 13 (.int .i64 2) ?_
 refine ov 14 (.pointer (some ⟨b3,8,none⟩)) ?_
 refine ow 15 (.agg #[ar,av,aa,af]) rfl (fun w' hS=>(rl 33 8 [ar,av,aa,af] hS.2)) ?_
 refine oe ?_
 have aN:=g2.kp.trans (g3.kp.trans (aE.kp.trans (aO.kp.trans (aF.kp.trans (aR.kp.trans aG.kp)))))
 replace aJ:=aJ.kp aN
 replace aI:=aI.kp aN
 refine ec 16 (zd3 aJ aI (by omega)) ?_
 rintro bq bp ⟨rfl,aS⟩
 refine ⟨_,rfl,?_⟩
 replace hB:=hB.trans aS
 replace L2:=L2.gr aS
 replace L3:=L3.gr aS
 refine ⟨⟨L2,L3⟩,?_⟩
 simp only [p3,p4]
 refine ov 6 (.int .i64 (zc0 a3 c3)) ?_
 refine za2 ?_
 refine aZ _ _ ?_
 try clear aZ bn
 refine wp_seq_k (fun bo a6=>?_)
 refine rg [0,1] ?_
 refine sv 17 (.int .i64 (zc0 a3 c3)) ?_
 refine sw 18 (.bool true) rfl (RunV.bool (x:=(zc0 a3 c3 !=(0:Int))) (rvk (by kernel_rfl)) e3) ?_
 refine za0 ?_
 refine a6 _ _ ?_
 try clear a6 bo
 refine wp_cond_true rfl ?_
 refine wp_seq_k (fun a8 a4=>?_)
 refine rg [0,1] ?_
 refine sv 19 (.int .i64 (zc0 a3 c3)) ?_
 refine sv 4 (.int .i64 (zc0 a3 c3)) ?_
 refine za0 ?_
 refine a4 _ _ ?_
 try clear a4 a8
 refine wp_ret ?_
 simp only [Exit.then,Exit.inBlock]
 refine bodyPost_ret (v:=(.int .i64 (zc0 a3 c3))) (zb6 rfl rfl) rfl ⟨?_,hB⟩
 exact rfl

set_option maxRecDepth 100000 in
set_option maxHeartbeats 1000000 in
theorem vcomp_4 {k m:Nat} {aj ap aD aA ak ac ax ay aw az ai aq:Value} {a1 a2 a3:Rat} {aC ah ae aB al ad ab au ar av aa af:Value} {c1 c2 c3:Rat} {w:World} (aH:IsRat w k aj ap aD aA a1) (aL:IsRat w k ak ac ax ay a2) (aJ:IsRat w k aw az ai aq a3) (aK:IsRat w m aC ah ae aB c1) (aM:IsRat w m al ad ab au c2) (aI:IsRat w m ar av aa af c3) (_hk:k+m≤100000) (e1:(zc0 a1 c1 !=(0:Int))=false) (e2:(zc0 a2 c2 !=(0:Int))=false) (e3:(zc0 a3 c3 !=(0:Int))=false):
    Calls Tryz.prog 39 #[(.agg #[aj,ap,aD,aA,ak,ac,ax,ay,aw,az,ai,aq]),(.agg #[aC,ah,ae,aB,al,ad,ab,au,ar,av,aa,af])] w fun e w'=>e=.returned (.int .i64 0)∧Gr w w':=by
 go_enter Tryz.func39,Tryz.ntmps39
 have hB:=Gr.refl w
 refine wp_seq_k (fun K1 k1=>?_)
 refine rg [0,1,2] ?_
 refine se ?_
 refine eb 35 #[aj,ap,aD,aA,ak,ac,ax,ay,aw,az,ai,aq] 2 hB fun b2 w2 g2 L2 o2 q2 hB=>?_
 simp only [p3,p4]
 refine se ?_
 refine eb 35 #[aC,ah,ae,aB,al,ad,ab,au,ar,av,aa,af] 3 hB fun b3 w3 g3 L3 o3 q3 hB=>?_
 simp only [p3,p4]
 refine sv 4 (.int .i64 0) ?_
 refine za0 ?_
 refine k1 _ _ ?_
 try clear k1 K1
 refine wp_seq_k (fun K4 k4=>?_)
 refine wp_seq_k (fun K5 k5=>?_)
 refine rg [0] ?_
 refine sv 7 (.int .i64 0) ?_
 refine za0 ?_
 refine k5 _ _ ?_
 try clear k5 K5
 refine wp_block ?_
 refine wp_loop_rounds 4 ?_
 show Code.wp _ _ _ _ _
 refine wp_seq_k (fun K6 k6=>?_)
 refine rg [0] ?_
 refine sv 8 (.bool true) ?_
 refine za0 ?_
 refine k6 _ _ ?_
 try clear k6 K6
 refine wp_seq_k (fun K7 k7=>?_)
 refine wp_cond_true rfl ?_
 refine wp_skip ?_
 refine k7 _ _ ?_
 try clear k7 K7
 refine wp_seq_k (fun K8 k8=>?_)
 refine wp_block ?_
 refine wp_seq_k (fun K9 k9=>?_)
 refine rg [0,1] ?_
 refine sv 9 (.int .i64 0) ?_
 refine sv 5 (.int .i64 0) ?_
 refine za0 ?_
 refine k9 _ _ ?_
 try clear k9 K9
 refine wp_seq_k (fun bf a0=>?_)
 have aE:=Gr.drew w3
 replace hB:=hB.trans aE
 replace L2:=L2.gr (g3.trans aE)
 replace L3:=L3.gr aE
 refine za1 (fun w'=>Lc w' b2 #[aj,ap,aD,aA,ak,ac,ax,ay,aw,az,ai,aq] 35∧Lc w' b3 #[aC,ah,ae,aB,al,ad,ab,au,ar,av,aa,af] 35) [(true,0),(true,1),(true,2),(true,3),(true,4),(true,5),(false,6),(true,7)] (by kernel_rfl) (by kernel_rfl) (by kernel_rfl) (by decide) (fun _ _ _ _ _ h=>h) ⟨L2,L3⟩ ?_
 refine ov 10 (.int .i64 0) ?_
 refine ov 11 (.pointer (some ⟨b2,0,none⟩)) ?_
 refine ow 12 (.agg #[aj,ap,aD,aA]) rfl (fun w' hS=>(rl 33 0 [aj,ap,aD,aA] hS.1)) ?_
 refine ov 13 (.int .i64 0) ?_
 refine ov 14 (.pointer (some ⟨b3,0,none⟩)) ?_
 refine ow 15 (.agg #[aC,ah,ae,aB]) rfl (fun w' hS=>(rl 33 0 [aC,ah,ae,aB] hS.2)) ?_
 refine oe ?_
 have aP:=g2.kp.trans (g3.kp.trans aE.kp)
 replace aH:=aH.kp aP
 replace aK:=aK.kp aP
 refine ec 16 (zd3 aH aK (by omega)) ?_
 rintro bz bb ⟨rfl,aO⟩
 refine ⟨_,rfl,?_⟩
 replace hB:=hB.trans aO
 replace L2:=L2.gr aO
 replace L3:=L3.gr aO
 refine ⟨⟨L2,L3⟩,?_⟩
 simp only [p3,p4]
 refine ov 6 (.int .i64 (zc0 a1 c1)) ?_
 refine za2 ?_
 refine a0 _ _ ?_
 try clear a0 bf
 refine wp_seq_k (fun bc aX=>?_)
 refine rg [0,1] ?_
 refine sv 17 (.int .i64 (zc0 a1 c1)) ?_
 refine sw 18 (.bool false) rfl (RunV.bool (x:=(zc0 a1 c1 !=(0:Int))) (rvk (by kernel_rfl)) e1) ?_
 refine za0 ?_
 refine aX _ _ ?_
 try clear aX bc
 refine wp_cond_false rfl ?_
 refine wp_skip ?_
 refine k8 _ _ ?_
 try clear k8 K8
 refine rg [0,1] ?_
 refine sv 20 (.int .i64 1) ?_
 refine sv 7 (.int .i64 1) ?_
 refine za0 ?_
 show Code.rounds _ _ _ _ _ _
 show Code.wp _ _ _ _ _
 refine wp_seq_k (fun bi aU=>?_)
 refine rg [0] ?_
 refine sv 8 (.bool true) ?_
 refine za0 ?_
 refine aU _ _ ?_
 try clear aU bi
 refine wp_seq_k (fun bd aT=>?_)
 refine wp_cond_true rfl ?_
 refine wp_skip ?_
 refine aT _ _ ?_
 try clear aT bd
 refine wp_seq_k (fun bk k22=>?_)
 refine wp_block ?_
 refine wp_seq_k (fun a9 k23=>?_)
 refine rg [0,1] ?_
 refine sv 9 (.int .i64 1) ?_
 refine sv 5 (.int .i64 1) ?_
 refine za0 ?_
 refine k23 _ _ ?_
 try clear k23 a9
 refine wp_seq_k (fun bo a7=>?_)
 have aF:=Gr.drew bb
 replace hB:=hB.trans aF
 replace L2:=L2.gr aF
 replace L3:=L3.gr aF
 refine za1 (fun w'=>Lc w' b2 #[aj,ap,aD,aA,ak,ac,ax,ay,aw,az,ai,aq] 35∧Lc w' b3 #[aC,ah,ae,aB,al,ad,ab,au,ar,av,aa,af] 35) [(true,0),(true,1),(true,2),(true,3),(true,4),(true,5),(false,6),(true,7)] (by kernel_rfl) (by kernel_rfl) (by kernel_rfl) (by decide) (fun _ _ _ _ _ h=>h) ⟨L2,L3⟩ ?_
 refine ov 10 (.int .i64 1) ?_
 refine ov 11 (.pointer (some ⟨b2,4,none⟩)) ?_
 refine ow 12 (.agg #[ak,ac,ax,ay]) rfl (fun w' hS=>(rl 33 4 [ak,ac,ax,ay] hS.1)) ?_
 refine ov 13 (.int .i64 1) ?_
 refine ov 14 (.pointer (some ⟨b3,4,none⟩)) ?_
 refine ow 15 (.agg #[al,ad,ab,au]) rfl (fun w' hS=>(rl 33 4 [al,ad,ab,au] hS.2)) ?_
 refine oe ?_
 have aQ:=g2.kp.trans (g3.kp.trans (aE.kp.trans (aO.kp.trans aF.kp)))
 replace aL:=aL.kp aQ
 replace aM:=aM.kp aQ
 refine ec 16 (zd3 aL aM (by omega)) ?_
 rintro e31 bm ⟨rfl,aR⟩
 refine ⟨_,rfl,?_⟩
 replace hB:=hB.trans aR
 replace L2:=L2.gr aR
 replace L3:=L3.gr aR
 refine ⟨⟨L2,L3⟩,?_⟩
 simp only [p3,p4]
 refine ov 6 (.int .i64 (zc0 a2 c2)) ?_
 refine za2 ?_
 refine a7 _ _ ?_
 try clear a7 bo
 refine wp_seq_k (fun bj k33=>?_)
 refine rg [0,1] ?_
 refine sv 17 (.int .i64 (zc0 a2 c2)) ?_
 refine sw 18 (.bool false) rfl (RunV.bool (x:=(zc0 a2 c2 !=(0:Int))) (rvk (by kernel_rfl)) e2) ?_
 refine za0 ?_
 refine k33 _ _ ?_
 try clear k33 bj
 refine wp_cond_false rfl ?_
 refine wp_skip ?_
 refine k22 _ _ ?_
 try clear k22 bk
 refine rg [0,1] ?_
 refine sv 20 (.int .i64 2) ?_
 refine sv 7 (.int .i64 2) ?_
 refine za0 ?_
 show Code.rounds _ _ _ _ _ _
 show Code.wp _ _ _ _ _
 refine wp_seq_k (fun bh aW=>?_)
 refine rg [0] ?_
 refine sv 8 (.bool true) ?_
 refine za0 ?_
 refine aW _ _ ?_
 try clear aW bh
 refine wp_seq_k (fun bp aY=>?_)
 refine wp_cond_true rfl ?_
 refine wp_skip ?_
 refine aY _ _ ?_
 try clear aY bp
 refine wp_seq_k (fun bn a5=>?_)
 refine wp_block ?_
 refine wp_seq_k (fun bg aV=>?_)
 refine rg [0,1] ?_
 refine sv 9 (.int .i64 2) ?_
 refine sv 5 (.int .i64 2) ?_
 refine za0 ?_
 refine aV _ _ ?_
 try clear aV bg
 refine wp_seq_k (fun bt aZ=>?_)
 have aG:=Gr.drew bm
 replace hB:=hB.trans aG
 replace L2:=L2.gr aG
 replace L3:=L3.gr aG
 refine za1 (fun w'=>Lc w' b2 #[aj,ap,aD,aA,ak,ac,ax,ay,aw,az,ai,aq] 35∧Lc w' b3 #[aC,ah,ae,aB,al,ad,ab,au,ar,av,aa,af] 35) [(true,0),(true,1),(true,2),(true,3),(true,4),(true,5),(false,6),(true,7)] (by kernel_rfl) (by kernel_rfl) (by kernel_rfl) (by decide) (fun _ _ _ _ _ h=>h) ⟨L2,L3⟩ ?_
 refine ov 10 (.int .i64 2) ?_
 refine ov 11 (.pointer (some ⟨b2,8,none⟩)) ?_
 refine ow 12 (.agg #[aw,az,ai,aq]) rfl (fun w' hS=>(rl 33 8 [aw,az,ai,aq] hS.1)) ?_
 refine ov 13 (.int .i64 2) ?_
 refine ov 14 (.pointer (some ⟨b3,8,none⟩)) ?_
 refine ow 15 (.agg #[ar,av,aa,af]) rfl (fun w' hS=>(rl 33 8 [ar,av,aa,af] hS.2)) ?_
 refine oe ?_
 have aN:=g2.kp.trans (g3.kp.trans (aE.kp.trans (aO.kp.trans (aF.kp.trans (aR.kp.trans aG.kp)))))
 replace aJ:=aJ.kp aN
 replace aI:=aI.kp aN
 refine ec 16 (zd3 aJ aI (by omega)) ?_
 rintro bw bv ⟨rfl,aS⟩
 refine ⟨_,rfl,?_⟩
 replace hB:=hB.trans aS
 replace L2:=L2.gr aS
 replace L3:=L3.gr aS
 refine ⟨⟨L2,L3⟩,?_⟩
 simp only [p3,p4]
 refine ov 6 (.int .i64 (zc0 a3 c3)) ?_
 refine za2 ?_
 refine aZ _ _ ?_
 try clear aZ bt
 refine wp_seq_k (fun bu a8=>?_)
 refine rg [0,1] ?_
 refine sv 17 (.int .i64 (zc0 a3 c3)) ?_
 refine sw 18 (.bool false) rfl (RunV.bool (x:=(zc0 a3 c3 !=(0:Int))) (rvk (by kernel_rfl)) e3) ?_
 refine za0 ?_
 refine a8 _ _ ?_
 try clear a8 bu
 refine wp_cond_false rfl ?_
 refine wp_skip ?_
 refine a5 _ _ ?_
 try clear a5 bn
 refine rg [0,1] ?_
 refine sv 20 (.int .i64 3) ?_
 refine sv 7 (.int .i64 3) ?_
 refine za0 ?_
 show Code.rounds _ _ _ _ _ _
 show Code.wp _ _ _ _ _
 refine wp_seq_k (fun ba a4=>?_)
 refine rg [0] ?_
 refine sv 8 (.bool false) ?_
 refine za0 ?_
 refine a4 _ _ ?_
 try clear a4 ba
 refine wp_seq_k (fun bx bA=>?_)
 refine wp_cond_false rfl ?_
 refine wp_exit ?_
 simp only [Exit.then,Exit.inBlock,↓reduceIte]
 refine k4 _ _ ?_
 try clear k4 K4
 refine wp_seq_k (fun bq a6=>?_)
 refine rg [0] ?_
 refine sv 4 (.int .i64 0) ?_
 refine za0 ?_
 refine a6 _ _ ?_
 try clear a6 bq
 refine wp_ret ?_
 refine bodyPost_ret (v:=(.int .i64 0)) (zb6 rfl rfl) rfl ⟨?_,hB⟩
 exact rfl

theorem vcomp_v {k m:Nat} {aE aw aI al aj ar aH aJ aG ak aD ay:Value} {a1 a2 a3:Rat} {aF aC az av ap au ai ax aq aA ah aB:Value} {c1 c2 c3:Rat} {w:World} (ab:IsRat w k aE aw aI al a1) (ac:IsRat w k aj ar aH aJ a2) (af:IsRat w k aG ak aD ay a3) (aa:IsRat w m aF aC az av c1) (ad:IsRat w m ap au ai ax c2) (ae:IsRat w m aq aA ah aB c3) (hk:k+m≤100000):
  Calls Tryz.prog 39 #[(.agg #[aE,aw,aI,al,aj,ar,aH,aJ,aG,ak,aD,ay]),(.agg #[aF,aC,az,av,ap,au,ai,ax,aq,aA,ah,aB])] w fun e w'=>e=.returned (.int .i64 (zR5 a1 a2 a3 c1 c2 c3))∧Gr w w':=by
 unfold zR5
 by_cases e1:zc0 a1 c1=0
 ·rw [if_pos e1]
  have d1:(zc0 a1 c1 !=(0:Int))=false:=by simp [e1]
  by_cases e2:zc0 a2 c2=0
  ·rw [if_pos e2]
   have d2:(zc0 a2 c2 !=(0:Int))=false:=by simp [e2]
   by_cases e3:zc0 a3 c3=0
   ·rw [e3];exact vcomp_4 ab ac af aa ad ae hk d1 d2 (by simp [e3])
   ·exact vcomp_3 ab ac af aa ad ae hk d1 d2 (by simp [e3])
  ·rw [if_neg e2];exact vcomp_2 ab ac af aa ad ae hk d1 (by simp [e2])
 ·rw [if_neg e1];exact vcomp_1 ab ac af aa ad ae hk (by simp [e1])

set_option maxRecDepth 100000 in
set_option maxHeartbeats 1000000 in
theorem vzero_v {k:Nat} {ac ak ap aj ah aa ae af ad ai ab al:Value} {a1 a2 a3:Rat} {w:World} (aq:IsRat w k ac ak ap aj a1) (ar:IsRat w k ah aa ae af a2) (au:IsRat w k ad ai ab al a3) (_hk:k≤25000):
    Calls Tryz.prog 27 #[(.agg #[ac,ak,ap,aj,ah,aa,ae,af,ad,ai,ab,al])] w fun e w'=>e=.returned (.bool (zR5 a1 a2 a3 0 0 0==(0:Int)))∧Gr w w':=by
 go_enter Tryz.func27,Tryz.ntmps27
 have hB:=Gr.refl w
 refine wp_seq_k (fun K1 k1=>?_)
 refine rg [0,1] ?_
 refine se ?_
 refine eb 35 #[ac,ak,ap,aj,ah,aa,ae,af,ad,ai,ab,al] 1 hB fun b2 w2 g2 L2 o2 q2 hB=>?_
 simp only [p3,p4]
 refine sv 2 (.bool false) ?_
 refine za0 ?_
 refine k1 _ _ ?_
 try clear k1 K1
 refine wp_seq_k (fun K3 k3=>?_)
 refine rg [0,1,2,3,4] ?_
 refine sw 3 (.agg #[ac,ak,ap,aj,ah,aa,ae,af,ad,ai,ab,al]) rfl (rl 35 0 [ac,ak,ap,aj,ah,aa,ae,af,ad,ai,ab,al] L2) ?_
 refine sv 4 (.agg #[.bool false,.slice none 0 0,.bool false,.slice none 0 0,.bool false,.slice none 0 0,.bool false,.slice none 0 0,.bool false,.slice none 0 0,.bool false,.slice none 0 0]) ?_
 refine se ?_
 replace aq:=aq.kp g2.kp
 replace ar:=ar.kp g2.kp
 replace au:=au.kp g2.kp
 refine ec 5 (vcomp_v aq ar au (IsRat.zero _ (k:=64) (Nat.le_refl _)) (IsRat.zero _ (k:=64) (Nat.le_refl _)) (IsRat.zero _ (k:=64) (Nat.le_refl _)) (by omega)) ?_
 rintro e4 w4 ⟨rfl,g4⟩
 refine ⟨_,rfl,?_⟩
 replace hB:=hB.trans g4
 simp only [p3,p4]
 refine sv 6 (.bool ((zR5 a1 a2 a3 0 0 0==(0:Int)))) ?_
 refine sv 2 (.bool ((zR5 a1 a2 a3 0 0 0==(0:Int)))) ?_
 refine za0 ?_
 refine k3 _ _ ?_
 try clear k3 K3
 refine wp_ret ?_
 refine bodyPost_ret (v:=(.bool ((zR5 a1 a2 a3 0 0 0==(0:Int))))) (zb6 rfl rfl) rfl ⟨?_,hB⟩
 exact rfl

set_option maxRecDepth 100000 in
set_option maxHeartbeats 1000000 in
theorem zU2 (n1 n2 n3:Int) (_j1:-9223372036854775808≤n1∧n1≤9223372036854775807) (_j2:-9223372036854775808≤n2∧n2≤9223372036854775807) (_j3:-9223372036854775808≤n3∧n3≤9223372036854775807) (w:World):
    Calls Tryz.prog 31 #[(.agg #[(.int .i64 (n1)),(.int .i64 (n2)),(.int .i64 (n3))])] w fun e w'=>(∃ t0 t1 t2 t3 t4 t5 t6 t7 t8 t9 aP aQ,e=.returned (.agg #[t0,t1,t2,t3,t4,t5,t6,t7,t8,t9,aP,aQ])∧IsRat w' 64 t0 t1 t2 t3 ((n1:Int):Rat)∧IsRat w' 64 t4 t5 t6 t7 ((n2:Int):Rat)∧IsRat w' 64 t8 t9 aP aQ ((n3:Int):Rat))∧Gr w w':=by
 go_enter Tryz.func31,Tryz.ntmps31
 have hB:=Gr.refl w
 refine wp_seq_k (fun K1 k1=>?_)
 refine rg [0,1] ?_
 refine se ?_
 refine eb 80 #[(.int .i64 (n1)),(.int .i64 (n2)),(.int .i64 (n3))] 1 hB fun b2 w2 g2 L2 o2 q2 hB=>?_
 simp only [p3,p4]
 refine se ?_
 refine ea 35 #[.bool false,.slice none 0 0,.bool false,.slice none 0 0,.bool false,.slice none 0 0,.bool false,.slice none 0 0,.bool false,.slice none 0 0,.bool false,.slice none 0 0] 2 hB fun b3 w3 g3 L3 o3 q3 hB=>?_
 simp only [p3,p4]
 refine za0 ?_
 refine k1 _ _ ?_
 try clear k1 K1
 refine wp_seq_k (fun K4 k4=>?_)
 refine rg [0] ?_
 refine se ?_
 refine ea 35 #[.bool false,.slice none 0 0,.bool false,.slice none 0 0,.bool false,.slice none 0 0,.bool false,.slice none 0 0,.bool false,.slice none 0 0,.bool false,.slice none 0 0] 3 hB fun b5 w5 g5 L5 o5 q5 hB=>?_
 replace L2:=L2.gr g3
 have ah:=L3.ne o5
 simp only [p3,p4]
 refine za0 ?_
 refine k4 _ _ ?_
 try clear k4 K4
 refine wp_seq_k (fun K6 k6=>?_)
 refine wp_seq_k (fun K7 k7=>?_)
 refine rg [0,1] ?_
 replace L2:=L2.gr g5
 refine sw 6 (.agg #[(.int .i64 (n1)),(.int .i64 (n2)),(.int .i64 (n3))]) rfl (rl 80 0 [(.int .i64 (n1)),(.int .i64 (n2)),(.int .i64 (n3))] L2) ?_
 refine sv 7 (.int .i64 0) ?_
 refine za0 ?_
 refine k7 _ _ ?_
 try clear k7 K7
 refine wp_block ?_
 refine wp_loop_rounds 4 ?_
 show Code.wp _ _ _ _ _
 refine wp_seq_k (fun K8 k8=>?_)
 refine rg [0] ?_
 refine sv 8 (.bool true) ?_
 refine za0 ?_
 refine k8 _ _ ?_
 try clear k8 K8
 refine wp_seq_k (fun K9 k9=>?_)
 refine wp_cond_true rfl ?_
 refine wp_skip ?_
 refine k9 _ _ ?_
 try clear k9 K9
 refine wp_seq_k (fun a6 aT=>?_)
 refine wp_block ?_
 refine wp_seq_k (fun aZ k11=>?_)
 refine rg [0,1,2,3] ?_
 refine sv 9 (.int .i64 0) ?_
 refine sv 10 (.int .i64 (n1)) ?_
 refine sv 4 (.int .i64 0) ?_
 refine sv 5 (.int .i64 (n1)) ?_
 refine za0 ?_
 refine k11 _ _ ?_
 try clear k11 aZ
 refine rg [0,1,2,3,4] ?_
 refine sv 11 (.int .i64 0) ?_
 refine sv 12 (.int .i64 (n1)) ?_
 refine se ?_
 refine ec 13 (zt1 (n1) (by omega) (by omega) _) ?_
 rintro e12 ba ⟨⟨aa,ai,af,ad,rfl,ac⟩,aF⟩
 refine ⟨_,rfl,?_⟩
 replace hB:=hB.trans aF
 simp only [p3,p4]
 refine sv 14 (.pointer (some ⟨b5,0,none⟩)) ?_
 refine se ?_
 replace L5:=L5.gr aF
 refine es 33 0 (.agg #[aa,ai,af,ad]) [aa,ai,af,ad] #[aa,ai,af,ad,.bool false,.slice none 0 0,.bool false,.slice none 0 0,.bool false,.slice none 0 0,.bool false,.slice none 0 0] L5 hB q5 ⟨ac.one0,ac.one1,ac.one2,ac.one3,trivial⟩ fun bf aI aC L5 hB=>?_
 refine za0 ?_
 refine aT _ _ ?_
 try clear aT a6
 refine rg [0,1] ?_
 refine sv 15 (.int .i64 1) ?_
 refine sv 7 (.int .i64 1) ?_
 refine za0 ?_
 show Code.rounds _ _ _ _ _ _
 show Code.wp _ _ _ _ _
 refine wp_seq_k (fun aY aS=>?_)
 refine rg [0] ?_
 refine sv 8 (.bool true) ?_
 refine za0 ?_
 refine aS _ _ ?_
 try clear aS aY
 refine wp_seq_k (fun a2 aL=>?_)
 refine wp_cond_true rfl ?_
 refine wp_skip ?_
 refine aL _ _ ?_
 try clear aL a2
 refine wp_seq_k (fun aV aN=>?_)
 refine wp_block ?_
 refine wp_seq_k (fun a1 aO=>?_)
 refine rg [0,1,2,3] ?_
 refine sv 9 (.int .i64 1) ?_
 refine sv 10 (.int .i64 (n2)) ?_
 refine sv 4 (.int .i64 1) ?_
 refine sv 5 (.int .i64 (n2)) ?_
 refine za0 ?_
 refine aO _ _ ?_
 try clear aO a1
 refine rg [0,1,2,3,4] ?_
 refine sv 11 (.int .i64 1) ?_
 refine sv 12 (.int .i64 (n2)) ?_
 refine se ?_
 refine ec 13 (zt1 (n2) (by omega) (by omega) _) ?_
 rintro bc bg ⟨⟨al,ak,aj,ap,rfl,ab⟩,aA⟩
 refine ⟨_,rfl,?_⟩
 replace hB:=hB.trans aA
 simp only [p3,p4]
 refine sv 14 (.pointer (some ⟨b5,4,none⟩)) ?_
 refine se ?_
 replace L5:=L5.gr aA
 refine es 33 4 (.agg #[al,ak,aj,ap]) [al,ak,aj,ap] #[aa,ai,af,ad,al,ak,aj,ap,.bool false,.slice none 0 0,.bool false,.slice none 0 0] L5 hB q5 ⟨ab.one0,ab.one1,ab.one2,ab.one3,trivial⟩ fun a9 aB ay L5 hB=>?_
 refine za0 ?_
 refine aN _ _ ?_
 try clear aN aV
 refine rg [0,1] ?_
 refine sv 15 (.int .i64 2) ?_
 refine sv 7 (.int .i64 2) ?_
 refine za0 ?_
 show Code.rounds _ _ _ _ _ _
 show Code.wp _ _ _ _ _
 refine wp_seq_k (fun aU aM=>?_)
 refine rg [0] ?_
 refine sv 8 (.bool true) ?_
 refine za0 ?_
 refine aM _ _ ?_
 try clear aM aU
 refine wp_seq_k (fun a4 aK=>?_)
 refine wp_cond_true rfl ?_
 refine wp_skip ?_
 refine aK _ _ ?_
 try clear aK a4
 refine wp_seq_k (fun aX k22=>?_)
 refine wp_block ?_
 refine wp_seq_k (fun aW k23=>?_)
 refine rg [0,1,2,3] ?_
 refine sv 9 (.int .i64 2) ?_
 refine sv 10 (.int .i64 (n3)) ?_
 refine sv 4 (.int .i64 2) ?_
 refine sv 5 (.int .i64 (n3)) ?_
 refine za0 ?_
 refine k23 _ _ ?_
 try clear k23 aW
 refine rg [0,1,2,3,4] ?_
 refine sv 11 (.int .i64 2) ?_
 refine sv 12 (.int .i64 (n3)) ?_
 refine se ?_
 refine ec 13 (zt1 (n3) (by omega) (by omega) _) ?_
 rintro bh bb ⟨⟨au,av,aq,ar,rfl,ae⟩,az⟩
 refine ⟨_,rfl,?_⟩
 replace hB:=hB.trans az
 simp only [p3,p4]
 refine sv 14 (.pointer (some ⟨b5,8,none⟩)) ?_
 refine se ?_
 replace L5:=L5.gr az
 refine es 33 8 (.agg #[au,av,aq,ar]) [au,av,aq,ar] #[aa,ai,af,ad,al,ak,aj,ap,au,av,aq,ar] L5 hB q5 ⟨ae.one0,ae.one1,ae.one2,ae.one3,trivial⟩ fun a7 aH ax L5 hB=>?_
 refine za0 ?_
 refine k22 _ _ ?_
 try clear k22 aX
 refine rg [0,1] ?_
 refine sv 15 (.int .i64 3) ?_
 refine sv 7 (.int .i64 3) ?_
 refine za0 ?_
 show Code.rounds _ _ _ _ _ _
 show Code.wp _ _ _ _ _
 refine wp_seq_k (fun a0 aJ=>?_)
 refine rg [0] ?_
 refine sv 8 (.bool false) ?_
 refine za0 ?_
 refine aJ _ _ ?_
 try clear aJ a0
 refine wp_seq_k (fun a8 bd=>?_)
 refine wp_cond_false rfl ?_
 refine wp_exit ?_
 simp only [Exit.then,Exit.inBlock,↓reduceIte]
 refine k6 _ _ ?_
 try clear k6 K6
 refine wp_seq_k (fun a3 aR=>?_)
 refine rg [0,1] ?_
 refine sw 16 (.agg #[aa,ai,af,ad,al,ak,aj,ap,au,av,aq,ar]) rfl (rl 35 0 [aa,ai,af,ad,al,ak,aj,ap,au,av,aq,ar] L5) ?_
 refine se ?_
 replace L3:=aH.lc ((aB.lc ((aI.lc (L3.gr (g5.trans aF)) ah).gr aA) ah).gr az) ah
 refine es 35 0 (.agg #[aa,ai,af,ad,al,ak,aj,ap,au,av,aq,ar]) [aa,ai,af,ad,al,ak,aj,ap,au,av,aq,ar] #[aa,ai,af,ad,al,ak,aj,ap,au,av,aq,ar] L3 hB q3 ⟨ac.one0,ac.one1,ac.one2,ac.one3,ab.one0,ab.one1,ab.one2,ab.one3,ae.one0,ae.one1,ae.one2,ae.one3,trivial⟩ fun bi a5 aw L3 hB=>?_
 refine za0 ?_
 refine aR _ _ ?_
 try clear aR a3
 refine wp_ret ?_
 refine bodyPost_ret (v:=(.agg #[aa,ai,af,ad,al,ak,aj,ap,au,av,aq,ar])) (za6 _ _ _ rfl rfl L3 (by kernel_rfl)) rfl ⟨?_,hB⟩
 have aD:=aC.trans (aA.kp.trans (ay.trans (az.kp.trans (ax.trans aw))))
 replace ac:=ac.kp aD
 have aE:=ay.trans (az.kp.trans (ax.trans aw))
 replace ab:=ab.kp aE
 have aG:=ax.trans aw
 replace ae:=ae.kp aG
 exact ⟨_,_,_,_,_,_,_,_,_,_,_,_,rfl,ac,ab,ae⟩

set_option maxRecDepth 100000 in
set_option maxHeartbeats 1000000 in
theorem tvel_v {k m:Nat} {aF aK a9 a0 aI ay aW aX aV aZ aE aL:Value} {a1 a2 a3:Rat} {aS aQ a6 a7 aA a4 aY aM aH aG ax aP:Value} {d1 d2 d3:Rat} {a8 aD aB a5 aJ az aw aT aR aU av aC:Value} {c1 c2 c3:Rat} {w:World} (ba:IsRat w k aF aK a9 a0 a1) (bi:IsRat w k aI ay aW aX a2) (bh:IsRat w k aV aZ aE aL a3) (bd:IsRat w k aS aQ a6 a7 d1) (bk:IsRat w k aA a4 aY aM d2) (bm:IsRat w k aH aG ax aP d3) (bb:IsRat w m a8 aD aB a5 c1) (bj:IsRat w m aJ az aw aT c2) (bg:IsRat w m aR aU av aC c3) (_hk:k+m≤20000):
    Calls Tryz.prog 33 #[(.agg #[aF,aK,a9,a0,aI,ay,aW,aX,aV,aZ,aE,aL,aS,aQ,a6,a7,aA,a4,aY,aM,aH,aG,ax,aP]),(.agg #[a8,aD,aB,a5,aJ,az,aw,aT,aR,aU,av,aC])] w fun e w'=>(∃ t0 t1 t2 t3 t4 t5 t6 t7 t8 t9 bG bC,e=.returned (.agg #[t0,t1,t2,t3,t4,t5,t6,t7,t8,t9,bG,bC])∧IsRat w' (k+(k+m+(k+m)+1)+1) t0 t1 t2 t3 (d1+(a2*c3 - a3*c2))∧IsRat w' (k+(k+m+(k+m)+1)+1) t4 t5 t6 t7 (d2+(a3*c1 - a1*c3))∧IsRat w' (k+(k+m+(k+m)+1)+1) t8 t9 bG bC (d3+(a1*c2 - a2*c1)))∧Gr w w':=by
 have bS:=ba.big
 have bQ:=bb.big
 go_enter Tryz.func33,Tryz.ntmps33
 have hB:=Gr.refl w
 refine wp_seq_k (fun K1 k1=>?_)
 refine rg [0,1,2] ?_
 refine se ?_
 refine eb 42 #[aF,aK,a9,a0,aI,ay,aW,aX,aV,aZ,aE,aL,aS,aQ,a6,a7,aA,a4,aY,aM,aH,aG,ax,aP] 2 hB fun b2 w2 g2 L2 o2 q2 hB=>?_
 simp only [p3,p4]
 refine se ?_
 refine eb 35 #[a8,aD,aB,a5,aJ,az,aw,aT,aR,aU,av,aC] 3 hB fun b3 w3 g3 L3 o3 q3 hB=>?_
 simp only [p3,p4]
 refine se ?_
 refine ea 35 #[.bool false,.slice none 0 0,.bool false,.slice none 0 0,.bool false,.slice none 0 0,.bool false,.slice none 0 0,.bool false,.slice none 0 0,.bool false,.slice none 0 0] 4 hB fun b4 w4 g4 L4 o4 q4 hB=>?_
 replace L2:=L2.gr g3
 have bp:=L2.ne o4
 have bq:=L3.ne o4
 simp only [p3,p4]
 refine za0 ?_
 refine k1 _ _ ?_
 try clear k1 K1
 refine wp_seq_k (fun K5 k5=>?_)
 have aN:=Gr.drew w4
 replace hB:=hB.trans aN
 replace L2:=L2.gr (g4.trans aN)
 replace L3:=L3.gr (g4.trans aN)
 refine za1 (fun w'=>Lc w' b2 #[aF,aK,a9,a0,aI,ay,aW,aX,aV,aZ,aE,aL,aS,aQ,a6,a7,aA,a4,aY,aM,aH,aG,ax,aP] 42∧Lc w' b3 #[a8,aD,aB,a5,aJ,az,aw,aT,aR,aU,av,aC] 35) [(true,0),(true,1),(true,2),(true,3),(true,4),(false,5),(false,6),(false,7)] (by kernel_rfl) (by kernel_rfl) (by kernel_rfl) (by decide) (fun _ _ _ _ _ h=>h) ⟨L2,L3⟩ ?_
 refine ov 5 (.pointer (some ⟨b2,12,none⟩)) ?_
 refine ow 6 (.agg #[aS,aQ,a6,a7,aA,a4,aY,aM,aH,aG,ax,aP]) rfl (fun w' hS=>(rl 35 12 [aS,aQ,a6,a7,aA,a4,aY,aM,aH,aG,ax,aP] hS.1)) ?_
 refine ov 7 (.pointer (some ⟨b2,0,none⟩)) ?_
 refine ow 8 (.agg #[aF,aK,a9,a0,aI,ay,aW,aX,aV,aZ,aE,aL]) rfl (fun w' hS=>(rl 35 0 [aF,aK,a9,a0,aI,ay,aW,aX,aV,aZ,aE,aL] hS.1)) ?_
 refine ow 9 (.agg #[a8,aD,aB,a5,aJ,az,aw,aT,aR,aU,av,aC]) rfl (fun w' hS=>(rl 35 0 [a8,aD,aB,a5,aJ,az,aw,aT,aR,aU,av,aC] hS.2)) ?_
 refine oe ?_
 have aO:=g2.kp.trans (g3.kp.trans (g4.kp.trans aN.kp))
 replace ba:=ba.kp aO
 replace bi:=bi.kp aO
 replace bh:=bh.kp aO
 replace bb:=bb.kp aO
 replace bj:=bj.kp aO
 replace bg:=bg.kp aO
 refine ec 10 (zH1 ba bi bh bb bj bg (by omega)) ?_
 rintro bT bP ⟨⟨bH,bF,bE,bL,bK,bB,bJ,bA,bD,bM,bu,bz,rfl,bw,bv,bx⟩,bn⟩
 refine ⟨_,rfl,?_⟩
 replace hB:=hB.trans bn
 replace L2:=L2.gr bn
 replace L3:=L3.gr bn
 refine ⟨⟨L2,L3⟩,?_⟩
 simp only [p3,p4]
 refine oe ?_
 have bc:=g2.kp.trans (g3.kp.trans (g4.kp.trans (aN.kp.trans bn.kp)))
 replace bd:=bd.kp bc
 replace bk:=bk.kp bc
 replace bm:=bm.kp bc
 refine ec 11 (vadd_v bd bk bm bw bv bx (by omega)) ?_
 rintro bO bR ⟨⟨aj,au,aq,af,ai,ak,al,ar,ah,ap,aa,ab,rfl,ac,ad,ae⟩,bt⟩
 refine ⟨_,rfl,?_⟩
 replace hB:=hB.trans bt
 replace L2:=L2.gr bt
 replace L3:=L3.gr bt
 refine ⟨⟨L2,L3⟩,?_⟩
 simp only [p3,p4]
 refine oe ?_
 replace L4:=L4.gr (aN.trans (bn.trans bt))
 refine es 35 0 (.agg #[aj,au,aq,af,ai,ak,al,ar,ah,ap,aa,ab]) [aj,au,aq,af,ai,ak,al,ar,ah,ap,aa,ab] #[aj,au,aq,af,ai,ak,al,ar,ah,ap,aa,ab] L4 hB q4 ⟨ac.one0,ac.one1,ac.one2,ac.one3,ad.one0,ad.one1,ad.one2,ad.one3,ae.one0,ae.one1,ae.one2,ae.one3,trivial⟩ fun bN bo bf L4 hB=>?_
 replace L2:=bo.lc L2 bp
 replace L3:=bo.lc L3 bq
 refine ⟨⟨L2,L3⟩,?_⟩
 refine za2 ?_
 refine k5 _ _ ?_
 try clear k5 K5
 refine wp_ret ?_
 refine bodyPost_ret (v:=(.agg #[aj,au,aq,af,ai,ak,al,ar,ah,ap,aa,ab])) (za6 _ _ _ rfl rfl L4 (by kernel_rfl)) rfl ⟨?_,hB⟩
 replace ac:=ac.kp bf
 replace ad:=ad.kp bf
 replace ae:=ae.kp bf
 exact ⟨_,_,_,_,_,_,_,_,_,_,_,_,rfl,ac,ad,ae⟩

set_option maxRecDepth 100000 in
set_option maxHeartbeats 1000000 in
theorem trot_v {k m:Nat} {ac ae ap al ad aa ai aj ah ak ab af:Value} {a1 a2 a3:Rat} {aW aP aN aV aQ aM aL aS aR aT aK aO:Value} {c1 c2 c3:Rat} {w:World} (au:IsRat w k ac ae ap al a1) (aw:IsRat w k ad aa ai aj a2) (av:IsRat w k ah ak ab af a3) (a4:IsRat w m aW aP aN aV c1) (a5:IsRat w m aQ aM aL aS c2) (aZ:IsRat w m aR aT aK aO c3) (_hk:k+m≤20000):
    Calls Tryz.prog 30 #[(.agg #[ac,ae,ap,al,ad,aa,ai,aj,ah,ak,ab,af]),(.agg #[aW,aP,aN,aV,aQ,aM,aL,aS,aR,aT,aK,aO])] w fun e w'=>(∃ t0 t1 t2 t3 t4 t5 t6 t7 t8 t9 bm bf bc bk bj bp bd bg ba bb bh bn bo bi,e=.returned (.agg #[t0,t1,t2,t3,t4,t5,t6,t7,t8,t9,bm,bf,bc,bk,bj,bp,bd,bg,ba,bb,bh,bn,bo,bi])∧IsRat w' k t0 t1 t2 t3 (a1)∧IsRat w' k t4 t5 t6 t7 (a2)∧IsRat w' k t8 t9 bm bf (a3)∧IsRat w' (m+k+(m+k)+1) bc bk bj bp (c2*a3 - c3*a2)∧IsRat w' (m+k+(m+k)+1) bd bg ba bb (c3*a1 - c1*a3)∧IsRat w' (m+k+(m+k)+1) bh bn bo bi (c1*a2 - c2*a1))∧Gr w w':=by
 go_enter Tryz.func30,Tryz.ntmps30
 have hB:=Gr.refl w
 refine wp_seq_k (fun K1 k1=>?_)
 refine rg [0,1,2] ?_
 refine se ?_
 refine eb 35 #[ac,ae,ap,al,ad,aa,ai,aj,ah,ak,ab,af] 2 hB fun b2 w2 g2 L2 o2 q2 hB=>?_
 simp only [p3,p4]
 refine se ?_
 refine eb 35 #[aW,aP,aN,aV,aQ,aM,aL,aS,aR,aT,aK,aO] 3 hB fun b3 w3 g3 L3 o3 q3 hB=>?_
 simp only [p3,p4]
 refine se ?_
 refine ea 42 #[.bool false,.slice none 0 0,.bool false,.slice none 0 0,.bool false,.slice none 0 0,.bool false,.slice none 0 0,.bool false,.slice none 0 0,.bool false,.slice none 0 0,.bool false,.slice none 0 0,.bool false,.slice none 0 0,.bool false,.slice none 0 0,.bool false,.slice none 0 0,.bool false,.slice none 0 0,.bool false,.slice none 0 0] 4 hB fun b4 w4 g4 L4 o4 q4 hB=>?_
 replace L2:=L2.gr g3
 have a7:=L2.ne o4
 have a8:=L3.ne o4
 simp only [p3,p4]
 refine za0 ?_
 refine k1 _ _ ?_
 try clear k1 K1
 refine wp_seq_k (fun K5 k5=>?_)
 have aX:=Gr.drew w4
 replace hB:=hB.trans aX
 replace L2:=L2.gr (g4.trans aX)
 replace L3:=L3.gr (g4.trans aX)
 refine za1 (fun w'=>Lc w' b2 #[ac,ae,ap,al,ad,aa,ai,aj,ah,ak,ab,af] 35∧Lc w' b3 #[aW,aP,aN,aV,aQ,aM,aL,aS,aR,aT,aK,aO] 35) [(true,0),(true,1),(true,2),(false,3),(true,4),(false,5)] (by kernel_rfl) (by kernel_rfl) (by kernel_rfl) (by decide) (fun _ _ _ _ _ h=>h) ⟨L2,L3⟩ ?_
 refine ow 5 (.agg #[ac,ae,ap,al,ad,aa,ai,aj,ah,ak,ab,af]) rfl (fun w' hS=>(rl 35 0 [ac,ae,ap,al,ad,aa,ai,aj,ah,ak,ab,af] hS.1)) ?_
 refine ow 6 (.agg #[aW,aP,aN,aV,aQ,aM,aL,aS,aR,aT,aK,aO]) rfl (fun w' hS=>(rl 35 0 [aW,aP,aN,aV,aQ,aM,aL,aS,aR,aT,aK,aO] hS.2)) ?_
 refine ow 7 (.agg #[ac,ae,ap,al,ad,aa,ai,aj,ah,ak,ab,af]) rfl (fun w' hS=>(rl 35 0 [ac,ae,ap,al,ad,aa,ai,aj,ah,ak,ab,af] hS.1)) ?_
 refine oe ?_
 have aU:=g2.kp.trans (g3.kp.trans (g4.kp.trans aX.kp))
 replace a4:=a4.kp aU
 replace a5:=a5.kp aU
 replace aZ:=aZ.kp aU
 replace au:=au.kp aU
 replace aw:=aw.kp aU
 replace av:=av.kp aU
 refine ec 8 (zH1 a4 a5 aZ au aw av (by omega)) ?_
 rintro bu bt ⟨⟨ay,ax,aE,aC,aF,az,aA,aG,aB,aD,ar,aq,rfl,aH,aI,aJ⟩,a9⟩
 refine ⟨_,rfl,?_⟩
 replace hB:=hB.trans a9
 replace L2:=L2.gr a9
 replace L3:=L3.gr a9
 refine ⟨⟨L2,L3⟩,?_⟩
 simp only [p3,p4]
 refine ov 9 (.agg #[ac,ae,ap,al,ad,aa,ai,aj,ah,ak,ab,af,ay,ax,aE,aC,aF,az,aA,aG,aB,aD,ar,aq]) ?_
 refine oe ?_
 replace L4:=L4.gr (aX.trans a9)
 refine es 42 0 (.agg #[ac,ae,ap,al,ad,aa,ai,aj,ah,ak,ab,af,ay,ax,aE,aC,aF,az,aA,aG,aB,aD,ar,aq]) [ac,ae,ap,al,ad,aa,ai,aj,ah,ak,ab,af,ay,ax,aE,aC,aF,az,aA,aG,aB,aD,ar,aq] #[ac,ae,ap,al,ad,aa,ai,aj,ah,ak,ab,af,ay,ax,aE,aC,aF,az,aA,aG,aB,aD,ar,aq] L4 hB q4 ⟨au.one0,au.one1,au.one2,au.one3,aw.one0,aw.one1,aw.one2,aw.one3,av.one0,av.one1,av.one2,av.one3,aH.one0,aH.one1,aH.one2,aH.one3,aI.one0,aI.one1,aI.one2,aI.one3,aJ.one0,aJ.one1,aJ.one2,aJ.one3,trivial⟩ fun bq a6 aY L4 hB=>?_
 replace L2:=a6.lc L2 a7
 replace L3:=a6.lc L3 a8
 refine ⟨⟨L2,L3⟩,?_⟩
 refine za2 ?_
 refine k5 _ _ ?_
 try clear k5 K5
 refine wp_ret ?_
 refine bodyPost_ret (v:=(.agg #[ac,ae,ap,al,ad,aa,ai,aj,ah,ak,ab,af,ay,ax,aE,aC,aF,az,aA,aG,aB,aD,ar,aq])) (za6 _ _ _ rfl rfl L4 (by kernel_rfl)) rfl ⟨?_,hB⟩
 have a0:=a9.kp.trans aY
 replace au:=au.kp a0
 replace aw:=aw.kp a0
 replace av:=av.kp a0
 replace aH:=aH.kp aY
 replace aI:=aI.kp aY
 replace aJ:=aJ.kp aY
 exact ⟨_,_,_,_,_,_,_,_,_,_,_,_,_,_,_,_,_,_,_,_,_,_,_,_,rfl,au,aw,av,aH,aI,aJ⟩

theorem zH2 {k:Nat} {ai al ae ad ab ah ak ap aj ac af aa:Value} {a1 a2 a3:Rat} {w:World} (aq:IsRat w k ai al ae ad a1) (ar:IsRat w k ab ah ak ap a2) (au:IsRat w k aj ac af aa a3) (hk:k≤25000) (b:Bool) (eb:(zR5 a1 a2 a3 0 0 0==(0:Int))=b):
  Calls Tryz.prog 27 #[(.agg #[ai,al,ae,ad,ab,ah,ak,ap,aj,ac,af,aa])] w fun e w'=>e=.returned (.bool b)∧Gr w w':=by
 have:=vzero_v aq ar au hk
 rw [eb] at this
 exact this

set_option maxRecDepth 100000 in
set_option maxHeartbeats 1000000 in
theorem tzero_f {k:Nat} {aj af ad ac aa ae al ap ak ab ai ah:Value} {a1 a2 a3:Rat} {ax av aB aC az ay aF aD aA aE aq au:Value} {d1 d2 d3:Rat} {w:World} (ar:IsRat w k aj af ad ac a1) (aw:IsRat w k aa ae al ap a2) (aG:IsRat w k ak ab ai ah a3) (_hub1:IsRat w k ax av aB aC d1) (_hub2:IsRat w k az ay aF aD d2) (_hub3:IsRat w k aA aE aq au d3) (_hk:k≤25000) (e1:(zR5 a1 a2 a3 0 0 0==(0:Int))=false):
    Calls Tryz.prog 26 #[(.agg #[aj,af,ad,ac,aa,ae,al,ap,ak,ab,ai,ah,ax,av,aB,aC,az,ay,aF,aD,aA,aE,aq,au])] w fun e w'=>e=.returned (.bool (false))∧Gr w w':=by
 go_enter Tryz.func26,Tryz.ntmps26
 have hB:=Gr.refl w
 refine wp_seq_k (fun K1 k1=>?_)
 refine rg [0,1] ?_
 refine se ?_
 refine eb 42 #[aj,af,ad,ac,aa,ae,al,ap,ak,ab,ai,ah,ax,av,aB,aC,az,ay,aF,aD,aA,aE,aq,au] 1 hB fun b2 w2 g2 L2 o2 q2 hB=>?_
 simp only [p3,p4]
 refine sv 2 (.bool false) ?_
 refine za0 ?_
 refine k1 _ _ ?_
 try clear k1 K1
 refine wp_seq_k (fun K3 k3=>?_)
 refine rg [0,1,2,3,4,5,6,7,8] ?_
 refine sv 3 (.pointer (some ⟨b2,0,none⟩)) ?_
 refine sw 4 (.agg #[aj,af,ad,ac,aa,ae,al,ap,ak,ab,ai,ah]) rfl (rl 35 0 [aj,af,ad,ac,aa,ae,al,ap,ak,ab,ai,ah] L2) ?_
 refine se ?_
 replace ar:=ar.kp g2.kp
 replace aw:=aw.kp g2.kp
 replace aG:=aG.kp g2.kp
 refine ec 5 (zH2 ar aw aG (by omega) false e1) ?_
 rintro e4 w4 ⟨rfl,g4⟩
 refine ⟨_,rfl,?_⟩
 replace hB:=hB.trans g4
 simp only [p3,p4]
 refine sv 6 (.bool false) ?_
 refine ss 7 ?_
 refine ss 8 ?_
 refine ss 9 ?_
 refine sv 10 (.bool false) ?_
 refine sv 2 (.bool false) ?_
 refine za0 ?_
 refine k3 _ _ ?_
 try clear k3 K3
 refine wp_ret ?_
 refine bodyPost_ret (v:=(.bool false)) (zb6 rfl rfl) rfl ⟨?_,hB⟩
 exact rfl

def zR6 (d x:Int):Int:=d/(Int.gcd d x:Int)*x
theorem zM8 (d:Int) (q:Rat):0<(Int.gcd d (q.den:Int):Int)∧(Int.gcd d (q.den:Int):Int)∣d:=by
 have:=q.den_pos
 refine ⟨?_,Int.gcd_dvd_left ..⟩
 have:Int.gcd d (q.den:Int)≠0:=by rw [Ne,Int.gcd_eq_zero_iff];omega
 omega
theorem zA5 {d:Int} (q:Rat) (h:0<d):0<zR6 d (q.den:Int):=by
 have:=q.den_pos
 obtain ⟨h1,h2⟩:=zM8 d q
 obtain ⟨c,hc⟩:=h2
 unfold zR6
 refine Int.mul_pos ?_ (by omega)
 have:d/(Int.gcd d (q.den:Int):Int)=c:=by
  conv=>lhs;lhs;rw [hc]
  exact Int.mul_ediv_cancel_left c (by omega)
 rw [this]
 rcases Int.lt_or_le 0 c with h3 | h3
 ·exact h3
 ·have:=Int.mul_nonpos_of_nonneg_of_nonpos (Int.le_of_lt h1) h3;omega
def pden (a1 a2 a3:Rat):Int:=zR6 (zR6 (zR6 1 (a1.den:Int)) (a2.den:Int)) (a3.den:Int)
theorem zM9 (a1 a2 a3:Rat):0<pden a1 a2 a3:=zA5 _ (zA5 _ (zA5 _ (by omega)))
def pgcd (a1 a2 a3:Rat):Int:=
 (Int.gcd (Int.gcd (Int.gcd 0 (Rat.divInt (pden a1 a2 a3) 1*a1).num:Int) (Rat.divInt (pden a1 a2 a3) 1*a2).num:Int) (Rat.divInt (pden a1 a2 a3) 1*a3).num:Int)
theorem rat_pden {d:Int} (h:0<d):Rat.divInt d 1≠0:=by
 intro e
 rw [← Rat.num_eq_zero] at e
 rw [Rat.num_divInt] at e
 simp at e
 omega
theorem pgcd_pos {a1 a2 a3:Rat} (h:¬(a1=0∧a2=0∧a3=0)):0<pgcd a1 a2 a3:=by
 have h0:0≤pgcd a1 a2 a3:=Int.natCast_nonneg _
 have hd:=rat_pden (zM9 a1 a2 a3)
 rcases Int.lt_or_le 0 (pgcd a1 a2 a3) with h1 | h1
 ·exact h1
 ·exfalso
  apply h
  have e:pgcd a1 a2 a3=0:=by omega
  unfold pgcd at e
  have e1:=Int.gcd_eq_zero_iff.1 (Int.natCast_eq_zero.1 e)
  have e2:=Int.gcd_eq_zero_iff.1 (Int.natCast_eq_zero.1 e1.1)
  have e3:=Int.gcd_eq_zero_iff.1 (Int.natCast_eq_zero.1 e2.1)
  have z:∀ a:Rat,(Rat.divInt (pden a1 a2 a3) 1*a).num=0→a=0:=fun a ha=>by
   rw [Rat.num_eq_zero] at ha
   rcases Rat.mul_eq_zero.1 ha with h2 | h2
   ·exact absurd h2 hd
   ·exact h2
  exact ⟨z _ e3.2,z _ e2.2,z _ e1.2⟩
def prim (a1 a2 a3 x:Rat):Rat:=Rat.divInt 1 (pgcd a1 a2 a3)*(Rat.divInt (pden a1 a2 a3) 1*x)
theorem zW0 {a1 a2 a3:Rat}:(zR5 a1 a2 a3 0 0 0==(0:Int))=true↔(a1=0∧a2=0∧a3=0):=by rw [beq_iff_eq,zU1]
theorem zu4 {a1 a2 a3:Rat}:(zR5 a1 a2 a3 0 0 0==(0:Int))=false↔¬(a1=0∧a2=0∧a3=0):=by rw [← zW0];simp
def ile:Int→Int→Bool
 | .ofNat a,.ofNat b=>Nat.ble a b
 | .negSucc _,.ofNat _=>true
 | .ofNat _,.negSucc _=>false
 | .negSucc a,.negSucc b=>Nat.ble b a
theorem zg4 (a b:Int):ile a b=decide (a≤b):=by
 rw [Bool.eq_iff_iff,decide_eq_true_eq]
 cases a<;>cases b<;>simp only [ile,Nat.ble_eq]<;>(try simp)<;>omega
def ilt (a b:Int):Bool:=!ile b a
theorem zv1 (a b:Int):ilt a b=decide (a<b):=by
 unfold ilt
 rw [zg4,Bool.eq_iff_iff]
 simp
def kmin:IntKind→Int
 | .i8=>-128 | .i16=>-32768 | .i32=>-2147483648 | .i64=>-9223372036854775808 | _=>0
def kmax:IntKind→Int
 | .i8=>127 | .i16=>32767 | .i32=>2147483647 | .i64=>9223372036854775807
 | .u8=>255 | .u16=>65535 | .u32=>4294967295 | .u64=>18446744073709551615
theorem wrap_in (k:IntKind) (z:Int):(kmin k≤z→z≤kmax k→k.wrap z=z)∧kmin k≤k.wrap z∧k.wrap z≤kmax k:=by
 cases k<;>simp only [IntKind.wrap,IntKind.bits,IntKind.signed,kmin,kmax]<;>simp<;>first | omega | (split<;>omega)
def wr (k:IntKind) (z lo hi:Int):Cl:=if ile (kmin k) lo&&ile hi (kmax k) then .ci k z lo hi else .ci k (k.wrap z) (kmin k) (kmax k)
theorem wr_ok {k:IntKind} {z lo hi:Int} (h0:lo≤z) (h1:z≤hi) (n:Nn) (X:Env) (W:World):(wr k z lo hi).den X=.int k (k.wrap z)∧(wr k z lo hi).ok n X W:=by
 have h:=wrap_in k z
 unfold wr
 split
 ·rename_i hc
  simp only [zg4,Bool.and_eq_true,decide_eq_true_eq] at hc
  rw [h.1 (Int.le_trans hc.1 h0) (Int.le_trans h1 hc.2)]
  exact ⟨rfl,rfl,h0,h1⟩
 ·exact ⟨rfl,rfl,h.2⟩
def ltD (la ha lc hc:Int):Option Bool:=if ilt ha lc then some true else if ile hc la then some false else none
theorem ltD_ok {a c la ha lc hc:Int} (h0:la≤a∧a≤ha) (h1:lc≤c∧c≤hc):∀ v,ltD la ha lc hc=some v→decide (a<c)=v:=by
 intro v hv
 unfold ltD at hv
 split at hv
 ·cases hv;rename_i h;simp only [zv1,decide_eq_true_eq] at*;omega
 ·split at hv
  ·cases hv;rename_i h;simp only [zg4,zv1,decide_eq_true_eq,decide_eq_false_iff_not] at*;omega
  ·cases hv
def leD (la ha lc hc:Int):Option Bool:=if ile ha lc then some true else if ilt hc la then some false else none
theorem leD_ok {a c la ha lc hc:Int} (h0:la≤a∧a≤ha) (h1:lc≤c∧c≤hc):∀ v,leD la ha lc hc=some v→decide (a≤c)=v:=by
 intro v hv
 unfold leD at hv
 split at hv
 ·cases hv;rename_i h;simp only [zg4,decide_eq_true_eq] at*;omega
 ·split at hv
  ·cases hv;rename_i h;simp only [zg4,zv1,decide_eq_true_eq,decide_eq_false_iff_not] at*;omega
  ·cases hv
def eqD (la ha lc hc:Int):Option Bool:=if ile ha lc&&ile hc la then some true else if ilt ha lc||ilt hc la then some false else none
theorem eqD_ok {a c la ha lc hc:Int} (h0:la≤a∧a≤ha) (h1:lc≤c∧c≤hc):∀ v,eqD la ha lc hc=some v→(a==c)=v:=by
 intro v hv
 unfold eqD at hv
 split at hv
 ·cases hv;rename_i h;simp only [zg4,Bool.and_eq_true,decide_eq_true_eq] at h;rw [beq_iff_eq];omega
 ·split at hv
  ·cases hv;rename_i h;simp only [zv1,Bool.or_eq_true,decide_eq_true_eq] at h;rw [beq_eq_false_iff_ne];omega
  ·cases hv
def notD (d:Option Bool):Option Bool:=match d with | some v=>some (!v) | none=>none
theorem zJ1 {t:Bool} {d:Option Bool} (h:∀ v,d=some v→t=v):∀ v,notD d=some v→(!t)=v:=by
 intro v hv
 unfold notD at hv
 split at hv
 ·cases hv;rw [h _ rfl]
 ·cases hv
def min4 (a b c d:Int):Int:=min (min a b) (min c d)
def max4 (a b c d:Int):Int:=max (max a b) (max c d)
theorem zJ2 {x c lc hc:Int} (h:lc≤c∧c≤hc):min (x*lc) (x*hc)≤x*c∧x*c≤max (x*lc) (x*hc):=by
 rcases Int.le_total 0 x with hx | hx
 ·have a:=Int.mul_le_mul_of_nonneg_left h.1 hx
  have b:=Int.mul_le_mul_of_nonneg_left h.2 hx
  omega
 ·have a:=Int.mul_le_mul_of_nonpos_left hx h.1
  have b:=Int.mul_le_mul_of_nonpos_left hx h.2
  omega
theorem mul_in {a c la ha lc hc:Int} (h0:la≤a∧a≤ha) (h1:lc≤c∧c≤hc):min4 (la*lc) (la*hc) (ha*lc) (ha*hc)≤a*c∧a*c≤max4 (la*lc) (la*hc) (ha*lc) (ha*hc):=by
 have e:=zJ2 (x:=a) h1
 have f1:=zJ2 (x:=lc) h0
 have f2:=zJ2 (x:=hc) h0
 rw [Int.mul_comm lc la,Int.mul_comm lc ha,Int.mul_comm lc a] at f1
 rw [Int.mul_comm hc la,Int.mul_comm hc ha,Int.mul_comm hc a] at f2
 unfold min4 max4
 omega
def cI (c:Cl):Option SV:=some (.so (.vc c))
def xMul (k:IntKind) (a la ha c lc hc:Int):Option SV:=cI (wr k (a*c) (min4 (la*lc) (la*hc) (ha*lc) (ha*hc)) (max4 (la*lc) (la*hc) (ha*lc) (ha*hc)))
def isL (lo hi:Int):Bool:=ile hi lo
theorem zN5 {z lo hi:Int} (h:isL lo hi=true) (h0:lo≤z∧z≤hi):z=lo:=by
 unfold isL at h
 rw [zg4,decide_eq_true_eq] at h
 omega
def xQuo (k:IntKind) (_a la ha _c lc hc:Int):Option SV:=if isL la ha&&isL lc hc&&ilt 0 lc&&ile 0 la then cI (wr k (la/lc) (la/lc) (la/lc)) else none
def xRem (k:IntKind) (a la ha c lc hc:Int):Option SV:=if ilt 0 lc then (if isL la ha&&isL lc hc&&ile 0 la then cI (.ci k (la % lc) (la % lc) (la % lc)) else if ile 0 la then cI (.ci k (a % c) 0 (hc - 1)) else cI (.ci k (Int.tmod a c) (1 - hc) (hc - 1))) else none
def xInt (op:BinOp) (k:IntKind) (a la ha c lc hc:Int):Option SV:=
 match op with
 | .add=>cI (wr k (a+c) (la+lc) (ha+hc))
 | .sub=>cI (wr k (a - c) (la - hc) (ha - lc))
 | .mul=>xMul k a la ha c lc hc
 | .eql=>cI (.cb (a==c) (eqD la ha lc hc))
 | .neq=>cI (.cb (a !=c) (notD (eqD la ha lc hc)))
 | .lss=>cI (.cb (decide (a<c)) (ltD la ha lc hc))
 | .leq=>cI (.cb (decide (a≤c)) (leD la ha lc hc))
 | .gtr=>cI (.cb (decide (c<a)) (ltD lc hc la ha))
 | .geq=>cI (.cb (decide (c≤a)) (leD lc hc la ha))
 | .rem=>xRem k a la ha c lc hc
 | .quo=>xQuo k a la ha c lc hc
 | _=>none

section
variable {P:Program} {o:Oper} {n:Nn} {X:Env} {W V:World} {fr:List SV}
theorem rv_int {a:Act} (op:BinOp) (t t2:TypeId) (x y:Operand) (k:IntKind) (A B:Int) (hop:o.op=.binOp op t x y t2) (hx:a.eval x=.int k A) (hy:a.eval y=.int k B) (s:SV)
  (la ha lc hc:Int) (h0:la≤A∧A≤ha) (h1:lc≤B∧B≤hc) (h:xInt op k A la ha B lc hc=some s):RunV P a o V (s.den X)∧s.ok n X W:=by
 have hw:=fun (z:Int) (p q:Int) (hp:p≤z) (hq:z≤q)=>wr_ok (k:=k) hp hq n X W
 unfold RunV execOp
 simp only [hop,hx,hy]
 cases op<;>simp only [xInt,xMul,xRem,xQuo,cI,reduceCtorEq,Option.some.injEq] at h
 case add=>subst h;have:=hw (A+B) _ _ (Int.add_le_add h0.1 h1.1) (Int.add_le_add h0.2 h1.2);exact ⟨by simp [go_sem,binOp,eqGuard,Op.intArith,SV.den,TV.den,this.1],this.2⟩
 case sub=>subst h;have:=hw (A - B) (la - hc) (ha - lc) (by omega) (by omega);exact ⟨by simp [go_sem,binOp,eqGuard,Op.intArith,SV.den,TV.den,this.1],this.2⟩
 case mul=>subst h;have hm:=mul_in h0 h1;have:=hw (A*B) _ _ hm.1 hm.2;exact ⟨by simp [go_sem,binOp,eqGuard,Op.intArith,SV.den,TV.den,this.1],this.2⟩
 case eql=>subst h;exact ⟨by simp [go_sem,binOp,eqGuard,Op.intCmp,SV.den,TV.den,Cl.den],rfl,eqD_ok h0 h1⟩
 case neq=>subst h;exact ⟨by simp [go_sem,binOp,eqGuard,Op.intCmp,SV.den,TV.den,Cl.den],rfl,zJ1 (eqD_ok h0 h1)⟩
 case lss=>subst h;exact ⟨by simp [go_sem,binOp,eqGuard,Op.intCmp,SV.den,TV.den,Cl.den],rfl,ltD_ok h0 h1⟩
 case leq=>subst h;exact ⟨by simp [go_sem,binOp,eqGuard,Op.intCmp,SV.den,TV.den,Cl.den],rfl,leD_ok h0 h1⟩
 case gtr=>subst h;exact ⟨by simp [go_sem,binOp,eqGuard,Op.intCmp,SV.den,TV.den,Cl.den],rfl,ltD_ok h1 h0⟩
 case geq=>subst h;exact ⟨by simp [go_sem,binOp,eqGuard,Op.intCmp,SV.den,TV.den,Cl.den],rfl,leD_ok h1 h0⟩
 case rem=>
  split at h
  ·rename_i hB
   simp only [zv1,decide_eq_true_eq] at hB
   have hb:¬ B=0:=by omega
   have hB':0<B:=by omega
   split at h
   ·rename_i hl
    simp only [Bool.and_eq_true,zg4,decide_eq_true_eq] at hl
    cases h
    have e1:=zN5 hl.1.1 h0
    have e2:=zN5 hl.1.2 h1
    subst e1 e2
    have e:Int.tmod A B=A % B:=Int.tmod_eq_emod_of_nonneg hl.2
    exact ⟨by simp [go_sem,binOp,eqGuard,Op.intDiv,SV.den,TV.den,Cl.den,hb,e],rfl,Int.le_refl _,Int.le_refl _⟩
   split at h
   ·rename_i hA
    simp only [zg4,decide_eq_true_eq] at hA
    cases h
    have e:Int.tmod A B=A % B:=Int.tmod_eq_emod_of_nonneg (by omega)
    have e1:=Int.emod_nonneg A hb
    have e2:=Int.emod_lt_of_pos A hB'
    exact ⟨by simp [go_sem,binOp,eqGuard,Op.intDiv,SV.den,TV.den,Cl.den,hb,e],rfl,e1,by omega⟩
   ·cases h
    have e1:=Int.lt_tmod_of_pos A hB'
    have e2:=Int.tmod_lt_of_pos A hB'
    exact ⟨by simp [go_sem,binOp,eqGuard,Op.intDiv,SV.den,TV.den,Cl.den,hb],rfl,by omega,by omega⟩
  ·cases h
 case quo=>
  split at h
  ·rename_i hl
   simp only [Bool.and_eq_true,zg4,zv1,decide_eq_true_eq] at hl
   obtain ⟨⟨⟨l1,l2⟩,l3⟩,l4⟩:=hl
   cases h
   have e1:=zN5 l1 h0
   have e2:=zN5 l2 h1
   subst e1 e2
   have hb:¬ B=0:=by omega
   have e:Int.tdiv A B=A/B:=Int.tdiv_eq_ediv_of_nonneg l4
   have:=hw (A/B) _ _ (Int.le_refl _) (Int.le_refl _)
   exact ⟨by simp [go_sem,binOp,eqGuard,Op.intDiv,SV.den,TV.den,hb,e,this.1],this.2⟩
  ·cases h
end
theorem zk5 (b off k:Nat):(⟨b,off,none⟩:Addr).add k=⟨b,off+k,none⟩:=by
 unfold Addr.add
 split
 ·rename_i h;subst h;rfl
 ·rfl
def SV.cells:SV→Option (List Cl)
 | .so (.vc c)=>some [c]
 | .so (.vg l)=>some l
 | _=>none
theorem zY7 {v:Value} (h:v.oneCell'=true):v.cells=#[v]:=by
 cases v<;>first | rfl | cases h
theorem SV.cells_ok {n:Nn} {X:Env} {W:World} {s:SV} {l:List Cl} (h:s.cells=some l) (hs:s.ok n X W):(s.den X).cells=dnL X l∧okL n X W l:=by
 unfold SV.cells at h
 split at h
 ·cases h
  refine ⟨?_,fun c hc=>?_⟩
  ·show (Cl.den X _).cells=_
   rw [zY7 (Cl.one hs)]
   simp [dnL]
  ·rw [List.mem_singleton] at hc;exact hc ▸ hs
 ·cases h;exact ⟨rfl,hs⟩
 ·cases h
def zn5 (cs:List Cl) (off:Nat) (v:List Cl):List Cl:=cs.take off++(v++cs.drop (off+v.length))
theorem zy6 {n:Nn} {X:Env} {W:World} {cs v:List Cl} (h:okL n X W cs) (hv:okL n X W v) (off:Nat):okL n X W (zn5 cs off v):=fun c hc=>by
 unfold zn5 at hc
 rcases List.mem_append.1 hc with hc | hc
 ·exact h c (List.mem_of_mem_take hc)
 ·rcases List.mem_append.1 hc with hc | hc
  ·exact hv c hc
  ·exact h c (List.mem_of_mem_drop hc)
theorem zB0 {α:Type} (cs:List α) (i:Nat) (x:α) (vs:List α) (h:i<cs.length):(cs.set i x).take (i+1)++(vs++(cs.set i x).drop (i+1+vs.length))=cs.take i++(x::vs++cs.drop (i+(vs.length+1))):=by
 have h1:(cs.set i x).take (i+1)=cs.take i++[x]:=by
  rw [List.take_add_one,List.take_set_of_le (Nat.le_refl i),List.getElem?_set_self h];rfl
 have h2:(cs.set i x).drop (i+1+vs.length)=cs.drop (i+(vs.length+1)):=by
  rw [List.drop_set_of_lt (by omega)];congr 1;omega
 rw [h1,h2];simp
theorem zy7:∀ (vs cs:List Value) (off:Nat),off+vs.length≤cs.length→zd8 cs.toArray off vs=(cs.take off++(vs++cs.drop (off+vs.length))).toArray
 | [],cs,off,_=>by simp [zd8]
 | v::vs,cs,off,h=>by
  simp only [List.length_cons] at h
  unfold zd8
  rw [List.setIfInBounds_toArray,zy7 vs (cs.set off v) (off+1) (by simp only [List.length_set];omega),zB0 cs off v vs (by omega)]
  rfl
theorem zy8 (off:Nat):∀ (vs:List Value) (k:Nat) (cs:Array Value),(vs.zipIdx k).foldl (fun cs (x:Value × Nat)=>cs.setIfInBounds (off+x.2) x.1) cs=zd8 cs (off+k) vs
 | [],_,_=>rfl
 | v::vs,k,cs=>by
  rw [List.zipIdx_cons,List.foldl_cons,zy8 off vs (k+1)]
  rfl
theorem zy9 {X:Env} {cs v:List Cl} {off:Nat} (h:off+v.length≤cs.length):zd8 (dnL X cs) off (v.map (Cl.den X))=dnL X (zn5 cs off v):=by
 unfold dnL zn5
 rw [zy7 _ _ _ (by simpa using h)]
 simp [List.map_take,List.map_drop]
def zJ3 (place:Nat→Option (Nat × Nat)) (cs:List Cl):List (Nat × List Cl)→Option (List Cl)
 | []=>some cs
 | (i,v)::r=>match place i with
  | none=>none
  | some (off,size)=>if Nat.beq v.length size&&Nat.ble (off+v.length) cs.length then zJ3 place (zn5 cs off v) r else none
theorem zJ4 {n:Nn} {X:Env} {W:World} {place:Nat→Option (Nat × Nat)}:∀ {ps:List (Nat × List Cl)} {vs:List (Nat × Value)} {cs r:List Cl},zJ3 place cs ps=some r→okL n X W cs→
  ps.length=vs.length→(∀ (j i:Nat) (l:List Cl) (i':Nat) (v:Value),ps[j]?=some (i,l)→vs[j]?=some (i',v)→i=i'∧v.cells=dnL X l∧okL n X W l)→Instr.fill place (dnL X cs) vs=some (dnL X r)∧okL n X W r
 | [],[],cs,r,h,hc,_,_=>by cases h;exact ⟨rfl,hc⟩
 | (i,l)::ps,(i',v)::vs,cs,r,h,hc,hl,hv=>by
  obtain ⟨rfl,h1,h2⟩:=hv 0 i l i' v rfl rfl
  unfold zJ3 at h
  unfold Instr.fill
  split at h
  ·cases h
  ·rename_i off size hp
   split at h
   ·rename_i hh
    simp only [Bool.and_eq_true,Nat.beq_eq,Nat.ble_eq] at hh
    have hs:v.cells.size=l.length:=by rw [h1];simp [dnL]
    have hn:¬ (decide (v.cells.size≠size)||decide (off+v.cells.size>(dnL X cs).size))=true:=by
     have:(dnL X cs).size=cs.length:=by simp [dnL]
     simp only [Bool.or_eq_true,decide_eq_true_eq,not_or]
     omega
    simp only [hp]
    rw [if_neg hn]
    have hf:(v.cells.zipIdx.foldl (fun cs (x:Value × Nat)=>cs.setIfInBounds (off+x.2) x.1) (dnL X cs))=dnL X (zn5 cs off l):=by
     rw [h1,← zy9 (X:=X) hh.2]
     have:=zy8 off (l.map (Cl.den X)) 0 (dnL X cs)
     simpa [dnL] using this
    have e:∀ (f:Array Value→Value × Nat→Array Value),(∀ cs c j,f cs (c,j)=cs.setIfInBounds (off+j) c)→v.cells.zipIdx.foldl f (dnL X cs)=dnL X (zn5 cs off l):=fun f hf'=>by
     rw [← hf]
     congr 1
     funext cs x
     exact hf' cs x.1 x.2
    rw [e _ (fun _ _ _=>rfl)]
    exact zJ4 h (zy6 hc h2 off) (by simpa using hl) (fun j i l i' v hj hj'=>hv (j+1) i l i' v hj hj')
   ·cases h
 | [],_::_,_,_,_,_,hl,_=>by cases hl
 | _::_,[],_,_,_,_,hl,_=>by cases hl
noncomputable def zv2 (fr:List SV):List (Nat × Operand)→Option (List (Nat × List Cl))
 | []=>some []
 | (i,x)::r=>match ev fr x,zv2 fr r with
  | some s,some l=>match s.cells with
   | some c=>some ((i,c)::l)
   | none=>none
  | _,_=>none
theorem zp7 {n:Nn} {X:Env} {W:World} {fr:List SV} (hf:okF n X W fr):∀ {ps:List (Nat × Operand)} {l:List (Nat × List Cl)},zv2 fr ps=some l→
  l.length=(ps.map fun x=>(x.1,(za4 X fr).eval x.2)).length∧(∀ (j i:Nat) (c:List Cl) (i':Nat) (v:Value),l[j]?=some (i,c)→(ps.map fun x=>(x.1,(za4 X fr).eval x.2))[j]?=some (i',v)→i=i'∧v.cells=dnL X c∧okL n X W c)
 | [],l,h=>by cases h;exact ⟨rfl,fun j _ _ _ _ hj=>by cases hj⟩
 | (i,x)::r,l,h=>by
  unfold zv2 at h
  split at h
  ·rename_i s l' h1 h2
   split at h
   ·rename_i c hc
    cases h
    have ih:=zp7 hf h2
    have he:=zb4 h1 hf
    have hs:=SV.cells_ok hc he.2
    refine ⟨by simpa using ih.1,fun j i c i' v hj hj'=>?_⟩
    cases j with
    | zero=>simp only [List.getElem?_cons_zero,Option.some.injEq,Prod.mk.injEq,List.map_cons] at hj hj';obtain ⟨rfl,rfl⟩:=hj;obtain ⟨rfl,rfl⟩:=hj';exact ⟨rfl,by rw [he.1];exact hs.1,hs.2⟩
    | succ j=>exact ih.2 j i c i' v hj hj'
   ·cases h
  ·cases h
noncomputable def gI (l:Option (List Cl)):Option SV:=match l with | some l=>frcL l fun l=>some (.so (.vg l)) | none=>none
def zm1 (z:Option Value):Option (List Cl):=match z with | some z=>zY4 z.cells.toList | none=>none
noncomputable def zY8 (P:Program) (fr:List SV) (t:TypeId) (parts:List (Nat × Operand)):Option SV:=
 match P.info? t,P.underlying t with
 | some it,some (.array _ e)=>match zm1 it.zero,P.info? e,zv2 fr parts with
  | some z,some ie,some ps=>gI (zJ3 (fun i=>some (i*ie.size,ie.size)) z ps)
  | _,_,_=>none
 | some it,some (.struct fields)=>match zm1 it.zero,fields.toList.mapM (fun f=>(P.info? f.type).map fun i=>(f.offset,i.size)),zv2 fr parts with
  | some z,some places,some ps=>gI (zJ3 (places.toArray[·]?) z ps)
  | _,_,_=>none
 | _,_=>none
noncomputable def zY9 (P:Program) (t:TypeId) (l:List Cl) (off:Nat):Option SV:=
 match zc9 P t with
 | some n=>if Nat.ble (off+n) l.length then frcL ((l.drop off).take n) fun r=>some (.so (.vg r)) else none
 | none=>if zi3 P t then (match nth l off with | some c=>some (.so (.vc c)) | none=>none) else none
def lit1 (lo hi:Int) (len:Nat):Option Nat:=if ile hi lo&&ile 0 lo&&ilt lo len then some lo.toNat else none
noncomputable def caps:List Operand→List SV→Option (List (Nat × Nat))
 | [],_=>some []
 | x::r,fr=>match ev fr x,caps r fr with
  | some (.so (.vc (.cp j o))),some l=>some ((j,o)::l)
  | _,_=>none
def zJ5:List Cl→Option (List (List UInt8))
 | []=>some []
 | .cw l _::r=>match zJ5 r with | some m=>some (l::m) | none=>none
 | .ct l::r=>match zJ5 r with | some m=>some (l::m) | none=>none
 | _=>none
def zZ0 (k:IntKind):List Cl→Option (List Int)
 | []=>some []
 | .ci k' z _ _::r=>if k=k' then (match zZ0 k r with | some m=>some (z::m) | none=>none) else none
 | _=>none
def bI (op:BinOp) (t:Bool) (d:Option Bool):Option SV:=match op with
 | .eql=>cI (.cb t d)
 | .neq=>cI (.cb (!t) (notD d))
 | _=>none
def xBinG (P:Program) (op:BinOp) (t:TypeId) (l m:List Cl):Option SV:=
 if P.eqGuardType P.depth t then none else match P.underlying t with
  | some (.array n e)=>match P.underlying e with
   | some .string=>match zJ5 l,zJ5 m with
    | some x,some y=>if Nat.beq x.length n&&Nat.beq y.length n&&(P.info? e).isSome&&Nat.beq (P.cellsOf e) 1&&P.plainKey e then bI op (sEq x y) none else none
    | _,_=>none
   | some (.int k)=>match zZ0 k l,zZ0 k m with
    | some x,some y=>if Nat.beq x.length n&&Nat.beq y.length n&&(P.info? e).isSome&&Nat.beq (P.cellsOf e) 1&&P.plainKey e then bI op (zC4 x y) none else none
    | _,_=>none
   | _=>none
  | some (.struct _)=>if plcT P t then (match l,m with
   | [.ci .i64 z0 _ _,.ci .i64 z1 _ _,.ci .i64 z2 _ _,.ci .i64 z3 _ _,.cw X0 _,.cw X1 _,.cw X2 _],[.ci .i64 y0 _ _,.ci .i64 y1 _ _,.ci .i64 y2 _ _,.ci .i64 y3 _ _,.cw Y0 _,.cw Y1 _,.cw Y2 _]=>bI op (zi9 [z0,z1,z2,z3] [y0,y1,y2,y3]&&sEq [X0,X1,X2] [Y0,Y1,Y2]) none
   | _,_=>none) else none
  | _=>none
def xBin (P:Program) (op:BinOp) (t:TypeId):SV→SV→Option SV
 | .so (.vc (.ci k a la ha)),.so (.vc (.ci k' c lc hc))=>if k=k' then xInt op k a la ha c lc hc else none
 | .so (.vc (.cw l _)),.so (.vc (.cw m _))=>bI op (l==m) none
 | .so (.vc (.cb a d)),.so (.vc (.cb b e))=>match P.underlying t with
  | some .bool=>bI op (a==b) (match d,e with | some a,some b=>some (a==b) | _,_=>none)
  | _=>none
 | .so (.vg l),.so (.vg m)=>xBinG P op t l m
 | _,_=>none
noncomputable def zZ1 (P:Program) (t:TypeId) (f:Nat):Option SV→Option SV
 | some (.so (.vc (.cp j off)))=>match P.underlying t with
  | some (.struct fs)=>match nth fs.toList f with
   | some fd=>match P.info? fd.type with
    | some i=>if Nat.beq i.size 0 then none else cI (.cp j (off+fd.offset))
    | none=>none
   | none=>none
  | _=>none
 | _=>none
noncomputable def xIdxA (P:Program) (t:TypeId):Option SV→Option SV→Option SV
 | some (.so (.vc (.cp j off))),some (.so (.vc (.ci _ _ lo hi)))=>match P.underlying t with
  | some (.array len e)=>match lit1 lo hi len,P.info? e with
   | some k,some i=>cI (.cp j (off+k*i.size))
   | _,_=>none
  | _=>none
 | some (.so (.vc (.cs j off len _))),some (.so (.vc (.ci _ _ lo hi)))=>match P.underlying t with
  | some (.slice e)=>match lit1 lo hi len,P.info? e with
   | some k,some i=>cI (.cp j (off+k*i.size))
   | _,_=>none
  | _=>none
 | some (.fs v len c xs),some (.so (.vc (.ci _ _ lo hi)))=>match P.underlying t with
  | some (.slice e)=>match lit1 lo hi len,P.info? e with
   | some k,some i=>if Nat.beq i.size c then (match nth xs k with
    | some cs=>some (.fa v (k*c) cs)
    | none=>none) else none
   | _,_=>none
  | _=>none
 | _,_=>none
noncomputable def xLoad (P:Program) (can:Nat→Bool) (bl:List (Nat × List Cl)) (t:TypeId):Option SV→Option SV
 | some (.so (.vc (.cp j off)))=>if can j then (match nth bl j with
  | some (_,cs)=>zY9 P t cs off
  | none=>none) else none
 | some (.fa _ _ cs)=>match zc9 P t with
  | some n=>if Nat.beq n cs.length then some (.so (.vg cs)) else none
  | none=>none
 | _=>none
noncomputable def xExtr (i:Nat):Option SV→Option SV
 | some (.st l)=>match nth l i with
  | some v=>some (.so v)
  | none=>none
 | _=>none
noncomputable def xField (P:Program) (t:TypeId) (f:Nat):Option SV→Option SV
 | some (.so (.vg l))=>match P.underlying t with
  | some (.struct fs)=>match nth fs.toList f with
   | some fd=>zY9 P fd.type l fd.offset
   | none=>none
  | _=>none
 | _=>none
noncomputable def xIdx (P:Program) (t:TypeId):Option SV→Option SV→Option SV
 | some (.so (.vg l)),some (.so (.vc (.ci _ _ lo hi)))=>match P.underlying t with
  | some (.array len e)=>match lit1 lo hi len,P.info? e with
   | some k,some i=>zY9 P e l (k*i.size)
   | _,_=>none
  | _=>none
 | _,_=>none
noncomputable def xPick (fr:List SV) (a b:Operand):Option SV→Option SV
 | some (.so (.vc (.cb _ (some true))))=>ev fr a
 | some (.so (.vc (.cb _ (some false))))=>ev fr b
 | _=>none
def xUn:UnOp→Option SV→Option SV
 | .not,some (.so (.vc (.cb t d)))=>cI (.cb (!t) (notD d))
 | .neg,some (.so (.vc (.ci k z lo hi)))=>cI (wr k (0 - z) (0 - hi) (0 - lo))
 | _,_=>none
def xConv (P:Program) (s d:TypeId):Option SV→Option SV
 | some (.so (.vc (.ci _ z lo hi)))=>match P.underlying s,P.underlying d with
  | some _,some (.int k)=>cI (wr k z lo hi)
  | _,_=>none
 | some (.so (.vc (.cw l e)))=>match P.underlying s,P.underlying d with
  | some _,some .string=>cI (.cw l e)
  | _,_=>none
 | some (.so (.vc (.ct l)))=>match P.underlying s,P.underlying d with
  | some _,some .string=>cI (.ct l)
  | _,_=>none
 | _=>none
def xSlc (P:Program) (t:TypeId):Option SV→Option SV
 | some (.so (.vc (.cp j off)))=>match P.underlying t with
  | some (.array len e)=>if (P.info? e).isSome then cI (.cs j off len len) else none
  | _=>none
 | _=>none
noncomputable def oB (fr:List SV) (d:Nat):Option Operand→Nat→Option Nat
 | none,_=>some d
 | some y,m=>match ev fr y with
  | some (.so (.vc (.ci _ _ lo hi)))=>lit1 lo hi (m+1)
  | _=>none
noncomputable def xSlc2 (P:Program) (fr:List SV) (t:TypeId) (lo hi:Option Operand):Option SV→Option SV
 | some (.so (.vc (.cs j off len cap)))=>match P.underlying t with
  | some (.slice e)=>match oB fr len hi cap with
   | some h=>match oB fr 0 lo h,P.info? e with
    | some l,some i=>if Nat.blt l cap then cI (.cs j (off+l*i.size) (h - l) (cap - l)) else none
    | _,_=>none
   | none=>none
  | _=>none
 | _=>none
def xArr (P:Program) (t:TypeId):Option SV→Option SV
 | some (.so (.vc (.cs j off len _)))=>match P.underlying t with
  | some (.array n _)=>if Nat.ble n len then cI (.cp j off) else none
  | _=>none
 | _=>none
noncomputable def xMkF (fr:List SV) (fn:Nat) (first captured:Array Operand):Option SV:=if first.isEmpty then (match caps captured.toList fr with
 | some l=>cI (.cf fn l)
 | none=>none) else none
def xLen (P:Program):Option TypeId→Option SV→Option SV
 | some t,some v=>match P.underlying t with
  | some (.slice _)=>match v with
   | .so (.vc (.cs _ _ len _))=>cI (.ci .i64 len len len)
   | .so (.vc (.cv (.slice none 0 0)))=>cI (.ci .i64 0 0 0)
   | .fs _ len _ _=>cI (.ci .i64 len len len)
   | _=>none
  | some (.array len _)=>cI (.ci .i64 len len len)
  | some .string=>match v with
   | .so (.vc (.cw l (some (k,_))))=>cI (.ci .i64 l.length 0 (2*k+5:Nat))
   | .so (.vc (.cw l none))=>cI (.ci .i64 l.length l.length l.length)
   | .so (.vc (.ct l))=>cI (.ci .i64 l.length 0 9223372036854775807)
   | _=>none
  | _=>none
 | _,_=>none
def xMax:Option SV→Option SV→Option SV
 | some (.so (.vc (.ci k a la ha))),some (.so (.vc (.ci _ c lc hc)))=>cI (.ci k (if c>a then c else a) (max la lc) (max ha hc))
 | _,_=>none
def xMin:Option SV→Option SV→Option SV
 | some (.so (.vc (.ci k a la ha))),some (.so (.vc (.ci _ c lc hc)))=>cI (.ci k (if c<a then c else a) (min la lc) (min ha hc))
 | _,_=>none
noncomputable def xBi (P:Program) (fr:List SV) (c:Call):Builtin→List Operand→Option SV
 | .len,[x]=>xLen P c.argTypes[0]? (ev fr x)
 | .max,[x,y]=>xMax (ev fr x) (ev fr y)
 | .min,[x,y]=>xMin (ev fr x) (ev fr y)
 | _,_=>none
def xBin2 (P:Program) (op:BinOp) (t:TypeId):Option SV→Option SV→Option SV
 | some a,some b=>xBin P op t a b
 | _,_=>none
noncomputable def xPure (P:Program) (can:Nat→Bool) (fr:List SV) (bl:List (Nat × List Cl)) (o:Oper):Option SV:=
 match o.op with
 | .move x | .assign x=>ev fr x
 | .fieldAddr t x f=>zZ1 P t f (ev fr x)
 | .indexAddr t x y=>xIdxA P t (ev fr x) (ev fr y)
 | .load t x=>xLoad P can bl t (ev fr x)
 | .build t parts=>zY8 P fr t parts.toList
 | .extract x i=>xExtr i (ev fr x)
 | .field t x f=>xField P t f (ev fr x)
 | .index t x y=>xIdx P t (ev fr x) (ev fr y)
 | .pick c a b=>xPick fr a b (ev fr c)
 | .binOp op t x y _=>xBin2 P op t (ev fr x) (ev fr y)
 | .unOp op _ x=>xUn op (ev fr x)
 | .convert s d x=>xConv P s d (ev fr x)
 | .slice t x none none none=>match ev fr x with
  | some (.so (.vc (.cs j off len cap)))=>xSlc2 P fr t none none (some (.so (.vc (.cs j off len cap))))
  | v=>xSlc P t v
 | .slice t x lo hi none=>xSlc2 P fr t lo hi (ev fr x)
 | .sliceToArrayPointer t x=>xArr P t (ev fr x)
 | .makeFunc (.func fn) first captured=>xMkF fr fn first captured
 | .call c=>match c.callee with
  | .builtin b=>xBi P fr c b c.args.toList
  | _=>none
 | _=>none

section
variable {P:Program} {o:Oper} {n:Nn} {X:Env} {W V:World} {fr:List SV}
theorem zm2 {z lo hi:Int} {len k:Nat} (h:lit1 lo hi len=some k) (h0:lo≤z∧z≤hi):z=(k:Int)∧k<len:=by
 unfold lit1 at h
 split at h
 ·rename_i hh
  simp only [zg4,zv1,Bool.and_eq_true,decide_eq_true_eq] at hh
  cases h
  omega
 ·cases h
theorem okL_drop {l:List Cl} (h:okL n X W l) (i j:Nat):okL n X W ((l.drop i).take j):=fun c hc=>h c (List.mem_of_mem_drop (List.mem_of_mem_take hc))
theorem zJ6 {t:TypeId} {l:List Cl} {off:Nat} {s:SV} (h:zY9 P t l off=some s) (hl:okL n X W l):(part t (dnL X l) off).run P V=.ok (s.den X) V∧s.ok n X W∧
  ((∃ m,zc9 P t=some m∧off+m≤l.length∧s=.so (.vg ((l.drop off).take m)))∨(zi3 P t=true∧∃ c,l[off]?=some c∧s=.so (.vc c))):=by
 unfold zY9 at h
 split at h
 ·rename_i m hm
  split at h
  ·rename_i hle
   simp only [Nat.ble_eq] at hle
   rw [zp6] at h
   cases h
   refine ⟨?_,okL_drop hl _ _,.inl ⟨m,hm,hle,rfl⟩⟩
   unfold zc9 at hm
   cases hd:P.underlying t with
   | none=>rw [hd] at hm;cases hm
   | some d=>
    rw [hd] at hm
    have hrow:(isAgg t).run P V=.ok true V∧(P.info? t).map (·.size)=some m:=by
     unfold isAgg
     rw [Sem.run_bind,run_underlying hd V]
     cases d<;>first | cases hm | exact ⟨rfl,hm⟩
    obtain ⟨i,hi,hsz⟩:=Option.map_eq_some_iff.1 hrow.2
    simp only [part,Sem.run_bind,hrow.1,Result.andThen_ok]
    simp [sizeOf,typeInfo,hi,hsz,SV.den,TV.den,dnL,List.map_take,List.map_drop,List.take_drop]
  ·cases h
 ·split at h
  ·rename_i h1
   split at h
   ·rename_i c hc
    rw [ze9] at hc
    cases h
    refine ⟨?_,hl c (List.mem_of_getElem? hc),.inr ⟨h1,c,hc,rfl⟩⟩
    unfold zi3 at h1
    cases hd:P.underlying t with
    | none=>rw [hd] at h1;cases h1
    | some d=>
     rw [hd] at h1
     have hagg:(isAgg t).run P V=.ok false V:=by
      unfold isAgg
      rw [Sem.run_bind,run_underlying hd V]
      cases d<;>first | cases h1 | rfl
     have hx:(dnL X l)[off]?=some (c.den X):=by simp [dnL,hc]
     simp only [part,Sem.run_bind,hagg,Result.andThen_ok]
     simp [hx,SV.den,TV.den]
   ·cases h
  ·cases h
end
section
variable {P:Program} {o:Oper} {n:Nn} {X:Env} {W V:World} {fr:List SV}
theorem zm3 {a:Act} {v:Value} {s:Sem Value} (he:execOp a.eval o=(do pure (.value (← s)))) (hs:s.run P V=.ok v V):RunV P a o V v:=by
 unfold RunV
 rw [he]
 simp [hs]
theorem oB_ok (hf:okF n X W fr) {d m k:Nat} {o:Option Operand} (h:oB fr d o m=some k):match o with
  | none=>k=d
  | some y=>∃ kd,(za4 X fr).eval y=.int kd (k:Int)∧k≤m:=by
 cases o with
 | none=>exact (Option.some.inj h).symm
 | some y=>
  simp only [oB] at h
  split at h
  ·rename_i kd z lo hi hv
   have he:=zb4 hv hf
   have hl:=zm2 h he.2.2
   refine ⟨kd,?_,by omega⟩
   rw [he.1,← hl.1];rfl
  ·cases h
theorem zB1 {kd:IntKind} {k m:Nat} (hk:k≤m) (code:BoundsCode):(Instr.sliceBound (.int kd (k:Int)) m code).run P V=.ok k V:=by
 have:(0:Int)≤(k:Int)∧(k:Int)≤(m:Int):=by omega
 simp [Instr.sliceBound,asIntOf,this]
theorem zZ2 (hf:okF n X W fr) {t e:TypeId} {i:TypeInfo} {lo hi:Option Operand} {j off len cap h l:Nat} (ht:P.underlying t=some (.slice e)) (hi':P.info? e=some i) (h1:oB fr len hi cap=some h) (h2:oB fr 0 lo h=some l) (hc:l<cap):
  (Instr.sliceAt t (.slice (some ⟨X.E j,off,none⟩) len cap) (lo.map (za4 X fr).eval) (hi.map (za4 X fr).eval) none).run P V=.ok (.slice (some ⟨X.E j,off+l*i.size,none⟩) (h - l) (cap - l)) V:=by
 have b1:=oB_ok hf h1
 have b2:=oB_ok hf h2
 have hne:¬ cap=l:=by omega
 have hb:(Instr.sliceBounds true len cap (lo.map (za4 X fr).eval) (hi.map (za4 X fr).eval) none).run P V=.ok (l,h,cap) V:=by
  cases hi with
  | none=>
   simp only at b1
   subst b1
   cases lo with
   | none=>simp only at b2;subst b2;simp [Instr.sliceBounds]
   | some y=>obtain ⟨kd,e1,e2⟩:=b2;simp [Instr.sliceBounds,e1,zB1 e2]
  | some x=>
   obtain ⟨kd,e1,e2⟩:=b1
   cases lo with
   | none=>simp only at b2;subst b2;simp [Instr.sliceBounds,e1,zB1 e2]
   | some y=>obtain ⟨aa,e3,e4⟩:=b2;simp [Instr.sliceBounds,e1,zB1 e2,e3,zB1 e4]
 simp [Instr.sliceAt,Instr.slice,run_underlying ht,hb,sizeOf,typeInfo,hi',hne,zk5]
theorem zZ3 (hf:okF n X W fr):∀ {l:List Operand} {r:List (Nat × Nat)},caps l fr=some r→l.map (za4 X fr).eval=r.map X.ptr∧(r.all fun x=>Nat.blt x.1 n.b)=true
 | [],r,h=>by cases h;exact ⟨rfl,rfl⟩
 | x::l,r,h=>by
  unfold caps at h
  split at h
  ·rename_i j o r' h1 h2
   cases h
   have a:=zb4 h1 hf
   have b:=zZ3 hf h2
   refine ⟨?_,?_⟩
   ·rw [List.map_cons,List.map_cons,a.1,b.1];rfl
   ·have:Nat.blt j n.b=true:=a.2.1
    simp only [List.all_cons,Bool.and_eq_true]
    exact ⟨this,b.2⟩
  ·cases h
theorem build_ok (hf:okF n X W fr) {t:TypeId} {parts:Array (Nat × Operand)} {s:SV} (h:zY8 P fr t parts.toList=some s):
  (Instr.build t (parts.map fun (i,x)=>(i,(za4 X fr).eval x))).run P V=.ok (s.den X) V∧s.ok n X W:=by
 have key:∃ r,s=.so (.vg r)∧P.built t (parts.map fun (i,x)=>(i,(za4 X fr).eval x)).toList=some (dnL X r)∧okL n X W r:=by
  unfold zY8 at h
  have hpl:(parts.map fun (i,x)=>(i,(za4 X fr).eval x)).toList=parts.toList.map fun x=>(x.1,(za4 X fr).eval x.2):=by
   rw [Array.toList_map]
  have hz:∀ {z:Option Value} {l:List Cl},zm1 z=some l→∃ v,z=some v∧v.cells=dnL X l∧okL n X W l:=fun {z l} hz=>by
   cases z with
   | none=>cases hz
   | some v=>
    have:=zk4 (l:=v.cells.toList) hz n X W
    exact ⟨v,rfl,by unfold dnL;rw [this.1],this.2⟩
  split at h
  ·rename_i it m e hit hu
   split at h
   ·rename_i z ie ps h1 h2 h3
    obtain ⟨zv,aa,ab,ac⟩:=hz h1
    have hp:=zp7 hf h3
    cases hx:zJ3 (fun i=>some (i*ie.size,ie.size)) z ps with
    | none=>rw [hx] at h;cases h
    | some r=>
     rw [hx] at h
     simp only [gI,zp6] at h
     cases h
     have:=zJ4 (X:=X) hx ac hp.1 hp.2
     refine ⟨r,rfl,?_,this.2⟩
     unfold Program.built
     simp only [hit,hu,aa,h2,hpl,ab]
     exact this.1
   ·cases h
  ·rename_i it fs hit hu
   split at h
   ·rename_i z pl ps h1 h2 h3
    obtain ⟨zv,aa,ab,ac⟩:=hz h1
    have hp:=zp7 hf h3
    cases hx:zJ3 (pl.toArray[·]?) z ps with
    | none=>rw [hx] at h;cases h
    | some r=>
     rw [hx] at h
     simp only [gI,zp6] at h
     cases h
     have:=zJ4 (X:=X) hx ac hp.1 hp.2
     refine ⟨r,rfl,?_,this.2⟩
     unfold Program.built
     simp only [hit,hu,aa,h2,hpl,ab]
     exact this.1
   ·cases h
  ·cases h
 obtain ⟨r,rfl,h1,h2⟩:=key
 exact ⟨run_build V t _ _ h1,h2⟩
theorem zn6 {X:Env}:∀ {l:List Cl} {x:List (List UInt8)},zJ5 l=some x→dnL X l=(x.map fun l=>Value.string ⟨l.toArray⟩).toArray
 | [],x,h=>by cases h;rfl
 | .cw w d::r,x,h=>by
  unfold zJ5 at h
  split at h
  ·rename_i m hm
   cases h
   have:=zn6 (X:=X) hm
   unfold dnL at this ⊢
   rw [List.map_cons,List.map_cons]
   have h2:=congrArg Array.toList this
   simp only at h2
   rw [h2];rfl
  ·cases h
 | .ct w::r,x,h=>by
  unfold zJ5 at h
  split at h
  ·rename_i m hm
   cases h
   have:=zn6 (X:=X) hm
   unfold dnL at this ⊢
   rw [List.map_cons,List.map_cons]
   have h2:=congrArg Array.toList this
   simp only at h2
   rw [h2];rfl
  ·cases h
 | .ci ..::_,_,h | .cb ..::_,_,h | .cr ..::_,_,h | .cz ..::_,_,h | .cp ..::_,_,h | .cs ..::_,_,h | .cf ..::_,_,h | .cv ..::_,_,h=>by cases h
theorem zv3 {X:Env} {k:IntKind}:∀ {l:List Cl} {x:List Int},zZ0 k l=some x→dnL X l=(x.map (Value.int k)).toArray
 | [],x,h=>by cases h;rfl
 | .ci k' z lo hi::r,x,h=>by
  unfold zZ0 at h
  split at h
  ·rename_i hk
   subst hk
   split at h
   ·rename_i m hm
    cases h
    have:=zv3 (X:=X) hm
    unfold dnL at this ⊢
    rw [List.map_cons,List.map_cons]
    have h2:=congrArg Array.toList this
    simp only at h2
    rw [h2];rfl
   ·cases h
  ·cases h
 | .ct ..::_,_,h | .cw ..::_,_,h | .cb ..::_,_,h | .cr ..::_,_,h | .cz ..::_,_,h | .cp ..::_,_,h | .cs ..::_,_,h | .cf ..::_,_,h | .cv ..::_,_,h=>by cases h
theorem zZ4 {op:BinOp} {t:Bool} {d:Option Bool} {s:SV} (h:bI op t d=some s) (hd:∀ v,d=some v→t=v):
  s.ok n X W∧((op=.eql∧s.den X=.bool t)∨(op=.neq∧s.den X=.bool (!t))):=by
 unfold bI cI at h
 split at h
 ·cases h;exact ⟨⟨rfl,hd⟩,.inl ⟨rfl,rfl⟩⟩
 ·cases h;exact ⟨⟨rfl,zJ1 hd⟩,.inr ⟨rfl,rfl⟩⟩
 ·cases h
theorem zF3 {t:TypeId} (d:Nat) (h:P.underlying t=some .bool) (x y:Bool):(Op.equalIn (d+1) t (.bool x) (.bool y)).run P V=.ok (x==y) V:=by
 simp [Op.equalIn,run_underlying h]
theorem zR1 {t:TypeId} (h:P.underlying t=some .bool) (x y:Bool):(Op.equal t (.bool x) (.bool y)).run P V=.ok (x==y) V:=by
 show (Op.equalIn (9999+1) t _ _).run P V=_
 exact zF3 9999 h x y
theorem bin_ok {a:Act} {op:BinOp} {t t2:TypeId} {x y:Operand} (hop:o.op=.binOp op t x y t2) {p q s:SV} (hx:a.eval x=p.den X) (hy:a.eval y=q.den X) (hp:p.ok n X W) (hq:q.ok n X W)
  (h:xBin P op t p q=some s):RunV P a o V (s.den X)∧s.ok n X W:=by
 unfold xBin at h
 split at h
 ·rename_i k A la ha k' B lc hc
  split at h
  ·rename_i hk
   subst hk
   exact rv_int op t t2 x y k A B hop hx hy s la ha lc hc hp.2 hq.2 h
  ·cases h
 ·rename_i l d m e
  have hb:=zZ4 (n:=n) (X:=X) (W:=W) h (fun v hv=>by cases hv)
  refine ⟨?_,hb.1⟩
  rcases hb.2 with ⟨rfl,h2⟩ | ⟨rfl,h2⟩<;>rw [h2]
  ·exact rv_seq t t2 x y l m hop hx hy
  ·exact rv_sne t t2 x y l m hop hx hy
 ·rename_i A d B e
  split at h
  ·rename_i hu
   have hd:∀ v,(match d,e with | some a,some b=>some (a==b) | _,_=>none)=some v→(A==B)=v:=by
    intro v hv
    have h1:=hp.2
    have h2:=hq.2
    cases d with
    | none=>cases hv
    | some d'=>
     cases e with
     | none=>cases hv
     | some e'=>cases hv;rw [h1 d' rfl,h2 e' rfl]
   have hb:=zZ4 (n:=n) (X:=X) (W:=W) h hd
   refine ⟨?_,hb.1⟩
   have he:=zR1 (V:=V) hu A B
   have hx':a.eval x=.bool A:=hx
   have hy':a.eval y=.bool B:=hy
   rcases hb.2 with ⟨rfl,h2⟩ | ⟨rfl,h2⟩<;>rw [h2]<;>unfold RunV execOp<;>simp only [hop,hx',hy']
   ·simp [go_sem,binOp,eqGuard,he]
   ·simp [go_sem,binOp,eqGuard,he]
  ·cases h
 ·rename_i l m
  unfold xBinG at h
  split at h
  ·cases h
  ·rename_i hg
   have hg':P.eqGuardType P.depth t=false:=by simpa using hg
   split at h
   ·rename_i k e hu
    split at h
    ·rename_i hue
     split at h
     ·rename_i A B hA hB
      split at h
      ·rename_i hc
       simp only [Bool.and_eq_true,Nat.beq_eq] at hc
       obtain ⟨⟨⟨⟨c1,c2⟩,c3⟩,c4⟩,c5⟩:=hc
       have hb:=zZ4 (n:=n) (X:=X) (W:=W) h (fun v hv=>by cases hv)
       refine ⟨?_,hb.1⟩
       have hx':a.eval x=.agg (A.map fun l=>Value.string ⟨l.toArray⟩).toArray:=hx.trans (congrArg Value.agg (zn6 hA))
       have hy':a.eval y=.agg (B.map fun l=>Value.string ⟨l.toArray⟩).toArray:=hy.trans (congrArg Value.agg (zn6 hB))
       have h1:(P.underlying t,decide (A.length=B.length))=(some (.array A.length e),true):=by rw [hu,c1,c2];simp
       have h2:(P.underlying e,(P.info? e).isSome,P.cellsOf e,P.plainKey e)=(some .string,true,1,true):=by rw [hue,c3,c4,c5]
       rcases hb.2 with ⟨rfl,h3⟩ | ⟨rfl,h3⟩<;>rw [h3]
       ·exact rv_ssq t t2 e x y A B hop hx' hy' h1 h2 hg'
       ·exact rv_ssn t t2 e x y A B hop hx' hy' h1 h2 hg'
      ·cases h
     ·cases h
    ·rename_i kk hue
     split at h
     ·rename_i A B hA hB
      split at h
      ·rename_i hc
       simp only [Bool.and_eq_true,Nat.beq_eq] at hc
       obtain ⟨⟨⟨⟨c1,c2⟩,c3⟩,c4⟩,c5⟩:=hc
       have hb:=zZ4 (n:=n) (X:=X) (W:=W) h (fun v hv=>by cases hv)
       refine ⟨?_,hb.1⟩
       have hx':a.eval x=.agg (A.map (Value.int kk)).toArray:=hx.trans (congrArg Value.agg (zv3 hA))
       have hy':a.eval y=.agg (B.map (Value.int kk)).toArray:=hy.trans (congrArg Value.agg (zv3 hB))
       have h1:(P.underlying t,decide (A.length=B.length))=(some (.array A.length e),true):=by rw [hu,c1,c2];simp
       have h2:(P.underlying e,(P.info? e).isSome,P.cellsOf e,P.plainKey e)=(some (.int kk),true,1,true):=by rw [hue,c3,c4,c5]
       rcases hb.2 with ⟨rfl,h3⟩ | ⟨rfl,h3⟩<;>rw [h3]
       ·exact rv_arreq t t2 e x y A B hop hx' hy' h1 h2 hg'
       ·exact rv_arrne t t2 e x y A B hop hx' hy' h1 h2 hg'
      ·cases h
     ·cases h
    ·cases h
   ·split at h
    ·rename_i hp
     obtain ⟨tA,tS,eA,eS,k1,k2,k3,k4,k5,k6,k7⟩:=plcT_ok hp
     split at h
     ·have hb:=zZ4 (n:=n) (X:=X) (W:=W) h (fun v hv=>by cases hv)
      refine ⟨?_,hb.1⟩
      rcases hb.2 with ⟨rfl,h3⟩ | ⟨rfl,h3⟩<;>rw [h3]
      ·exact rv_plceq t t2 tA tS eA eS x y _ _ _ _ _ _ _ _ _ _ _ _ _ _ hop hx hy k1 k2 k3 k4 k5 k6 k7 hg'
      ·exact rv_plcne t t2 tA tS eA eS x y _ _ _ _ _ _ _ _ _ _ _ _ _ _ hop hx hy k1 k2 k3 k4 k5 k6 k7 hg'
     ·cases h
    ·cases h
   ·cases h
 ·cases h
end
section
variable {P:Program} {o:Oper} {n:Nn} {X:Env} {W V:World} {fr:List SV}
theorem zc1 {c:Cl} {s:SV} (h:cI c=some s):s=.so (.vc c):=by cases h;rfl
theorem zn7 {can:Nat→Bool} {bl:List (Nat × List Cl)} {s:SV} (h:xPure P can fr bl o=some s) (hf:okF n X W fr) (hb:∀ (i:Nat) t cs,bl[i]?=some (t,cs)→okL n X W cs)
  (hS:∀ (i:Nat) t cs,can i=true→bl[i]?=some (t,cs)→Lc V (X.E i) (dnL X cs) t) (hK:∀ x ∈ X.K,V.heap[x.1]?=some x.2):RunV P (za4 X fr) o V (s.den X)∧s.ok n X W:=by
 unfold xPure at h
 split at h
 ·rename_i x hop
  have:=zb4 h hf
  exact ⟨by unfold RunV execOp;simp [hop,this.1],this.2⟩
 ·rename_i x hop
  have:=zb4 h hf
  exact ⟨by unfold RunV execOp;simp [hop,this.1],this.2⟩
 ·rename_i t x f hop
  unfold zZ1 at h
  split at h
  ·rename_i j off h1
   split at h
   ·rename_i fs h2
    split at h
    ·rename_i fd h3
     rw [ze9,Array.getElem?_toList] at h3
     split at h
     ·rename_i i h4
      split at h
      ·cases h
      ·rename_i h5
       have hz:¬ i.size=0:=fun e=>h5 (by rw [e];rfl)
       cases zc1 h
       have he:=zb4 h1 hf
       refine ⟨zm3 (s:=Instr.fieldAt t ((za4 X fr).eval x) f) (by unfold execOp;simp only [hop]) ?_,he.2⟩
       rw [he.1]
       show (Instr.fieldAt t (.pointer (some ⟨X.E j,off,none⟩)) f).run P V=_
       simp [Instr.fieldAt,run_underlying h2,h3,Instr.sureAddr,fieldPlace,sizeOf,typeInfo,h4,hz,zk5,SV.den,TV.den,Cl.den]
     ·cases h
    ·cases h
   ·cases h
  ·cases h
 ·rename_i t x y hop
  unfold xIdxA at h
  split at h
  ·rename_i j off k z lo hi h1 h2
   split at h
   ·rename_i len e h3
    split at h
    ·rename_i q i h4 h5
     cases zc1 h
     have hx:=zb4 h1 hf
     have hy:=zb4 h2 hf
     have hl:=zm2 h4 hy.2.2
     refine ⟨zm3 (s:=Instr.indexAt t ((za4 X fr).eval x) ((za4 X fr).eval y)) (by unfold execOp;simp only [hop]) ?_,hx.2⟩
     rw [hx.1,hy.1]
     show (Instr.indexAt t (.pointer (some ⟨X.E j,off,none⟩)) (.int k z)).run P V=_
     simp [Instr.indexAt,Instr.sureAddr,asIntOf,run_underlying h3,sizeOf,typeInfo,h5,hl.1,hl.2,zk5,SV.den,TV.den,Cl.den]
    ·cases h
   ·cases h
  ·rename_i j off len cap k z lo hi h1 h2
   split at h
   ·rename_i e h3
    split at h
    ·rename_i q i h4 h5
     cases zc1 h
     have hx:=zb4 h1 hf
     have hy:=zb4 h2 hf
     have hl:=zm2 h4 hy.2.2
     refine ⟨zm3 (s:=Instr.indexAt t ((za4 X fr).eval x) ((za4 X fr).eval y)) (by unfold execOp;simp only [hop]) ?_,hx.2⟩
     rw [hx.1,hy.1]
     show (Instr.indexAt t (.slice (some ⟨X.E j,off,none⟩) len cap) (.int k z)).run P V=_
     simp [Instr.indexAt,Instr.sureAddr,asIntOf,run_underlying h3,sizeOf,typeInfo,h5,hl.1,hl.2,zk5,SV.den,TV.den,Cl.den]
    ·cases h
   ·cases h
  ·rename_i v len c xs k z lo hi h1 h2
   split at h
   ·rename_i e h3
    split at h
    ·rename_i q i h4 h5
     split at h
     ·rename_i hsz
      simp only [Nat.beq_eq] at hsz
      split at h
      ·rename_i cs h6
       rw [ze9] at h6
       cases h
       have hx:=zb4 h1 hf
       have hy:=zb4 h2 hf
       have hl:=zm2 h4 hy.2.2
       obtain ⟨⟨ao,cap,hv⟩,hat⟩:=hx.2
       have ha:=hat q cs h6
       obtain ⟨_,b,_,l,cap',us,tt,_,rfl,_,_⟩:=ha
       cases hv
       refine ⟨zm3 (s:=Instr.indexAt t ((za4 X fr).eval x) ((za4 X fr).eval y)) (by unfold execOp;simp only [hop]) ?_,hat q cs h6⟩
       rw [hx.1,hy.1]
       show (Instr.indexAt t (.slice (some ⟨b,_,none⟩) len cap) (.int k z)).run P V=_
       simp [Instr.indexAt,Instr.sureAddr,asIntOf,run_underlying h3,sizeOf,typeInfo,h5,hl.1,hl.2,zk5,SV.den,adr,hsz]
      ·cases h
     ·cases h
    ·cases h
   ·cases h
  ·cases h
 ·rename_i t x hop
  unfold xLoad at h
  split at h
  ·rename_i j off h1
   split at h
   ·rename_i hc
    split at h
    ·rename_i tt cs h2
     rw [ze9] at h2
     have he:=zb4 h1 hf
     have hL:=hS j tt cs hc h2
     have hp:=zJ6 (V:=V) h (hb j tt cs h2)
     refine ⟨?_,hp.2.1⟩
     rcases hp.2.2 with ⟨m,hm,hle,rfl⟩ | ⟨h3,c,hc',rfl⟩
     ·refine zX7 t x (X.E j) off (dnL X cs) tt _ hop he.1 hL ?_ ?_
      ·simp only [dnL,List.map_drop,List.map_take,List.length_map,List.length_take,List.length_drop]
       rw [Nat.min_eq_left (by omega)]
      ·rw [hm];simp only [List.length_map,List.length_take,List.length_drop];rw [Nat.min_eq_left (by omega)]
     ·exact zN3 t x (X.E j) off (dnL X cs) tt _ hop he.1 hL (by simp [dnL,hc',SV.den,TV.den]) h3
    ·cases h
   ·cases h
  ·rename_i v j cs h1
   split at h
   ·rename_i m hm
    split at h
    ·rename_i hsz
     simp only [Nat.beq_eq] at hsz
     cases h
     have he:=zb4 h1 hf
     obtain ⟨ho,b,off,l,cap,us,tt,fr',rfl,hmem,hus⟩:=he.2
     refine ⟨?_,ho⟩
     refine rv_ldn (cs.map (Cl.den X)) (v:=.slice (some ⟨b,off,none⟩) l cap) (j:=j) ⟨b,off,l,cap,rfl,fun i u hi=>?_⟩ t x hop he.1 (by rw [hm,hsz];simp)
     rw [zb1 (hK _ hmem)]
     exact hus i u hi
    ·cases h
   ·cases h
  ·cases h
 ·rename_i t parts hop
  have:=build_ok (V:=V) hf h
  exact ⟨zm3 (s:=Instr.build t (parts.map fun (i,x)=>(i,(za4 X fr).eval x))) (by unfold execOp;simp only [hop]) this.1,this.2⟩
 ·rename_i x i hop
  unfold xExtr at h
  split at h
  ·rename_i l h1
   split at h
   ·rename_i v h2
    rw [ze9] at h2
    cases h
    have he:=zb4 h1 hf
    refine ⟨zm3 (s:=Instr.extract ((za4 X fr).eval x) i) (by unfold execOp;simp only [hop]) ?_,he.2 v (List.mem_of_getElem? h2)⟩
    rw [he.1]
    simp [Instr.extract,SV.den,h2]
   ·cases h
  ·cases h
 ·rename_i t x f hop
  unfold xField at h
  split at h
  ·rename_i l h1
   split at h
   ·rename_i fs h2
    split at h
    ·rename_i fd h3
     rw [ze9,Array.getElem?_toList] at h3
     have he:=zb4 h1 hf
     have hp:=zJ6 (V:=V) h he.2
     refine ⟨zm3 (s:=Instr.field t ((za4 X fr).eval x) f) (by unfold execOp;simp only [hop]) ?_,hp.2.1⟩
     rw [he.1]
     show (Instr.field t (.agg (dnL X l)) f).run P V=_
     simp [Instr.field,run_underlying h2,h3,asAgg,hp.1]
    ·cases h
   ·cases h
  ·cases h
 ·rename_i t x y hop
  unfold xIdx at h
  split at h
  ·rename_i l k z lo hi h1 h2
   split at h
   ·rename_i len e h3
    split at h
    ·rename_i q i h4 h5
     have hx:=zb4 h1 hf
     have hy:=zb4 h2 hf
     have hl:=zm2 h4 hy.2.2
     have hp:=zJ6 (V:=V) h hx.2
     refine ⟨zm3 (s:=Instr.index t ((za4 X fr).eval x) ((za4 X fr).eval y)) (by unfold execOp;simp only [hop]) ?_,hp.2.1⟩
     rw [hx.1,hy.1]
     show (Instr.index t (.agg (dnL X l)) (.int k z)).run P V=_
     simp [Instr.index,asIntOf,run_underlying h3,sizeOf,typeInfo,h5,hl.1,hl.2,hp.1]
    ·cases h
   ·cases h
  ·cases h
 ·rename_i c x y hop
  unfold xPick at h
  split at h
  ·rename_i t h1
   have hc:=zb4 h1 hf
   have hx:=zb4 h hf
   have:(za4 X fr).eval c=.bool true:=by rw [hc.1];exact congrArg Value.bool (hc.2.2 true rfl)
   exact ⟨by unfold RunV execOp;simp [hop,this,asBool,hx.1],hx.2⟩
  ·rename_i t h1
   have hc:=zb4 h1 hf
   have hx:=zb4 h hf
   have:(za4 X fr).eval c=.bool false:=by rw [hc.1];exact congrArg Value.bool (hc.2.2 false rfl)
   exact ⟨by unfold RunV execOp;simp [hop,this,asBool,hx.1],hx.2⟩
  ·cases h
 ·rename_i op t x y t2 hop
  unfold xBin2 at h
  split at h
  ·rename_i a b h1 h2
   have hx:=zb4 h1 hf
   have hy:=zb4 h2 hf
   exact bin_ok hop hx.1 hy.1 hx.2 hy.2 h
  ·cases h
 ·rename_i op t x hop
  unfold xUn at h
  split at h
  ·rename_i b d h1
   cases zc1 h
   have he:=zb4 h1 hf
   refine ⟨?_,rfl,zJ1 he.2.2⟩
   have hx:(za4 X fr).eval x=.bool b:=he.1
   unfold RunV execOp
   simp [hop,hx,Op.unary,SV.den,TV.den,Cl.den]
  ·rename_i k z lo hi h1
   cases zc1 h
   have he:=zb4 h1 hf
   have h3:=he.2.2
   have h4:=wr_ok (k:=k) (z:=0 - z) (lo:=0 - hi) (hi:=0 - lo) (by simp only [Cl.good] at h3;omega) (by simp only [Cl.good] at h3;omega) n X W
   refine ⟨?_,h4.2⟩
   have hx:(za4 X fr).eval x=.int k z:=he.1
   unfold RunV execOp
   simp only [hop,hx]
   show ((do pure (.value (← Op.unary .neg (.int k z)))):Sem Next).run P V=.ok (.value ((wr k (0 - z) (0 - hi) (0 - lo)).den X)) V
   rw [h4.1]
   simp [Op.unary,Op.intArith]
  ·cases h
 ·rename_i t d x hop
  unfold xConv at h
  split at h
  ·rename_i k' z lo hi h3
   split at h
   ·rename_i td k h1 h2
    cases zc1 h
    have he:=zb4 h3 hf
    have h4:=wr_ok (k:=k) he.2.2.1 he.2.2.2 n X W
    refine ⟨?_,h4.2⟩
    have hx:(za4 X fr).eval x=.int k' z:=he.1
    refine zm3 (s:=convert t d ((za4 X fr).eval x)) (by unfold execOp;simp only [hop]) ?_
    rw [hx]
    show _=Result.ok ((wr k z lo hi).den X) V
    rw [h4.1]
    simp [convert,run_underlying h1,run_underlying h2,Conv.intToInt]
   ·cases h
  ·rename_i l e h3
   split at h
   ·rename_i td h1 h2
    cases zc1 h
    have he:=zb4 h3 hf
    refine ⟨?_,he.2⟩
    have hx:(za4 X fr).eval x=.string ⟨l.toArray⟩:=he.1
    refine zm3 (s:=convert t d ((za4 X fr).eval x)) (by unfold execOp;simp only [hop]) ?_
    rw [hx]
    simp [convert,run_underlying h1,run_underlying h2,SV.den,TV.den,Cl.den]
   ·cases h
  ·rename_i l h3
   split at h
   ·rename_i td h1 h2
    cases zc1 h
    have he:=zb4 h3 hf
    refine ⟨?_,he.2⟩
    have hx:(za4 X fr).eval x=.string ⟨l.toArray⟩:=he.1
    refine zm3 (s:=convert t d ((za4 X fr).eval x)) (by unfold execOp;simp only [hop]) ?_
    rw [hx]
    simp [convert,run_underlying h1,run_underlying h2,SV.den,TV.den,Cl.den]
   ·cases h
  ·cases h
 ·rename_i t x hop
  split at h
  ·rename_i j off len cap hv
   unfold xSlc2 at h
   split at h
   ·rename_i j off len cap hh
    cases hh
    split at h
    ·rename_i e h1
     split at h
     ·rename_i hq h2
      split at h
      ·rename_i l i h3 h4
       split at h
       ·rename_i h5
        cases zc1 h
        have he:=zb4 hv hf
        have h5:=zd6 h5
        refine ⟨zm3 (s:=Instr.sliceAt t ((za4 X fr).eval x) none none none) (by unfold execOp;simp only [hop];rfl) ?_,he.2⟩
        rw [he.1]
        exact zZ2 (lo:=none) (hi:=none) hf h1 h4 h2 h3 h5
       ·cases h
      ·cases h
     ·cases h
    ·cases h
   ·rename_i hn
    exact (hn _ _ _ _ rfl).elim
  unfold xSlc at h
  split at h
  ·rename_i j off h1
   split at h
   ·rename_i len e h2
    split at h
    ·rename_i hi
     obtain ⟨i,hi⟩:=Option.isSome_iff_exists.1 hi
     cases zc1 h
     have he:=zb4 h1 hf
     refine ⟨?_,he.2⟩
     have hx:(za4 X fr).eval x=.pointer (some ⟨X.E j,off,none⟩):=he.1
     refine zm3 (s:=Instr.sliceAt t ((za4 X fr).eval x) none none none) (by unfold execOp;simp only [hop];rfl) ?_
     rw [hx]
     simp [Instr.sliceAt,Instr.sliceBounds,Instr.sureAddr,run_underlying h2,sizeOf,typeInfo,hi,zk5,SV.den,TV.den,Cl.den]
    ·cases h
   ·cases h
  ·cases h
 ·rename_i t x lo hi _ hop
  unfold xSlc2 at h
  split at h
  ·rename_i j off len cap hv
   split at h
   ·rename_i e h1
    split at h
    ·rename_i hq h2
     split at h
     ·rename_i l i h3 h4
      split at h
      ·rename_i h5
       cases zc1 h
       have he:=zb4 hv hf
       have h5:=zd6 h5
       refine ⟨zm3 (s:=Instr.sliceAt t ((za4 X fr).eval x) (lo.map (za4 X fr).eval) (hi.map (za4 X fr).eval) none) (by unfold execOp;simp only [hop];rfl) ?_,he.2⟩
       rw [he.1]
       exact zZ2 hf h1 h4 h2 h3 h5
      ·cases h
     ·cases h
    ·cases h
   ·cases h
  ·cases h
 ·rename_i t x hop
  unfold xArr at h
  split at h
  ·rename_i j off len cap hv
   split at h
   ·rename_i m e h1
    split at h
    ·rename_i h2
     simp only [Nat.ble_eq] at h2
     cases zc1 h
     have he:=zb4 hv hf
     refine ⟨zm3 (s:=Instr.arrayAt t ((za4 X fr).eval x)) (by unfold execOp;simp only [hop]) ?_,he.2⟩
     have hx:(za4 X fr).eval x=.slice (some ⟨X.E j,off,none⟩) len cap:=he.1
     have:¬ len<m:=by omega
     rw [hx]
     simp [Instr.arrayAt,run_underlying h1,this,SV.den,TV.den,Cl.den]
    ·cases h
   ·cases h
  ·cases h
 ·rename_i fn first captured hop
  unfold xMkF at h
  split at h
  ·rename_i h0
   split at h
   ·rename_i l h1
    cases zc1 h
    have hc:=zZ3 hf h1
    refine ⟨?_,hc.2,trivial⟩
    have h2:first=#[]:=by simpa using h0
    have h3:(captured.map (za4 X fr).eval)=(l.map X.ptr).toArray:=by
     rw [← hc.1,← Array.toList_map,Array.toArray_toList]
    unfold RunV execOp
    simp [hop,h2,Instr.makeFunc,SV.den,TV.den,Cl.den,h3]
   ·cases h
  ·cases h
 ·rename_i c hop
  have hargs:∀ {l:List Operand},c.args.toList=l→c.args.map (za4 X fr).eval=(l.map (za4 X fr).eval).toArray:=fun {l} e=>by
   rw [← e,← Array.toList_map,Array.toArray_toList]
  split at h
  ·rename_i bi hc
   generalize ha:c.args.toList=al at h
   unfold xBi at h
   split at h
   ·rename_i x
    have aa:=hargs ha
    generalize ht:c.argTypes[0]?=ot at h
    generalize hv:ev fr x=ov at h
    unfold xLen at h
    split at h
    ·rename_i t v
     have run:∀ {v u:Value},(za4 X fr).eval x=v→(Builtin.len_ c.argTypes o.type #[v]).run P V=.ok u V→RunV P (za4 X fr) o V u:=fun {v u} e hr=>by
      unfold RunV execOp
      simp only [hop,resolve,hc,invoke,builtin,Sem.run_bind,Sem.run_pure,Result.andThen_ok,aa,List.map_cons,List.map_nil,e]
      simp [hr]
     split at h
     ·rename_i e h1
      split at h
      ·rename_i j off len cap
       cases zc1 h
       refine ⟨run (zb4 hv hf).1 ?_,rfl,Int.le_refl _,Int.le_refl _⟩
       simp [Builtin.len_,ht,run_underlying h1,SV.den,TV.den,Cl.den,goInt]
      ·cases zc1 h
       refine ⟨run (zb4 hv hf).1 ?_,rfl,Int.le_refl _,Int.le_refl _⟩
       simp [Builtin.len_,ht,run_underlying h1,SV.den,TV.den,Cl.den,goInt]
      ·cases zc1 h
       obtain ⟨⟨ao,cap,rfl⟩,_⟩:=(zb4 hv hf).2
       refine ⟨run (zb4 hv hf).1 ?_,rfl,Int.le_refl _,Int.le_refl _⟩
       simp [Builtin.len_,ht,run_underlying h1,SV.den,TV.den,Cl.den,goInt]
      ·cases h
     ·rename_i len e h1
      cases zc1 h
      refine ⟨run (zb4 hv hf).1 ?_,rfl,Int.le_refl _,Int.le_refl _⟩
      simp [Builtin.len_,ht,run_underlying h1,SV.den,TV.den,Cl.den,goInt]
     ·rename_i h1
      split at h
      ·rename_i l k q
       cases zc1 h
       have hq:=(zb4 hv hf).2.2 k q rfl
       have hn:=zn1 hq.2.1 hq.2.2
       rw [← hq.1] at hn
       refine ⟨run (zb4 hv hf).1 ?_,rfl,Int.natCast_nonneg _,Int.ofNat_le.2 hn⟩
       simp [Builtin.len_,ht,run_underlying h1,SV.den,TV.den,Cl.den,goInt]
       rfl
      ·cases zc1 h
       refine ⟨run (zb4 hv hf).1 ?_,rfl,Int.le_refl _,Int.le_refl _⟩
       simp [Builtin.len_,ht,run_underlying h1,SV.den,TV.den,Cl.den,goInt]
       rfl
      ·cases zc1 h
       refine ⟨run (zb4 hv hf).1 ?_,rfl,Int.natCast_nonneg _,(zb4 hv hf).2.2⟩
       simp [Builtin.len_,ht,run_underlying h1,SV.den,TV.den,Cl.den,goInt]
       rfl
      ·cases h
     ·cases h
    ·cases h
   ·rename_i x y
    have aa:=hargs ha
    unfold xMax at h
    split at h
    ·rename_i k a la ha' k2 b lc hc' h1 h2
     cases zc1 h
     have hx:=zb4 h1 hf
     have hy:=zb4 h2 hf
     refine ⟨?_,rfl,?_⟩
     ·unfold RunV execOp
      simp only [hop,resolve,hc,invoke,builtin,Sem.run_bind,Sem.run_pure,Result.andThen_ok,aa,List.map_cons,List.map_nil,hx.1,hy.1]
      simp [Builtin.max_,Builtin.max2,SV.den,TV.den,Cl.den]
     ·have a1:=hx.2.2
      have a2:=hy.2.2
      simp only [Cl.good] at a1 a2 ⊢
      split<;>omega
    ·cases h
   ·rename_i x y
    have aa:=hargs ha
    unfold xMin at h
    split at h
    ·rename_i k a la ha' k2 b lc hc' h1 h2
     cases zc1 h
     have hx:=zb4 h1 hf
     have hy:=zb4 h2 hf
     refine ⟨?_,rfl,?_⟩
     ·unfold RunV execOp
      simp only [hop,resolve,hc,invoke,builtin,Sem.run_bind,Sem.run_pure,Result.andThen_ok,aa,List.map_cons,List.map_nil,hx.1,hy.1]
      simp [Builtin.min_,Builtin.min2,SV.den,TV.den,Cl.den]
     ·have a1:=hx.2.2
      have a2:=hy.2.2
      simp only [Cl.good] at a1 a2 ⊢
      split<;>omega
    ·cases h
   ·cases h
  ·cases h
 ·cases h
end
inductive Dt where
 | e
 | t (d:Dt)
 | f (d:Dt)
 | s (a b:Dt)
 | o (d:Dt)
 | c
 | i (l h u:Int) (d:Dt)
structure Sg where
 fr:List SV
 bl:List (Nat × List Cl)
 nu:Nat
 nr:Nat
 nz:Nat
 ds:Dt
def Sg.nn (s:Sg):Nn:=⟨s.bl.length,s.nr,s.nz⟩
structure Base where
 w:World
 X:Env
 n:Nn
 ks:List (Nat × Obj)
structure Rep (B:Base) (X:Env) (s:Sg) (w:World):Prop where
 gr:Gr B.w w
 ag:Agr B.n B.X X
 le:B.n.le s.nn
 fr:okF s.nn X w s.fr
 bl:∀ (i:Nat) t cs,s.bl[i]?=some (t,cs)→okL s.nn X w cs
 lc:∀ (i:Nat) t cs,s.bl[i]?=some (t,cs)→Lc w (X.E i) (dnL X cs) t∧t≠136
 own:∀ i,s.nu≤i→i<s.bl.length→B.w.heap.size≤X.E i
 inj:∀ i j,i<s.bl.length→j<s.bl.length→X.E i=X.E j→i=j
 ks:∀ x ∈ B.ks,w.heap[x.1]?=some x.2∧∀ i,i<s.bl.length→X.E i≠x.1
 kk:∀ x ∈ B.X.K,B.w.heap[x.1]?=some x.2
theorem Rep.kx {B:Base} {X:Env} {s:Sg} {w:World} (h:Rep B X s w):∀ x ∈ X.K,w.heap[x.1]?=some x.2:=fun x hx=>h.gr.heap (h.kk x (h.ag.k ▸ hx))
theorem Rep.kb {B:Base} {X:Env} {s:Sg} {w:World} (h:Rep B X s w):∀ x ∈ B.X.K,w.heap[x.1]?=some x.2:=fun x hx=>h.gr.heap (h.kk x hx)
def Stay (ro:Nat→Bool) (X:Env) (s:Sg) (w w':World):Prop:=∀ (b:Nat) (cs:Array Value) (t:TypeId),(∀ j,j<s.bl.length→ro j=false→b≠X.E j)→Lc w b cs t→Lc w' b cs t
theorem Stay.gr {ro:Nat→Bool} {X:Env} {s:Sg} {w w':World} (g:Gr w w'):Stay ro X s w w':=fun _ _ _ _ h=>h.gr g
theorem Rep.to {B:Base} {X:Env} {s:Sg} {w w':World} (h:Rep B X s w) (g:Gr w w'):Rep B X s w' where
 gr:=h.gr.trans g
 ag:=h.ag
 le:=h.le
 fr:=zN4 (.refl _) (.refl _ _) g.kp h.fr
 bl:=fun i t cs hi=>zr4 (.refl _) (.refl _ _) g.kp (h.bl i t cs hi)
 lc:=fun i t cs hi=>⟨(h.lc i t cs hi).1.gr g,(h.lc i t cs hi).2⟩
 own:=h.own
 inj:=h.inj
 ks:=fun x hx=>⟨g.heap (h.ks x hx).1,(h.ks x hx).2⟩
 kk:=h.kk
theorem Rep.set {B:Base} {X:Env} {s:Sg} {w:World} (h:Rep B X s w) {d:Nat} {v:SV} (hv:v.ok s.nn X w):Rep B X {s with fr:=s.fr.set d v} w where
 gr:=h.gr
 ag:=h.ag
 le:=h.le
 fr:=zY6 h.fr hv
 bl:=h.bl
 lc:=h.lc
 own:=h.own
 inj:=h.inj
 ks:=h.ks
 kk:=h.kk
theorem Rep.lt {B:Base} {X:Env} {s:Sg} {w:World} (h:Rep B X s w) {i:Nat} (hi:i<s.bl.length):X.E i<w.heap.size:=by
 obtain ⟨x,e⟩:∃ x,s.bl[i]?=some x:=⟨_,List.getElem?_eq_getElem hi⟩
 exact (h.lc i x.1 x.2 e).1.lt
def Env.push (X:Env) (n b:Nat):Env:={X with E:=fun i=>if i=n then b else X.E i}
theorem Env.push_agree (X:Env) (n:Nn) (b:Nat):Agr n X (X.push n.b b):=⟨fun i hi=>by simp only [Env.push];rw [if_neg (by omega)],fun _ _ _=>rfl,fun _ _ _=>rfl,rfl⟩
def Sg.grow (s:Sg) (t:Nat) (cs:List Cl):Sg:={s with bl:=s.bl++[(t,cs)]}
theorem Rep.add {B:Base} {X:Env} {s:Sg} {w w':World} (h:Rep B X s w) {t b:Nat} {cs:List Cl} (hc:okL s.nn X w cs) (ht:t≠136) (g:Gr w w') (hL:Lc w' b (dnL X cs) t) (hb:B.w.heap.size≤b) (hne:∀ i,i<s.bl.length→X.E i≠b) (hnk:∀ x ∈ B.ks,b≠x.1):
  Rep B (X.push s.bl.length b) (s.grow t cs) w'∧Agr s.nn X (X.push s.bl.length b):=by
 have hA:Agr s.nn X (X.push s.bl.length b):=Env.push_agree X s.nn b
 have hn:s.nn.le (s.grow t cs).nn:=⟨by simp [Sg.nn,Sg.grow],Nat.le_refl _,Nat.le_refl _⟩
 have hE:(X.push s.bl.length b).E s.bl.length=b:=by simp [Env.push]
 have hold:∀ i,i<s.bl.length→(X.push s.bl.length b).E i=X.E i:=fun i hi=>(hA.E i hi).symm
 have hget:∀ (i:Nat) x,(s.grow t cs).bl[i]?=some x→(i<s.bl.length∧s.bl[i]?=some x)∨(i=s.bl.length∧x=(t,cs)):=fun i x hx=>by
  simp only [Sg.grow] at hx
  rcases Nat.lt_trichotomy i s.bl.length with hi | rfl | hi
  ·rw [List.getElem?_append_left hi] at hx;exact .inl ⟨hi,hx⟩
  ·simp at hx;exact .inr ⟨rfl,hx.symm⟩
  ·rw [List.getElem?_append_right (by omega),List.getElem?_eq_none (by simp;omega)] at hx;cases hx
 have hlen:(s.grow t cs).bl.length=s.bl.length+1:=by simp [Sg.grow]
 refine ⟨⟨h.gr.trans g,h.ag.trans (hA.mono h.le),h.le.trans hn,zN4 hn hA g.kp h.fr,fun i u ds hi=>?_,fun i u ds hi=>?_,fun i h1 h2=>?_,fun i j hi hj e=>?_,fun x hx=>⟨g.heap (h.ks x hx).1,fun i hi=>?_⟩,h.kk⟩,hA⟩
 ·rcases hget i _ hi with ⟨_,hx⟩ | ⟨_,hx⟩
  ·exact zr4 hn hA g.kp (h.bl i u ds hx)
  ·cases hx;exact zr4 hn hA g.kp hc
 ·rcases hget i _ hi with ⟨hl,hx⟩ | ⟨rfl,hx⟩
  ·have:=h.lc i u ds hx
   rw [hold i hl,← zn4 hA fun c hc'=>(h.bl i u ds hx c hc').1]
   exact ⟨this.1.gr g,this.2⟩
  ·cases hx
   rw [hE,← zn4 hA fun c hc'=>(hc c hc').1]
   exact ⟨hL,ht⟩
 ·rw [hlen] at h2
  rcases Nat.lt_or_ge i s.bl.length with hi | hi
  ·rw [hold i hi];exact h.own i h1 hi
  ·obtain rfl:i=s.bl.length:=by omega
   rw [hE];exact hb
 ·rw [hlen] at hi hj
  rcases Nat.lt_or_ge i s.bl.length with hi' | hi'<;>rcases Nat.lt_or_ge j s.bl.length with hj' | hj'
  ·rw [hold i hi',hold j hj'] at e;exact h.inj i j hi' hj' e
  ·obtain rfl:j=s.bl.length:=by omega
   rw [hold i hi',hE] at e
   exact absurd e (hne i hi')
  ·obtain rfl:i=s.bl.length:=by omega
   rw [hold j hj',hE] at e
   exact absurd e.symm (hne j hj')
  ·omega
 ·rw [hlen] at hi
  rcases Nat.lt_or_ge i s.bl.length with hi' | hi'
  ·rw [hold i hi'];exact (h.ks x hx).2 i hi'
  ·obtain rfl:i=s.bl.length:=by omega
   rw [hE];exact hnk x hx
theorem Rep.grow {B:Base} {X:Env} {s:Sg} {w w':World} (h:Rep B X s w) {t b:Nat} {cs:List Cl} (hc:okL s.nn X w cs) (ht:t≠136) (g:Gr w w') (hL:Lc w' b (dnL X cs) t) (hb:w.heap.size≤b):
  Rep B (X.push s.bl.length b) (s.grow t cs) w'∧Agr s.nn X (X.push s.bl.length b):=
 h.add hc ht g hL (Nat.le_trans h.gr.size hb) (fun i hi=>by have:=h.lt hi;omega) (fun x hx=>by have:=zf7 (h.ks x hx).1;omega)
theorem Rep.store {B:Base} {X:Env} {s:Sg} {w w':World} (h:Rep B X s w) {j t:Nat} {cs ds:List Cl} (hj:s.bl[j]?=some (t,cs)) (hu:s.nu≤j) (hd:okL s.nn X w ds) (st:St w w' (X.E j)) (hL:Lc w' (X.E j) (dnL X ds) t):
  Rep B X {s with bl:=s.bl.set j (t,ds)} w':=by
 have hjl:j<s.bl.length:=(List.getElem?_eq_some_iff.1 hj).1
 have hk:Kp w w':=st.kp (h.lc j t cs hj).1 (h.lc j t cs hj).2
 have hnn:({s with bl:=s.bl.set j (t,ds)}:Sg).nn=s.nn:=by simp [Sg.nn]
 have hget:∀ (i:Nat) x,(s.bl.set j (t,ds))[i]?=some x→(i≠j∧s.bl[i]?=some x)∨(i=j∧x=(t,ds)):=fun i x hx=>by
  by_cases e:i=j
  ·subst e;rw [List.getElem?_set_self hjl] at hx;exact .inr ⟨rfl,(Option.some.inj hx).symm⟩
  ·rw [List.getElem?_set_ne (Ne.symm e)] at hx;exact .inl ⟨e,hx⟩
 refine ⟨st.gr h.gr (h.own j hu hjl),h.ag,by rw [hnn];exact h.le,by rw [hnn];exact zN4 (.refl _) (.refl _ _) hk h.fr,fun i u es hi=>?_,fun i u es hi=>?_,fun i h1 h2=>?_,fun i k h1 h2 e=>?_,fun x hx=>⟨?_,fun i hi=>?_⟩,h.kk⟩
 ·rw [hnn]
  rcases hget i _ hi with ⟨_,hx⟩ | ⟨_,hx⟩
  ·exact zr4 (.refl _) (.refl _ _) hk (h.bl i u es hx)
  ·cases hx;exact zr4 (.refl _) (.refl _ _) hk hd
 ·rcases hget i _ hi with ⟨hne,hx⟩ | ⟨rfl,hx⟩
  ·have hil:i<s.bl.length:=(List.getElem?_eq_some_iff.1 hx).1
   exact ⟨st.lc (h.lc i u es hx).1 (fun e=>hne (h.inj i j hil hjl e)),(h.lc i u es hx).2⟩
  ·cases hx;exact ⟨hL,(h.lc i t cs hj).2⟩
 ·exact h.own i h1 (by simpa using h2)
 ·exact h.inj i k (by simpa using h1) (by simpa using h2) e
 ·rw [st.block _ (Ne.symm ((h.ks x hx).2 j hjl))];exact (h.ks x hx).1
 ·exact (h.ks x hx).2 i (by simpa using hi)

def isU32 (t:Nat):Bool:=Nat.beq t 136
def putD (d:Option Tmp) (v:SV) (fr:List SV):List SV:=match d with | some d=>fr.set d v | none=>fr
noncomputable def Sg.put {β:Type} (s:Sg) (d:Option Tmp) (v:SV) (k:Sg→β):β:=match s with
 | ⟨fr,bl,nu,nr,nz,ds⟩=>match d with
  | some d=>setF fr d v fun fr=>k ⟨fr,bl,nu,nr,nz,ds⟩
  | none=>k ⟨fr,bl,nu,nr,nz,ds⟩
theorem Sg.put_eq {β:Type} (s:Sg) (d:Option Tmp) (v:SV) (k:Sg→β):s.put d v k=k {s with fr:=putD d v s.fr}:=by
 obtain ⟨fr,bl,nu,nr,nz,ds⟩:=s
 cases d
 ·rfl
 ·simp only [Sg.put,zI8,Go.Proofs.YthhbibpaeonecaaGreatDoor.putD]
noncomputable def Sg.new {β:Type} (s:Sg) (t:Nat) (cs:List Cl) (k:Sg→β):β:=match s with
 | ⟨fr,bl,nu,nr,nz,ds⟩=>frcL cs fun cs=>appF bl [(t,cs)] fun bl=>k ⟨fr,bl,nu,nr,nz,ds⟩
theorem Sg.new_eq {β:Type} (s:Sg) (t:Nat) (cs:List Cl) (k:Sg→β):s.new t cs k=k (s.grow t cs):=by
 obtain ⟨fr,bl,nu,nr,nz,ds⟩:=s
 simp only [Sg.new,zp6,zI9,Sg.grow]
noncomputable def Sg.sto {β:Type} (s:Sg) (j t:Nat) (cs:List Cl) (k:Sg→β):β:=match s with
 | ⟨fr,bl,nu,nr,nz,ds⟩=>frcL cs fun cs=>setF bl j (t,cs) fun bl=>k ⟨fr,bl,nu,nr,nz,ds⟩
theorem Sg.sto_eq {β:Type} (s:Sg) (j t:Nat) (cs:List Cl) (k:Sg→β):s.sto j t cs k=k {s with bl:=s.bl.set j (t,cs)}:=by
 obtain ⟨fr,bl,nu,nr,nz,ds⟩:=s
 simp only [Sg.sto,zp6,zI8]
noncomputable def xNew (o:Oper) (s:Sg) (t:Nat) (cs:List Cl) (v:Cl):Option Sg:=
 if isU32 t||!Nat.ble s.nu s.bl.length then none else s.new t cs fun s=>s.put o.dst (.so (.vc v)) some
noncomputable def xSto (P:Program) (ro:Nat→Bool) (o:Oper) (s:Sg) (t:Nat):Option SV→Option SV→Option Sg
 | some (.so (.vc (.cp j off))),some v=>match v.cells,nth s.bl j with
  | some vs,some (tt,cs)=>match P.info? t with
   | some i=>if Nat.ble s.nu j&&!ro j&&Nat.beq i.size vs.length&&Nat.ble (off+vs.length) cs.length&&o.dst.isNone then s.sto j tt (zn5 cs off vs) some else none
   | none=>none
  | _,_=>none
 | _,_=>none
def rpt (n sz:Nat) (cs:List Cl):List Cl:=(List.range n).map fun i=>cs.getD (i % sz) (.cv (.int .i64 0))
noncomputable def xMake (P:Program) (o:Oper) (s:Sg) (t:Nat):Option SV→Option SV→Option Sg
 | some (.so (.vc (.ci .i64 _ l1 h1))),some (.so (.vc (.ci .i64 _ l2 h2)))=>match lit1 l1 h1 100000,lit1 l2 h2 100000,P.underlying t with
  | some L,some C,some (.slice e)=>match P.info? e with
   | some i=>match zm1 i.zero with
    | some cs=>if Nat.ble L C&&Nat.ble (i.bytes*C) 281474976710656&&Nat.beq cs.length i.size&&Nat.blt 0 i.size then xNew o s e (rpt (C*i.size) i.size cs) (.cs s.bl.length 0 L C) else none
    | none=>none
   | none=>none
  | _,_,_=>none
 | _,_=>none
noncomputable def xEff (P:Program) (ro:Nat→Bool) (o:Oper) (s:Sg):Option Sg:=
 match o.op with
 | .alloc t=>match P.info? t with
  | some i=>match zm1 i.zero with
   | some cs=>xNew o s t cs (.cp s.bl.length 0)
   | none=>none
  | none=>none
 | .box t x=>match ev s.fr x with
  | some v=>match v.cells with
   | some cs=>xNew o s t cs (.cp s.bl.length 0)
   | none=>none
  | none=>none
 | .store t x y=>xSto P ro o s t (ev s.fr x) (ev s.fr y)
 | .makeSlice t x y=>xMake P o s t (ev s.fr x) (ev s.fr y)
 | _=>none
theorem zJ7 {o:Oper} {s s':Sg} {t:Nat} {cs:List Cl} {v:Cl} (h:xNew o s t cs v=some s'):t≠136∧s.nu≤s.bl.length∧s'={s.grow t cs with fr:=putD o.dst (.so (.vc v)) s.fr}:=by
 unfold xNew at h
 split at h
 ·cases h
 ·rename_i hc
  simp only [Bool.or_eq_true,Bool.not_eq_true',not_or] at hc
  rw [Sg.new_eq,Sg.put_eq] at h
  cases h
  refine ⟨fun e=>hc.1 (by subst e;rfl),?_,rfl⟩
  have h2:=hc.2
  simp only [Bool.not_eq_false,Nat.ble_eq] at h2
  exact h2
theorem Rep.putD {B:Base} {X:Env} {s:Sg} {w:World} (h:Rep B X s w) (d:Option Tmp) {v:SV} (hv:v.ok s.nn X w):Rep B X {s with fr:=Go.Proofs.YthhbibpaeonecaaGreatDoor.putD d v s.fr} w:=by
 cases d with
 | none=>exact h
 | some d=>exact h.set hv
theorem zf4 (X:Env) (fr:List SV) (d:Option Tmp) (v:SV):(za4 X fr).put d (v.den X)=za4 X (putD d v fr):=by
 cases d with
 | none=>rfl
 | some d=>exact zJ0 X fr d v
theorem zN6 {n:Nn} {X:Env} {w:World}:∀ {l:List Cl},okL n X w l→One1 (l.map (Cl.den X))
 | [],_=>trivial
 | c::l,h=>⟨Cl.one (h c (by simp)),zN6 fun x hx=>h x (by simp [hx])⟩
theorem xEff_ok {P:Program} {ro:Nat→Bool} {o:Oper} {s s':Sg} {B:Base} {X:Env} {w:World} {K:Act→World→Prop} {Q:Exit→Act→World→Prop} (h:xEff P ro o s=some s') (hR:Rep B X s w)
  (hK:∀ X' w',Rep B X' s' w'→Agr s.nn X X'→Stay ro X s w w'→K (za4 X' s'.fr) w'):o.wp P (za4 X s.fr) w K Q:=by
 have new:∀ (t:Nat) (cs:List Cl) (b:Nat) (w':World),okL s.nn X w cs→xNew o s t cs (.cp s.bl.length 0)=some s'→Gr w w'→Lc w' b (dnL X cs) t→w.heap.size≤b→K ((za4 X s.fr).put o.dst (.pointer (some ⟨b,0,none⟩))) w':=by
  intro t cs b w' hc hn g hL hb
  obtain ⟨ht,_,rfl⟩:=zJ7 hn
  obtain ⟨h1,h2⟩:=hR.grow hc ht g hL hb
  have hp:(SV.so (.vc (.cp s.bl.length 0))).ok (s.grow t cs).nn (X.push s.bl.length b) w':=⟨zn3 (by simp [Sg.nn,Sg.grow]),trivial⟩
  have:=hK (X.push s.bl.length b) w' (h1.putD o.dst hp) h2 (.gr g)
  have e:(za4 X s.fr).put o.dst (.pointer (some ⟨b,0,none⟩))=za4 (X.push s.bl.length b) (putD o.dst (.so (.vc (.cp s.bl.length 0))) s.fr):=by
   rw [← zf4,← zg3 h2 hR.fr]
   simp [SV.den,TV.den,Cl.den,Env.push]
  rw [e]
  exact this
 unfold xEff at h
 split at h
 ·rename_i t hop
  split at h
  ·rename_i i hi
   split at h
   ·rename_i cs hz
    cases hzz:i.zero with
    | none=>rw [hzz] at hz;cases hz
    | some z=>
     rw [hzz] at hz
     have hc:=zk4 (l:=z.cells.toList) hz s.nn X w
     refine zE9 t z (dnL X cs) o.dst rfl hop (by rw [hi];simp [hzz]) (by unfold dnL;rw [hc.1]) (fun b w' g hL hb=>new t cs b w' hc.2 h g hL hb)
   ·cases h
  ·cases h
 ·rename_i t x hop
  split at h
  ·rename_i v hv
   split at h
   ·rename_i cs hc
    have he:=zb4 hv hR.fr
    have hcs:=SV.cells_ok hc he.2
    exact zX9 t x (v.den X) (dnL X cs) o.dst rfl hop he.1 hcs.1 (fun b w' g hL hb=>new t cs b w' hcs.2 h g hL hb)
   ·cases h
  ·cases h
 ·rename_i t x y hop
  unfold xSto at h
  split at h
  ·rename_i j off v h1 h2
   split at h
   ·rename_i vs tt cs h3 h4
    rw [ze9] at h4
    split at h
    ·rename_i i h5
     split at h
     ·rename_i hc
      simp only [Bool.and_eq_true,Bool.not_eq_true',Nat.ble_eq,Nat.beq_eq,Option.isNone_iff_eq_none] at hc
      obtain ⟨⟨⟨⟨c1,c2⟩,c3⟩,c4⟩,c5⟩:=hc
      rw [Sg.sto_eq] at h
      cases h
      have hx:=zb4 h1 hR.fr
      have hy:=zb4 h2 hR.fr
      have hv:=SV.cells_ok h3 hy.2
      have hL:=hR.lc j tt cs h4
      have hone:=zN6 hv.2
      refine zF0 t x y (X.E j) off (v.den X) (vs.map (Cl.den X)) (dnL X cs) (dnL X (zn5 cs off vs)) tt hop c5 hx.1 hy.1 hv.1 hL.1 (by rw [h5];simp [c3]) (by simp [dnL];exact c4) hone (zy9 c4) (fun w' st hL'=>?_)
      refine hK X w' (hR.store h4 c1 (zy6 (hR.bl j tt cs h4) hv.2 off) st hL') (.refl _ _) (fun b ds u hb hl=>st.lc hl (hb j (List.getElem?_eq_some_iff.1 h4).1 c2))
     ·cases h
    ·cases h
   ·cases h
  ·cases h
 ·rename_i t x y hop
  unfold xMake at h
  split at h
  ·rename_i z1 l1 h1 z2 l2 h2 e1 e2
   split at h
   ·rename_i L C e q1 q2 hu
    split at h
    ·rename_i i hi
     split at h
     ·rename_i cs hz
      split at h
      ·rename_i hc
       simp only [Bool.and_eq_true,Nat.ble_eq,Nat.beq_eq] at hc
       obtain ⟨⟨⟨c1,c2⟩,c3⟩,c4⟩:=hc
       have c4:=zd6 c4
       cases hzz:i.zero with
       | none=>rw [hzz] at hz;cases hz
       | some z=>
        rw [hzz] at hz
        have hcl:=zk4 (l:=z.cells.toList) hz s.nn X w
        have hzc:z.cells=dnL X cs:=by unfold dnL;rw [hcl.1]
        have hx:=zb4 e1 hR.fr
        have hy:=zb4 e2 hR.fr
        have k1:=zm2 q1 hx.2.2
        have k2:=zm2 q2 hy.2.2
        have hxe:(za4 X s.fr).eval x=.int .i64 (L:Int):=by rw [hx.1,← k1.1];rfl
        have hye:(za4 X s.fr).eval y=.int .i64 (C:Int):=by rw [hy.1,← k2.1];rfl
        have hok:okL s.nn X w (rpt (C*i.size) i.size cs):=fun c hc=>by
         obtain ⟨q,_,rfl⟩:=List.mem_map.1 hc
         have hq:q % i.size<cs.length:=by rw [c3];exact Nat.mod_lt _ c4
         rw [List.getD_eq_getElem?_getD,List.getElem?_eq_getElem hq]
         exact hcl.2 _ (List.getElem_mem hq)
        have hcs:madeCells z.cells (C*i.size)=dnL X (rpt (C*i.size) i.size cs):=by
         rw [hzc]
         apply Array.ext
         ·simp [madeCells,dnL,rpt]
         ·intro q h3 h4
          have hsz:(dnL X cs).size=i.size:=by simp [dnL,c3]
          have hq:q % i.size<cs.length:=by rw [c3];exact Nat.mod_lt _ c4
          simp only [madeCells,hsz]
          simp [dnL,rpt,hq]
        refine zA8 t e z L C i.size _ o.dst rfl hop hxe hye hu (by rw [hi];simp [hzz,c2]) (decide_eq_true ⟨c1,by omega⟩) hcs (fun b w' g hL hb=>?_)
        obtain ⟨ht,_,rfl⟩:=zJ7 h
        obtain ⟨g1,g2⟩:=hR.grow hok ht g hL hb
        have hp:(SV.so (.vc (.cs s.bl.length 0 L C))).ok (s.grow e (rpt (C*i.size) i.size cs)).nn (X.push s.bl.length b) w':=⟨zn3 (by simp [Sg.nn,Sg.grow]),trivial⟩
        have:=hK (X.push s.bl.length b) w' (g1.putD o.dst hp) g2 (.gr g)
        have e3:(za4 X s.fr).put o.dst (.slice (some ⟨b,0,none⟩) L C)=za4 (X.push s.bl.length b) (putD o.dst (.so (.vc (.cs s.bl.length 0 L C))) s.fr):=by
         rw [← zf4,← zg3 g2 hR.fr]
         simp [SV.den,TV.den,Cl.den,Env.push]
        rw [e3]
        exact this
      ·cases h
     ·cases h
    ·cases h
   ·cases h
  ·cases h
 ·cases h
theorem zZ5 {P:Program} {ro:Nat→Bool} {o:Oper} {s s':Sg} (h:xEff P ro o s=some s'):s.bl.length≤s'.bl.length∧∀ (i:Nat),i<s.bl.length→ro i=true→s'.bl[i]?=s.bl[i]?:=by
 have new:∀ {t:Nat} {cs:List Cl} {v:Cl},xNew o s t cs v=some s'→s.bl.length≤s'.bl.length∧∀ (i:Nat),i<s.bl.length→ro i=true→s'.bl[i]?=s.bl[i]?:=fun hn=>by
  obtain ⟨_,_,rfl⟩:=zJ7 hn
  refine ⟨by simp [Sg.grow],fun i hi _=>?_⟩
  simp only [Sg.grow]
  rw [List.getElem?_append_left hi]
 unfold xEff at h
 split at h
 ·split at h
  ·split at h
   ·exact new h
   ·cases h
  ·cases h
 ·split at h
  ·split at h
   ·exact new h
   ·cases h
  ·cases h
 ·unfold xSto at h
  split at h
  ·split at h
   ·split at h
    ·split at h
     ·rename_i j off v h1 h2 _ _ vs tt cs h3 h4 _ i h5 hc
      simp only [Bool.and_eq_true,Bool.not_eq_true'] at hc
      rw [Sg.sto_eq] at h
      cases h
      refine ⟨by simp,fun k hk hr=>?_⟩
      simp only
      rw [List.getElem?_set_ne]
      rintro rfl
      rw [hc.1.1.1.2] at hr;cases hr
     ·cases h
    ·cases h
   ·cases h
  ·cases h
 ·unfold xMake at h
  split at h
  ·split at h
   ·split at h
    ·split at h
     ·split at h
      ·exact new h
      ·cases h
     ·cases h
    ·cases h
   ·cases h
  ·cases h
 ·cases h
inductive Lf where
 | ret (v:SV)
 | br (t:Bool) (a b:Lf)
 | as (t v:Bool) (a:Lf)
abbrev Rs:=Option Lf
def LOK (Post:SV→Prop):Lf→Prop
 | .ret v=>Post v
 | .br t a b=>(t=true→LOK Post a)∧(t=false→LOK Post b)
 | .as t v a=>t=v∧LOK Post a
def asL (t v:Bool):Rs→Rs
 | some a=>some (.as t v a)
 | none=>none
def brL (t:Bool):Rs→Rs→Rs
 | some a,some b=>some (.br t a b)
 | _,_=>none
theorem zk6 {t v:Bool} {a:Rs} {L:Lf} (h:asL t v a=some L):∃ x,a=some x∧L=.as t v x:=by
 unfold asL at h
 split at h
 ·cases h;exact ⟨_,rfl,rfl⟩
 ·cases h
theorem brL_some {t:Bool} {a b:Rs} {L:Lf} (h:brL t a b=some L):∃ x y,a=some x∧b=some y∧L=.br t x y:=by
 unfold brL at h
 split at h
 ·cases h;exact ⟨_,_,rfl,rfl,rfl⟩
 ·cases h
def Sg.pas (s:Sg) (d:Dt):Sg:=match s with
 | ⟨fr,bl,nu,nr,nz,_⟩=>⟨fr,bl,nu,nr,nz,d⟩
theorem Sg.pas_eq (s:Sg) (d:Dt):s.pas d={s with ds:=d}:=by cases s;rfl
def zF4 (t:Bool) (s:Sg) (k:Bool→Sg→Rs):Rs:=
 match s.ds with
 | .t d=>asL t true (k true (s.pas d))
 | .f d=>asL t false (k false (s.pas d))
 | .s a b=>brL t (k true (s.pas a)) (k false (s.pas b))
 | .c=>match t with
  | true=>k true (s.pas .c)
  | false=>k false (s.pas .c)
 | _=>some (.as t (!t) (.ret .su))
section
variable {P:Program} {Post:SV→Prop} {B:Base} {X:Env} {s:Sg} {w:World} {L:Lf}
theorem Rep.ds (h:Rep B X s w) (d:Dt):Rep B X {s with ds:=d} w:=⟨h.gr,h.ag,h.le,h.fr,h.bl,h.lc,h.own,h.inj,h.ks,h.kk⟩
theorem zv4 {t:Bool} {k:Bool→Sg→Rs} (h:zF4 t s k=some L) (hL:LOK Post L):∃ v d L',t=v∧k v {s with ds:=d}=some L'∧LOK Post L':=by
 unfold zF4 at h
 simp only [Sg.pas_eq] at h
 split at h
 ·obtain ⟨x,h1,rfl⟩:=zk6 h
  exact ⟨true,_,x,hL.1,h1,hL.2⟩
 ·obtain ⟨x,h1,rfl⟩:=zk6 h
  exact ⟨false,_,x,hL.1,h1,hL.2⟩
 ·obtain ⟨x,y,h1,h2,rfl⟩:=brL_some h
  cases t with
  | true=>exact ⟨true,_,x,rfl,h1,hL.1 rfl⟩
  | false=>exact ⟨false,_,y,rfl,h2,hL.2 rfl⟩
 ·cases t with
  | true=>exact ⟨true,_,L,rfl,h,hL⟩
  | false=>exact ⟨false,_,L,rfl,h,hL⟩
 ·cases h
  have:=hL.1
  cases t<;>cases this
def xVal (v:SV) (s:Sg) (k:SV→Sg→Rs):Rs:=
 match v with
 | .so (.vc (.cb t none))=>match s.ds with
  | .o d=>k v (s.pas d)
  | _=>zF4 t s fun u s=>k (.so (.vc (.cb t (some u)))) s
 | .so (.vc (.ci kd z lo hi))=>match s.ds with
  | .i l h u d=>if isL lo l&&isL l lo&&isL hi h&&isL h hi then asL (decide (z=u)) true (k (.so (.vc (.ci kd u u u))) (s.pas d)) else k v s
  | _=>k v s
 | v=>k v s
structure Same (s s':Sg):Prop where
 fr:s'.fr=s.fr
 bl:s'.bl=s.bl
 nu:s'.nu=s.nu
 nr:s'.nr=s.nr
 nz:s'.nz=s.nz
theorem Same.nn {s s':Sg} (h:Same s s'):s'.nn=s.nn:=by unfold Sg.nn;rw [h.bl,h.nr,h.nz]
theorem Same.refl (s:Sg):Same s s:=⟨rfl,rfl,rfl,rfl,rfl⟩
theorem zp8 {v:SV} {k:SV→Sg→Rs} (h:xVal v s k=some L) (hL:LOK Post L) (hR:Rep B X s w) (hv:v.ok s.nn X w):
  ∃ v' s' L',k v' s'=some L'∧LOK Post L'∧Rep B X s' w∧Same s s'∧v'.den X=v.den X∧v'.ok s'.nn X w:=by
 unfold xVal at h
 split at h
 ·rename_i t
  split at h
  ·rw [Sg.pas_eq] at h
   exact ⟨_,_,L,h,hL,hR.ds _,⟨rfl,rfl,rfl,rfl,rfl⟩,rfl,hv⟩
  ·obtain ⟨u,d,L',ht,hk,hL'⟩:=zv4 h hL
   exact ⟨_,_,L',hk,hL',hR.ds d,⟨rfl,rfl,rfl,rfl,rfl⟩,rfl,rfl,fun v hv=>by cases hv;exact ht⟩
 ·split at h
  ·split at h
   ·obtain ⟨x,h1,rfl⟩:=zk6 h
    obtain ⟨e,hL'⟩:=hL
    have e:=of_decide_eq_true e
    subst e
    rw [Sg.pas_eq] at h1
    exact ⟨_,_,x,h1,hL',hR.ds _,⟨rfl,rfl,rfl,rfl,rfl⟩,rfl,rfl,Int.le_refl _,Int.le_refl _⟩
   ·exact ⟨_,s,L,h,hL,hR,.refl s,rfl,hv⟩
  ·exact ⟨_,s,L,h,hL,hR,.refl s,rfl,hv⟩
 ·exact ⟨v,s,L,h,hL,hR,.refl s,rfl,hv⟩
end

noncomputable def zR2 (ops:Array Oper) (fr:List SV) (o:Oper):Option Bool:=
 match o.guard with
 | none=>some true
 | some (j,want)=>match (ops[j]?).bind (·.dst) with
  | none=>some false
  | some d=>match nth fr d with
   | some (.so (.vc (.cb _ (some v))))=>some (v==want)
   | some .su=>some false
   | _=>none
theorem zi5 {ops:Array Oper} {fr:List SV} {o:Oper} {v:Bool} (h:zR2 ops fr o=some v) {n:Nn} {X:Env} {W:World} (hf:okF n X W fr):Region.wanted o (yielded ops (za4 X fr).tmps)=v:=by
 unfold zR2 at h
 unfold Region.wanted
 split at h
 ·rename_i hg;rw [hg];cases h;rfl
 ·rename_i j want hg
  rw [hg]
  simp only [yielded]
  split at h
  ·rename_i hd;rw [hd];cases h;rfl
  ·rename_i d hd
   rw [hd]
   simp only [Option.bind_some]
   split at h
   ·rename_i t u hs
    cases h
    rw [ze9] at hs
    have ht:t=u:=(hf _ (List.mem_of_getElem? hs)).2 u rfl
    have:(za4 X fr).tmps[d]?=some (.bool t):=by simp [za4,hs,SV.den,TV.den,Cl.den]
    rw [this,ht]
    cases u<;>cases want<;>rfl
   ·rename_i hs
    rw [ze9] at hs
    cases h
    have:(za4 X fr).tmps[d]?=some undef:=by simp [za4,hs,SV.den]
    rw [this];rfl
   ·cases h

noncomputable def zN7 (fr:List SV):List Operand→Option (List SV)
 | []=>some []
 | x::r=>match ev fr x,zN7 fr r with
  | some s,some l=>some (s::l)
  | _,_=>none
theorem zF5 {n:Nn} {X:Env} {W:World} {fr:List SV} (hf:okF n X W fr):∀ {l:List Operand} {r:List SV},zN7 fr l=some r→l.map (za4 X fr).eval=r.map (SV.den X)∧okF n X W r
 | [],r,h=>by cases h;exact ⟨rfl,fun _ hc=>by cases hc⟩
 | x::l,r,h=>by
  unfold zN7 at h
  split at h
  ·rename_i s r' h1 h2
   cases h
   have a:=zb4 h1 hf
   have b:=zF5 hf h2
   refine ⟨by rw [List.map_cons,List.map_cons,a.1,b.1],fun c hc=>?_⟩
   rcases List.mem_cons.1 hc with rfl | hc
   ·exact a.2
   ·exact b.2 c hc
  ·cases h
def okCall (P:Program) (f:Nat):Bool:=match P.funcs[f]? with
 | some fn=>!(fn.name=="runtime.NumGoroutine")&&!fn.body.isNone
 | none=>false
noncomputable def xCall (lo hi:Nat) (call:FuncId→List SV→Sg→(SV→Sg→Rs)→Rs) (o:Oper) (s:Sg) (k:SV→Sg→Rs):Rs:=
 match o.op with
 | .call c=>match c.callee with
  | .value f=>match ev s.fr f,zN7 s.fr c.args.toList with
   | some (.so (.vc (.cf fn cps))),some l=>if Nat.ble lo fn&&Nat.blt fn hi then call fn (l++cps.map fun x=>.so (.vc (.cp x.1 x.2))) s k else none
   | _,_=>none
  | _=>none
 | _=>none
def zn8 (P:Program) (Post:SV→Prop) (B:Base) (call:FuncId→List SV→Sg→(SV→Sg→Rs)→Rs):Prop:=
 ∀ (X:Env) (s:Sg) (w:World) (f:FuncId) (args:List SV) (k:SV→Sg→Rs) (L:Lf),call f args s k=some L→LOK Post L→Rep B X s w→okF s.nn X w args→
  Calls P f (args.map (SV.den X)).toArray w fun e w'=>∃ v s' X' L',e=.returned (v.den X')∧Gr w w'∧Agr s.nn X X'∧Rep B X' s' w'∧v.ok s'.nn X' w'∧s'.fr=s.fr∧s'.bl=s.bl∧s'.nu=s.nu∧k v s'=some L'∧LOK Post L'
structure Step (ro:Nat→Bool) (X:Env) (s:Sg) (w:World) (X':Env) (s':Sg) (w':World):Prop where
 ag:∀ i,i<s.bl.length→X.E i=X'.E i
 st:Stay ro X s w w'
 le:s.bl.length≤s'.bl.length
 keep:∀ (i:Nat),i<s.bl.length→ro i=true→s'.bl[i]?=s.bl[i]?
section
variable {P:Program} {Post:SV→Prop} {B:Base} {X:Env} {s:Sg} {w:World} {L:Lf} {lo hi:Nat} {call:FuncId→List SV→Sg→(SV→Sg→Rs)→Rs} {o:Oper} {K:Act→World→Prop} {Q:Exit→Act→World→Prop} {ro:Nat→Bool}
theorem zZ6 {a:Act} {w:World} {c:Call} {f:Operand} {fn:Nat} {cv:Array Value} (hop:o.op=.call c) (hc:c.callee=.value f) (hf:a.eval f=.func (.func fn) #[] cv) (hok:okCall P fn=true):
  (execOp a.eval o).run P w=.ok (.enter fn ((c.args.map a.eval)++cv)) w:=by
 unfold okCall at hok
 cases hfn:P.funcs[fn]? with
 | none=>rw [hfn] at hok;cases hok
 | some g=>
  rw [hfn] at hok
  simp only [Bool.and_eq_true,Bool.not_eq_true'] at hok
  have h1:¬ g.name="runtime.NumGoroutine":=by simpa using hok.1
  have h2:¬ g.body=none:=fun e=>by rw [e] at hok;cases hok.2
  unfold execOp
  simp [hop,resolve,hc,hf,Deferred.ofValue,invoke,callFunc,hfn,h1,h2]
theorem zN8 {k:SV→Sg→Rs} (hC:zn8 P Post B call) (hcl:∀ f,lo≤f→f<hi→okCall P f=true) (h:xCall lo hi call o s k=some L) (hL:LOK Post L) (hR:Rep B X s w)
  (hK:∀ v s' X' w' L',Rep B X' s' w'→v.ok s'.nn X' w'→s'.fr=s.fr→s'.bl=s.bl→s'.nu=s.nu→Gr w w'→Agr s.nn X X'→k v s'=some L'→LOK Post L'→K ((za4 X' s'.fr).put o.dst (v.den X')) w'):o.wp P (za4 X s.fr) w K Q:=by
 unfold xCall at h
 split at h
 ·rename_i c hop
  split at h
  ·rename_i f hc
   split at h
   ·rename_i fn cps l h1 h2
    split at h
    ·rename_i hb
     simp only [Bool.and_eq_true,Nat.ble_eq] at hb
     have hf:=zb4 h1 hR.fr
     have ha:=zF5 hR.fr h2
     have hrun:=zZ6 (P:=P) (o:=o) (w:=w) hop hc (hf.1.trans rfl) (hcl fn hb.1 (zd6 hb.2))
     have hargs:(c.args.map (za4 X s.fr).eval)++(cps.map X.ptr).toArray=((l++cps.map fun x=>SV.so (.vc (.cp x.1 x.2))).map (SV.den X)).toArray:=by
      rw [List.map_append,← ha.1,List.map_map]
      have:(c.args.map (za4 X s.fr).eval)=(c.args.toList.map (za4 X s.fr).eval).toArray:=by rw [← Array.toList_map,Array.toArray_toList]
      rw [this]
      simp only [List.append_toArray]
      rfl
     rw [hargs] at hrun
     have hok:okF s.nn X w (l++cps.map fun x=>SV.so (.vc (.cp x.1 x.2))):=fun c hc=>by
      rcases List.mem_append.1 hc with hc | hc
      ·exact ha.2 c hc
      ·obtain ⟨x,hx,rfl⟩:=List.mem_map.1 hc
       have:=hf.2.1
       simp only [Cl.lt,List.all_eq_true] at this
       exact ⟨this x hx,trivial⟩
     refine zA7 o.dst rfl hrun (hC X s w fn _ k L h hL hR hok) (fun e w' he=>?_)
     obtain ⟨v,s',X',L',rfl,hg,hag,hR',hv,e1,e2,e3,hk,hL'⟩:=he
     refine ⟨v.den X',rfl,?_⟩
     rw [zg3 hag hR.fr,← e1]
     exact hK v s' X' w' L' hR' hv e1 e2 e3 hg hag hk hL'
    ·cases h
   ·cases h
  ·cases h
 ·cases h
noncomputable def xOp (P:Program) (lo hi:Nat) (call:FuncId→List SV→Sg→(SV→Sg→Rs)→Rs) (ro:Nat→Bool) (o:Oper) (s:Sg) (k:Sg→Rs):Rs:=
 match o.op with
 | .call _=>xCall lo hi call o s fun v s=>xVal v s fun v s=>s.put o.dst v k
 | _=>match xEff P ro o s with
  | some s=>k s
  | none=>none
theorem zZ7 {k:Sg→Rs} (hC:zn8 P Post B call) (hcl:∀ f,lo≤f→f<hi→okCall P f=true) (h:xOp P lo hi call ro o s k=some L) (hL:LOK Post L) (hR:Rep B X s w)
  (hK:∀ s' X' w' L',Rep B X' s' w'→Step ro X s w X' s' w'→k s'=some L'→LOK Post L'→K (za4 X' s'.fr) w'):o.wp P (za4 X s.fr) w K Q:=by
 unfold xOp at h
 split at h
 ·refine zN8 hC hcl h hL hR (fun v s' X' w' L' hR' hv e1 e2 e3 hg hag hk hL'=>?_)
  obtain ⟨v2,s2,L2,aa,ac,ad,hs,hd,ab⟩:=zp8 hk hL' hR' hv
  rw [Sg.put_eq] at aa
  have:=hK _ X' w' L2 (ad.putD o.dst ab) ⟨fun i hi=>hag.E i hi,.gr hg,by simp [hs.bl,e2],fun i _ _=>by simp [hs.bl,e2]⟩ aa ac
  rw [← hd,zf4,← hs.fr]
  exact this
 ·split at h
  ·rename_i s2 he
   refine xEff_ok he hR (fun X' w' hR' hag hst=>hK s2 X' w' L hR' ⟨fun i hi=>hag.E i hi,hst,?_,?_⟩ h hL)
   ·have:=(zZ5 he).1;exact this
   ·exact (zZ5 he).2
  ·cases h
end
end Go.Proofs.YthhbibpaeonecaaGreatDoor
