/- Joined of: Gen127, Gen128, Law, Law2, Law3, Gen120, Gen130, Pl2, Mat, Gen137, Gen138. -/
import Derived.Test.YtaldbfflkpgfoaaGreatDoorPartG
import Derived.Test.YtaldbfflkpgfoaaGreatDoorPartD
import Derived.Test.YtaldbfflkpgfoaaGreatDoorPartE
import Derived.Test.YtaldbfflkpgfoaaGreatDoorPartC
import Derived.ProofKit
import Derived.Below
import Derived.Deep.DeepHandedRow
import Derived.Lib.LaidTab
import Derived.Stop.LaidErr
import Derived.LaidSub
import Derived.Lay
import Derived.MakeChecks
import Derived.SizedLaws
import Derived.ChangeArms
import Derived.OpenShut
import Derived.Test.YtaldbfflkpgfoaaGreatDoorPartF
/- Printed by a program of the prover's:the examples of chapter 07. -/
namespace Go.Proofs.YtaldbfflkpgfoaaGreatDoor
open Go.RowKit

set_option maxRecDepth 100000 in
set_option maxHeartbeats 1000000 in
theorem zero7 (w:World):
    Calls Tryz.prog 20 #[] w fun e w'=>e=.returned (.agg #[.string ⟨([48]:List UInt8).toArray⟩,.string ⟨([48]:List UInt8).toArray⟩,.string ⟨([48]:List UInt8).toArray⟩])∧Gr w w':=by
 go_enter Tryz.func20,Tryz.ntmps20
 have hB:=Gr.refl w
 refine wp_seq_k (fun K1 k1=>?_)
 refine rg [0] ?_
 refine se ?_
 refine ea 25 #[(.string ⟨([]:List UInt8).toArray⟩),(.string ⟨([]:List UInt8).toArray⟩),(.string ⟨([]:List UInt8).toArray⟩)] 0 hB fun b2 w2 g2 L2 o2 q2 hB=>?_
 simp only [p3]
 refine sq_nil ?_
 refine k1 _ _ ?_
 try clear k1 K1
 refine wp_seq_k (fun K3 k3=>?_)
 refine rg [0,1] ?_
 refine sv 1 (.agg #[(.string ⟨([48]:List UInt8).toArray⟩),(.string ⟨([48]:List UInt8).toArray⟩),(.string ⟨([48]:List UInt8).toArray⟩)]) ?_
 refine se ?_
 refine es 25 0 (.agg #[(.string ⟨([48]:List UInt8).toArray⟩),(.string ⟨([48]:List UInt8).toArray⟩),(.string ⟨([48]:List UInt8).toArray⟩)]) [(.string ⟨([48]:List UInt8).toArray⟩),(.string ⟨([48]:List UInt8).toArray⟩),(.string ⟨([48]:List UInt8).toArray⟩)] #[(.string ⟨([48]:List UInt8).toArray⟩),(.string ⟨([48]:List UInt8).toArray⟩),(.string ⟨([48]:List UInt8).toArray⟩)] L2 hB q2 ⟨rfl,rfl,rfl,trivial⟩ fun w4 ab aa L2 hB=>?_
 refine sq_nil ?_
 refine k3 _ _ ?_
 try clear k3 K3
 refine wp_ret ?_
 refine bodyPost_ret (v:=(.agg #[(.string ⟨([48]:List UInt8).toArray⟩),(.string ⟨([48]:List UInt8).toArray⟩),(.string ⟨([48]:List UInt8).toArray⟩)])) (ret_cell _ _ _ rfl rfl L2 (by kernel_rfl)) rfl ⟨?_,hB⟩
 exact rfl

theorem lawK70:sEq [(ratL ((0:Rat))),(ratL ((1:Rat))),(ratL ((0:Rat)))] [([48]:List UInt8),([49]:List UInt8),([48]:List UInt8)]=true:=sEq_lit (ratL_litw (by kernel_rfl) (itoa_litp 0 (by kernel_rfl) (by decide))) (ratL_litw (by kernel_rfl) (itoa_litp 1 (by kernel_rfl) (by decide))) (ratL_litw (by kernel_rfl) (itoa_litp 0 (by kernel_rfl) (by decide)))
theorem lawK71:sEq [(ratL ((0:Rat))),(ratL ((3/5:Rat))),(ratL ((-4/5:Rat)))] [([48]:List UInt8),([51,47,53]:List UInt8),([45,52,47,53]:List UInt8)]=true:=sEq_lit (ratL_litw (by kernel_rfl) (itoa_litp 0 (by kernel_rfl) (by decide))) (ratL_litf (by kernel_rfl) (itoa_litp 3 (by kernel_rfl) (by decide)) (itoa_litp 5 (by kernel_rfl) (by decide)) rfl) (ratL_litf (by kernel_rfl) (itoa_litn 4 (by kernel_rfl) (by decide) (by decide)) (itoa_litp 5 (by kernel_rfl) (by decide)) rfl)
theorem lawK72:((((quarters).length:Int)==(24:Int)))=true:=by decide+kernel
theorem lawK73:((((quarters).getD 1 (0,0,0,0)).1==0&&((quarters).getD 1 (0,0,0,0)).2.1==0&&((quarters).getD 1 (0,0,0,0)).2.2.1==1&&((quarters).getD 1 (0,0,0,0)).2.2.2==(-1)))=true:=by decide+kernel
set_option maxRecDepth 100000 in
set_option maxHeartbeats 8000000 in
theorem known7 (w:World) (ht:Tab w) (hm:Mx w):
    Calls Tryz.prog 11 #[] w fun e w'=>e=.returned (.bool true)∧Gr w w':=by
 go_enter Tryz.func11,Tryz.ntmps11
 have hB:=Gr.refl w
 refine wp_seq_k (fun K1 k1=>?_)
 refine rg [0] ?_
 refine sv 0 (.bool false) ?_
 refine sq_nil ?_
 refine k1 _ _ ?_
 try clear k1 K1
 refine wp_seq_k (fun K2 k2=>?_)
 refine rg [0,1,2,3,4,5,6,7,8,9] ?_
 refine sv 11 (.agg #[(.int .i64 1),(.int .i64 0),(.int .i64 0),(.int .i64 1)]) ?_
 refine se ?_
 refine ec 12 (zero7 _) ?_
 rintro e3 w3 ⟨rfl,g3⟩
 refine ⟨_,rfl,?_⟩
 replace hB:=hB.trans g3
 simp only [p3,p4]
 refine sv 13 (.agg #[(.int .i64 1),(.int .i64 0),(.int .i64 0),(.int .i64 1),(.string ⟨([48]:List UInt8).toArray⟩),(.string ⟨([48]:List UInt8).toArray⟩),(.string ⟨([48]:List UInt8).toArray⟩)]) ?_
 refine se ?_
 refine ec 14 (mof_k1 _ (hm.gr hB) (ht.gr hB)) ?_
 rintro e4 w4 ⟨⟨bO,bH,bG,bM,bP,bK,bF,bN,bL,bJ,aY,aH,af,aJ,aA,aV,aT,aU,aF,aR,ad,ah,aN,ab,aM,ax,aZ,aO,aC,au,aL,ap,a1,aW,aq,ak,ar,av,aw,al,aD,ai,a0,aP,aB,ay,aj,a2,rfl,bZ,b8,bR,bX,bT,b7,bW,b4,bV,bY,a7,a8⟩,g4⟩
 refine ⟨_,rfl,?_⟩
 replace hB:=hB.trans g4
 simp only [p3,p4]
 refine sv 10 (.tuple #[(.agg #[bO,bH,bG,bM,bP,bK,bF,bN,bL,bJ,aY,aH,af,aJ,aA,aV,aT,aU,aF,aR,ad,ah,aN,ab,aM,ax,aZ,aO,aC,au,aL,ap,a1,aW,aq,ak,ar,av,aw,al,aD,ai,a0,aP,aB,ay,aj,a2]),(.int .i64 0)]) ?_
 refine sv 15 (.agg #[bO,bH,bG,bM,bP,bK,bF,bN,bL,bJ,aY,aH,af,aJ,aA,aV,aT,aU,aF,aR,ad,ah,aN,ab,aM,ax,aZ,aO,aC,au,aL,ap,a1,aW,aq,ak,ar,av,aw,al,aD,ai,a0,aP,aB,ay,aj,a2]) ?_
 refine sv 16 (.int .i64 0) ?_
 refine se ?_
 refine ea 41 #[(.bool false),(.slice none 0 0),(.bool false),(.slice none 0 0),(.bool false),(.slice none 0 0),(.bool false),(.slice none 0 0),(.bool false),(.slice none 0 0),(.bool false),(.slice none 0 0),(.bool false),(.slice none 0 0),(.bool false),(.slice none 0 0),(.bool false),(.slice none 0 0),(.bool false),(.slice none 0 0),(.bool false),(.slice none 0 0),(.bool false),(.slice none 0 0),(.bool false),(.slice none 0 0),(.bool false),(.slice none 0 0),(.bool false),(.slice none 0 0),(.bool false),(.slice none 0 0),(.bool false),(.slice none 0 0),(.bool false),(.slice none 0 0),(.bool false),(.slice none 0 0),(.bool false),(.slice none 0 0),(.bool false),(.slice none 0 0),(.bool false),(.slice none 0 0),(.bool false),(.slice none 0 0),(.bool false),(.slice none 0 0)] 1 hB fun b5 w5 g5 L5 o5 q5 hB=>?_
 simp only [p3,p4]
 refine se ?_
 have ei:=L5
 refine es 41 0 (.agg #[bO,bH,bG,bM,bP,bK,bF,bN,bL,bJ,aY,aH,af,aJ,aA,aV,aT,aU,aF,aR,ad,ah,aN,ab,aM,ax,aZ,aO,aC,au,aL,ap,a1,aW,aq,ak,ar,av,aw,al,aD,ai,a0,aP,aB,ay,aj,a2]) [bO,bH,bG,bM,bP,bK,bF,bN,bL,bJ,aY,aH,af,aJ,aA,aV,aT,aU,aF,aR,ad,ah,aN,ab,aM,ax,aZ,aO,aC,au,aL,ap,a1,aW,aq,ak,ar,av,aw,al,aD,ai,a0,aP,aB,ay,aj,a2] #[bO,bH,bG,bM,bP,bK,bF,bN,bL,bJ,aY,aH,af,aJ,aA,aV,aT,aU,aF,aR,ad,ah,aN,ab,aM,ax,aZ,aO,aC,au,aL,ap,a1,aW,aq,ak,ar,av,aw,al,aD,ai,a0,aP,aB,ay,aj,a2] L5 hB q5 ⟨bZ.one0,bZ.one1,bZ.one2,bZ.one3,b8.one0,b8.one1,b8.one2,b8.one3,bR.one0,bR.one1,bR.one2,bR.one3,bX.one0,bX.one1,bX.one2,bX.one3,bT.one0,bT.one1,bT.one2,bT.one3,b7.one0,b7.one1,b7.one2,b7.one3,bW.one0,bW.one1,bW.one2,bW.one3,b4.one0,b4.one1,b4.one2,b4.one3,bV.one0,bV.one1,bV.one2,bV.one3,bY.one0,bY.one1,bY.one2,bY.one3,a7.one0,a7.one1,a7.one2,a7.one3,a8.one0,a8.one1,a8.one2,a8.one3,trivial⟩ fun w6 ey dW L5 hB=>?_
 refine sv 2 (.int .i64 0) ?_
 refine sq_nil ?_
 refine k2 _ _ ?_
 try clear k2 K2
 refine wp_seq_k (fun K7 k7=>?_)
 refine rg [0,1,2,3,4,5,6,7,8,9] ?_
 refine sv 18 (.agg #[(.int .i64 2),(.int .i64 1),(.int .i64 0),(.int .i64 0)]) ?_
 refine se ?_
 refine ec 19 (zero7 _) ?_
 rintro e8 w8 ⟨rfl,g8⟩
 refine ⟨_,rfl,?_⟩
 replace hB:=hB.trans g8
 simp only [p3,p4]
 refine sv 20 (.agg #[(.int .i64 2),(.int .i64 1),(.int .i64 0),(.int .i64 0),(.string ⟨([48]:List UInt8).toArray⟩),(.string ⟨([48]:List UInt8).toArray⟩),(.string ⟨([48]:List UInt8).toArray⟩)]) ?_
 refine se ?_
 refine ec 21 (mof_k2 _ (hm.gr hB) (ht.gr hB)) ?_
 rintro e9 w9 ⟨⟨cl,cc,cg,ck,cn,ch,ce,cj,cd,cm,bd,bg,aK,aI,ae,aE,aS,aG,ac,a3,a4,aX,aQ,az,bj,bo,bk,bh,bn,bt,bv,bp,bw,bD,bq,bz,bc,bE,bf,bC,bi,bx,bb,ba,bA,bu,bB,bm,rfl,cy,cB,ct,bS,bU,b6,cA,cD,cq,co,ca,b9⟩,g9⟩
 refine ⟨_,rfl,?_⟩
 replace hB:=hB.trans g9
 simp only [p3,p4]
 refine sv 17 (.tuple #[(.agg #[cl,cc,cg,ck,cn,ch,ce,cj,cd,cm,bd,bg,aK,aI,ae,aE,aS,aG,ac,a3,a4,aX,aQ,az,bj,bo,bk,bh,bn,bt,bv,bp,bw,bD,bq,bz,bc,bE,bf,bC,bi,bx,bb,ba,bA,bu,bB,bm]),(.int .i64 0)]) ?_
 refine sv 22 (.agg #[cl,cc,cg,ck,cn,ch,ce,cj,cd,cm,bd,bg,aK,aI,ae,aE,aS,aG,ac,a3,a4,aX,aQ,az,bj,bo,bk,bh,bn,bt,bv,bp,bw,bD,bq,bz,bc,bE,bf,bC,bi,bx,bb,ba,bA,bu,bB,bm]) ?_
 refine sv 23 (.int .i64 0) ?_
 refine se ?_
 refine ea 41 #[(.bool false),(.slice none 0 0),(.bool false),(.slice none 0 0),(.bool false),(.slice none 0 0),(.bool false),(.slice none 0 0),(.bool false),(.slice none 0 0),(.bool false),(.slice none 0 0),(.bool false),(.slice none 0 0),(.bool false),(.slice none 0 0),(.bool false),(.slice none 0 0),(.bool false),(.slice none 0 0),(.bool false),(.slice none 0 0),(.bool false),(.slice none 0 0),(.bool false),(.slice none 0 0),(.bool false),(.slice none 0 0),(.bool false),(.slice none 0 0),(.bool false),(.slice none 0 0),(.bool false),(.slice none 0 0),(.bool false),(.slice none 0 0),(.bool false),(.slice none 0 0),(.bool false),(.slice none 0 0),(.bool false),(.slice none 0 0),(.bool false),(.slice none 0 0),(.bool false),(.slice none 0 0),(.bool false),(.slice none 0 0)] 3 hB fun df eG dp a6 d7 d1 hB=>?_
 replace L5:=L5.gr (g8.trans g9)
 have cJ:=L5.ne d7
 simp only [p3,p4]
 refine se ?_
 have dZ:=a6
 refine es 41 0 (.agg #[cl,cc,cg,ck,cn,ch,ce,cj,cd,cm,bd,bg,aK,aI,ae,aE,aS,aG,ac,a3,a4,aX,aQ,az,bj,bo,bk,bh,bn,bt,bv,bp,bw,bD,bq,bz,bc,bE,bf,bC,bi,bx,bb,ba,bA,bu,bB,bm]) [cl,cc,cg,ck,cn,ch,ce,cj,cd,cm,bd,bg,aK,aI,ae,aE,aS,aG,ac,a3,a4,aX,aQ,az,bj,bo,bk,bh,bn,bt,bv,bp,bw,bD,bq,bz,bc,bE,bf,bC,bi,bx,bb,ba,bA,bu,bB,bm] #[cl,cc,cg,ck,cn,ch,ce,cj,cd,cm,bd,bg,aK,aI,ae,aE,aS,aG,ac,a3,a4,aX,aQ,az,bj,bo,bk,bh,bn,bt,bv,bp,bw,bD,bq,bz,bc,bE,bf,bC,bi,bx,bb,ba,bA,bu,bB,bm] a6 hB d1 ⟨cy.one0,cy.one1,cy.one2,cy.one3,cB.one0,cB.one1,cB.one2,cB.one3,ct.one0,ct.one1,ct.one2,ct.one3,bS.one0,bS.one1,bS.one2,bS.one3,bU.one0,bU.one1,bU.one2,bU.one3,b6.one0,b6.one1,b6.one2,b6.one3,cA.one0,cA.one1,cA.one2,cA.one3,cD.one0,cD.one1,cD.one2,cD.one3,cq.one0,cq.one1,cq.one2,cq.one3,co.one0,co.one1,co.one2,co.one3,ca.one0,ca.one1,ca.one2,ca.one3,b9.one0,b9.one1,b9.one2,b9.one3,trivial⟩ fun d9 dm db a6 hB=>?_
 refine sv 4 (.int .i64 0) ?_
 refine sq_nil ?_
 refine k7 _ _ ?_
 try clear k7 K7
 refine wp_seq_k (fun d4 dI=>?_)
 refine rg [0,1,2,3,4,5,6,7,8,9,10,11,12] ?_
 refine sv 25 (.agg #[(.int .i64 1),(.int .i64 0),(.int .i64 0),(.int .i64 1)]) ?_
 refine se ?_
 refine ec 26 (zero7 _) ?_
 rintro e13 eE ⟨rfl,cW⟩
 refine ⟨_,rfl,?_⟩
 replace hB:=hB.trans cW
 simp only [p3,p4]
 refine sv 27 (.agg #[(.int .i64 1),(.int .i64 0),(.int .i64 0),(.int .i64 1),(.string ⟨([48]:List UInt8).toArray⟩),(.string ⟨([48]:List UInt8).toArray⟩),(.string ⟨([48]:List UInt8).toArray⟩)]) ?_
 refine sv 28 (.agg #[(.int .i64 1),(.int .i64 0),(.int .i64 0),(.int .i64 1)]) ?_
 refine se ?_
 refine ec 29 (zero7 _) ?_
 rintro ej eF ⟨rfl,c5⟩
 refine ⟨_,rfl,?_⟩
 replace hB:=hB.trans c5
 simp only [p3,p4]
 refine sv 30 (.agg #[(.int .i64 1),(.int .i64 0),(.int .i64 0),(.int .i64 1),(.string ⟨([48]:List UInt8).toArray⟩),(.string ⟨([48]:List UInt8).toArray⟩),(.string ⟨([48]:List UInt8).toArray⟩)]) ?_
 refine se ?_
 refine ec 31 (join_k1 _ (hm.gr hB) (ht.gr hB)) ?_
 rintro eh eA ⟨rfl,c8⟩
 refine ⟨_,rfl,?_⟩
 replace hB:=hB.trans c8
 simp only [p3,p4]
 refine sv 24 (.tuple #[(.agg #[(.int .i64 0),(.int .i64 0),(.int .i64 0),(.int .i64 1),(.string ⟨([48]:List UInt8).toArray⟩),(.string ⟨([48]:List UInt8).toArray⟩),(.string ⟨([48]:List UInt8).toArray⟩)]),(.int .i64 0)]) ?_
 refine sv 32 (.agg #[(.int .i64 0),(.int .i64 0),(.int .i64 0),(.int .i64 1),(.string ⟨([48]:List UInt8).toArray⟩),(.string ⟨([48]:List UInt8).toArray⟩),(.string ⟨([48]:List UInt8).toArray⟩)]) ?_
 refine sv 33 (.int .i64 0) ?_
 refine se ?_
 refine ea 27 #[(.int .i64 0),(.int .i64 0),(.int .i64 0),(.int .i64 0),(.string ⟨([]:List UInt8).toArray⟩),(.string ⟨([]:List UInt8).toArray⟩),(.string ⟨([]:List UInt8).toArray⟩)] 5 hB fun dC ex dc a9 dS dY hB=>?_
 replace L5:=(dm.lc (L5.gr dp) cJ).gr (cW.trans (c5.trans c8))
 have cN:=L5.ne dS
 replace a6:=a6.gr (cW.trans (c5.trans c8))
 have cu:=a6.ne dS
 simp only [p3,p4]
 refine se ?_
 have d5:=a9
 refine es 27 0 (.agg #[(.int .i64 0),(.int .i64 0),(.int .i64 0),(.int .i64 1),(.string ⟨([48]:List UInt8).toArray⟩),(.string ⟨([48]:List UInt8).toArray⟩),(.string ⟨([48]:List UInt8).toArray⟩)]) [(.int .i64 0),(.int .i64 0),(.int .i64 0),(.int .i64 1),(.string ⟨([48]:List UInt8).toArray⟩),(.string ⟨([48]:List UInt8).toArray⟩),(.string ⟨([48]:List UInt8).toArray⟩)] #[(.int .i64 0),(.int .i64 0),(.int .i64 0),(.int .i64 1),(.string ⟨([48]:List UInt8).toArray⟩),(.string ⟨([48]:List UInt8).toArray⟩),(.string ⟨([48]:List UInt8).toArray⟩)] a9 hB dY ⟨rfl,rfl,rfl,rfl,rfl,rfl,rfl,trivial⟩ fun en cX cZ a9 hB=>?_
 refine sv 6 (.int .i64 0) ?_
 refine sq_nil ?_
 refine dI _ _ ?_
 try clear dI d4
 refine wp_seq_k (fun d6 dN=>?_)
 refine rg [0,1,2,3,4,5,6,7,8,9,10,11,12] ?_
 refine sv 35 (.agg #[(.int .i64 12),(.int .i64 1),(.int .i64 0),(.int .i64 0)]) ?_
 refine se ?_
 refine ec 36 (zero7 _) ?_
 rintro ek em ⟨rfl,cT⟩
 refine ⟨_,rfl,?_⟩
 replace hB:=hB.trans cT
 simp only [p3,p4]
 refine sv 37 (.agg #[(.int .i64 12),(.int .i64 1),(.int .i64 0),(.int .i64 0),(.string ⟨([48]:List UInt8).toArray⟩),(.string ⟨([48]:List UInt8).toArray⟩),(.string ⟨([48]:List UInt8).toArray⟩)]) ?_
 refine sv 38 (.agg #[(.int .i64 12),(.int .i64 1),(.int .i64 0),(.int .i64 0)]) ?_
 refine se ?_
 refine ec 39 (zero7 _) ?_
 rintro eo ep ⟨rfl,cR⟩
 refine ⟨_,rfl,?_⟩
 replace hB:=hB.trans cR
 simp only [p3,p4]
 refine sv 40 (.agg #[(.int .i64 12),(.int .i64 1),(.int .i64 0),(.int .i64 0),(.string ⟨([48]:List UInt8).toArray⟩),(.string ⟨([48]:List UInt8).toArray⟩),(.string ⟨([48]:List UInt8).toArray⟩)]) ?_
 refine se ?_
 refine ec 41 (join_k2 _ (hm.gr hB) (ht.gr hB)) ?_
 rintro e21 eu ⟨rfl,cU⟩
 refine ⟨_,rfl,?_⟩
 replace hB:=hB.trans cU
 simp only [p3,p4]
 refine sv 34 (.tuple #[(.agg #[(.int .i64 0),(.int .i64 0),(.int .i64 0),(.int .i64 0),(.string ⟨([]:List UInt8).toArray⟩),(.string ⟨([]:List UInt8).toArray⟩),(.string ⟨([]:List UInt8).toArray⟩)]),(.int .i64 2)]) ?_
 refine sv 42 (.agg #[(.int .i64 0),(.int .i64 0),(.int .i64 0),(.int .i64 0),(.string ⟨([]:List UInt8).toArray⟩),(.string ⟨([]:List UInt8).toArray⟩),(.string ⟨([]:List UInt8).toArray⟩)]) ?_
 refine sv 43 (.int .i64 2) ?_
 refine se ?_
 refine ea 27 #[(.int .i64 0),(.int .i64 0),(.int .i64 0),(.int .i64 0),(.string ⟨([]:List UInt8).toArray⟩),(.string ⟨([]:List UInt8).toArray⟩),(.string ⟨([]:List UInt8).toArray⟩)] 7 hB fun ed eB c4 dt dh d8 hB=>?_
 replace L5:=(cX.lc (L5.gr dc) cN).gr (cT.trans (cR.trans cU))
 have cK:=L5.ne dh
 replace a6:=(cX.lc (a6.gr dc) cu).gr (cT.trans (cR.trans cU))
 have cx:=a6.ne dh
 replace a9:=a9.gr (cT.trans (cR.trans cU))
 have cC:=a9.ne dh
 simp only [p3,p4]
 refine se ?_
 have dX:=dt
 refine es 27 0 (.agg #[(.int .i64 0),(.int .i64 0),(.int .i64 0),(.int .i64 0),(.string ⟨([]:List UInt8).toArray⟩),(.string ⟨([]:List UInt8).toArray⟩),(.string ⟨([]:List UInt8).toArray⟩)]) [(.int .i64 0),(.int .i64 0),(.int .i64 0),(.int .i64 0),(.string ⟨([]:List UInt8).toArray⟩),(.string ⟨([]:List UInt8).toArray⟩),(.string ⟨([]:List UInt8).toArray⟩)] #[(.int .i64 0),(.int .i64 0),(.int .i64 0),(.int .i64 0),(.string ⟨([]:List UInt8).toArray⟩),(.string ⟨([]:List UInt8).toArray⟩),(.string ⟨([]:List UInt8).toArray⟩)] dt hB d8 ⟨rfl,rfl,rfl,rfl,rfl,rfl,rfl,trivial⟩ fun ez cO c7 dt hB=>?_
 refine sv 8 (.int .i64 2) ?_
 refine sq_nil ?_
 refine dN _ _ ?_
 try clear dN d6
 refine wp_seq_k (fun dV dK=>?_)
 refine rg [0,1] ?_
 refine se ?_
 refine ec 44 (mquarters _ (hm.gr hB)) ?_
 rintro ew d2 ⟨⟨cY,rfl,cH⟩,cS⟩
 refine ⟨_,rfl,?_⟩
 replace hB:=hB.trans cS
 simp only [p3,p4]
 refine sv 9 cY ?_
 refine sq_nil ?_
 refine dK _ _ ?_
 try clear dK dV
 refine wp_seq_k (fun d0 dM=>?_)
 obtain ⟨_,_,rfl,aa⟩:=cH.get (by decide) (getD_some (d:=((0,0,0,0):Int × Int × Int × Int)) (i:=1) (xs:=quarters) (by rw [quarters_len];omega))
 have bQ:=Gr.drew d2
 replace hB:=hB.trans bQ
 replace L5:=(cO.lc (L5.gr c4) cK).gr (cS.trans bQ)
 replace a6:=(cO.lc (a6.gr c4) cx).gr (cS.trans bQ)
 replace a9:=(cO.lc (a9.gr c4) cC).gr (cS.trans bQ)
 replace aa:=aa.gr bQ
 refine wp_region_ord (fun w'=>Lc w' b5 #[bO,bH,bG,bM,bP,bK,bF,bN,bL,bJ,aY,aH,af,aJ,aA,aV,aT,aU,aF,aR,ad,ah,aN,ab,aM,ax,aZ,aO,aC,au,aL,ap,a1,aW,aq,ak,ar,av,aw,al,aD,ai,a0,aP,aB,ay,aj,a2] 41∧Lc w' df #[cl,cc,cg,ck,cn,ch,ce,cj,cd,cm,bd,bg,aK,aI,ae,aE,aS,aG,ac,a3,a4,aX,aQ,az,bj,bo,bk,bh,bn,bt,bv,bp,bw,bD,bq,bz,bc,bE,bf,bC,bi,bx,bb,ba,bA,bu,bB,bm] 41∧Lc w' dC #[(.int .i64 0),(.int .i64 0),(.int .i64 0),(.int .i64 1),(.string ⟨([48]:List UInt8).toArray⟩),(.string ⟨([48]:List UInt8).toArray⟩),(.string ⟨([48]:List UInt8).toArray⟩)] 27∧AtV w' cY (1*4) [(.int .i64 (((quarters).getD 1 (0,0,0,0)).1)),(.int .i64 (((quarters).getD 1 (0,0,0,0)).2.1)),(.int .i64 (((quarters).getD 1 (0,0,0,0)).2.2.1)),(.int .i64 (((quarters).getD 1 (0,0,0,0)).2.2.2))]) [(true,0),(true,1),(true,2),(true,3),(true,4),(true,5),(true,6),(true,7),(true,8),(true,9),(true,10),(true,11),(true,12),(true,13),(true,14),(true,15),(true,16),(true,20),(false,17),(false,18),(false,19),(true,21),(true,22),(true,23),(true,24),(true,25),(true,26),(true,28),(false,27),(true,29),(true,30),(true,31),(true,32),(true,33),(true,34),(true,35),(true,36),(true,37),(true,38),(true,39),(true,40),(true,41),(true,42),(true,43),(true,44),(true,45),(true,46),(true,47),(true,48),(true,49)] (by kernel_rfl) (by kernel_rfl) (by kernel_rfl) (by decide) (fun _ _ _ _ _ h=>h) ⟨L5,a6,a9,aa⟩ ?_
 refine ov 45 (.int .i64 0) ?_
 refine ov 46 (.bool true) ?_
 refine ov 47 (.bool true) ?_
 refine ov 48 (.int .i64 0) ?_
 refine ov 49 (.bool true) ?_
 refine ov 50 (.bool true) ?_
 refine ov 51 (.bool true) ?_
 refine ov 52 (.int .i64 0) ?_
 refine ov 53 (.bool true) ?_
 refine ov 54 (.bool true) ?_
 refine ov 55 (.bool true) ?_
 refine ov 56 (.int .i64 2) ?_
 refine ov 57 (.bool true) ?_
 refine ov 58 (.bool true) ?_
 refine ov 59 (.bool true) ?_
 refine ow 60 (.agg #[bO,bH,bG,bM,bP,bK,bF,bN,bL,bJ,aY,aH,af,aJ,aA,aV,aT,aU,aF,aR,ad,ah,aN,ab,aM,ax,aZ,aO,aC,au,aL,ap,a1,aW,aq,ak,ar,av,aw,al,aD,ai,a0,aP,aB,ay,aj,a2]) rfl (fun w' hS=>(rl 41 0 [bO,bH,bG,bM,bP,bK,bF,bN,bL,bJ,aY,aH,af,aJ,aA,aV,aT,aU,aF,aR,ad,ah,aN,ab,aM,ax,aZ,aO,aC,au,aL,ap,a1,aW,aq,ak,ar,av,aw,al,aD,ai,a0,aP,aB,ay,aj,a2] hS.1)) ?_
 refine ov 61 (.agg #[(.int .i64 1),(.int .i64 0),(.int .i64 0)]) ?_
 refine ov 65 (.agg #[(.string ⟨([48]:List UInt8).toArray⟩),(.string ⟨([49]:List UInt8).toArray⟩),(.string ⟨([48]:List UInt8).toArray⟩)]) ?_
 refine oe ?_
 refine ec 62 (vof_v (1) (0) (0) (by omega) (by omega) (by omega) _) ?_
 rintro eC er ⟨⟨dE,dG,dw,dB,dU,dP,dH,dO,dA,dQ,dd,dk,rfl,da,c6,cV⟩,cM⟩
 refine ⟨_,rfl,?_⟩
 replace hB:=hB.trans cM
 rw [show ((((1:Int):Rat)):Rat)=(1:Rat) from by kernel_rfl] at da
 rw [show ((((0:Int):Rat)):Rat)=(0:Rat) from by kernel_rfl] at c6
 rw [show ((((0:Int):Rat)):Rat)=(0:Rat) from by kernel_rfl] at cV
 replace L5:=L5.gr cM
 replace a6:=a6.gr cM
 replace a9:=a9.gr cM
 replace aa:=aa.gr cM
 refine ⟨⟨L5,a6,a9,aa⟩,?_⟩
 simp only [p3,p4]
 refine oe ?_
 have a5:=g5.kp.trans (dW.trans (g8.kp.trans (g9.kp.trans (dp.kp.trans (db.trans (cW.kp.trans (c5.kp.trans (c8.kp.trans (dc.kp.trans (cZ.trans (cT.kp.trans (cR.kp.trans (cU.kp.trans (c4.kp.trans (c7.trans (cS.kp.trans (bQ.kp.trans cM.kp)))))))))))))))))
 replace bZ:=bZ.kp a5
 replace b8:=b8.kp a5
 replace bR:=bR.kp a5
 replace bX:=bX.kp a5
 replace bT:=bT.kp a5
 replace b7:=b7.kp a5
 replace bW:=bW.kp a5
 replace b4:=b4.kp a5
 replace bV:=bV.kp a5
 replace bY:=bY.kp a5
 replace a7:=a7.kp a5
 replace a8:=a8.kp a5
 refine ec 63 (mapply64 bZ b8 bR bX bT b7 bW b4 bV bY a7 a8 da c6 cV (ht.gr hB) (hm.gr hB)) ?_
 rintro el eD ⟨⟨dF,dv,dx,dJ,dR,dy,dT,dD,dL,du,de,dn,rfl,cF,cG,cE⟩,cP⟩
 refine ⟨_,rfl,?_⟩
 replace hB:=hB.trans cP
 rw [show (((0+(0:Rat)*(1:Rat)+(-1:Rat)*(0:Rat)+(0:Rat)*(0:Rat))+(0:Rat)):Rat)=(0:Rat) from by kernel_rfl] at cF
 rw [show (((0+(1:Rat)*(1:Rat)+(0:Rat)*(0:Rat)+(0:Rat)*(0:Rat))+(0:Rat)):Rat)=(1:Rat) from by kernel_rfl] at cG
 rw [show (((0+(0:Rat)*(1:Rat)+(0:Rat)*(0:Rat)+(1:Rat)*(0:Rat))+(0:Rat)):Rat)=(0:Rat) from by kernel_rfl] at cE
 replace L5:=L5.gr cP
 replace a6:=a6.gr cP
 replace a9:=a9.gr cP
 replace aa:=aa.gr cP
 refine ⟨⟨L5,a6,a9,aa⟩,?_⟩
 simp only [p3,p4]
 refine oe ?_
 refine ec 64 (vpoint_v cF cG cE (by omega) (ht.gr hB)) ?_
 rintro ee eH ⟨rfl,cQ⟩
 refine ⟨_,rfl,?_⟩
 replace hB:=hB.trans cQ
 replace L5:=L5.gr cQ
 replace a6:=a6.gr cQ
 replace a9:=a9.gr cQ
 replace aa:=aa.gr cQ
 refine ⟨⟨L5,a6,a9,aa⟩,?_⟩
 simp only [p3,p4]
 have dj:(sEq [(ratL ((0:Rat))),(ratL ((1:Rat))),(ratL ((0:Rat)))] [([48]:List UInt8),([49]:List UInt8),([48]:List UInt8)])=true:=(lawK70)
 refine ow 66 (.bool true) rfl (fun w' hS=>(RunV.bool (x:=sEq [(ratL ((0:Rat))),(ratL ((1:Rat))),(ratL ((0:Rat)))] [([48]:List UInt8),([49]:List UInt8),([48]:List UInt8)]) (rv_ssq 25 25 23 _ _ [(ratL ((0:Rat))),(ratL ((1:Rat))),(ratL ((0:Rat)))] [([48]:List UInt8),([49]:List UInt8),([48]:List UInt8)] rfl rfl rfl (by kernel_rfl) (by kernel_rfl) (by kernel_rfl)) dj)) ?_
 refine ov 67 (.bool true) ?_
 refine ov 68 (.bool true) ?_
 refine ov 69 (.pointer (some ⟨df,0,none⟩)) ?_
 refine ov 70 (.pointer (some ⟨df,12,none⟩)) ?_
 refine ow 71 (.agg #[aK,aI,ae,aE,aS,aG,ac,a3,a4,aX,aQ,az]) rfl (fun w' hS=>(rl 38 12 [aK,aI,ae,aE,aS,aG,ac,a3,a4,aX,aQ,az] hS.2.1)) ?_
 refine ov 73 (.agg #[(.string ⟨([48]:List UInt8).toArray⟩),(.string ⟨([51,47,53]:List UInt8).toArray⟩),(.string ⟨([45,52,47,53]:List UInt8).toArray⟩)]) ?_
 refine oe ?_
 have cL:=dp.kp.trans (db.trans (cW.kp.trans (c5.kp.trans (c8.kp.trans (dc.kp.trans (cZ.trans (cT.kp.trans (cR.kp.trans (cU.kp.trans (c4.kp.trans (c7.trans (cS.kp.trans (bQ.kp.trans (cM.kp.trans (cP.kp.trans cQ.kp)))))))))))))))
 replace bS:=bS.kp cL
 replace bU:=bU.kp cL
 replace b6:=b6.kp cL
 refine ec 72 (vpoint_v bS bU b6 (by omega) (ht.gr hB)) ?_
 rintro et ef ⟨rfl,c9⟩
 refine ⟨_,rfl,?_⟩
 replace hB:=hB.trans c9
 replace L5:=L5.gr c9
 replace a6:=a6.gr c9
 replace a9:=a9.gr c9
 replace aa:=aa.gr c9
 refine ⟨⟨L5,a6,a9,aa⟩,?_⟩
 simp only [p3,p4]
 have di:(sEq [(ratL ((0:Rat))),(ratL ((3/5:Rat))),(ratL ((-4/5:Rat)))] [([48]:List UInt8),([51,47,53]:List UInt8),([45,52,47,53]:List UInt8)])=true:=(lawK71)
 refine ow 74 (.bool true) rfl (fun w' hS=>(RunV.bool (x:=sEq [(ratL ((0:Rat))),(ratL ((3/5:Rat))),(ratL ((-4/5:Rat)))] [([48]:List UInt8),([51,47,53]:List UInt8),([45,52,47,53]:List UInt8)]) (rv_ssq 25 25 23 _ _ [(ratL ((0:Rat))),(ratL ((3/5:Rat))),(ratL ((-4/5:Rat)))] [([48]:List UInt8),([51,47,53]:List UInt8),([45,52,47,53]:List UInt8)] rfl rfl rfl (by kernel_rfl) (by kernel_rfl) (by kernel_rfl)) di)) ?_
 refine ov 75 (.bool true) ?_
 refine ov 76 (.bool true) ?_
 refine ov 77 (.pointer (some ⟨dC,0,none⟩)) ?_
 refine ow 78 (.agg #[(.int .i64 0),(.int .i64 0),(.int .i64 0),(.int .i64 1)]) rfl (fun w' hS=>(rl 22 0 [(.int .i64 0),(.int .i64 0),(.int .i64 0),(.int .i64 1)] hS.2.2.1)) ?_
 refine ov 79 (.agg #[(.int .i64 0),(.int .i64 0),(.int .i64 0),(.int .i64 1)]) ?_
 refine ov 80 (.bool true) ?_
 refine ov 81 (.bool true) ?_
 refine ov 82 (.bool true) ?_
 refine ov 83 cY ?_
 refine ow 84 (.int .i64 (((quarters).length:Int))) rfl (fun w' hS=>(rv_len (e:=22) cH _ _ rfl rfl (by kernel_rfl))) ?_
 have dl:((((quarters).length:Int)==(24:Int)))=true:=(lawK72)
 refine ow 85 (.bool true) rfl (fun w' hS=>(RunV.bool (x:=(((quarters).length:Int)==(24:Int))) (rvk (by kernel_rfl)) dl)) ?_
 refine ov 86 (.bool true) ?_
 refine ov 87 (.bool true) ?_
 refine ov 88 cY ?_
 refine ow 89 (adr cY (1*4)) rfl (fun w' hS=>(rv_idx (e:=22) cH (by decide) 1 (by rw [quarters_len];omega) _ _ _ rfl rfl rfl (by kernel_rfl) (by kernel_rfl))) ?_
 refine ow 90 (.agg #[(.int .i64 (((quarters).getD 1 (0,0,0,0)).1)),(.int .i64 (((quarters).getD 1 (0,0,0,0)).2.1)),(.int .i64 (((quarters).getD 1 (0,0,0,0)).2.2.1)),(.int .i64 (((quarters).getD 1 (0,0,0,0)).2.2.2))]) rfl (fun w' hS=>(rv_ldn [(.int .i64 (((quarters).getD 1 (0,0,0,0)).1)),(.int .i64 (((quarters).getD 1 (0,0,0,0)).2.1)),(.int .i64 (((quarters).getD 1 (0,0,0,0)).2.2.1)),(.int .i64 (((quarters).getD 1 (0,0,0,0)).2.2.2))] hS.2.2.2 _ _ rfl rfl (by kernel_rfl))) ?_
 refine ov 91 (.agg #[(.int .i64 0),(.int .i64 0),(.int .i64 1),(.int .i64 (-1))]) ?_
 have dq:((((quarters).getD 1 (0,0,0,0)).1==0&&((quarters).getD 1 (0,0,0,0)).2.1==0&&((quarters).getD 1 (0,0,0,0)).2.2.1==1&&((quarters).getD 1 (0,0,0,0)).2.2.2==(-1)))=true:=(lawK73)
 refine ow 92 (.bool true) rfl (fun w' hS=>(RunV.bool (x:=(((quarters).getD 1 (0,0,0,0)).1==0&&((quarters).getD 1 (0,0,0,0)).2.1==0&&((quarters).getD 1 (0,0,0,0)).2.2.1==1&&((quarters).getD 1 (0,0,0,0)).2.2.2==(-1))) (rv_arreq 22 22 3 (k:=.i64) _ _ [((quarters).getD 1 (0,0,0,0)).1,((quarters).getD 1 (0,0,0,0)).2.1,((quarters).getD 1 (0,0,0,0)).2.2.1,((quarters).getD 1 (0,0,0,0)).2.2.2] [0,0,1,-1] rfl rfl rfl (by kernel_rfl) (by kernel_rfl) (by kernel_rfl)) dq)) ?_
 refine ov 93 (.bool true) ?_
 refine ov 0 (.bool true) ?_
 refine ord_nil ?_
 refine dM _ _ ?_
 try clear dM d0
 refine wp_ret ?_
 refine bodyPost_ret (v:=(.bool true)) (ret_tmp rfl rfl) rfl ⟨?_,hB⟩
 exact rfl

end Go.Proofs.YtaldbfflkpgfoaaGreatDoor
/- Printed by a program of the prover's:the contract of known. -/
namespace Go.Proofs.YtaldbfflkpgfoaaGreatDoor
open Go.RowKit

def cKnown:ConT:=fun args _ _=>match args with
 | []=>some (.leaf (.so (.vc (.cb true (some true)))) 0 0)
 | _=>none
theorem cKnown_ok {I:World→Prop} (hI:∀ w,I w→Tab w∧Mx w):ConOK Tryz.prog I 11 cKnown:=by
 intro args E n w T hw _ hT _
 unfold cKnown at hT
 split at hT
 ·cases hT
  exact (known7 w (hI w hw).1 (hI w hw).2).mono fun e w' he=>val_holds he ⟨rfl,fun v hv=>by cases hv;rfl⟩
 ·cases hT
end Go.Proofs.YtaldbfflkpgfoaaGreatDoor
/- From a walk to a row:a law whose arguments hold integers. -/
namespace Go.Proofs.YtaldbfflkpgfoaaGreatDoor
open Go.ChangeShapes Go.WideShapes Go.ChangeAt Go.RowKit

theorem trodAll_kept {H:Type} {enc:TypeId × Value→H} {P:Program} (hl:laidOutB P=true) {W W':World} (hb:Below W.heap.size W W'):
  ∀ {ts:List TypeId} {vs:List Value} {ds:List (DataW H)} {ps:List MemPlace},(∀ t ∈ ts,P.readableRec t=true∧t<P.types.size)→DataW.TrodAll enc P W 0 (fun _=>true) true ts vs ds ps→
   (∀ x ∈ ps,x.block<W.heap.size)→DataW.TrodAll enc P W' 0 (fun b=>decide (b<W.heap.size)) true ts vs ds ps
 | [],[],[],_,_,h,_=>h
 | t::ts,v::vs,d::ds,ps,ht,h,hp=>by
  obtain ⟨p,q,h1,h2,rfl⟩:=h
  exact ⟨p,q,Below.trod hl (ht t (by simp)).1 (ht t (by simp)).2 h1 hb (fun x hx=>hp x (by simp [hx])),trodAll_kept hl hb (fun u hu=>ht u (by simp [hu])) h2 (fun x hx=>hp x (by simp [hx])),rfl⟩
 | [],[],_::_,_,_,h,_=>by cases h
 | [],_::_,_,_,_,h,_=>by cases h
 | _::_,[],_,_,_,h,_=>by cases h
 | _::_,_::_,[],_,_,h,_=>by cases h

theorem law_post {H:Type} {enc:TypeId × Value→H} {P:Program} {f:Func} {s:ChangeSpec} {W W':World} {args:Array Value} {ds gs:List (DataW H)} {before:List MemPlace} {tb:TypeId}
  (hl:laidOutB P=true) (aa:(f.params.toList.all fun t=>P.readableRec t&&decide (t<P.types.size))=true) (hres:f.resultTypes=#[tb]) (htb:P.underlying tb=some .bool) (hv:s.vars=[])
  (hW:DataW.Whole enc P f.params.toList s.vars false W args.toList ds gs before) (hfn:s.fn H (ds++gs)={results:=[.lit (.bool true)],args:=ds}) (hb:Below W.heap.size W W'):
  s.post enc P f false true false false W args (.bool true) W':=by
 have hr:∀ t ∈ f.params.toList,P.readableRec t=true∧t<P.types.size:=fun t ht=>by
  have:=List.all_eq_true.1 aa t ht
  simpa using this
 have hlt:∀ p ∈ before,p.block<W.heap.size:=fun p hp=>hW.lt p hp
 have hW':=hW
 obtain ⟨p,q,hA,hV,rfl,_,_⟩:=hW
 rw [hv] at hV
 obtain ⟨rfl,rfl⟩:=trodVars_none hV
 refine ⟨ds,[],_,[],p,[],hW',?_,?_,?_,World.keptBut_mono (fun x hx=>⟨hx,.inr (.inl (by simpa using hx))⟩) (hb.frame (· ∈ p++[])),fun h=>by cases h⟩
 ·rw [hfn,hres]
  exact trodAll_mk1 (shut_bool htb true)
 ·rw [hfn]
  exact trodAll_kept hl hb hr hA (fun x hx=>hlt x (by simp [hx]))
 ·rw [hfn,hv];rfl

theorem cell_int {P:Program} {W:World} {base u:Nat} {k:IntKind} {v:Value} (hu:P.underlying u=some (.int k)) (h:Cell.okWide P W .any base u v):∃ n,v=.int k n∧k.has n:=by
 unfold Cell.okWide at h
 rw [hu] at h
 unfold Cell.ok at h
 rw [hu] at h
 cases v<;>simp at h
 obtain ⟨rfl,h⟩:=h
 exact ⟨_,rfl,h⟩
theorem own:ownKnob Tryz.prog.godebug=none:=by kernel_rfl
theorem laidOut:laidOutB Tryz.prog=true:=by kernel_rfl
end Go.Proofs.YtaldbfflkpgfoaaGreatDoor
/- From a walk to a row:laws whose arguments hold strings,over worlds with sentinels laid. -/
namespace Go.Proofs.YtaldbfflkpgfoaaGreatDoor
open Go.ChangeShapes Go.WideShapes Go.ChangeAt Go.RowKit

section
variable {H:Type} {enc:TypeId × Value→H}
theorem witness_row_sh {C:Checked} {os:Os} {f:FuncId} {fn:Func} {s:OpenSpec} {conds:List PathCond} {apart:Bool} {laid:List (String × DataW Unit)} (modest:Bool) (w0:World) (args:Array Value) (hos:w0.os=os)
  (hsh:(w0.forCall (fun _ _=>0) ⟨#[],args,[]⟩).Shaped C.prog)
  (hok:Input.okWideB C.prog (w0.forCall (fun _ _=>0) ⟨#[],args,[]⟩) f ⟨#[],args,[]⟩=true)
  (hrow:s.preRow enc C.prog fn conds apart laid (w0.forCall (fun _ _=>0) ⟨#[],args,[]⟩).memory args):
  ∃ (w:World) (tape:Tape) (i:Input),w.os=os∧(w.forCall tape i).Shaped C.prog∧i.vars=[]∧Input.okWide C.prog (w.forCall tape i) .any w.heap.size f i∧
   s.preRow enc C.prog fn conds apart laid (w.forCall tape i).memory i.args∧({modest:=modest}:Assume).holds C.prog (lone (Frame.enter C.prog f i.args .normal) [] (w.forCall tape i)):=
 ⟨w0,fun _ _=>0,⟨#[],args,[]⟩,hos,hsh,(Input.okWide_of_okWideB (base:=0) hok).1,(Input.okWide_of_okWideB hok).2,hrow,by
  simp only [Assume.holds]
  exact ⟨by simp,by simp,fun _=>Modest.zero,by simp,by simp⟩⟩
end
theorem cell_str {P:Program} {W:World} {base u:Nat} {v:Value} (hu:P.underlying u=some .string) (h:Cell.okWide P W .any base u v):∃ X:List UInt8,v=.string ⟨X.toArray⟩∧(X.length:Int)≤9223372036854775807:=by
 unfold Cell.okWide at h
 rw [hu] at h
 unfold Cell.ok at h
 rw [hu] at h
 cases v<;>simp at h
 next s=>exact ⟨s.data.toList,by simp,by simpa using h⟩
def kindD:Option IntKind→TypeDesc
 | some k=>.int k
 | none=>.string
def kindV (k:Option IntKind) (v:Option Value):Prop:=
 match k with
 | some k=>∃ n:Int,v=some (.int k n)∧k.has n
 | none=>∃ X:List UInt8,v=some (.string ⟨X.toArray⟩)∧(X.length:Int)≤9223372036854775807
theorem open_mixed {P:Program} {W:World} {base t:Nat} {v:Value} {ts:List TypeId} (ks:List (Option IntKind)) (hagg:(match P.underlying t with | some (.struct _) | some (.array _ _)=>true | _=>false)=true)
  (hct:P.cellTypes P.depth t=some ts) (hC:P.cellsOf t=ts.length) (hk:ts.map (fun u=>P.underlying u)=ks.map fun k=>some (kindD k)) (h:Value.okWide P W .any base t v):
  ∃ cs,v=.agg cs∧cs.size=ks.length∧∀ (i:Nat) (k:Option IntKind),ks[i]?=some k→kindV k cs[i]?:=by
 have hlen:ts.length=ks.length:=by have:=congrArg List.length hk;simpa using this
 have h':∃ cs,v=.agg cs∧cs.size=P.cellsOf t∧Row.okWide P W .any base t cs:=by
  unfold Value.okWide at h
  split at h<;>first | exact h | (rename_i h1 h2;revert hagg;split<;>simp_all)
 obtain ⟨cs,hv,hs,ts',hct',_,hc⟩:=h'
 rw [hct] at hct'
 obtain rfl:=Option.some.inj hct'
 refine ⟨cs,hv,by omega,fun i k hi=>?_⟩
 have hil:i<ks.length:=(List.getElem?_eq_some_iff.1 hi).1
 have hic:i<cs.size:=by omega
 obtain ⟨u,hu,hcell⟩:=hc i cs[i] (Array.getElem?_eq_getElem hic)
 rw [Nat.mod_eq_of_lt (by omega)] at hu
 have:(ts.map (fun u=>P.underlying u))[i]?=some (P.underlying u):=by simp [hu]
 rw [hk] at this
 simp only [List.getElem?_map,hi,Option.map_some,Option.some.injEq] at this
 unfold kindV
 rw [Array.getElem?_eq_getElem hic]
 cases k with
 | some k=>
  obtain ⟨n,hn,hh⟩:=cell_int this.symm hcell
  exact ⟨n,by rw [hn],hh⟩
 | none=>
  obtain ⟨X,hX,hl⟩:=cell_str this.symm hcell
  exact ⟨X,by rw [hX],hl⟩
theorem has_i64 {n:Int} (h:IntKind.i64.has n):-9223372036854775808≤n∧n≤9223372036854775807:=h
end Go.Proofs.YtaldbfflkpgfoaaGreatDoor
/- What an input weighs:strings in an array are no longer than memory. -/
namespace Go.Proofs.YtaldbfflkpgfoaaGreatDoor
open Go.ChangeShapes Go.WideShapes Go.ChangeAt Go.RowKit

end Go.Proofs.YtaldbfflkpgfoaaGreatDoor
/- Printed by a program of the prover's:what runs on symbols are given. -/
namespace Go.Proofs.YtaldbfflkpgfoaaGreatDoor
open Go.RowKit

end Go.Proofs.YtaldbfflkpgfoaaGreatDoor
/- Printed by a program of the prover's:MotionApplies. -/
namespace Go.Proofs.YtaldbfflkpgfoaaGreatDoor
open Go.RowKit

def asN:Nat→Rat→Lf→Lf
 | 0,_,l=>l
 | n+1,x,l=>.as (decide (x≠0)) true (asN n x l)
theorem asN_ok {P:SV→Prop} {x:Rat} {l:Lf} {n:Nat} (h:x≠0) (hl:LOK P l):LOK P (asN n x l):=by
 induction n with
 | zero=>exact hl
 | succ n ih=>exact ⟨decide_eq_true h,ih⟩
def l3 (a b c:Rat):List (List UInt8):=[ratL a,ratL b,ratL c]
theorem eE3 {a b c x y z:Rat} (h1:a=x) (h2:b=y) (h3:c=z):sEq (l3 a b c) (l3 x y z)=true:=by subst h1 h2 h3;exact sEq_same _
theorem nE3 {a b c x y z:Rat} (h1:a=x) (h2:b=y) (h3:c=z):(!sEq (l3 a b c) (l3 x y z))=false:=by rw [eE3 h1 h2 h3];rfl
def isT (v:SV):Prop:=∀ X,v.den X=.bool true
theorem isT_of {t:Bool} {d:Option Bool} (h:t=true):isT (.so (.vc (.cb t d))):=fun _=>by rw [h];rfl
end Go.Proofs.YtaldbfflkpgfoaaGreatDoor
/- Placements compared by the program. -/
namespace Go.Proofs.YtaldbfflkpgfoaaGreatDoor
open Go.RowKit
section
variable {P:Program} {a:Act} {o:Oper} {w:World}
end
end Go.Proofs.YtaldbfflkpgfoaaGreatDoor
/- Motions as twelve numbers:composed,turned back;rotations. -/
namespace Go.Proofs.YtaldbfflkpgfoaaGreatDoor
open Go.RowKit

abbrev Mo:=Nat→Rat
def d3 (a b c x y z:Rat):Rat:=0+a*x+b*y+c*z
def f3 (a b c x y z:Rat):Rat:=a*x+b*y+c*z
def mc (A B:Mo):Mo
 | 0=>d3 (A 0) (A 1) (A 2) (B 0) (B 3) (B 6)
 | 1=>d3 (A 0) (A 1) (A 2) (B 1) (B 4) (B 7)
 | 2=>d3 (A 0) (A 1) (A 2) (B 2) (B 5) (B 8)
 | 3=>d3 (A 3) (A 4) (A 5) (B 0) (B 3) (B 6)
 | 4=>d3 (A 3) (A 4) (A 5) (B 1) (B 4) (B 7)
 | 5=>d3 (A 3) (A 4) (A 5) (B 2) (B 5) (B 8)
 | 6=>d3 (A 6) (A 7) (A 8) (B 0) (B 3) (B 6)
 | 7=>d3 (A 6) (A 7) (A 8) (B 1) (B 4) (B 7)
 | 8=>d3 (A 6) (A 7) (A 8) (B 2) (B 5) (B 8)
 | 9=>d3 (A 0) (A 1) (A 2) (B 9) (B 10) (B 11)+A 9
 | 10=>d3 (A 3) (A 4) (A 5) (B 9) (B 10) (B 11)+A 10
 | 11=>d3 (A 6) (A 7) (A 8) (B 9) (B 10) (B 11)+A 11
 | _=>0
def RotM (A:Mo) (w x y z:Rat):Prop:=RotQ (A 0) (A 1) (A 2) (A 3) (A 4) (A 5) (A 6) (A 7) (A 8) w x y z
section
variable {A B:Mo} {a b c d:Int} (h0:¬(a=0∧b=0∧c=0∧d=0)) (h:RotM A a b c d)
include h0 h
end
end Go.Proofs.YtaldbfflkpgfoaaGreatDoor
/- Printed by a program of the prover's:plain texts;MotionChecks. -/
namespace Go.Proofs.YtaldbfflkpgfoaaGreatDoor
open Go.RowKit

def plain1 (X:List UInt8):Bool:=!(X.any (·==47)&&decide ((20:Int)<(X.length:Int)))&&!decide ((400:Int)<(X.length:Int))
theorem plain1_t {X:List UInt8} (h:∀ j,j<X.length→(((((X).getD j 0).toNat:Int)==(47:Int))&&decide ((20:Int)<((X).length:Int)))=false) (h4:decide ((400:Int)<((X).length:Int))=false):plain1 X=true:=by
 unfold plain1
 rw [h4,Bool.not_false,Bool.and_true,Bool.not_eq_true',Bool.and_eq_false_iff]
 by_cases hl:decide ((20:Int)<((X).length:Int))=true
 ·left
  rw [List.any_eq_false]
  intro c hc
  obtain ⟨j,hj,rfl⟩:=List.getElem_of_mem hc
  have:=h j hj
  rw [hl,Bool.and_true,beq_eq_false_iff_ne] at this
  intro e
  apply this
  rw [show X.getD j 0=X[j] by simp [hj]]
  have e:X[j]=47:=by simpa using e
  rw [e];rfl
 ·right;simpa using hl
theorem plain1_c {X:List UInt8} {k:Nat} (hk:k<X.length) (h1:((((X).getD k 0).toNat:Int)==(47:Int))=true) (h2:decide ((20:Int)<((X).length:Int))=true):plain1 X=false:=by
 have e:X.any (·==47)=true:=by
  rw [List.any_eq_true]
  refine ⟨X[k],List.getElem_mem hk,?_⟩
  have h1:((X.getD k 0).toNat:Int)=47:=by simpa using h1
  rw [show X.getD k 0=X[k] by simp [hk]] at h1
  have:X[k]=47:=by rw [← UInt8.toNat_inj];exact Int.natCast_inj.1 h1
  simpa using this
 unfold plain1
 rw [e,h2];rfl
theorem plain1_l {X:List UInt8} (h:decide ((400:Int)<((X).length:Int))=true):plain1 X=false:=by unfold plain1;rw [h,Bool.not_true,Bool.and_false]
theorem plain1_len {X:List UInt8} (h:plain1 X=true):X.length≤400:=by
 unfold plain1 at h
 simp only [Bool.and_eq_true,Bool.not_eq_true',decide_eq_false_iff_not] at h
 omega
theorem all_succ {P:Nat→Bool} {k:Nat} (h:∀ j,j<k→P j=false) (hk:P k=false):∀ j,j<k+1→P j=false:=fun j hj=>by
 rcases Nat.lt_or_eq_of_le (Nat.le_of_lt_succ hj) with h1 | rfl
 ·exact h j h1
 ·exact hk
set_option maxRecDepth 100000 in
set_option maxHeartbeats 4000000 in
theorem plain7 (qq0 qq1 qq2 qq3:Int) (X Y Z:List UInt8) (_rX:(X.length:Int)≤9223372036854775807) (_rY:(Y.length:Int)≤9223372036854775807) (_rZ:(Z.length:Int)≤9223372036854775807) (w:World):
    Calls Tryz.prog 12 #[(.agg #[(.int .i64 (qq0)),(.int .i64 (qq1)),(.int .i64 (qq2)),(.int .i64 (qq3)),(.string ⟨(X:List UInt8).toArray⟩),(.string ⟨(Y:List UInt8).toArray⟩),(.string ⟨(Z:List UInt8).toArray⟩)])] w fun e w'=>e=.returned (.bool (plain1 X&&(plain1 Y&&plain1 Z)))∧Gr w w':=by
 go_enter Tryz.func12,Tryz.ntmps12
 have hB:=Gr.refl w
 refine wp_seq_k (fun K1 k1=>?_)
 refine rg [0,1] ?_
 refine se ?_
 refine eb 27 #[(.int .i64 (qq0)),(.int .i64 (qq1)),(.int .i64 (qq2)),(.int .i64 (qq3)),(.string ⟨(X:List UInt8).toArray⟩),(.string ⟨(Y:List UInt8).toArray⟩),(.string ⟨(Z:List UInt8).toArray⟩)] 1 hB fun b2 w2 g2 L2 o2 q2 hB=>?_
 simp only [p3,p4]
 refine sv 2 (.bool false) ?_
 refine sq_nil ?_
 refine k1 _ _ ?_
 try clear k1 K1
 refine wp_seq_k (fun K3 k3=>?_)
 refine wp_seq_k (fun K4 k4=>?_)
 refine rg [0] ?_
 refine sv 3 (.int .i64 0) ?_
 refine sq_nil ?_
 refine k4 _ _ ?_
 try clear k4 K4
 refine wp_block ?_
 refine wp_loop_rounds 5 ?_
 show Code.wp _ _ _ _ _
 refine wp_seq_k (fun K5 k5=>?_)
 refine wp_seq_k (fun K6 k6=>?_)
 refine rg [0,1] ?_
 refine sv 6 (.int .i64 0) ?_
 refine sv 7 (.bool true) ?_
 refine sq_nil ?_
 refine k6 _ _ ?_
 try clear k6 K6
 refine wp_cond_true rfl ?_
 refine wp_skip ?_
 refine k5 _ _ ?_
 try clear k5 K5
 refine wp_seq_k (fun K7 k7=>?_)
 refine wp_block ?_
 refine wp_seq_k (fun K8 k8=>?_)
 refine rg [0,1,2,3,4] ?_
 refine sv 10 (.int .i64 0) ?_
 refine sv 11 (.pointer (some ⟨b2,4,none⟩)) ?_
 refine sv 12 (.pointer (some ⟨b2,4,none⟩)) ?_
 refine sw 13 (.string ⟨(X:List UInt8).toArray⟩) rfl (rk 23 4 L2) ?_
 refine sv 4 (.string ⟨(X:List UInt8).toArray⟩) ?_
 refine sq_nil ?_
 refine k8 _ _ ?_
 try clear k8 K8
 refine wp_seq_k (fun K9 k9=>?_)
 refine wp_seq_k (fun bE aE=>?_)
 refine rg [0] ?_
 refine sv 5 (.int .i64 0) ?_
 refine sq_nil ?_
 refine aE _ _ ?_
 try clear aE bE
 refine wp_block ?_
 refine wp_loop_inv (a:=⟨List.toArray ?l11,[]⟩) (fun n a w'=>∃ (kk:Nat) (ac:Nat→Value),(X).length - kk=n∧a=⟨[(ac 0),(.pointer (some ⟨b2,0,none⟩)),(ac 2),(.int .i64 0),(.string ⟨(X:List UInt8).toArray⟩),(.int .i64 ((kk:Int))),(ac 6),(.bool true),undef,undef,(ac 10),(ac 11),(ac 12),(ac 13),(ac 14),(ac 15),(ac 16),(ac 17),(ac 18),(ac 19),(ac 20),(ac 21),(ac 22),(ac 23),(ac 24),(ac 25),(ac 26),(ac 27),(ac 28),undef,undef,undef].toArray,[]⟩∧kk≤(X).length∧(∀ j,j<kk→(((((X).getD j 0).toNat:Int)==(47:Int))&&decide ((20:Int)<((X).length:Int)))=false)∧Lc w' b2 #[(.int .i64 (qq0)),(.int .i64 (qq1)),(.int .i64 (qq2)),(.int .i64 (qq3)),(.string ⟨(X:List UInt8).toArray⟩),(.string ⟨(Y:List UInt8).toArray⟩),(.string ⟨(Z:List UInt8).toArray⟩)] 27∧Gr w w') ((X).length - 0) ?_ ?_
 ·exact ⟨0,(fun i=>List.getD ?l11 i undef),rfl,rfl,(Nat.zero_le _),(fun j h=>absurd h (Nat.not_lt_zero j)),L2,hB⟩
 rintro bO a11 bN ⟨kk,ac,rfl,rfl,hkk,hall,L2,hB⟩ bM aB
 refine wp_seq_k (fun bw aG=>?_)
 refine wp_seq_k (fun bo aH=>?_)
 refine rg [0,1,2,3] ?_
 refine sv 14 (.int .i64 ((kk:Int))) ?_
 refine sv 15 (.string ⟨(X:List UInt8).toArray⟩) ?_
 refine sv 16 (.int .i64 (((X).length:Int))) ?_
 refine sv 17 (.bool (decide ((kk:Int)<((X).length:Int)))) ?_
 refine sq_nil ?_
 refine aH _ _ ?_
 try clear aH bo
 refine wp_cond_split (t:=decide ((kk:Int)<((X).length:Int))) rfl (fun af=>?_) (fun af=>?_)
 ·have hlt:kk<(X).length:=by have:=of_decide_eq_true af;omega
  refine wp_skip ?_
  refine aG _ _ ?_
  try clear aG bw
  refine wp_seq_k (fun aO ar=>?_)
  refine wp_block ?_
  refine wp_seq_k (fun aM au=>?_)
  refine rg [0,1,2,3,4,5,6,7,8] ?_
  refine sv 20 (.string ⟨(X:List UInt8).toArray⟩) ?_
  refine sv 21 (.int .i64 ((kk:Int))) ?_
  refine sw 22 (.int .u8 ((((X).getD kk 0).toNat:Int))) rfl (rv_chr 23 _ _ (X) kk rfl rfl rfl (by omega) (by kernel_rfl)) ?_
  refine sv 23 (.bool (((((X).getD kk 0).toNat:Int)==(47:Int)))) ?_
  rcases Bool.eq_false_or_eq_true (((((X).getD kk 0).toNat:Int)==(47:Int))) with hb17 | hb17
  ·refine sw 24 (.bool true) rfl (RunV.bool (x:=((((X).getD kk 0).toNat:Int)==(47:Int))) (rvk (by kernel_rfl)) hb17) ?_
   refine sv 25 (.string ⟨(X:List UInt8).toArray⟩) ?_
   refine sv 26 (.int .i64 (((X).length:Int))) ?_
   refine sv 27 (.bool (decide ((20:Int)<((X).length:Int)))) ?_
   refine sv 28 (.bool (decide ((20:Int)<((X).length:Int)))) ?_
   refine sq_nil ?_
   refine au _ _ ?_
   try clear au aM
   refine wp_cond_split (t:=decide ((20:Int)<((X).length:Int))) rfl (fun ai=>?_) (fun ai=>?_)
   ·refine wp_seq_k (fun bd ay=>?_)
    refine rg [0] ?_
    refine sv 2 (.bool false) ?_
    refine sq_nil ?_
    refine ay _ _ ?_
    try clear ay bd
    refine wp_ret ?_
    simp only [Exit.then,Exit.inBlock]
    refine bodyPost_ret (v:=(.bool false)) (ret_tmp rfl rfl) rfl ⟨?_,hB⟩
    exact (by rw [plain1_c hlt hb17 ai];rfl)
   ·refine wp_skip ?_
    refine ar _ _ ?_
    try clear ar aO
    refine rg [0,1,2] ?_
    refine sv 18 (.int .i64 ((kk:Int))) ?_
    refine sw 19 (.int .i64 (((kk:Int)+1))) rfl (RunV.int (x:=IntKind.i64.wrap (((kk:Int)+1))) (y:=((kk:Int)+1)) (rvk (by kernel_rfl)) (by first | rfl | (rw [IntKind.wrap_i64];omega))) ?_
    refine sv 5 (.int .i64 (((kk:Int)+1))) ?_
    refine sq_nil ?_
    refine aB ((X).length - (kk+1)) ⟨List.toArray ?l20,[]⟩ _ (by omega) ?_
    exact ⟨kk+1,(fun i=>List.getD ?l20 i undef),rfl,rfl,(by omega),(all_succ (P:=fun j=>((((X).getD j 0).toNat:Int)==(47:Int))&&decide ((20:Int)<((X).length:Int))) hall (by rw [ai,Bool.and_false])),L2,hB⟩
  ·refine sw 24 (.bool false) rfl (RunV.bool (x:=((((X).getD kk 0).toNat:Int)==(47:Int))) (rvk (by kernel_rfl)) hb17) ?_
   refine ss 25 ?_
   refine ss 26 ?_
   refine ss 27 ?_
   refine sv 28 (.bool false) ?_
   refine sq_nil ?_
   refine au _ _ ?_
   try clear au aM
   refine wp_cond_false rfl ?_
   refine wp_skip ?_
   refine ar _ _ ?_
   try clear ar aO
   refine rg [0,1,2] ?_
   refine sv 18 (.int .i64 ((kk:Int))) ?_
   refine sw 19 (.int .i64 (((kk:Int)+1))) rfl (RunV.int (x:=IntKind.i64.wrap (((kk:Int)+1))) (y:=((kk:Int)+1)) (rvk (by kernel_rfl)) (by first | rfl | (rw [IntKind.wrap_i64];omega))) ?_
   refine sv 5 (.int .i64 (((kk:Int)+1))) ?_
   refine sq_nil ?_
   refine aB ((X).length - (kk+1)) ⟨List.toArray ?l21,[]⟩ _ (by omega) ?_
   exact ⟨kk+1,(fun i=>List.getD ?l21 i undef),rfl,rfl,(by omega),(all_succ (P:=fun j=>((((X).getD j 0).toNat:Int)==(47:Int))&&decide ((20:Int)<((X).length:Int))) hall (by rw [hb17];rfl)),L2,hB⟩
 ·have hkeX:kk=(X).length:=by have:=of_decide_eq_false af;omega
  refine wp_exit ?_
  simp only [Exit.then,Exit.inBlock,↓reduceIte]
  refine k9 _ _ ?_
  try clear k9 K9
  refine wp_seq_k (fun bb aQ=>?_)
  refine rg [0,1,2] ?_
  refine sv 29 (.string ⟨(X:List UInt8).toArray⟩) ?_
  refine sv 30 (.int .i64 (((X).length:Int))) ?_
  refine sv 31 (.bool (decide ((400:Int)<((X).length:Int)))) ?_
  refine sq_nil ?_
  refine aQ _ _ ?_
  try clear aQ bb
  refine wp_cond_split (t:=decide ((400:Int)<((X).length:Int))) rfl (fun ae=>?_) (fun ae=>?_)
  ·refine wp_seq_k (fun bi aR=>?_)
   refine rg [0] ?_
   refine sv 2 (.bool false) ?_
   refine sq_nil ?_
   refine aR _ _ ?_
   try clear aR bi
   refine wp_ret ?_
   simp only [Exit.then,Exit.inBlock]
   refine bodyPost_ret (v:=(.bool false)) (ret_tmp rfl rfl) rfl ⟨?_,hB⟩
   exact (by rw [plain1_l ae];rfl)
  ·have hpX:=plain1_t (fun j hj=>hall j (by omega)) ae
   refine wp_skip ?_
   refine k7 _ _ ?_
   try clear k7 K7
   refine rg [0,1,2] ?_
   refine sv 8 (.int .i64 0) ?_
   refine sv 9 (.int .i64 1) ?_
   refine sv 3 (.int .i64 1) ?_
   refine sq_nil ?_
   show Code.rounds _ _ _ _ _ _
   show Code.wp _ _ _ _ _
   refine wp_seq_k (fun bt aU=>?_)
   refine wp_seq_k (fun bq aV=>?_)
   refine rg [0,1] ?_
   refine sv 6 (.int .i64 1) ?_
   refine sv 7 (.bool true) ?_
   refine sq_nil ?_
   refine aV _ _ ?_
   try clear aV bq
   refine wp_cond_true rfl ?_
   refine wp_skip ?_
   refine aU _ _ ?_
   try clear aU bt
   refine wp_seq_k (fun bB a1=>?_)
   refine wp_block ?_
   refine wp_seq_k (fun bu aX=>?_)
   refine rg [0,1,2,3,4] ?_
   refine sv 10 (.int .i64 1) ?_
   refine sv 11 (.pointer (some ⟨b2,4,none⟩)) ?_
   refine sv 12 (.pointer (some ⟨b2,5,none⟩)) ?_
   refine sw 13 (.string ⟨(Y:List UInt8).toArray⟩) rfl (rk 23 5 L2) ?_
   refine sv 4 (.string ⟨(Y:List UInt8).toArray⟩) ?_
   refine sq_nil ?_
   refine aX _ _ ?_
   try clear aX bu
   refine wp_seq_k (fun bK aK=>?_)
   refine wp_seq_k (fun bm aF=>?_)
   refine rg [0] ?_
   refine sv 5 (.int .i64 0) ?_
   refine sq_nil ?_
   refine aF _ _ ?_
   try clear aF bm
   refine wp_block ?_
   refine wp_loop_inv (a:=⟨List.toArray ?l31,[]⟩) (fun n a w'=>∃ (kk:Nat) (aa:Nat→Value),(Y).length - kk=n∧a=⟨[(aa 0),(.pointer (some ⟨b2,0,none⟩)),(aa 2),(.int .i64 1),(.string ⟨(Y:List UInt8).toArray⟩),(.int .i64 ((kk:Int))),(aa 6),(.bool true),(aa 8),(aa 9),(aa 10),(aa 11),(aa 12),(aa 13),(aa 14),(aa 15),(aa 16),(aa 17),(aa 18),(aa 19),(aa 20),(aa 21),(aa 22),(aa 23),(aa 24),(aa 25),(aa 26),(aa 27),(aa 28),(aa 29),(aa 30),(.bool (decide ((400:Int)<((X).length:Int))))].toArray,[]⟩∧kk≤(Y).length∧(∀ j,j<kk→(((((Y).getD j 0).toNat:Int)==(47:Int))&&decide ((20:Int)<((Y).length:Int)))=false)∧Lc w' b2 #[(.int .i64 (qq0)),(.int .i64 (qq1)),(.int .i64 (qq2)),(.int .i64 (qq3)),(.string ⟨(X:List UInt8).toArray⟩),(.string ⟨(Y:List UInt8).toArray⟩),(.string ⟨(Z:List UInt8).toArray⟩)] 27∧Gr w w') ((Y).length - 0) ?_ ?_
   ·exact ⟨0,(fun i=>List.getD ?l31 i undef),rfl,rfl,(Nat.zero_le _),(fun j h=>absurd h (Nat.not_lt_zero j)),L2,hB⟩
   rintro bV a31 bS ⟨kk,aa,rfl,rfl,hkk,hall,L2,hB⟩ bQ aJ
   refine wp_seq_k (fun bH a4=>?_)
   refine wp_seq_k (fun bc aL=>?_)
   refine rg [0,1,2,3] ?_
   refine sv 14 (.int .i64 ((kk:Int))) ?_
   refine sv 15 (.string ⟨(Y:List UInt8).toArray⟩) ?_
   refine sv 16 (.int .i64 (((Y).length:Int))) ?_
   refine sv 17 (.bool (decide ((kk:Int)<((Y).length:Int)))) ?_
   refine sq_nil ?_
   refine aL _ _ ?_
   try clear aL bc
   refine wp_cond_split (t:=decide ((kk:Int)<((Y).length:Int))) rfl (fun ad=>?_) (fun ad=>?_)
   ·have hlt:kk<(Y).length:=by have:=of_decide_eq_true ad;omega
    refine wp_skip ?_
    refine a4 _ _ ?_
    try clear a4 bH
    refine wp_seq_k (fun aA av=>?_)
    refine wp_block ?_
    refine wp_seq_k (fun a3 aq=>?_)
    refine rg [0,1,2,3,4,5,6,7,8] ?_
    refine sv 20 (.string ⟨(Y:List UInt8).toArray⟩) ?_
    refine sv 21 (.int .i64 ((kk:Int))) ?_
    refine sw 22 (.int .u8 ((((Y).getD kk 0).toNat:Int))) rfl (rv_chr 23 _ _ (Y) kk rfl rfl rfl (by omega) (by kernel_rfl)) ?_
    refine sv 23 (.bool (((((Y).getD kk 0).toNat:Int)==(47:Int)))) ?_
    rcases Bool.eq_false_or_eq_true (((((Y).getD kk 0).toNat:Int)==(47:Int))) with hb37 | hb37
    ·refine sw 24 (.bool true) rfl (RunV.bool (x:=((((Y).getD kk 0).toNat:Int)==(47:Int))) (rvk (by kernel_rfl)) hb37) ?_
     refine sv 25 (.string ⟨(Y:List UInt8).toArray⟩) ?_
     refine sv 26 (.int .i64 (((Y).length:Int))) ?_
     refine sv 27 (.bool (decide ((20:Int)<((Y).length:Int)))) ?_
     refine sv 28 (.bool (decide ((20:Int)<((Y).length:Int)))) ?_
     refine sq_nil ?_
     refine aq _ _ ?_
     try clear aq a3
     refine wp_cond_split (t:=decide ((20:Int)<((Y).length:Int))) rfl (fun ap=>?_) (fun ap=>?_)
     ·refine wp_seq_k (fun bj aI=>?_)
      refine rg [0] ?_
      refine sv 2 (.bool false) ?_
      refine sq_nil ?_
      refine aI _ _ ?_
      try clear aI bj
      refine wp_ret ?_
      simp only [Exit.then,Exit.inBlock]
      refine bodyPost_ret (v:=(.bool false)) (ret_tmp rfl rfl) rfl ⟨?_,hB⟩
      exact (by rw [hpX,plain1_c hlt hb37 ap];rfl)
     ·refine wp_skip ?_
      refine av _ _ ?_
      try clear av aA
      refine rg [0,1,2] ?_
      refine sv 18 (.int .i64 ((kk:Int))) ?_
      refine sw 19 (.int .i64 (((kk:Int)+1))) rfl (RunV.int (x:=IntKind.i64.wrap (((kk:Int)+1))) (y:=((kk:Int)+1)) (rvk (by kernel_rfl)) (by first | rfl | (rw [IntKind.wrap_i64];omega))) ?_
      refine sv 5 (.int .i64 (((kk:Int)+1))) ?_
      refine sq_nil ?_
      refine aJ ((Y).length - (kk+1)) ⟨List.toArray ?l40,[]⟩ _ (by omega) ?_
      exact ⟨kk+1,(fun i=>List.getD ?l40 i undef),rfl,rfl,(by omega),(all_succ (P:=fun j=>((((Y).getD j 0).toNat:Int)==(47:Int))&&decide ((20:Int)<((Y).length:Int))) hall (by rw [ap,Bool.and_false])),L2,hB⟩
    ·refine sw 24 (.bool false) rfl (RunV.bool (x:=((((Y).getD kk 0).toNat:Int)==(47:Int))) (rvk (by kernel_rfl)) hb37) ?_
     refine ss 25 ?_
     refine ss 26 ?_
     refine ss 27 ?_
     refine sv 28 (.bool false) ?_
     refine sq_nil ?_
     refine aq _ _ ?_
     try clear aq a3
     refine wp_cond_false rfl ?_
     refine wp_skip ?_
     refine av _ _ ?_
     try clear av aA
     refine rg [0,1,2] ?_
     refine sv 18 (.int .i64 ((kk:Int))) ?_
     refine sw 19 (.int .i64 (((kk:Int)+1))) rfl (RunV.int (x:=IntKind.i64.wrap (((kk:Int)+1))) (y:=((kk:Int)+1)) (rvk (by kernel_rfl)) (by first | rfl | (rw [IntKind.wrap_i64];omega))) ?_
     refine sv 5 (.int .i64 (((kk:Int)+1))) ?_
     refine sq_nil ?_
     refine aJ ((Y).length - (kk+1)) ⟨List.toArray ?l41,[]⟩ _ (by omega) ?_
     exact ⟨kk+1,(fun i=>List.getD ?l41 i undef),rfl,rfl,(by omega),(all_succ (P:=fun j=>((((Y).getD j 0).toNat:Int)==(47:Int))&&decide ((20:Int)<((Y).length:Int))) hall (by rw [hb37];rfl)),L2,hB⟩
   ·have hkeY:kk=(Y).length:=by have:=of_decide_eq_false ad;omega
    refine wp_exit ?_
    simp only [Exit.then,Exit.inBlock,↓reduceIte]
    refine aK _ _ ?_
    try clear aK bK
    refine wp_seq_k (fun bA aY=>?_)
    refine rg [0,1,2] ?_
    refine sv 29 (.string ⟨(Y:List UInt8).toArray⟩) ?_
    refine sv 30 (.int .i64 (((Y).length:Int))) ?_
    refine sv 31 (.bool (decide ((400:Int)<((Y).length:Int)))) ?_
    refine sq_nil ?_
    refine aY _ _ ?_
    try clear aY bA
    refine wp_cond_split (t:=decide ((400:Int)<((Y).length:Int))) rfl (fun ak=>?_) (fun ak=>?_)
    ·refine wp_seq_k (fun bz a5=>?_)
     refine rg [0] ?_
     refine sv 2 (.bool false) ?_
     refine sq_nil ?_
     refine a5 _ _ ?_
     try clear a5 bz
     refine wp_ret ?_
     simp only [Exit.then,Exit.inBlock]
     refine bodyPost_ret (v:=(.bool false)) (ret_tmp rfl rfl) rfl ⟨?_,hB⟩
     exact (by rw [hpX,plain1_l ak];rfl)
    ·have hpY:=plain1_t (fun j hj=>hall j (by omega)) ak
     refine wp_skip ?_
     refine a1 _ _ ?_
     try clear a1 bB
     refine rg [0,1,2] ?_
     refine sv 8 (.int .i64 1) ?_
     refine sv 9 (.int .i64 2) ?_
     refine sv 3 (.int .i64 2) ?_
     refine sq_nil ?_
     show Code.rounds _ _ _ _ _ _
     show Code.wp _ _ _ _ _
     refine wp_seq_k (fun bF aD=>?_)
     refine wp_seq_k (fun bn aW=>?_)
     refine rg [0,1] ?_
     refine sv 6 (.int .i64 2) ?_
     refine sv 7 (.bool true) ?_
     refine sq_nil ?_
     refine aW _ _ ?_
     try clear aW bn
     refine wp_cond_true rfl ?_
     refine wp_skip ?_
     refine aD _ _ ?_
     try clear aD bF
     refine wp_seq_k (fun bk aS=>?_)
     refine wp_block ?_
     refine wp_seq_k (fun bx a2=>?_)
     refine rg [0,1,2,3,4] ?_
     refine sv 10 (.int .i64 2) ?_
     refine sv 11 (.pointer (some ⟨b2,4,none⟩)) ?_
     refine sv 12 (.pointer (some ⟨b2,6,none⟩)) ?_
     refine sw 13 (.string ⟨(Z:List UInt8).toArray⟩) rfl (rk 23 6 L2) ?_
     refine sv 4 (.string ⟨(Z:List UInt8).toArray⟩) ?_
     refine sq_nil ?_
     refine a2 _ _ ?_
     try clear a2 bx
     refine wp_seq_k (fun bG aT=>?_)
     refine wp_seq_k (fun bp aC=>?_)
     refine rg [0] ?_
     refine sv 5 (.int .i64 0) ?_
     refine sq_nil ?_
     refine aC _ _ ?_
     try clear aC bp
     refine wp_block ?_
     refine wp_loop_inv (a:=⟨List.toArray ?l51,[]⟩) (fun n a w'=>∃ (kk:Nat) (ab:Nat→Value),(Z).length - kk=n∧a=⟨[(ab 0),(.pointer (some ⟨b2,0,none⟩)),(ab 2),(.int .i64 2),(.string ⟨(Z:List UInt8).toArray⟩),(.int .i64 ((kk:Int))),(ab 6),(.bool true),(ab 8),(ab 9),(ab 10),(ab 11),(ab 12),(ab 13),(ab 14),(ab 15),(ab 16),(ab 17),(ab 18),(ab 19),(ab 20),(ab 21),(ab 22),(ab 23),(ab 24),(ab 25),(ab 26),(ab 27),(ab 28),(ab 29),(ab 30),(.bool (decide ((400:Int)<((Y).length:Int))))].toArray,[]⟩∧kk≤(Z).length∧(∀ j,j<kk→(((((Z).getD j 0).toNat:Int)==(47:Int))&&decide ((20:Int)<((Z).length:Int)))=false)∧Lc w' b2 #[(.int .i64 (qq0)),(.int .i64 (qq1)),(.int .i64 (qq2)),(.int .i64 (qq3)),(.string ⟨(X:List UInt8).toArray⟩),(.string ⟨(Y:List UInt8).toArray⟩),(.string ⟨(Z:List UInt8).toArray⟩)] 27∧Gr w w') ((Z).length - 0) ?_ ?_
     ·exact ⟨0,(fun i=>List.getD ?l51 i undef),rfl,rfl,(Nat.zero_le _),(fun j h=>absurd h (Nat.not_lt_zero j)),L2,hB⟩
     rintro bL bT bW ⟨kk,ab,rfl,rfl,hkk,hall,L2,hB⟩ bU a7
     refine wp_seq_k (fun bC ba=>?_)
     refine wp_seq_k (fun bf aP=>?_)
     refine rg [0,1,2,3] ?_
     refine sv 14 (.int .i64 ((kk:Int))) ?_
     refine sv 15 (.string ⟨(Z:List UInt8).toArray⟩) ?_
     refine sv 16 (.int .i64 (((Z).length:Int))) ?_
     refine sv 17 (.bool (decide ((kk:Int)<((Z).length:Int)))) ?_
     refine sq_nil ?_
     refine aP _ _ ?_
     try clear aP bf
     refine wp_cond_split (t:=decide ((kk:Int)<((Z).length:Int))) rfl (fun aj=>?_) (fun aj=>?_)
     ·have hlt:kk<(Z).length:=by have:=of_decide_eq_true aj;omega
      refine wp_skip ?_
      refine ba _ _ ?_
      try clear ba bC
      refine wp_seq_k (fun aZ aw=>?_)
      refine wp_block ?_
      refine wp_seq_k (fun aN ax=>?_)
      refine rg [0,1,2,3,4,5,6,7,8] ?_
      refine sv 20 (.string ⟨(Z:List UInt8).toArray⟩) ?_
      refine sv 21 (.int .i64 ((kk:Int))) ?_
      refine sw 22 (.int .u8 ((((Z).getD kk 0).toNat:Int))) rfl (rv_chr 23 _ _ (Z) kk rfl rfl rfl (by omega) (by kernel_rfl)) ?_
      refine sv 23 (.bool (((((Z).getD kk 0).toNat:Int)==(47:Int)))) ?_
      rcases Bool.eq_false_or_eq_true (((((Z).getD kk 0).toNat:Int)==(47:Int))) with hb57 | hb57
      ·refine sw 24 (.bool true) rfl (RunV.bool (x:=((((Z).getD kk 0).toNat:Int)==(47:Int))) (rvk (by kernel_rfl)) hb57) ?_
       refine sv 25 (.string ⟨(Z:List UInt8).toArray⟩) ?_
       refine sv 26 (.int .i64 (((Z).length:Int))) ?_
       refine sv 27 (.bool (decide ((20:Int)<((Z).length:Int)))) ?_
       refine sv 28 (.bool (decide ((20:Int)<((Z).length:Int)))) ?_
       refine sq_nil ?_
       refine ax _ _ ?_
       try clear ax aN
       refine wp_cond_split (t:=decide ((20:Int)<((Z).length:Int))) rfl (fun al=>?_) (fun al=>?_)
       ·refine wp_seq_k (fun bg az=>?_)
        refine rg [0] ?_
        refine sv 2 (.bool false) ?_
        refine sq_nil ?_
        refine az _ _ ?_
        try clear az bg
        refine wp_ret ?_
        simp only [Exit.then,Exit.inBlock]
        refine bodyPost_ret (v:=(.bool false)) (ret_tmp rfl rfl) rfl ⟨?_,hB⟩
        exact (by rw [hpX,hpY,plain1_c hlt hb57 al];rfl)
       ·refine wp_skip ?_
        refine aw _ _ ?_
        try clear aw aZ
        refine rg [0,1,2] ?_
        refine sv 18 (.int .i64 ((kk:Int))) ?_
        refine sw 19 (.int .i64 (((kk:Int)+1))) rfl (RunV.int (x:=IntKind.i64.wrap (((kk:Int)+1))) (y:=((kk:Int)+1)) (rvk (by kernel_rfl)) (by first | rfl | (rw [IntKind.wrap_i64];omega))) ?_
        refine sv 5 (.int .i64 (((kk:Int)+1))) ?_
        refine sq_nil ?_
        refine a7 ((Z).length - (kk+1)) ⟨List.toArray ?l60,[]⟩ _ (by omega) ?_
        exact ⟨kk+1,(fun i=>List.getD ?l60 i undef),rfl,rfl,(by omega),(all_succ (P:=fun j=>((((Z).getD j 0).toNat:Int)==(47:Int))&&decide ((20:Int)<((Z).length:Int))) hall (by rw [al,Bool.and_false])),L2,hB⟩
      ·refine sw 24 (.bool false) rfl (RunV.bool (x:=((((Z).getD kk 0).toNat:Int)==(47:Int))) (rvk (by kernel_rfl)) hb57) ?_
       refine ss 25 ?_
       refine ss 26 ?_
       refine ss 27 ?_
       refine sv 28 (.bool false) ?_
       refine sq_nil ?_
       refine ax _ _ ?_
       try clear ax aN
       refine wp_cond_false rfl ?_
       refine wp_skip ?_
       refine aw _ _ ?_
       try clear aw aZ
       refine rg [0,1,2] ?_
       refine sv 18 (.int .i64 ((kk:Int))) ?_
       refine sw 19 (.int .i64 (((kk:Int)+1))) rfl (RunV.int (x:=IntKind.i64.wrap (((kk:Int)+1))) (y:=((kk:Int)+1)) (rvk (by kernel_rfl)) (by first | rfl | (rw [IntKind.wrap_i64];omega))) ?_
       refine sv 5 (.int .i64 (((kk:Int)+1))) ?_
       refine sq_nil ?_
       refine a7 ((Z).length - (kk+1)) ⟨List.toArray ?l61,[]⟩ _ (by omega) ?_
       exact ⟨kk+1,(fun i=>List.getD ?l61 i undef),rfl,rfl,(by omega),(all_succ (P:=fun j=>((((Z).getD j 0).toNat:Int)==(47:Int))&&decide ((20:Int)<((Z).length:Int))) hall (by rw [hb57];rfl)),L2,hB⟩
     ·have hkeZ:kk=(Z).length:=by have:=of_decide_eq_false aj;omega
      refine wp_exit ?_
      simp only [Exit.then,Exit.inBlock,↓reduceIte]
      refine aT _ _ ?_
      try clear aT bG
      refine wp_seq_k (fun bJ a6=>?_)
      refine rg [0,1,2] ?_
      refine sv 29 (.string ⟨(Z:List UInt8).toArray⟩) ?_
      refine sv 30 (.int .i64 (((Z).length:Int))) ?_
      refine sv 31 (.bool (decide ((400:Int)<((Z).length:Int)))) ?_
      refine sq_nil ?_
      refine a6 _ _ ?_
      try clear a6 bJ
      refine wp_cond_split (t:=decide ((400:Int)<((Z).length:Int))) rfl (fun ah=>?_) (fun ah=>?_)
      ·refine wp_seq_k (fun bh a8=>?_)
       refine rg [0] ?_
       refine sv 2 (.bool false) ?_
       refine sq_nil ?_
       refine a8 _ _ ?_
       try clear a8 bh
       refine wp_ret ?_
       simp only [Exit.then,Exit.inBlock]
       refine bodyPost_ret (v:=(.bool false)) (ret_tmp rfl rfl) rfl ⟨?_,hB⟩
       exact (by rw [hpX,hpY,plain1_l ah];rfl)
      ·have hpZ:=plain1_t (fun j hj=>hall j (by omega)) ah
       refine wp_skip ?_
       refine aS _ _ ?_
       try clear aS bk
       refine rg [0,1,2] ?_
       refine sv 8 (.int .i64 2) ?_
       refine sv 9 (.int .i64 3) ?_
       refine sv 3 (.int .i64 3) ?_
       refine sq_nil ?_
       show Code.rounds _ _ _ _ _ _
       show Code.wp _ _ _ _ _
       refine wp_seq_k (fun bP bR=>?_)
       refine wp_seq_k (fun bv a9=>?_)
       refine rg [0,1] ?_
       refine sv 6 (.int .i64 3) ?_
       refine sv 7 (.bool false) ?_
       refine sq_nil ?_
       refine a9 _ _ ?_
       try clear a9 bv
       refine wp_cond_false rfl ?_
       refine wp_exit ?_
       simp only [Exit.then,Exit.inBlock,↓reduceIte]
       refine k3 _ _ ?_
       try clear k3 K3
       refine wp_seq_k (fun bD a0=>?_)
       refine rg [0] ?_
       refine sv 2 (.bool true) ?_
       refine sq_nil ?_
       refine a0 _ _ ?_
       try clear a0 bD
       refine wp_ret ?_
       refine bodyPost_ret (v:=(.bool true)) (ret_tmp rfl rfl) rfl ⟨?_,hB⟩
       exact (by rw [hpX,hpY,hpZ];rfl)

end Go.Proofs.YtaldbfflkpgfoaaGreatDoor
/- Printed by a program of the prover's:the check of any placement. -/
namespace Go.Proofs.YtaldbfflkpgfoaaGreatDoor
open Go.RowKit

theorem ck2_le (s:List UInt8) (m:Nat):0≤ck2 s m∧ck2 s m≤20:=by
 unfold ck2
 split
 ·decide
 split
 ·decide
 split
 ·decide
 split
 ·decide
 split<;>decide
def fe (X Y Z:List UInt8):Int:=first3 (ck2 X 400) (ck2 Y 400) (ck2 Z 400)
theorem fe_le (X Y Z:List UInt8):0≤fe X Y Z∧fe X Y Z≤20:=by
 have a:=ck2_le X 400;have b:=ck2_le Y 400;have c:=ck2_le Z 400
 unfold fe first3
 split
 ·split
  ·exact c
  ·exact b
 ·exact a
noncomputable def pq (E:Int) (X:List UInt8):Rat:=if E=0 then Classical.epsilon fun a=>X=ratL a else 0
theorem pq_ratL (a:Rat):pq 0 (ratL a)=a:=by
 unfold pq
 rw [if_pos rfl]
 exact ratL_inj (Classical.epsilon_spec (p:=fun b=>ratL a=ratL b) ⟨a,rfl⟩).symm
noncomputable def cVPa:ConT:=fun args nr _=>match args with
 | [.so (.vg [.cw X _,.cw Y _,.cw Z _])]=>some (.as (decide (X.length≤500∧Y.length≤500∧Z.length≤500)) (.leaf (.st [.vg (cellsR nr [(2000,pq (fe X Y Z) X),(2000,pq (fe X Y Z) Y),(2000,pq (fe X Y Z) Z)]),.vc (.ci .i64 (fe X Y Z) 0 20)]) 3 0))
 | _=>none
theorem rats_holds2 {n:Nn} {X:Env} {w w':World} {e:Ending} {l:List (Nat × Rat)} {z lo hi:Int} (h:(∃ vs:List Value,e=.returned (.tuple #[.agg vs.toArray,.int .i64 z])∧IsRats w' vs l)∧Gr w w') (hz:lo≤z∧z≤hi):(Tr.leaf (.st [.vg (cellsR n.r l),.vc (.ci .i64 z lo hi)]) l.length 0).holds n X w e w':=by
 obtain ⟨X',h1,h2,h3,h4⟩:=rats_holds1 (n:=n) (X:=X) h
 refine ⟨X',h1,h2,h3,fun x hx=>?_⟩
 simp only [List.mem_cons,List.not_mem_nil,or_false] at hx
 rcases hx with rfl | rfl
 ·exact h4 _ (by simp)
 ·exact ⟨rfl,hz⟩
def zrat:List Cl:=[.cb false (some false),.cv (.slice none 0 0),.cb false (some false),.cv (.slice none 0 0)]
noncomputable def cPara:ConT:=fun args nr _=>match args with
 | [.so (.vc (.cw X _))]=>some (.as (decide (X.length≤500)) (.br (ck2 X 400 !=0) (.leaf (.st [.vg zrat,.vc (.ci .i64 (ck2 X 400) 0 20)]) 0 0) (.leaf (ratE nr 2000 (pq 0 X) 0) 1 0)))
 | _=>none
theorem zrat_ok (n:Nn) (X:Env) (w:World):okL n X w zrat:=fun c hc=>by
 unfold zrat at hc
 simp only [List.mem_cons,List.not_mem_nil,or_false] at hc
 rcases hc with rfl | rfl | rfl | rfl<;>refine ⟨rfl,?_⟩<;>first | rfl | (intro v hv;cases hv;rfl)
theorem cPara_ok {I:World→Prop} (hI:∀ w,I w→Mx w):ConOK Tryz.prog I 94 cPara:=by
 intro args E n w T hw ha hT hp
 unfold cPara at hT
 split at hT
 ·rename_i X _
  cases hT
  have hl:=of_decide_eq_true hp.1
  refine (show Calls Tryz.prog 94 #[.string ⟨X.toArray⟩] w _ from ?_)
  by_cases h:ck2 X 400=0
  ·have hf:(ck2 X 400 !=0)=false:=by rw [h];rfl
   obtain ⟨a,rfl,aa,ab⟩:=ratL_of_ck2 h (by omega)
   refine (parse_q (k:=2000) a aa (by decide) (by decide) ab w (hI w hw)).mono fun e w' he=>⟨fun hb=>?_,fun _=>?_⟩
   ·rw [hf] at hb;cases hb
   ·rw [pq_ratL];exact ratE_holds he
  ·have hf:(ck2 X 400 !=0)=true:=by simpa using h
   refine (rparse_bad X (by omega) h w (hI w hw)).mono fun e w' he=>⟨fun _=>val_holds he fun x hx=>?_,fun hb=>?_⟩
   ·simp only [List.mem_cons,List.not_mem_nil,or_false] at hx
    rcases hx with rfl | rfl
    ·exact zrat_ok n E w'
    ·exact ⟨rfl,ck2_le X 400⟩
   ·rw [hf] at hb;cases hb
 ·cases hT
noncomputable def tabVp:List (Nat × List (Nat × Ent)):=[(57,[]),
 (93,[])]
noncomputable def conVp:List (Nat × ConT):=[(94,cPara)]
noncomputable def sysVp:Sys:=⟨Tryz.prog,2,199,tabVp,conVp,Mx⟩
theorem sysVp_ok:sysVp.OK where
 mixed:=by kernel_rfl
 calls:=fun f h0 h1=>by
  have:(List.range 199).all (fun f=>Nat.blt f 2||okCall Tryz.prog f)=true:=by kernel_rfl
  have:=List.all_eq_true.1 this f (List.mem_range.2 h1)
  simp only [Bool.or_eq_true] at this
  exact this.resolve_left (fun e=>by have:=blt_of e;exact absurd h0 (by show ¬ 2≤f;omega))
 tab:=by
  have:tabVp.all (okTab Tryz.prog)=true:=by kernel_rfl
  exact fun x hx=>List.all_eq_true.1 this x hx
 lps:=lps_no (by kernel_rfl)
 con:=fun x hx=>by
  simp only [sysVp,conVp,List.mem_cons,List.not_mem_nil,or_false] at hx
  rcases hx with rfl
  ·exact cPara_ok fun w h=>h
 inv:=fun w w' h g=>h.gr g
def zvec (e:Int):Lf:=.ret (.st [.vg (zrat++(zrat++(zrat++[]))),.vc (.ci .i64 e 0 20)])
def pa1 (X:List UInt8) (l:Lf):Lf:=.as (decide (X.length≤500)) true (.br (ck2 X 400 !=0) (.as (ck2 X 400 !=0) true (zvec (ck2 X 400))) l)
noncomputable def treeVp (X Y Z:List UInt8):Lf:=pa1 X (pa1 Y (pa1 Z (.ret (.st [.vg (cellsR 0 [(2000,pq 0 X),(2000,pq 0 Y),(2000,pq 0 Z)]),.vc (.ci .i64 0 0 0)]))))
theorem runVp (X Y Z:List UInt8) (dx dy dz:Option (Nat × Rat)):runF sysVp 57 [.so (.vg [.cw X dx,.cw Y dy,.cw Z dz])] 0 0 (.s (.t .e) (.s (.t .e) (.s (.t .e) .e)))=some (treeVp X Y Z):=by kernel_rfl
noncomputable def vpL (X Y Z:List UInt8):List (Nat × Rat):=[(2000,pq (fe X Y Z) X),(2000,pq (fe X Y Z) Y),(2000,pq (fe X Y Z) Z)]
def VpP (X Y Z:List UInt8) (v:SV):Prop:=∃ l lo hi r,v=.st [.vg l,.vc (.ci .i64 (fe X Y Z) lo hi)]∧rats l=some r∧Conv r (vpL X Y Z)
theorem pa1_ok {P:SV→Prop} {X:List UInt8} {l:Lf} (hl:X.length≤500) (h1:ck2 X 400≠0→LOK P (zvec (ck2 X 400))) (h2:ck2 X 400=0→LOK P l):LOK P (pa1 X l):=
 ⟨decide_eq_true hl,fun h=>⟨h,h1 (by simpa using h)⟩,fun h=>h2 (by simpa using h)⟩
theorem zvec_ok {X Y Z:List UInt8} {e:Int} (h:fe X Y Z=e) (h0:e≠0):LOK (VpP X Y Z) (zvec e):=by
 refine ⟨_,0,20,[(64,0),(64,0),(64,0)],by rw [h],rfl,?_⟩
 have z:∀ X,pq e X=0:=fun X=>if_neg h0
 have r6:RS 64 (0:Rat):=⟨Nat.two_pow_pos _,Nat.one_lt_two_pow (by decide)⟩
 have r0:RS 2000 (0:Rat):=r6.mono (by decide)
 unfold vpL
 rw [h,z,z,z]
 exact ⟨⟨rfl,r0,by decide⟩,⟨rfl,r0,by decide⟩,⟨rfl,r0,by decide⟩,trivial⟩
theorem treeVp_ok {X Y Z:List UInt8} (hl:X.length≤500∧Y.length≤500∧Z.length≤500):LOK (VpP X Y Z) (treeVp X Y Z):=by
 refine pa1_ok hl.1 (fun h=>zvec_ok (if_neg h) h) fun hx=>pa1_ok hl.2.1 (fun h=>zvec_ok ((if_pos hx).trans (if_neg h)) h) fun hy=>pa1_ok hl.2.2 (fun h=>zvec_ok ((if_pos hx).trans (if_pos hy)) h) fun hz=>?_
 have e:fe X Y Z=0:=(if_pos hx).trans ((if_pos hy).trans hz)
 refine ⟨_,0,0,_,by rw [e],rfl,?_⟩
 have pr:∀ {X:List UInt8},ck2 X 400=0→X.length≤500→RS 2000 (pq 0 X):=fun {X} hx hl=>by
  obtain ⟨a,rfl,ha,_⟩:=ratL_of_ck2 hx (by omega)
  rw [pq_ratL];exact ha
 unfold vpL
 rw [e]
 exact ⟨⟨rfl,pr hx hl.1,by decide⟩,⟨rfl,pr hy hl.2.1,by decide⟩,⟨rfl,pr hz hl.2.2,by decide⟩,trivial⟩
theorem cVPa_ok {I:World→Prop} (hI:∀ w,I w→Mx w):ConOK Tryz.prog I 57 cVPa:=by
 intro args E n w T hw ha hT hp
 unfold cVPa at hT
 split at hT
 ·rename_i X dx Y dy Z dz
  cases hT
  have g:=fun c hc=>(ha _ (List.mem_singleton.2 rfl) c hc)
  refine (run_calls sysVp sysVp_ok (runVp X Y Z dx dy dz) (X:=E) (hI w hw) (okF1 (okA_ok ⟨⟨rfl,(g (.cw X dx) (by simp)).2⟩,⟨rfl,(g (.cw Y dy) (by simp)).2⟩,⟨rfl,(g (.cw Z dz) (by simp)).2⟩,trivial⟩)) (treeVp_ok (of_decide_eq_true hp.1))).mono fun e w' he=>rats_holds2 ?_ (fe_le X Y Z)
  obtain ⟨v,X',m,rfl,g,_,hv,l,lo,hi,r,rfl,hr,hc⟩:=he
  exact ⟨⟨_,rfl,(rats_ok hr (hv (.vg l) (by simp))).conv hc⟩,g⟩
 ·cases hT
noncomputable def sysCa:Sys:=⟨Tryz.prog,2,199,[(15,es15L)],[(57,cVPa)],Mx⟩
theorem sysCa_ok:sysCa.OK where
 mixed:=by kernel_rfl
 calls:=fun f h0 h1=>by
  have:(List.range 199).all (fun f=>Nat.blt f 2||okCall Tryz.prog f)=true:=by kernel_rfl
  have:=List.all_eq_true.1 this f (List.mem_range.2 h1)
  simp only [Bool.or_eq_true] at this
  exact this.resolve_left (fun e=>by have:=blt_of e;exact absurd h0 (by show ¬ 2≤f;omega))
 tab:=by
  have:[(15,es15L)].all (okTab Tryz.prog)=true:=by kernel_rfl
  exact fun x hx=>List.all_eq_true.1 this x hx
 lps:=fun x hx fn c h2 hb=>by
  have:x=(15,es15L):=List.mem_singleton.1 hx
  subst this
  have:fn=Tryz.f15:=Option.some.inj (h2.symm.trans Tryz.func15)
  subst this
  have:c=(Tryz.f15.body).getD .skip:=by rw [hb];rfl
  subst this
  repeat' first | exact trivial | exact lp15_ok | refine ⟨?_,?_⟩
 con:=fun x hx=>by
  have:x=(57,cVPa):=List.mem_singleton.1 hx
  subst this
  exact cVPa_ok fun w h=>h
 inv:=fun w w' h g=>h.gr g
def absw (q:Int):Int:=if IntKind.i64.wrap (0 - q)>q then IntKind.i64.wrap (0 - q) else q
def rgn (q:Int) (l:Lf):Lf:=.br (decide (q< -12)) (re 2) (.br (decide (12<q)) (re 2) l)
def finA (X Y Z:List UInt8):Lf:=.as (decide (X.length≤500∧Y.length≤500∧Z.length≤500)) true (.ret (.so (.vc (.ci .i64 (fe X Y Z) 0 20))))
def treeCa (q0 q1 q2 q3:Int) (X Y Z:List UInt8):Lf:=.br (conjL [q0,q1,q2,q3] [0,0,0,0]) (re 19) (rgn q0 (rgn q1 (rgn q2 (rgn q3 (treeG absw (finA X Y Z) q0 q1 q2 q3)))))
theorem runCa (q0 q1 q2 q3:Int) (X Y Z:List UInt8) (dx dy dz:Option (Nat × Rat)):runF sysCa 15 [.so (.vg [.ci .i64 q0 (-9223372036854775808) 9223372036854775807,.ci .i64 q1 (-9223372036854775808) 9223372036854775807,.ci .i64 q2 (-9223372036854775808) 9223372036854775807,.ci .i64 q3 (-9223372036854775808) 9223372036854775807,.cw X dx,.cw Y dy,.cw Z dz])] 0 0 (.s .e (.s .e (.s .e (.s .e (.s .e (.s .e (.s .e (.s .e (.s .e (.s (.s (.s (.s .e (.s .e .e)) (.s .e (.s .e .e))) (.f (.s .e (.s .e .e)))) (.f (.f (.s .e (.s .e .e))))))))))))))=some (treeCa q0 q1 q2 q3 X Y Z):=by kernel_rfl
theorem rgn_ok {P:SV→Prop} {q:Int} {l:Lf} (h1:¬(-12≤q∧q≤12)→LOK P (re 2)) (h2:-12≤q∧q≤12→LOK P l):LOK P (rgn q l):=
 ⟨fun h=>h1 (by have:=of_decide_eq_true h;omega),fun h=>⟨fun k=>h1 (by have:=of_decide_eq_true k;omega),fun k=>h2 (by have:=of_decide_eq_false h;have:=of_decide_eq_false k;omega)⟩⟩
theorem treeCa_ok {qq0 qq1 qq2 qq3:Int} {X Y Z:List UInt8} (hl:X.length≤500∧Y.length≤500∧Z.length≤500):LOK (CkP (chk qq0 qq1 qq2 qq3 (fe X Y Z))) (treeCa qq0 qq1 qq2 qq3 X Y Z):=by
 refine ⟨fun h=>re_ok ?_,fun h=>?_⟩
 ·rw [conj0] at h;unfold chk;rw [if_pos (of_decide_eq_true h)]
 ·rw [conj0] at h
  have hz:=of_decide_eq_false h
  unfold chk
  rw [if_neg hz]
  refine rgn_ok (fun h=>re_ok (by rw [if_pos fun g=>h g.1])) fun i0=>rgn_ok (fun h=>re_ok (by rw [if_pos fun g=>h g.2.1])) fun i1=>rgn_ok (fun h=>re_ok (by rw [if_pos fun g=>h g.2.2.1])) fun i2=>rgn_ok (fun h=>re_ok (by rw [if_pos fun g=>h g.2.2.2])) fun i3=>?_
  rw [if_neg (by simp only [Classical.not_not];exact ⟨i0,i1,i2,i3⟩)]
  exact treeG_ok i0 i1 i2 i3 (fun q h=>by unfold absw;rw [IntKind.wrap_i64];split<;>omega) hz ⟨decide_eq_true hl,_,_,rfl⟩
theorem chk_le {q0 q1 q2 q3 E:Int} (h:0≤E∧E≤20):0≤chk q0 q1 q2 q3 E∧chk q0 q1 q2 q3 E≤20:=by
 unfold chk
 split
 ·decide
 split
 ·decide
 split
 ·decide
 ·exact h
def cChA:ConT:=fun args _ _=>match args with
 | [.so (.vg [.ci .i64 q0 _ _,.ci .i64 q1 _ _,.ci .i64 q2 _ _,.ci .i64 q3 _ _,.cw X _,.cw Y _,.cw Z _])]=>some (.as (decide (((-9223372036854775808≤q0∧q0≤9223372036854775807)∧(-9223372036854775808≤q1∧q1≤9223372036854775807)∧(-9223372036854775808≤q2∧q2≤9223372036854775807)∧(-9223372036854775808≤q3∧q3≤9223372036854775807))∧X.length≤500∧Y.length≤500∧Z.length≤500)) (.leaf (.so (.vc (.ci .i64 (chk q0 q1 q2 q3 (fe X Y Z)) 0 20))) 0 0))
 | _=>none
theorem cChA_ok {I:World→Prop} (hI:∀ w,I w→Mx w):ConOK Tryz.prog I 15 cChA:=by
 intro args E n w T hw ha hT hp
 unfold cChA at hT
 split at hT
 ·rename_i q0 _ _ q1 _ _ q2 _ _ q3 _ _ X dx Y dy Z dz
  cases hT
  obtain ⟨⟨h0,h1,h2,h3⟩,hl⟩:=of_decide_eq_true hp.1
  have g:=fun c hc=>(ha _ (List.mem_singleton.2 rfl) c hc)
  refine (run_calls sysCa sysCa_ok (runCa q0 q1 q2 q3 X Y Z dx dy dz) (X:=E) (hI w hw) (okF1 (okA_ok ⟨⟨rfl,h0⟩,⟨rfl,h1⟩,⟨rfl,h2⟩,⟨rfl,h3⟩,⟨rfl,(g (.cw X dx) (by simp)).2⟩,⟨rfl,(g (.cw Y dy) (by simp)).2⟩,⟨rfl,(g (.cw Z dz) (by simp)).2⟩,trivial⟩)) (treeCa_ok hl)).mono fun e w' he=>?_
  obtain ⟨v,X',m,rfl,g,_,_,lo,hi,rfl⟩:=he
  exact val_holds ⟨rfl,g⟩ ⟨rfl,chk_le (fe_le X Y Z)⟩
 ·cases hT
def cCk2:ConT:=fun args _ _=>match args with
 | [.so (.vc (.cw X _)),.so (.vc (.ci .i64 m _ _))]=>some (.as (decide (X.length≤500∧m=400)) (.leaf (.so (.vc (.ci .i64 (ck2 X 400) 0 20))) 0 0))
 | _=>none
theorem cCk2_ok {I:World→Prop}:ConOK Tryz.prog I 92 cCk2:=by
 intro args E n w T _ ha hT hp
 unfold cCk2 at hT
 split at hT
 ·rename_i X _ m _ _
  cases hT
  obtain ⟨hl,rfl⟩:=of_decide_eq_true hp.1
  have:=r2_check ⟨X.toArray⟩ 400 w (by show X.toArray.size≤_;simp;omega) (by decide)
  exact this.mono fun e w' he=>val_holds he ⟨rfl,ck2_le X 400⟩
 ·cases hT
def i12 (q0 q1 q2 q3:Int):Bool:=decide ((-12≤q0∧q0≤12)∧(-12≤q1∧q1≤12)∧(-12≤q2∧q2≤12)∧(-12≤q3∧q3≤12))
def cComm:ConT:=fun args _ _=>match args with
 | [.so (.vg [.ci .i64 q0 _ _,.ci .i64 q1 _ _,.ci .i64 q2 _ _,.ci .i64 q3 _ _])]=>some (.as (i12 q0 q1 q2 q3) (.leaf (.so (.vc (.ci .i64 (qgcd q0 q1 q2 q3) 0 12))) 0 0))
 | _=>none
theorem cComm_ok {I:World→Prop}:ConOK Tryz.prog I 54 cComm:=by
 intro args E n w T _ ha hT hp
 unfold cComm at hT
 split at hT
 ·rename_i q0 _ _ q1 _ _ q2 _ _ q3 _ _
  cases hT
  obtain ⟨h0,h1,h2,h3⟩:=of_decide_eq_true hp.1
  refine (r7_common q0 q1 q2 q3 (by omega) (by omega) (by omega) (by omega) w).mono fun e w' he=>val_holds he ⟨rfl,qgcd_nonneg ..,?_⟩
  obtain ⟨d0,d1,d2,d3⟩:=qgcd_dvd q0 q1 q2 q3
  have le:∀ {q:Int},qgcd q0 q1 q2 q3∣q→q≠0→-12≤q∧q≤12→qgcd q0 q1 q2 q3≤12:=fun {q} d h hb=>by
   have:=Nat.le_of_dvd (Int.natAbs_pos.2 h) (Int.natAbs_dvd_natAbs.2 d)
   have:=qgcd_nonneg q0 q1 q2 q3
   omega
  by_cases z0:q0=0
  ·by_cases z1:q1=0
   ·by_cases z2:q2=0
    ·by_cases z3:q3=0
     ·subst z0 z1 z2 z3;decide
     ·exact le d3 z3 h3
    ·exact le d2 z2 h2
   ·exact le d1 z1 h1
  ·exact le d0 z0 h0
 ·cases hT
def cPosi:ConT:=fun args _ _=>match args with
 | [.so (.vg [.ci .i64 q0 _ _,.ci .i64 q1 _ _,.ci .i64 q2 _ _,.ci .i64 q3 _ _])]=>some (.leaf (.so (.vc (.cb (decide (qsgn q0 q1 q2 q3=1)) none))) 0 0)
 | _=>none
theorem cPosi_ok {I:World→Prop}:ConOK Tryz.prog I 55 cPosi:=by
 intro args E n w T _ ha hT hp
 unfold cPosi at hT
 split at hT
 ·rename_i q0 _ _ q1 _ _ q2 _ _ q3 _ _
  cases hT
  exact (r7_positive q0 q1 q2 q3 w).mono fun e w' he=>val_holds he ⟨rfl,fun v e=>by cases e⟩
 ·cases hT
noncomputable def tabRc:List (Nat × List (Nat × Ent)):=[(13,[]),
 (56,[])]
noncomputable def conRc:List (Nat × ConT):=[(92,cCk2),
 (54,cComm),
 (55,cPosi)]
noncomputable def sysRc:Sys:=⟨Tryz.prog,2,199,tabRc,conRc,Mx⟩
theorem sysRc_ok:sysRc.OK where
 mixed:=by kernel_rfl
 calls:=fun f h0 h1=>by
  have:(List.range 199).all (fun f=>Nat.blt f 2||okCall Tryz.prog f)=true:=by kernel_rfl
  have:=List.all_eq_true.1 this f (List.mem_range.2 h1)
  simp only [Bool.or_eq_true] at this
  exact this.resolve_left (fun e=>by have:=blt_of e;exact absurd h0 (by show ¬ 2≤f;omega))
 tab:=by
  have:tabRc.all (okTab Tryz.prog)=true:=by kernel_rfl
  exact fun x hx=>List.all_eq_true.1 this x hx
 lps:=lps_no (by kernel_rfl)
 con:=fun x hx=>by
  simp only [sysRc,conRc,List.mem_cons,List.not_mem_nil,or_false] at hx
  rcases hx with rfl | rfl | rfl
  ·exact cCk2_ok
  ·exact cComm_ok
  ·exact cPosi_ok
 inv:=fun w w' h g=>h.gr g
def ckA (X:List UInt8) (l:Lf):Lf:=.as (decide (X.length≤500∧(400:Int)=400)) true (.br (ck2 X 400 !=0) (.ret (.so (.vc (.ci .i64 (ck2 X 400) 0 20)))) l)
def treeRc (q0 q1 q2 q3:Int) (X Y Z:List UInt8):Lf:=.br (conjL [q0,q1,q2,q3] [0,0,0,0]) (re 19) (rgn q0 (rgn q1 (rgn q2 (rgn q3 (.as (i12 q0 q1 q2 q3) true (.br (qgcd q0 q1 q2 q3 !=1) (re 3) (.br (decide (qsgn q0 q1 q2 q3=1)) (ckA X (ckA Y (ckA Z (re 0)))) (re 3))))))))
theorem runRc (q0 q1 q2 q3:Int) (X Y Z:List UInt8) (dx dy dz:Option (Nat × Rat)):runF sysRc 13 [.so (.vg [.ci .i64 q0 (-9223372036854775808) 9223372036854775807,.ci .i64 q1 (-9223372036854775808) 9223372036854775807,.ci .i64 q2 (-9223372036854775808) 9223372036854775807,.ci .i64 q3 (-9223372036854775808) 9223372036854775807,.cw X dx,.cw Y dy,.cw Z dz])] 0 0 (.s .e (.s .e (.s .e (.s .e (.s .e (.s .e (.s .e (.s .e (.s .e (.s .e (.s (.s .e (.s .e (.s .e .e))) .e)))))))))))=some (treeRc q0 q1 q2 q3 X Y Z):=by kernel_rfl
theorem ckA_ok {E:Int} {X:List UInt8} {l:Lf} (hl:X.length≤500) (h1:ck2 X 400≠0→E=ck2 X 400) (h2:ck2 X 400=0→LOK (CkP E) l):LOK (CkP E) (ckA X l):=
 ⟨decide_eq_true ⟨hl,rfl⟩,fun h=>⟨0,20,by rw [h1 (by simpa using h)]⟩,fun h=>h2 (by simpa using h)⟩
theorem treeRc_ok {q0 q1 q2 q3:Int} {X Y Z:List UInt8} (hl:X.length≤500∧Y.length≤500∧Z.length≤500):LOK (CkP (chk q0 q1 q2 q3 (fe X Y Z))) (treeRc q0 q1 q2 q3 X Y Z):=by
 refine ⟨fun h=>re_ok ?_,fun h=>?_⟩
 ·rw [conj0] at h;unfold chk;rw [if_pos (of_decide_eq_true h)]
 ·rw [conj0] at h
  have hz:=of_decide_eq_false h
  unfold chk
  rw [if_neg hz]
  refine rgn_ok (fun h=>re_ok (by rw [if_pos fun g=>h g.1])) fun i0=>rgn_ok (fun h=>re_ok (by rw [if_pos fun g=>h g.2.1])) fun i1=>rgn_ok (fun h=>re_ok (by rw [if_pos fun g=>h g.2.2.1])) fun i2=>rgn_ok (fun h=>re_ok (by rw [if_pos fun g=>h g.2.2.2])) fun i3=>?_
  rw [if_neg (by simp only [Classical.not_not];exact ⟨i0,i1,i2,i3⟩)]
  refine ⟨decide_eq_true ⟨i0,i1,i2,i3⟩,fun h=>re_ok (by rw [if_pos];rintro ⟨h1,_⟩;rw [h1] at h;exact absurd h (by decide)),fun hg=>⟨fun hs=>?_,fun hs=>re_ok (by rw [if_pos];rintro ⟨_,h1⟩;exact of_decide_eq_false hs h1)⟩⟩
  rw [if_neg (by simp only [Classical.not_not];exact ⟨by simpa using hg,of_decide_eq_true hs⟩)]
  exact ckA_ok hl.1 (fun h=>if_neg h) fun hx=>ckA_ok hl.2.1 (fun h=>(if_pos hx).trans (if_neg h)) fun hy=>ckA_ok hl.2.2 (fun _=>(if_pos hx).trans (if_pos hy)) fun hz=>re_ok ((if_pos hx).trans ((if_pos hy).trans hz)).symm
theorem cRCh_ok {I:World→Prop} (hI:∀ w,I w→Mx w):ConOK Tryz.prog I 13 cChA:=by
 intro args E n w T hw ha hT hp
 unfold cChA at hT
 split at hT
 ·rename_i q0 _ _ q1 _ _ q2 _ _ q3 _ _ X dx Y dy Z dz
  cases hT
  obtain ⟨⟨h0,h1,h2,h3⟩,hl⟩:=of_decide_eq_true hp.1
  have g:=fun c hc=>(ha _ (List.mem_singleton.2 rfl) c hc)
  refine (run_calls sysRc sysRc_ok (runRc q0 q1 q2 q3 X Y Z dx dy dz) (X:=E) (hI w hw) (okF1 (okA_ok ⟨⟨rfl,h0⟩,⟨rfl,h1⟩,⟨rfl,h2⟩,⟨rfl,h3⟩,⟨rfl,(g (.cw X dx) (by simp)).2⟩,⟨rfl,(g (.cw Y dy) (by simp)).2⟩,⟨rfl,(g (.cw Z dz) (by simp)).2⟩,trivial⟩)) (treeRc_ok hl)).mono fun e w' he=>?_
  obtain ⟨v,X',m,rfl,g,_,_,lo,hi,rfl⟩:=he
  exact val_holds ⟨rfl,g⟩ ⟨rfl,chk_le (fe_le X Y Z)⟩
 ·cases hT
def pl3 (X Y Z:List UInt8):Bool:=plain1 X&&(plain1 Y&&plain1 Z)
def cPln:ConT:=fun args _ _=>match args with
 | [.so (.vg [.ci .i64 _ _ _,.ci .i64 _ _ _,.ci .i64 _ _ _,.ci .i64 _ _ _,.cw X _,.cw Y _,.cw Z _])]=>some (.as (decide ((X.length:Int)≤9223372036854775807∧(Y.length:Int)≤9223372036854775807∧(Z.length:Int)≤9223372036854775807)) (.leaf (.so (.vc (.cb (pl3 X Y Z) none))) 0 0))
 | _=>none
theorem cPln_ok {I:World→Prop}:ConOK Tryz.prog I 12 cPln:=by
 intro args E n w T hw ha hT hp
 unfold cPln at hT
 split at hT
 ·rename_i q0 _ _ q1 _ _ q2 _ _ q3 _ _ X dx Y dy Z dz
  cases hT
  obtain ⟨lx,ly,lz⟩:=of_decide_eq_true hp.1
  exact (plain7 q0 q1 q2 q3 X Y Z lx ly lz w).mono fun e w' he=>val_holds he ⟨rfl,fun v e=>by cases e⟩
 ·cases hT
end Go.Proofs.YtaldbfflkpgfoaaGreatDoor
