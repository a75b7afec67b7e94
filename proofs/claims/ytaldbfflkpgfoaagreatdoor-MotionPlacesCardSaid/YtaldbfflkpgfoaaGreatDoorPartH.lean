/- Joined of: Gen127, Gen128, Gen130, Pl2, Mat, Gen135, Gen137, Gen138, Gen140, Gen141, Of. -/
import Derived.Test.YtaldbfflkpgfoaaGreatDoorPartG
import Derived.Test.YtaldbfflkpgfoaaGreatDoorPartD
import Derived.Test.YtaldbfflkpgfoaaGreatDoorPartE
import Derived.Test.YtaldbfflkpgfoaaGreatDoorPartF
import Derived.Test.YtaldbfflkpgfoaaGreatDoorPartB
namespace Go.Proofs.YtaldbfflkpgfoaaGreatDoor
open Go.RowKit

set_option maxRecDepth 100000 in
set_option maxHeartbeats 1000000 in
theorem yl9 (w:World):
    Calls Tryz.prog 20 #[] w fun e w'=>e=.returned (.agg #[.string ⟨([48]:List UInt8).toArray⟩,.string ⟨([48]:List UInt8).toArray⟩,.string ⟨([48]:List UInt8).toArray⟩])∧Gr w w':=by
 go_enter Tryz.func20,Tryz.ntmps20
 have hB:=Gr.refl w
 refine wp_seq_k (fun K1 k1=>?_)
 refine rg [0] ?_
 refine se ?_
 refine ea 25 #[(.string ⟨([]:List UInt8).toArray⟩),(.string ⟨([]:List UInt8).toArray⟩),(.string ⟨([]:List UInt8).toArray⟩)] 0 hB fun b2 w2 g2 L2 o2 q2 hB=>?_
 simp only [p3]
 refine za0 ?_
 refine k1 _ _ ?_
 try clear k1 K1
 refine wp_seq_k (fun K3 k3=>?_)
 refine rg [0,1] ?_
 refine sv 1 (.agg #[(.string ⟨([48]:List UInt8).toArray⟩),(.string ⟨([48]:List UInt8).toArray⟩),(.string ⟨([48]:List UInt8).toArray⟩)]) ?_
 refine se ?_
 refine es 25 0 (.agg #[(.string ⟨([48]:List UInt8).toArray⟩),(.string ⟨([48]:List UInt8).toArray⟩),(.string ⟨([48]:List UInt8).toArray⟩)]) [(.string ⟨([48]:List UInt8).toArray⟩),(.string ⟨([48]:List UInt8).toArray⟩),(.string ⟨([48]:List UInt8).toArray⟩)] #[(.string ⟨([48]:List UInt8).toArray⟩),(.string ⟨([48]:List UInt8).toArray⟩),(.string ⟨([48]:List UInt8).toArray⟩)] L2 hB q2 ⟨rfl,rfl,rfl,trivial⟩ fun w4 aa ab L2 hB=>?_
 refine za0 ?_
 refine k3 _ _ ?_
 try clear k3 K3
 refine wp_ret ?_
 refine bodyPost_ret (v:=(.agg #[(.string ⟨([48]:List UInt8).toArray⟩),(.string ⟨([48]:List UInt8).toArray⟩),(.string ⟨([48]:List UInt8).toArray⟩)])) (za9 _ _ _ rfl rfl L2 (by kernel_rfl)) rfl ⟨?_,hB⟩
 exact rfl

theorem lawK70:sEq [(za1 ((0:Rat))),(za1 ((1:Rat))),(za1 ((0:Rat)))] [([48]:List UInt8),([49]:List UInt8),([48]:List UInt8)]=true:=yt1 (zq6 (by kernel_rfl) (zh4 0 (by kernel_rfl) (by decide))) (zq6 (by kernel_rfl) (zh4 1 (by kernel_rfl) (by decide))) (zq6 (by kernel_rfl) (zh4 0 (by kernel_rfl) (by decide)))
theorem lawK71:sEq [(za1 ((0:Rat))),(za1 ((3/5:Rat))),(za1 ((-4/5:Rat)))] [([48]:List UInt8),([51,47,53]:List UInt8),([45,52,47,53]:List UInt8)]=true:=yt1 (zq6 (by kernel_rfl) (zh4 0 (by kernel_rfl) (by decide))) (zV4 (by kernel_rfl) (zh4 3 (by kernel_rfl) (by decide)) (zh4 5 (by kernel_rfl) (by decide)) rfl) (zV4 (by kernel_rfl) (yt7 4 (by kernel_rfl) (by decide) (by decide)) (zh4 5 (by kernel_rfl) (by decide)) rfl)
theorem lawK72:((((quarters).length:Int)==(24:Int)))=true:=by decide+kernel
theorem lawK73:((((quarters).getD 1 (0,0,0,0)).1==0&&((quarters).getD 1 (0,0,0,0)).2.1==0&&((quarters).getD 1 (0,0,0,0)).2.2.1==1&&((quarters).getD 1 (0,0,0,0)).2.2.2==(-1)))=true:=by decide+kernel
set_option maxRecDepth 100000 in
set_option maxHeartbeats 8000000 in
theorem known7 (w:World) (ht:Tab w) (hm:Mx w):
    Calls Tryz.prog 11 #[] w fun e w'=>e=.returned (.bool true)∧Gr w w':=by
 go_enter Tryz.func11,Tryz.ntmps11
 have hB:=Gr.refl w
 refine wp_seq_k (fun K1 k1=>?_)
 refine rg [0] ?_
 refine sv 0 (.bool false) ?_
 refine za0 ?_
 refine k1 _ _ ?_
 try clear k1 K1
 refine wp_seq_k (fun K2 k2=>?_)
 refine rg [0,1,2,3,4,5,6,7,8,9] ?_
 refine sv 11 (.agg #[.int .i64 1,.int .i64 0,.int .i64 0,.int .i64 1]) ?_
 refine se ?_
 refine ec 12 (yl9 _) ?_
 rintro e3 w3 ⟨rfl,g3⟩
 refine ⟨_,rfl,?_⟩
 replace hB:=hB.trans g3
 simp only [p3,p4]
 refine sv 13 (.agg #[.int .i64 1,.int .i64 0,.int .i64 0,.int .i64 1,(.string ⟨([48]:List UInt8).toArray⟩),(.string ⟨([48]:List UInt8).toArray⟩),(.string ⟨([48]:List UInt8).toArray⟩)]) ?_
 refine se ?_
 refine ec 14 (mof_k1 _ (hm.gr hB) (ht.gr hB)) ?_
 rintro e4 w4 ⟨⟨bN,bO,bG,bF,bL,bH,bK,bM,bJ,bP,a1,aT,ac,a2,aj,aJ,aL,ad,aO,aB,aC,aZ,aM,a0,a4,aI,aA,aX,ah,aW,aF,aP,ap,ae,ay,ax,ai,aR,ab,aq,aK,av,aH,af,aG,aQ,aY,aD,rfl,bV,bZ,bT,bX,bR,b6,bW,bY,bU,b4,a8,a7⟩,g4⟩
 refine ⟨_,rfl,?_⟩
 replace hB:=hB.trans g4
 simp only [p3,p4]
 refine sv 10 (.tuple #[(.agg #[bN,bO,bG,bF,bL,bH,bK,bM,bJ,bP,a1,aT,ac,a2,aj,aJ,aL,ad,aO,aB,aC,aZ,aM,a0,a4,aI,aA,aX,ah,aW,aF,aP,ap,ae,ay,ax,ai,aR,ab,aq,aK,av,aH,af,aG,aQ,aY,aD]),.int .i64 0]) ?_
 refine sv 15 (.agg #[bN,bO,bG,bF,bL,bH,bK,bM,bJ,bP,a1,aT,ac,a2,aj,aJ,aL,ad,aO,aB,aC,aZ,aM,a0,a4,aI,aA,aX,ah,aW,aF,aP,ap,ae,ay,ax,ai,aR,ab,aq,aK,av,aH,af,aG,aQ,aY,aD]) ?_
 refine sv 16 (.int .i64 0) ?_
 refine se ?_
 refine ea 41 #[.bool false,.slice none 0 0,.bool false,.slice none 0 0,.bool false,.slice none 0 0,.bool false,.slice none 0 0,.bool false,.slice none 0 0,.bool false,.slice none 0 0,.bool false,.slice none 0 0,.bool false,.slice none 0 0,.bool false,.slice none 0 0,.bool false,.slice none 0 0,.bool false,.slice none 0 0,.bool false,.slice none 0 0,.bool false,.slice none 0 0,.bool false,.slice none 0 0,.bool false,.slice none 0 0,.bool false,.slice none 0 0,.bool false,.slice none 0 0,.bool false,.slice none 0 0,.bool false,.slice none 0 0,.bool false,.slice none 0 0,.bool false,.slice none 0 0,.bool false,.slice none 0 0,.bool false,.slice none 0 0,.bool false,.slice none 0 0] 1 hB fun b5 w5 g5 L5 o5 q5 hB=>?_
 simp only [p3,p4]
 refine se ?_
 have ei:=L5
 refine es 41 0 (.agg #[bN,bO,bG,bF,bL,bH,bK,bM,bJ,bP,a1,aT,ac,a2,aj,aJ,aL,ad,aO,aB,aC,aZ,aM,a0,a4,aI,aA,aX,ah,aW,aF,aP,ap,ae,ay,ax,ai,aR,ab,aq,aK,av,aH,af,aG,aQ,aY,aD]) [bN,bO,bG,bF,bL,bH,bK,bM,bJ,bP,a1,aT,ac,a2,aj,aJ,aL,ad,aO,aB,aC,aZ,aM,a0,a4,aI,aA,aX,ah,aW,aF,aP,ap,ae,ay,ax,ai,aR,ab,aq,aK,av,aH,af,aG,aQ,aY,aD] #[bN,bO,bG,bF,bL,bH,bK,bM,bJ,bP,a1,aT,ac,a2,aj,aJ,aL,ad,aO,aB,aC,aZ,aM,a0,a4,aI,aA,aX,ah,aW,aF,aP,ap,ae,ay,ax,ai,aR,ab,aq,aK,av,aH,af,aG,aQ,aY,aD] L5 hB q5 ⟨bV.one0,bV.one1,bV.one2,bV.one3,bZ.one0,bZ.one1,bZ.one2,bZ.one3,bT.one0,bT.one1,bT.one2,bT.one3,bX.one0,bX.one1,bX.one2,bX.one3,bR.one0,bR.one1,bR.one2,bR.one3,b6.one0,b6.one1,b6.one2,b6.one3,bW.one0,bW.one1,bW.one2,bW.one3,bY.one0,bY.one1,bY.one2,bY.one3,bU.one0,bU.one1,bU.one2,bU.one3,b4.one0,b4.one1,b4.one2,b4.one3,a8.one0,a8.one1,a8.one2,a8.one3,a7.one0,a7.one1,a7.one2,a7.one3,trivial⟩ fun w6 eG dZ L5 hB=>?_
 refine sv 2 (.int .i64 0) ?_
 refine za0 ?_
 refine k2 _ _ ?_
 try clear k2 K2
 refine wp_seq_k (fun K7 k7=>?_)
 refine rg [0,1,2,3,4,5,6,7,8,9] ?_
 refine sv 18 (.agg #[.int .i64 2,.int .i64 1,.int .i64 0,.int .i64 0]) ?_
 refine se ?_
 refine ec 19 (yl9 _) ?_
 rintro e8 w8 ⟨rfl,g8⟩
 refine ⟨_,rfl,?_⟩
 replace hB:=hB.trans g8
 simp only [p3,p4]
 refine sv 20 (.agg #[.int .i64 2,.int .i64 1,.int .i64 0,.int .i64 0,(.string ⟨([48]:List UInt8).toArray⟩),(.string ⟨([48]:List UInt8).toArray⟩),(.string ⟨([48]:List UInt8).toArray⟩)]) ?_
 refine se ?_
 refine ec 21 (mof_k2 _ (hm.gr hB) (ht.gr hB)) ?_
 rintro e9 w9 ⟨⟨ch,ce,cn,ck,cm,cj,cd,cl,cg,cc,bo,bu,az,aU,aV,aw,aN,aE,ak,al,au,aS,ar,a3,bi,bC,bq,bd,bp,bg,bt,bz,bk,bB,bm,bv,bE,bA,bh,bb,bw,bn,bD,ba,bx,bf,bc,bj,rfl,cD,ct,cB,b8,bQ,bS,cu,cC,cq,cx,b9,ca⟩,g9⟩
 refine ⟨_,rfl,?_⟩
 replace hB:=hB.trans g9
 simp only [p3,p4]
 refine sv 17 (.tuple #[(.agg #[ch,ce,cn,ck,cm,cj,cd,cl,cg,cc,bo,bu,az,aU,aV,aw,aN,aE,ak,al,au,aS,ar,a3,bi,bC,bq,bd,bp,bg,bt,bz,bk,bB,bm,bv,bE,bA,bh,bb,bw,bn,bD,ba,bx,bf,bc,bj]),.int .i64 0]) ?_
 refine sv 22 (.agg #[ch,ce,cn,ck,cm,cj,cd,cl,cg,cc,bo,bu,az,aU,aV,aw,aN,aE,ak,al,au,aS,ar,a3,bi,bC,bq,bd,bp,bg,bt,bz,bk,bB,bm,bv,bE,bA,bh,bb,bw,bn,bD,ba,bx,bf,bc,bj]) ?_
 refine sv 23 (.int .i64 0) ?_
 refine se ?_
 refine ea 41 #[.bool false,.slice none 0 0,.bool false,.slice none 0 0,.bool false,.slice none 0 0,.bool false,.slice none 0 0,.bool false,.slice none 0 0,.bool false,.slice none 0 0,.bool false,.slice none 0 0,.bool false,.slice none 0 0,.bool false,.slice none 0 0,.bool false,.slice none 0 0,.bool false,.slice none 0 0,.bool false,.slice none 0 0,.bool false,.slice none 0 0,.bool false,.slice none 0 0,.bool false,.slice none 0 0,.bool false,.slice none 0 0,.bool false,.slice none 0 0,.bool false,.slice none 0 0,.bool false,.slice none 0 0,.bool false,.slice none 0 0,.bool false,.slice none 0 0,.bool false,.slice none 0 0,.bool false,.slice none 0 0,.bool false,.slice none 0 0] 3 hB fun dl ej de a6 dX d1 hB=>?_
 replace L5:=L5.gr (g8.trans g9)
 have cJ:=L5.ne dX
 simp only [p3,p4]
 refine se ?_
 have d5:=a6
 refine es 41 0 (.agg #[ch,ce,cn,ck,cm,cj,cd,cl,cg,cc,bo,bu,az,aU,aV,aw,aN,aE,ak,al,au,aS,ar,a3,bi,bC,bq,bd,bp,bg,bt,bz,bk,bB,bm,bv,bE,bA,bh,bb,bw,bn,bD,ba,bx,bf,bc,bj]) [ch,ce,cn,ck,cm,cj,cd,cl,cg,cc,bo,bu,az,aU,aV,aw,aN,aE,ak,al,au,aS,ar,a3,bi,bC,bq,bd,bp,bg,bt,bz,bk,bB,bm,bv,bE,bA,bh,bb,bw,bn,bD,ba,bx,bf,bc,bj] #[ch,ce,cn,ck,cm,cj,cd,cl,cg,cc,bo,bu,az,aU,aV,aw,aN,aE,ak,al,au,aS,ar,a3,bi,bC,bq,bd,bp,bg,bt,bz,bk,bB,bm,bv,bE,bA,bh,bb,bw,bn,bD,ba,bx,bf,bc,bj] a6 hB d1 ⟨cD.one0,cD.one1,cD.one2,cD.one3,ct.one0,ct.one1,ct.one2,ct.one3,cB.one0,cB.one1,cB.one2,cB.one3,b8.one0,b8.one1,b8.one2,b8.one3,bQ.one0,bQ.one1,bQ.one2,bQ.one3,bS.one0,bS.one1,bS.one2,bS.one3,cu.one0,cu.one1,cu.one2,cu.one3,cC.one0,cC.one1,cC.one2,cC.one3,cq.one0,cq.one1,cq.one2,cq.one3,cx.one0,cx.one1,cx.one2,cx.one3,b9.one0,b9.one1,b9.one2,b9.one3,ca.one0,ca.one1,ca.one2,ca.one3,trivial⟩ fun eH di cV a6 hB=>?_
 refine sv 4 (.int .i64 0) ?_
 refine za0 ?_
 refine k7 _ _ ?_
 try clear k7 K7
 refine wp_seq_k (fun dY dS=>?_)
 refine rg [0,1,2,3,4,5,6,7,8,9,10,11,12] ?_
 refine sv 25 (.agg #[.int .i64 1,.int .i64 0,.int .i64 0,.int .i64 1]) ?_
 refine se ?_
 refine ec 26 (yl9 _) ?_
 rintro e13 eA ⟨rfl,cZ⟩
 refine ⟨_,rfl,?_⟩
 replace hB:=hB.trans cZ
 simp only [p3,p4]
 refine sv 27 (.agg #[.int .i64 1,.int .i64 0,.int .i64 0,.int .i64 1,(.string ⟨([48]:List UInt8).toArray⟩),(.string ⟨([48]:List UInt8).toArray⟩),(.string ⟨([48]:List UInt8).toArray⟩)]) ?_
 refine sv 28 (.agg #[.int .i64 1,.int .i64 0,.int .i64 0,.int .i64 1]) ?_
 refine se ?_
 refine ec 29 (yl9 _) ?_
 rintro ed eo ⟨rfl,cW⟩
 refine ⟨_,rfl,?_⟩
 replace hB:=hB.trans cW
 simp only [p3,p4]
 refine sv 30 (.agg #[.int .i64 1,.int .i64 0,.int .i64 0,.int .i64 1,(.string ⟨([48]:List UInt8).toArray⟩),(.string ⟨([48]:List UInt8).toArray⟩),(.string ⟨([48]:List UInt8).toArray⟩)]) ?_
 refine se ?_
 refine ec 31 (join_k1 _ (hm.gr hB) (ht.gr hB)) ?_
 rintro eE eC ⟨rfl,c6⟩
 refine ⟨_,rfl,?_⟩
 replace hB:=hB.trans c6
 simp only [p3,p4]
 refine sv 24 (.tuple #[(.agg #[.int .i64 0,.int .i64 0,.int .i64 0,.int .i64 1,(.string ⟨([48]:List UInt8).toArray⟩),(.string ⟨([48]:List UInt8).toArray⟩),(.string ⟨([48]:List UInt8).toArray⟩)]),.int .i64 0]) ?_
 refine sv 32 (.agg #[.int .i64 0,.int .i64 0,.int .i64 0,.int .i64 1,(.string ⟨([48]:List UInt8).toArray⟩),(.string ⟨([48]:List UInt8).toArray⟩),(.string ⟨([48]:List UInt8).toArray⟩)]) ?_
 refine sv 33 (.int .i64 0) ?_
 refine se ?_
 refine ea 27 #[.int .i64 0,.int .i64 0,.int .i64 0,.int .i64 0,(.string ⟨([]:List UInt8).toArray⟩),(.string ⟨([]:List UInt8).toArray⟩),(.string ⟨([]:List UInt8).toArray⟩)] 5 hB fun dP d9 dc a9 dx d0 hB=>?_
 replace L5:=(di.lc (L5.gr de) cJ).gr (cZ.trans (cW.trans c6))
 have cL:=L5.ne dx
 replace a6:=a6.gr (cZ.trans (cW.trans c6))
 have cA:=a6.ne dx
 simp only [p3,p4]
 refine se ?_
 have dW:=a9
 refine es 27 0 (.agg #[.int .i64 0,.int .i64 0,.int .i64 0,.int .i64 1,(.string ⟨([48]:List UInt8).toArray⟩),(.string ⟨([48]:List UInt8).toArray⟩),(.string ⟨([48]:List UInt8).toArray⟩)]) [.int .i64 0,.int .i64 0,.int .i64 0,.int .i64 1,(.string ⟨([48]:List UInt8).toArray⟩),(.string ⟨([48]:List UInt8).toArray⟩),(.string ⟨([48]:List UInt8).toArray⟩)] #[.int .i64 0,.int .i64 0,.int .i64 0,.int .i64 1,(.string ⟨([48]:List UInt8).toArray⟩),(.string ⟨([48]:List UInt8).toArray⟩),(.string ⟨([48]:List UInt8).toArray⟩)] a9 hB d0 ⟨rfl,rfl,rfl,rfl,rfl,rfl,rfl,trivial⟩ fun ee da db a9 hB=>?_
 refine sv 6 (.int .i64 0) ?_
 refine za0 ?_
 refine dS _ _ ?_
 try clear dS dY
 refine wp_seq_k (fun d2 dI=>?_)
 refine rg [0,1,2,3,4,5,6,7,8,9,10,11,12] ?_
 refine sv 35 (.agg #[.int .i64 12,.int .i64 1,.int .i64 0,.int .i64 0]) ?_
 refine se ?_
 refine ec 36 (yl9 _) ?_
 rintro el ew ⟨rfl,cR⟩
 refine ⟨_,rfl,?_⟩
 replace hB:=hB.trans cR
 simp only [p3,p4]
 refine sv 37 (.agg #[.int .i64 12,.int .i64 1,.int .i64 0,.int .i64 0,(.string ⟨([48]:List UInt8).toArray⟩),(.string ⟨([48]:List UInt8).toArray⟩),(.string ⟨([48]:List UInt8).toArray⟩)]) ?_
 refine sv 38 (.agg #[.int .i64 12,.int .i64 1,.int .i64 0,.int .i64 0]) ?_
 refine se ?_
 refine ec 39 (yl9 _) ?_
 rintro ey eI ⟨rfl,cT⟩
 refine ⟨_,rfl,?_⟩
 replace hB:=hB.trans cT
 simp only [p3,p4]
 refine sv 40 (.agg #[.int .i64 12,.int .i64 1,.int .i64 0,.int .i64 0,(.string ⟨([48]:List UInt8).toArray⟩),(.string ⟨([48]:List UInt8).toArray⟩),(.string ⟨([48]:List UInt8).toArray⟩)]) ?_
 refine se ?_
 refine ec 41 (join_k2 _ (hm.gr hB) (ht.gr hB)) ?_
 rintro e21 eD ⟨rfl,cU⟩
 refine ⟨_,rfl,?_⟩
 replace hB:=hB.trans cU
 simp only [p3,p4]
 refine sv 34 (.tuple #[(.agg #[.int .i64 0,.int .i64 0,.int .i64 0,.int .i64 0,(.string ⟨([]:List UInt8).toArray⟩),(.string ⟨([]:List UInt8).toArray⟩),(.string ⟨([]:List UInt8).toArray⟩)]),.int .i64 2]) ?_
 refine sv 42 (.agg #[.int .i64 0,.int .i64 0,.int .i64 0,.int .i64 0,(.string ⟨([]:List UInt8).toArray⟩),(.string ⟨([]:List UInt8).toArray⟩),(.string ⟨([]:List UInt8).toArray⟩)]) ?_
 refine sv 43 (.int .i64 2) ?_
 refine se ?_
 refine ea 27 #[.int .i64 0,.int .i64 0,.int .i64 0,.int .i64 0,(.string ⟨([]:List UInt8).toArray⟩),(.string ⟨([]:List UInt8).toArray⟩),(.string ⟨([]:List UInt8).toArray⟩)] 7 hB fun eK em c5 df dn dV hB=>?_
 replace L5:=(da.lc (L5.gr dc) cL).gr (cR.trans (cT.trans cU))
 have cH:=L5.ne dn
 replace a6:=(da.lc (a6.gr dc) cA).gr (cR.trans (cT.trans cU))
 have co:=a6.ne dn
 replace a9:=a9.gr (cR.trans (cT.trans cU))
 have cy:=a9.ne dn
 simp only [p3,p4]
 refine se ?_
 have d4:=df
 refine es 27 0 (.agg #[.int .i64 0,.int .i64 0,.int .i64 0,.int .i64 0,(.string ⟨([]:List UInt8).toArray⟩),(.string ⟨([]:List UInt8).toArray⟩),(.string ⟨([]:List UInt8).toArray⟩)]) [.int .i64 0,.int .i64 0,.int .i64 0,.int .i64 0,(.string ⟨([]:List UInt8).toArray⟩),(.string ⟨([]:List UInt8).toArray⟩),(.string ⟨([]:List UInt8).toArray⟩)] #[.int .i64 0,.int .i64 0,.int .i64 0,.int .i64 0,(.string ⟨([]:List UInt8).toArray⟩),(.string ⟨([]:List UInt8).toArray⟩),(.string ⟨([]:List UInt8).toArray⟩)] df hB dV ⟨rfl,rfl,rfl,rfl,rfl,rfl,rfl,trivial⟩ fun eF cM cX df hB=>?_
 refine sv 8 (.int .i64 2) ?_
 refine za0 ?_
 refine dI _ _ ?_
 try clear dI d2
 refine wp_seq_k (fun d6 dF=>?_)
 refine rg [0,1] ?_
 refine se ?_
 refine ec 44 (yq9 _ (hm.gr hB)) ?_
 rintro ep d7 ⟨⟨c9,rfl,cO⟩,cP⟩
 refine ⟨_,rfl,?_⟩
 replace hB:=hB.trans cP
 simp only [p3,p4]
 refine sv 9 c9 ?_
 refine za0 ?_
 refine dF _ _ ?_
 try clear dF d6
 refine wp_seq_k (fun d8 dJ=>?_)
 obtain ⟨_,_,rfl,aa⟩:=cO.get (by decide) (getD_some (d:=((0,0,0,0):Int × Int × Int × Int)) (i:=1) (xs:=quarters) (by rw [zC8];omega))
 have b7:=Gr.drew d7
 replace hB:=hB.trans b7
 replace L5:=(cM.lc (L5.gr c5) cH).gr (cP.trans b7)
 replace a6:=(cM.lc (a6.gr c5) co).gr (cP.trans b7)
 replace a9:=(cM.lc (a9.gr c5) cy).gr (cP.trans b7)
 replace aa:=aa.gr b7
 refine za2 (fun w'=>Lc w' b5 #[bN,bO,bG,bF,bL,bH,bK,bM,bJ,bP,a1,aT,ac,a2,aj,aJ,aL,ad,aO,aB,aC,aZ,aM,a0,a4,aI,aA,aX,ah,aW,aF,aP,ap,ae,ay,ax,ai,aR,ab,aq,aK,av,aH,af,aG,aQ,aY,aD] 41∧Lc w' dl #[ch,ce,cn,ck,cm,cj,cd,cl,cg,cc,bo,bu,az,aU,aV,aw,aN,aE,ak,al,au,aS,ar,a3,bi,bC,bq,bd,bp,bg,bt,bz,bk,bB,bm,bv,bE,bA,bh,bb,bw,bn,bD,ba,bx,bf,bc,bj] 41∧Lc w' dP #[.int .i64 0,.int .i64 0,.int .i64 0,.int .i64 1,(.string ⟨([48]:List UInt8).toArray⟩),(.string ⟨([48]:List UInt8).toArray⟩),(.string ⟨([48]:List UInt8).toArray⟩)] 27∧AtV w' c9 (1*4) [(.int .i64 (((quarters).getD 1 (0,0,0,0)).1)),(.int .i64 (((quarters).getD 1 (0,0,0,0)).2.1)),(.int .i64 (((quarters).getD 1 (0,0,0,0)).2.2.1)),(.int .i64 (((quarters).getD 1 (0,0,0,0)).2.2.2))]) [(true,0),(true,1),(true,2),(true,3),(true,4),(true,5),(true,6),(true,7),(true,8),(true,9),(true,10),(true,11),(true,12),(true,13),(true,14),(true,15),(true,16),(true,20),(false,17),(false,18),(false,19),(true,21),(true,22),(true,23),(true,24),(true,25),(true,26),(true,28),(false,27),(true,29),(true,30),(true,31),(true,32),(true,33),(true,34),(true,35),(true,36),(true,37),(true,38),(true,39),(true,40),(true,41),(true,42),(true,43),(true,44),(true,45),(true,46),(true,47),(true,48),(true,49)] (by kernel_rfl) (by kernel_rfl) (by kernel_rfl) (by decide) (fun _ _ _ _ _ h=>h) ⟨L5,a6,a9,aa⟩ ?_
 refine ov 45 (.int .i64 0) ?_
 refine ov 46 (.bool true) ?_
 refine ov 47 (.bool true) ?_
 refine ov 48 (.int .i64 0) ?_
 refine ov 49 (.bool true) ?_
 refine ov 50 (.bool true) ?_
 refine ov 51 (.bool true) ?_
 refine ov 52 (.int .i64 0) ?_
 refine ov 53 (.bool true) ?_
 refine ov 54 (.bool true) ?_
 refine ov 55 (.bool true) ?_
 refine ov 56 (.int .i64 2) ?_
 refine ov 57 (.bool true) ?_
 refine ov 58 (.bool true) ?_
 refine ov 59 (.bool true) ?_
 refine ow 60 (.agg #[bN,bO,bG,bF,bL,bH,bK,bM,bJ,bP,a1,aT,ac,a2,aj,aJ,aL,ad,aO,aB,aC,aZ,aM,a0,a4,aI,aA,aX,ah,aW,aF,aP,ap,ae,ay,ax,ai,aR,ab,aq,aK,av,aH,af,aG,aQ,aY,aD]) rfl (fun w' hS=>(rl 41 0 [bN,bO,bG,bF,bL,bH,bK,bM,bJ,bP,a1,aT,ac,a2,aj,aJ,aL,ad,aO,aB,aC,aZ,aM,a0,a4,aI,aA,aX,ah,aW,aF,aP,ap,ae,ay,ax,ai,aR,ab,aq,aK,av,aH,af,aG,aQ,aY,aD] hS.1)) ?_
 refine ov 61 (.agg #[.int .i64 1,.int .i64 0,.int .i64 0]) ?_
 refine ov 65 (.agg #[(.string ⟨([48]:List UInt8).toArray⟩),(.string ⟨([49]:List UInt8).toArray⟩),(.string ⟨([48]:List UInt8).toArray⟩)]) ?_
 refine oe ?_
 refine ec 62 (vof_v (1) (0) (0) (by omega) (by omega) (by omega) _) ?_
 rintro eB eu ⟨⟨dG,dC,dB,dR,dy,dN,dA,dH,dK,du,dj,dh,rfl,cY,c4,c7⟩,cK⟩
 refine ⟨_,rfl,?_⟩
 replace hB:=hB.trans cK
 rw [show ((((1:Int):Rat)):Rat)=(1:Rat) from by kernel_rfl] at cY
 rw [show ((((0:Int):Rat)):Rat)=(0:Rat) from by kernel_rfl] at c4
 rw [show ((((0:Int):Rat)):Rat)=(0:Rat) from by kernel_rfl] at c7
 replace L5:=L5.gr cK
 replace a6:=a6.gr cK
 replace a9:=a9.gr cK
 replace aa:=aa.gr cK
 refine ⟨⟨L5,a6,a9,aa⟩,?_⟩
 simp only [p3,p4]
 refine oe ?_
 have a5:=g5.kp.trans (dZ.trans (g8.kp.trans (g9.kp.trans (de.kp.trans (cV.trans (cZ.kp.trans (cW.kp.trans (c6.kp.trans (dc.kp.trans (db.trans (cR.kp.trans (cT.kp.trans (cU.kp.trans (c5.kp.trans (cX.trans (cP.kp.trans (b7.kp.trans cK.kp)))))))))))))))))
 replace bV:=bV.kp a5
 replace bZ:=bZ.kp a5
 replace bT:=bT.kp a5
 replace bX:=bX.kp a5
 replace bR:=bR.kp a5
 replace b6:=b6.kp a5
 replace bW:=bW.kp a5
 replace bY:=bY.kp a5
 replace bU:=bU.kp a5
 replace b4:=b4.kp a5
 replace a8:=a8.kp a5
 replace a7:=a7.kp a5
 refine ec 63 (mapply64 bV bZ bT bX bR b6 bW bY bU b4 a8 a7 cY c4 c7 (ht.gr hB) (hm.gr hB)) ?_
 rintro ef ez ⟨⟨dE,dO,dM,dD,dv,dU,dQ,dw,dT,dL,dq,dp,rfl,cF,cE,cG⟩,cQ⟩
 refine ⟨_,rfl,?_⟩
 replace hB:=hB.trans cQ
 rw [show (((0+(0:Rat)*(1:Rat)+(-1:Rat)*(0:Rat)+(0:Rat)*(0:Rat))+(0:Rat)):Rat)=(0:Rat) from by kernel_rfl] at cF
 rw [show (((0+(1:Rat)*(1:Rat)+(0:Rat)*(0:Rat)+(0:Rat)*(0:Rat))+(0:Rat)):Rat)=(1:Rat) from by kernel_rfl] at cE
 rw [show (((0+(0:Rat)*(1:Rat)+(0:Rat)*(0:Rat)+(1:Rat)*(0:Rat))+(0:Rat)):Rat)=(0:Rat) from by kernel_rfl] at cG
 replace L5:=L5.gr cQ
 replace a6:=a6.gr cQ
 replace a9:=a9.gr cQ
 replace aa:=aa.gr cQ
 refine ⟨⟨L5,a6,a9,aa⟩,?_⟩
 simp only [p3,p4]
 refine oe ?_
 refine ec 64 (yh0 cF cE cG (by omega) (ht.gr hB)) ?_
 rintro eJ en ⟨rfl,cS⟩
 refine ⟨_,rfl,?_⟩
 replace hB:=hB.trans cS
 replace L5:=L5.gr cS
 replace a6:=a6.gr cS
 replace a9:=a9.gr cS
 replace aa:=aa.gr cS
 refine ⟨⟨L5,a6,a9,aa⟩,?_⟩
 simp only [p3,p4]
 have dm:(sEq [(za1 ((0:Rat))),(za1 ((1:Rat))),(za1 ((0:Rat)))] [([48]:List UInt8),([49]:List UInt8),([48]:List UInt8)])=true:=(lawK70)
 refine ow 66 (.bool true) rfl (fun w' hS=>(RunV.bool (x:=sEq [(za1 ((0:Rat))),(za1 ((1:Rat))),(za1 ((0:Rat)))] [([48]:List UInt8),([49]:List UInt8),([48]:List UInt8)]) (yp3 25 25 23 _ _ [(za1 ((0:Rat))),(za1 ((1:Rat))),(za1 ((0:Rat)))] [([48]:List UInt8),([49]:List UInt8),([48]:List UInt8)] rfl rfl rfl (by kernel_rfl) (by kernel_rfl) (by kernel_rfl)) dm)) ?_
 refine ov 67 (.bool true) ?_
 refine ov 68 (.bool true) ?_
 refine ov 69 (.pointer (some ⟨dl,0,none⟩)) ?_
 refine ov 70 (.pointer (some ⟨dl,12,none⟩)) ?_
 refine ow 71 (.agg #[az,aU,aV,aw,aN,aE,ak,al,au,aS,ar,a3]) rfl (fun w' hS=>(rl 38 12 [az,aU,aV,aw,aN,aE,ak,al,au,aS,ar,a3] hS.2.1)) ?_
 refine ov 73 (.agg #[(.string ⟨([48]:List UInt8).toArray⟩),(.string ⟨([51,47,53]:List UInt8).toArray⟩),(.string ⟨([45,52,47,53]:List UInt8).toArray⟩)]) ?_
 refine oe ?_
 have cN:=de.kp.trans (cV.trans (cZ.kp.trans (cW.kp.trans (c6.kp.trans (dc.kp.trans (db.trans (cR.kp.trans (cT.kp.trans (cU.kp.trans (c5.kp.trans (cX.trans (cP.kp.trans (b7.kp.trans (cK.kp.trans (cQ.kp.trans cS.kp)))))))))))))))
 replace b8:=b8.kp cN
 replace bQ:=bQ.kp cN
 replace bS:=bS.kp cN
 refine ec 72 (yh0 b8 bQ bS (by omega) (ht.gr hB)) ?_
 rintro eh et ⟨rfl,c8⟩
 refine ⟨_,rfl,?_⟩
 replace hB:=hB.trans c8
 replace L5:=L5.gr c8
 replace a6:=a6.gr c8
 replace a9:=a9.gr c8
 replace aa:=aa.gr c8
 refine ⟨⟨L5,a6,a9,aa⟩,?_⟩
 simp only [p3,p4]
 have dk:(sEq [(za1 ((0:Rat))),(za1 ((3/5:Rat))),(za1 ((-4/5:Rat)))] [([48]:List UInt8),([51,47,53]:List UInt8),([45,52,47,53]:List UInt8)])=true:=(lawK71)
 refine ow 74 (.bool true) rfl (fun w' hS=>(RunV.bool (x:=sEq [(za1 ((0:Rat))),(za1 ((3/5:Rat))),(za1 ((-4/5:Rat)))] [([48]:List UInt8),([51,47,53]:List UInt8),([45,52,47,53]:List UInt8)]) (yp3 25 25 23 _ _ [(za1 ((0:Rat))),(za1 ((3/5:Rat))),(za1 ((-4/5:Rat)))] [([48]:List UInt8),([51,47,53]:List UInt8),([45,52,47,53]:List UInt8)] rfl rfl rfl (by kernel_rfl) (by kernel_rfl) (by kernel_rfl)) dk)) ?_
 refine ov 75 (.bool true) ?_
 refine ov 76 (.bool true) ?_
 refine ov 77 (.pointer (some ⟨dP,0,none⟩)) ?_
 refine ow 78 (.agg #[.int .i64 0,.int .i64 0,.int .i64 0,.int .i64 1]) rfl (fun w' hS=>(rl 22 0 [.int .i64 0,.int .i64 0,.int .i64 0,.int .i64 1] hS.2.2.1)) ?_
 refine ov 79 (.agg #[.int .i64 0,.int .i64 0,.int .i64 0,.int .i64 1]) ?_
 refine ov 80 (.bool true) ?_
 refine ov 81 (.bool true) ?_
 refine ov 82 (.bool true) ?_
 refine ov 83 c9 ?_
 refine ow 84 (.int .i64 (((quarters).length:Int))) rfl (fun w' hS=>(rv_len (e:=22) cO _ _ rfl rfl (by kernel_rfl))) ?_
 have dt:((((quarters).length:Int)==(24:Int)))=true:=(lawK72)
 refine ow 85 (.bool true) rfl (fun w' hS=>(RunV.bool (x:=(((quarters).length:Int)==(24:Int))) (rvk (by kernel_rfl)) dt)) ?_
 refine ov 86 (.bool true) ?_
 refine ov 87 (.bool true) ?_
 refine ov 88 c9 ?_
 refine ow 89 (adr c9 (1*4)) rfl (fun w' hS=>(rv_idx (e:=22) cO (by decide) 1 (by rw [zC8];omega) _ _ _ rfl rfl rfl (by kernel_rfl) (by kernel_rfl))) ?_
 refine ow 90 (.agg #[(.int .i64 (((quarters).getD 1 (0,0,0,0)).1)),(.int .i64 (((quarters).getD 1 (0,0,0,0)).2.1)),(.int .i64 (((quarters).getD 1 (0,0,0,0)).2.2.1)),(.int .i64 (((quarters).getD 1 (0,0,0,0)).2.2.2))]) rfl (fun w' hS=>(rv_ldn [(.int .i64 (((quarters).getD 1 (0,0,0,0)).1)),(.int .i64 (((quarters).getD 1 (0,0,0,0)).2.1)),(.int .i64 (((quarters).getD 1 (0,0,0,0)).2.2.1)),(.int .i64 (((quarters).getD 1 (0,0,0,0)).2.2.2))] hS.2.2.2 _ _ rfl rfl (by kernel_rfl))) ?_
 refine ov 91 (.agg #[.int .i64 0,.int .i64 0,.int .i64 1,(.int .i64 (-1))]) ?_
 have dd:((((quarters).getD 1 (0,0,0,0)).1==0&&((quarters).getD 1 (0,0,0,0)).2.1==0&&((quarters).getD 1 (0,0,0,0)).2.2.1==1&&((quarters).getD 1 (0,0,0,0)).2.2.2==(-1)))=true:=(lawK73)
 refine ow 92 (.bool true) rfl (fun w' hS=>(RunV.bool (x:=(((quarters).getD 1 (0,0,0,0)).1==0&&((quarters).getD 1 (0,0,0,0)).2.1==0&&((quarters).getD 1 (0,0,0,0)).2.2.1==1&&((quarters).getD 1 (0,0,0,0)).2.2.2==(-1))) (yf0 22 22 3 (k:=.i64) _ _ [((quarters).getD 1 (0,0,0,0)).1,((quarters).getD 1 (0,0,0,0)).2.1,((quarters).getD 1 (0,0,0,0)).2.2.1,((quarters).getD 1 (0,0,0,0)).2.2.2] [0,0,1,-1] rfl rfl rfl (by kernel_rfl) (by kernel_rfl) (by kernel_rfl)) dd)) ?_
 refine ov 93 (.bool true) ?_
 refine ov 0 (.bool true) ?_
 refine zb8 ?_
 refine dJ _ _ ?_
 try clear dJ d8
 refine wp_ret ?_
 refine bodyPost_ret (v:=(.bool true)) (zb0 rfl rfl) rfl ⟨?_,hB⟩
 exact rfl

def zM5:ConT:=fun args _ _=>match args with
 | []=>some (.leaf (.so (.vc (.cb true (some true)))) 0 0)
 | _=>none
theorem zw0 {I:World→Prop} (hI:∀ w,I w→Tab w∧Mx w):ConOK Tryz.prog I 11 zM5:=by
 intro args E n w T hw _ hT _
 unfold zM5 at hT
 split at hT
 ·cases hT
  exact (known7 w (hI w hw).1 (hI w hw).2).mono fun e w' he=>zb6 he ⟨rfl,fun v hv=>by cases hv;rfl⟩
 ·cases hT
def asN:Nat→Rat→Lf→Lf
 | 0,_,l=>l
 | n+1,x,l=>.as (decide (x≠0)) true (asN n x l)
theorem asN_ok {P:SV→Prop} {x:Rat} {l:Lf} {n:Nat} (h:x≠0) (hl:LOK P l):LOK P (asN n x l):=by
 induction n with
 | zero=>exact hl
 | succ n ih=>exact ⟨decide_eq_true h,ih⟩
def l3 (a b c:Rat):List (List UInt8):=[za1 a,za1 b,za1 c]
def isT (v:SV):Prop:=∀ X,v.den X=.bool true
theorem isT_of {t:Bool} {d:Option Bool} (h:t=true):isT (.so (.vc (.cb t d))):=fun _=>by rw [h];rfl
section
variable {P:Program} {a:Act} {o:Oper} {w:World}
end
theorem plc_same (Z:List Int) (X:List (List UInt8)):(zj1 Z Z&&sEq X X)=true:=by
 have:∀ Z:List Int,zj1 Z Z=true:=fun Z=>by
  induction Z with
  | nil=>rfl
  | cons z Z ih=>rw [zj1,beq_self_eq_true,ih];rfl
 rw [this,yf1];rfl
abbrev Mo:=Nat→Rat
def d3 (a b c x y z:Rat):Rat:=0+a*x+b*y+c*z
def f3 (a b c x y z:Rat):Rat:=a*x+b*y+c*z
def pm (r:Mo) (x y z:Rat):Mo
 | 9=>x
 | 10=>y
 | 11=>z
 | k=>r k
def mc (A B:Mo):Mo
 | 0=>d3 (A 0) (A 1) (A 2) (B 0) (B 3) (B 6)
 | 1=>d3 (A 0) (A 1) (A 2) (B 1) (B 4) (B 7)
 | 2=>d3 (A 0) (A 1) (A 2) (B 2) (B 5) (B 8)
 | 3=>d3 (A 3) (A 4) (A 5) (B 0) (B 3) (B 6)
 | 4=>d3 (A 3) (A 4) (A 5) (B 1) (B 4) (B 7)
 | 5=>d3 (A 3) (A 4) (A 5) (B 2) (B 5) (B 8)
 | 6=>d3 (A 6) (A 7) (A 8) (B 0) (B 3) (B 6)
 | 7=>d3 (A 6) (A 7) (A 8) (B 1) (B 4) (B 7)
 | 8=>d3 (A 6) (A 7) (A 8) (B 2) (B 5) (B 8)
 | 9=>d3 (A 0) (A 1) (A 2) (B 9) (B 10) (B 11)+A 9
 | 10=>d3 (A 3) (A 4) (A 5) (B 9) (B 10) (B 11)+A 10
 | 11=>d3 (A 6) (A 7) (A 8) (B 9) (B 10) (B 11)+A 11
 | _=>0
def mf (A B:Mo):Mo
 | 0=>f3 (A 0) (A 1) (A 2) (B 0) (B 3) (B 6)
 | 1=>f3 (A 0) (A 1) (A 2) (B 1) (B 4) (B 7)
 | 2=>f3 (A 0) (A 1) (A 2) (B 2) (B 5) (B 8)
 | 3=>f3 (A 3) (A 4) (A 5) (B 0) (B 3) (B 6)
 | 4=>f3 (A 3) (A 4) (A 5) (B 1) (B 4) (B 7)
 | 5=>f3 (A 3) (A 4) (A 5) (B 2) (B 5) (B 8)
 | 6=>f3 (A 6) (A 7) (A 8) (B 0) (B 3) (B 6)
 | 7=>f3 (A 6) (A 7) (A 8) (B 1) (B 4) (B 7)
 | 8=>f3 (A 6) (A 7) (A 8) (B 2) (B 5) (B 8)
 | 9=>f3 (A 0) (A 1) (A 2) (B 9) (B 10) (B 11)+A 9
 | 10=>f3 (A 3) (A 4) (A 5) (B 9) (B 10) (B 11)+A 10
 | 11=>f3 (A 6) (A 7) (A 8) (B 9) (B 10) (B 11)+A 11
 | _=>0
def mt (A:Mo):Mo
 | 0=>A 0
 | 1=>A 3
 | 2=>A 6
 | 3=>A 1
 | 4=>A 4
 | 5=>A 7
 | 6=>A 2
 | 7=>A 5
 | 8=>A 8
 | _=>0
def mz (A:Mo):Mo
 | 0=>A 0
 | 1=>A 1
 | 2=>A 2
 | 3=>A 3
 | 4=>A 4
 | 5=>A 5
 | 6=>A 6
 | 7=>A 7
 | 8=>A 8
 | _=>0
def idm:Mo
 | 0=>((1:Int):Rat)
 | 4=>((1:Int):Rat)
 | 8=>((1:Int):Rat)
 | _=>0
def l12 (A:Mo):List Rat:=[A 0,A 1,A 2,A 3,A 4,A 5,A 6,A 7,A 8,A 9,A 10,A 11]
def detm (A:Mo):Rat:=d3 (A 0) (A 1) (A 2) (A 4*A 8 - A 5*A 7) (A 5*A 6 - A 3*A 8) (A 3*A 7 - A 4*A 6)
def RotM (A:Mo) (w x y z:Rat):Prop:=RotQ (A 0) (A 1) (A 2) (A 3) (A 4) (A 5) (A 6) (A 7) (A 8) w x y z
theorem f_d (a b c x y z:Rat):d3 a b c x y z=f3 a b c x y z:=by unfold d3 f3;rw [Rat.zero_add]
theorem mc_mf (A B:Mo) (k:Nat):mc A B k=mf A B k:=by
 unfold mc mf
 split<;>simp only [f_d]
section
variable {A B:Mo} {a b c d:Int} (h0:¬(a=0∧b=0∧c=0∧d=0)) (h:RotM A a b c d)
include h0 h
theorem rig_mat:decide (l12 (mc (mz A) (mt A))=l12 idm)=true∧decide (0<sgn (detm A).num)=true:=by
 have:=yv5 (nq_int h0) h
 unfold yv4 at this
 rw [Bool.and_eq_true] at this
 exact this
end
theorem mc_rot {A B:Mo} {a b c d p q r s n0 n1 n2 n3:Int} (h:RotM A a b c d) (g:RotM B p q r s)
  (h0:n0=a*p - b*q - c*r - d*s) (h1:n1=a*q+b*p+c*s - d*r) (h2:n2=a*r - b*s+c*p+d*q) (h3:n3=a*s+b*r - c*q+d*p):RotM (mc A B) n0 n1 n2 n3:=yv8 h g h0 h1 h2 h3
noncomputable def tabPm:List (Nat × List (Nat × Ent)):=[(19,[(5,.ord [(true,0),(true,1),(true,3),(true,4),(false,2),(true,5),(false,6)] [1])]),
 (22,[]),
 (24,[(9,.ord [(true,0),(true,1),(true,2),(true,3),(true,5),(true,6),(false,4),(true,7),(false,8)] [5])]),
 (30,[(1,.flo [(true,0),(true,1),(true,2),(true,3),(false,4),(true,5),(false,6)] [(7,3,41)] [(false,8)] []),(2,.ord [(true,0),(false,1),(false,2),(true,3),(true,4),(true,5),(true,6),(true,7),(true,8),(true,9),(true,10),(true,11),(true,12),(false,13),(false,14),(true,15),(true,16),(true,17)] [])]),
 (31,[(10,.ord [(true,0),(true,1),(true,2),(true,3),(true,4),(true,5),(true,6),(true,7),(true,9),(false,8),(true,10)] [])]),
 (36,[]),
 (38,[]),
 (39,[(1,.ord [(true,0),(true,1),(true,2),(false,3),(false,4),(false,5)] [6])]),
 (41,[(6,.ord [(true,0),(true,1),(true,2),(true,3),(true,4),(true,5),(true,6),(true,8),(true,9),(true,10),(true,11),(true,12),(true,13),(false,7),(false,14),(false,15),(true,16),(false,17)] [5])]),
 (43,[(1,.ord [(true,0),(true,1),(true,3),(true,4),(false,2),(false,5),(false,6)] [4])]),
 (44,[]),
 (69,[(8,.ord [(true,0),(true,1),(true,2),(true,3),(true,4),(false,5)] [3])]),
 (71,[(1,.ord [(true,0),(true,1),(true,2),(true,3),(true,5),(true,6),(true,7),(true,8),(true,11),(true,12),(true,13),(true,14),(false,4),(false,9),(false,10),(false,15),(false,16),(true,17)] [])]),
 (74,[(5,.ord [(true,0),(true,1),(true,2),(true,3),(true,4),(true,5),(true,6),(true,7),(false,8),(true,9),(false,10)] [7])]),
 (77,[(1,.ord [(true,0),(true,1),(true,2),(false,3),(false,4),(true,5)] [])]),
 (83,[]),
 (86,[]),
 (110,[(6,.ord [(true,0),(true,1),(true,2),(true,3),(true,4),(true,5),(true,6),(true,8),(true,9),(true,10),(true,11),(true,12),(true,13),(false,7),(false,14),(false,15),(true,16),(false,17)] [5])])]
noncomputable def conPm:List (Nat × ConT):=[(103,zj6 100000 (fun k m=>k+m+1) (fun a b=>a+b)),
 (75,zj6 100000 (fun k m=>k+m+1) (fun a b=>a - b)),
 (82,zj6 100000 (fun k m=>k+m) (fun a b=>a*b)),
 (108,cNeg),
 (59,zY8),
 (37,zY9),
 (76,zS9),
 (87,zZ0),
 (130,cNum),
 (81,cDen),
 (58,cDiv),
 (96,zy6),
 (80,zT0),
 (122,zT1),
 (123,zT2),
 (68,zZ1),
 (105,cTT (fun k m=>k+m+1) fun a b=>a+b),
 (132,cTT (fun k m=>k+m+1) fun a b=>a - b),
 (106,cTT (fun k m=>k+m) fun a b=>a*b),
 (64,zZ2),
 (115,zZ3),
 (65,zD1),
 (94,zt8 400),
 (107,zt8 65536),
 (15,cChk),
 (66,zT5),
 (14,cOf),
 (16,cMEq),
 (67,yl8),
 (21,cPlc),
 (11,zM5)]
noncomputable def sysPm:Sys:=⟨Tryz.prog,2,199,tabPm,conPm,fun w=>Tab w∧Mx w⟩
theorem sysPm_ok:sysPm.OK where
 mixed:=by kernel_rfl
 calls:=fun f h0 h1=>by
  have:(List.range 199).all (fun f=>Nat.blt f 2||okCall Tryz.prog f)=true:=by kernel_rfl
  have:=List.all_eq_true.1 this f (List.mem_range.2 h1)
  simp only [Bool.or_eq_true] at this
  exact this.resolve_left (fun e=>by have:=ze6 e;exact absurd h0 (by show ¬ 2≤f;omega))
 tab:=by
  have:tabPm.all (okTab Tryz.prog)=true:=by kernel_rfl
  exact fun x hx=>List.all_eq_true.1 this x hx
 lps:=zy1 (by kernel_rfl)
 con:=fun x hx=>by
  simp only [sysPm,conPm,List.mem_cons,List.not_mem_nil,or_false] at hx
  rcases hx with rfl | rfl | rfl | rfl | rfl | rfl | rfl | rfl | rfl | rfl | rfl | rfl | rfl | rfl | rfl | rfl | rfl | rfl | rfl | rfl | rfl | rfl | rfl | rfl | rfl | rfl | rfl | rfl | rfl | rfl | rfl
  ·exact zc4 fun h1 h2 h3=>zi7 h1 h2 h3
  ·exact zc4 fun h1 h2 h3=>zt6 h1 h2 h3
  ·exact zc4 fun h1 h2 h3=>yb2 h1 h2 h3
  ·exact zu9
  ·exact zo0
  ·exact zo1
  ·exact zl1
  ·exact zo2 fun w h=>h.1
  ·exact zs0
  ·exact zs1
  ·exact zv0
  ·exact zh9
  ·exact zl2
  ·exact zl3
  ·exact zl4
  ·exact zo3
  ·exact zo4
  ·exact zo5
  ·exact zo6
  ·exact zo7
  ·exact zo8
  ·exact zj8
  ·exact zo9 fun w h=>h.2
  ·exact zp0 fun w h=>h.2
  ·exact zB1 fun w h=>h.2
  ·exact zp1
  ·exact yg2 fun w h=>h
  ·exact zG4
  ·exact zv9
  ·exact zP7 fun w h=>h
  ·exact zw0 fun w h=>h
 inv:=fun w w' h g=>⟨h.1.gr g,h.2.gr g⟩
def mo12 (r0 r1 r2 r3 r4 r5 r6 r7 r8 r9 r10 r11:Rat):Mo
 | 0=>r0
 | 1=>r1
 | 2=>r2
 | 3=>r3
 | 4=>r4
 | 5=>r5
 | 6=>r6
 | 7=>r7
 | 8=>r8
 | 9=>r9
 | 10=>r10
 | 11=>r11
 | _=>0
def rigM (A:Mo):Bool:=decide (l12 (mc (mz A) (mt A))=l12 idm)&&decide (0<sgn (detm A).num)
def zwM (A:Mo) (i:Nat):Int:=wzq (zL4 (A 0) (A 1) (A 2) (A 3) (A 4) (A 5) (A 6) (A 7) (A 8)) i
def ePl (A:Mo):Int:=yv6 (rigM A) (zwM A 0) (zwM A 1) (zwM A 2) (zwM A 3) (za1 (A 9)) (za1 (A 10)) (za1 (A 11))
def plV (A:Mo):SV:=.st [.vg [.ci .i64 (pif (ePl A) (zwM A 0)) (-12) 12,.ci .i64 (pif (ePl A) (zwM A 1)) (-12) 12,.ci .i64 (pif (ePl A) (zwM A 2)) (-12) 12,.ci .i64 (pif (ePl A) (zwM A 3)) (-12) 12,.cw (pit (ePl A) (za1 (A 9))) none,.cw (pit (ePl A) (za1 (A 10))) none,.cw (pit (ePl A) (za1 (A 11))) none],.vc (.ci .i64 (ePl A) 0 5)]
def er (n:Int):Lf:=.ret (.st [.vg [.ci .i64 0 0 0,.ci .i64 0 0 0,.ci .i64 0 0 0,.ci .i64 0 0 0,.cw [] none,.cw [] none,.cw [] none],.vc (.ci .i64 n n n)])
def inC (z:Int) (l:Lf):Lf:=.br (zL7 z) (.br (decide (yp0 z< -12)) (er 2) (.br (decide (12<yp0 z)) (er 2) l)) (er 2)
def leC (x:Rat) (l:Lf):Lf:=.br (decide ((400:Int)<((za1 x).length:Int))) (er 5) l
def treePm (A:Mo):Lf:=.br (decide (l12 (mc (mz A) (mt A))=l12 idm)) (.br (decide (0<sgn (detm A).num)) (inC (zwM A 0) (inC (zwM A 1) (inC (zwM A 2) (inC (zwM A 3) (leC (A 9) (leC (A 10) (leC (A 11) (.ret (.st [.vg [.ci .i64 (yp0 (zwM A 0)) (-9223372036854775808) 9223372036854775807,.ci .i64 (yp0 (zwM A 1)) (-9223372036854775808) 9223372036854775807,.ci .i64 (yp0 (zwM A 2)) (-9223372036854775808) 9223372036854775807,.ci .i64 (yp0 (zwM A 3)) (-9223372036854775808) 9223372036854775807,.cw (za1 (A 9)) (some (20000,A 9)),.cw (za1 (A 10)) (some (20000,A 10)),.cw (za1 (A 11)) (some (20000,A 11))],.vc (.ci .i64 0 0 0)])))))))))
 (er 3)) (er 3)
def PlP (A:Mo) (v:SV):Prop:=∀ X,v.den X=(plV A).den X
theorem zQ0 {A:Mo} {n:Int} (h:ePl A=n) (h0:n≠0):LOK (PlP A) (er n):=by
 intro X
 unfold plV
 rw [h]
 have p:∀ z,pif n z=0:=fun z=>if_neg h0
 have q:∀ x,pit n x=[]:=fun x=>if_neg h0
 simp only [p,q]
 rfl
theorem yg5 {P:SV→Prop} {z:Int} {l:Lf} (h1:¬(-12≤z∧z≤12)→LOK P (er 2)) (h2:-12≤z∧z≤12→LOK P l):LOK P (inC z l):=by
 have f:∀ v,zL7 z=v→(v=true↔(-9223372036854775808≤z∧z≤9223372036854775807)):=fun v e=>by subst e;unfold zL7;simp
 refine ⟨fun e=>?_,fun e=>h1 fun h=>?_⟩
 ·have g:=(f _ e).1 rfl
  have ez:yp0 z=z:=if_pos e
  refine ⟨fun k=>h1 fun h=>?_,fun k=>⟨fun m=>h1 fun h=>?_,fun m=>h2 ?_⟩⟩
  ·have:=of_decide_eq_true k;omega
  ·have:=of_decide_eq_true m;omega
  ·have:=of_decide_eq_false k;have:=of_decide_eq_false m;omega
 ·have:=(f _ e).2 (by omega);cases this
theorem zM6 {P:SV→Prop} {x:Rat} {l:Lf} (h1:¬(((za1 x).length:Int)≤400)→LOK P (er 5)) (h2:((za1 x).length:Int)≤400→LOK P l):LOK P (leC x l):=
 ⟨fun e=>h1 (by have:=of_decide_eq_true e;omega),fun e=>h2 (by have:=of_decide_eq_false e;omega)⟩
theorem yr8 (A:Mo):LOK (PlP A) (treePm A):=by
 refine ⟨fun h1=>⟨fun h2=>?_,fun h2=>zQ0 (if_neg (by unfold rigM;rw [h1,h2];decide)) (by decide)⟩,fun h1=>zQ0 (if_neg (by unfold rigM;rw [h1];simp)) (by decide)⟩
 have hr:rigM A=true:=by unfold rigM;rw [h1,h2];rfl
 have e2:¬((-12≤zwM A 0∧zwM A 0≤12)∧(-12≤zwM A 1∧zwM A 1≤12)∧(-12≤zwM A 2∧zwM A 2≤12)∧(-12≤zwM A 3∧zwM A 3≤12))→ePl A=2:=fun h=>(if_pos hr).trans (if_neg h)
 refine yg5 (fun h=>zQ0 (e2 fun g=>h g.1) (by decide)) fun b0=>yg5 (fun h=>zQ0 (e2 fun g=>h g.2.1) (by decide)) fun b1=>yg5 (fun h=>zQ0 (e2 fun g=>h g.2.2.1) (by decide)) fun b2=>yg5 (fun h=>zQ0 (e2 fun g=>h g.2.2.2) (by decide)) fun b3=>?_
 have e5:¬(((za1 (A 9)).length:Int)≤400∧((za1 (A 10)).length:Int)≤400∧((za1 (A 11)).length:Int)≤400)→ePl A=5:=fun h=>(if_pos hr).trans ((if_pos ⟨b0,b1,b2,b3⟩).trans (if_neg h))
 refine zM6 (fun h=>zQ0 (e5 fun g=>h g.1) (by decide)) fun l0=>zM6 (fun h=>zQ0 (e5 fun g=>h g.2.1) (by decide)) fun l1=>zM6 (fun h=>zQ0 (e5 fun g=>h g.2.2) (by decide)) fun l2=>?_
 have e0:ePl A=0:=(if_pos hr).trans ((if_pos ⟨b0,b1,b2,b3⟩).trans (if_pos ⟨l0,l1,l2⟩))
 have v:∀ z:Int,-12≤z∧z≤12→yp0 z=z:=fun z h=>if_pos (by unfold zL7;simp;omega)
 intro X
 unfold plV
 rw [e0,v _ b0,v _ b1,v _ b2,v _ b3]
 rfl
theorem plV_ok (A:Mo) (n:Nn) (X:Env) (w:World):(plV A).ok n X w:=by
 have h:0≤ePl A∧ePl A≤5∧(ePl A=0→(-12≤zwM A 0∧zwM A 0≤12)∧(-12≤zwM A 1∧zwM A 1≤12)∧(-12≤zwM A 2∧zwM A 2≤12)∧(-12≤zwM A 3∧zwM A 3≤12)):=by
  unfold ePl yv6
  split
  ·split
   ·rename_i h;split<;>simp_all
   ·simp
  ·simp
 have b:∀ z:Int,(ePl A=0→-12≤z∧z≤12)→-12≤pif (ePl A) z∧pif (ePl A) z≤12:=fun z hz=>by
  unfold pif
  split
  ·exact hz ‹_›
  ·decide
 intro x hx
 simp only [List.mem_cons,List.not_mem_nil,or_false] at hx
 rcases hx with rfl | rfl
 ·exact zi1 ⟨⟨rfl,b _ fun e=>(h.2.2 e).1⟩,⟨rfl,b _ fun e=>(h.2.2 e).2.1⟩,⟨rfl,b _ fun e=>(h.2.2 e).2.2.1⟩,⟨rfl,b _ fun e=>(h.2.2 e).2.2.2⟩,⟨rfl,fun _ _ e=>by cases e⟩,⟨rfl,fun _ _ e=>by cases e⟩,⟨rfl,fun _ _ e=>by cases e⟩,trivial⟩
 ·exact ⟨rfl,h.1,h.2.1⟩
theorem runPm (r0 r1 r2 r3 r4 r5 r6 r7 r8 r9 aa ab:Rat):zP0 sysPm 22 [.so (.vg [.cr 0 0 500 r0,.cr 0 1 500 r0,.cr 0 2 500 r0,.cr 0 3 500 r0,.cr 1 0 500 r1,.cr 1 1 500 r1,.cr 1 2 500 r1,.cr 1 3 500 r1,.cr 2 0 500 r2,.cr 2 1 500 r2,.cr 2 2 500 r2,.cr 2 3 500 r2,.cr 3 0 500 r3,.cr 3 1 500 r3,.cr 3 2 500 r3,.cr 3 3 500 r3,.cr 4 0 500 r4,.cr 4 1 500 r4,.cr 4 2 500 r4,.cr 4 3 500 r4,.cr 5 0 500 r5,.cr 5 1 500 r5,.cr 5 2 500 r5,.cr 5 3 500 r5,.cr 6 0 500 r6,.cr 6 1 500 r6,.cr 6 2 500 r6,.cr 6 3 500 r6,.cr 7 0 500 r7,.cr 7 1 500 r7,.cr 7 2 500 r7,.cr 7 3 500 r7,.cr 8 0 500 r8,.cr 8 1 500 r8,.cr 8 2 500 r8,.cr 8 3 500 r8,.cr 9 0 20000 r9,.cr 9 1 20000 r9,.cr 9 2 20000 r9,.cr 9 3 20000 r9,.cr 10 0 20000 aa,.cr 10 1 20000 aa,.cr 10 2 20000 aa,.cr 10 3 20000 aa,.cr 11 0 20000 ab,.cr 11 1 20000 ab,.cr 11 2 20000 ab,.cr 11 3 20000 ab])] 12 0 (.s (.s (.s (.s .e (.s .e (.s (.s .e (.s .e (.s (.s .e (.s .e (.s (.s .e (.s .e (.s .e (.s .e (.s .e .e))))) .e))) .e))) .e))) .e) .e) .e)=some (treePm (mo12 r0 r1 r2 r3 r4 r5 r6 r7 r8 r9 aa ab)):=by kernel_rfl
def cPlace:ConT:=zZ9 zy7 fun
 | [(ka0,a0),(ka1,a1),(ka2,a2),(ka3,a3),(ka4,a4),(ka5,a5),(ka6,a6),(ka7,a7),(ka8,a8),(ka9,a9),(ka10,a10),(ka11,a11)],_,_=>tr (Nat.ble ka0 500&&Nat.ble ka1 500&&Nat.ble ka2 500&&Nat.ble ka3 500&&Nat.ble ka4 500&&Nat.ble ka5 500&&Nat.ble ka6 500&&Nat.ble ka7 500&&Nat.ble ka8 500&&Nat.ble ka9 20000&&Nat.ble ka10 20000&&Nat.ble ka11 20000) (.leaf (plV (mo12 a0 a1 a2 a3 a4 a5 a6 a7 a8 a9 a10 a11)) 0 0)
 | _,_,_=>none
theorem yr9 {I:World→Prop} (hI:∀ w,I w→Tab w∧Mx w):ConOK Tryz.prog I 22 cPlace:=zf8 fun _ _ n X _ _ hw h1 h2 hT _=>by
 split at hT
 ·obtain ⟨hb,rfl⟩:=zd1 hT
  simp only [Bool.and_eq_true,Nat.ble_eq] at hb
  obtain ⟨vs,e1,hA⟩:=zj9 h1 h2
  rw [e1]
  obtain ⟨aD,a7,aE,aT,bg,rfl,ac,hA⟩:=hA.cons
  obtain ⟨pa1,aV,aC,aA,bo,rfl,ah,hA⟩:=hA.cons
  obtain ⟨a9,a6,aL,a8,bj,rfl,aj,hA⟩:=hA.cons
  obtain ⟨aK,aH,aB,aU,bi,rfl,af,hA⟩:=hA.cons
  obtain ⟨aW,bc,aP,a2,bh,rfl,ai,hA⟩:=hA.cons
  obtain ⟨aZ,aM,aY,aG,bm,rfl,ad,hA⟩:=hA.cons
  obtain ⟨aI,a4,a1,bd,bp,rfl,ae,hA⟩:=hA.cons
  obtain ⟨a3,aN,a0,aS,bn,rfl,ap,hA⟩:=hA.cons
  obtain ⟨aR,a5,bb,aO,bk,rfl,ak,hA⟩:=hA.cons
  obtain ⟨aF,bf,ba,aJ,bq,rfl,al,hA⟩:=hA.cons
  obtain ⟨aw,ax,ar,az,aX,rfl,aa,hA⟩:=hA.cons
  obtain ⟨au,av,ay,aq,aQ,rfl,ab,hA⟩:=hA.cons
  obtain rfl:=hA.nil
  replace ac:=ac.mono (m:=500) (by omega)
  replace ah:=ah.mono (m:=500) (by omega)
  replace aj:=aj.mono (m:=500) (by omega)
  replace af:=af.mono (m:=500) (by omega)
  replace ai:=ai.mono (m:=500) (by omega)
  replace ad:=ad.mono (m:=500) (by omega)
  replace ae:=ae.mono (m:=500) (by omega)
  replace ap:=ap.mono (m:=500) (by omega)
  replace ak:=ak.mono (m:=500) (by omega)
  replace al:=al.mono (m:=20000) (by omega)
  replace aa:=aa.mono (m:=20000) (by omega)
  replace ab:=ab.mono (m:=20000) (by omega)
  refine (ze7 sysPm sysPm_ok (runPm _ _ _ _ _ _ _ _ _ _ _ _) (X:=zF1 [aD,a7,aE,aT,pa1,aV,aC,aA,a9,a6,aL,a8,aK,aH,aB,aU,aW,bc,aP,a2,aZ,aM,aY,aG,aI,a4,a1,bd,a3,aN,a0,aS,aR,a5,bb,aO,aF,bf,ba,aJ,aw,ax,ar,az,au,av,ay,aq]) (hI _ hw) (okF1 (zi1 ⟨⟨rfl,ac⟩,⟨rfl,ac⟩,⟨rfl,ac⟩,⟨rfl,ac⟩,⟨rfl,ah⟩,⟨rfl,ah⟩,⟨rfl,ah⟩,⟨rfl,ah⟩,⟨rfl,aj⟩,⟨rfl,aj⟩,⟨rfl,aj⟩,⟨rfl,aj⟩,⟨rfl,af⟩,⟨rfl,af⟩,⟨rfl,af⟩,⟨rfl,af⟩,⟨rfl,ai⟩,⟨rfl,ai⟩,⟨rfl,ai⟩,⟨rfl,ai⟩,⟨rfl,ad⟩,⟨rfl,ad⟩,⟨rfl,ad⟩,⟨rfl,ad⟩,⟨rfl,ae⟩,⟨rfl,ae⟩,⟨rfl,ae⟩,⟨rfl,ae⟩,⟨rfl,ap⟩,⟨rfl,ap⟩,⟨rfl,ap⟩,⟨rfl,ap⟩,⟨rfl,ak⟩,⟨rfl,ak⟩,⟨rfl,ak⟩,⟨rfl,ak⟩,⟨rfl,al⟩,⟨rfl,al⟩,⟨rfl,al⟩,⟨rfl,al⟩,⟨rfl,aa⟩,⟨rfl,aa⟩,⟨rfl,aa⟩,⟨rfl,aa⟩,⟨rfl,ab⟩,⟨rfl,ab⟩,⟨rfl,ab⟩,⟨rfl,ab⟩,trivial⟩)) (yr8 _)).mono fun e w' he=>?_
  obtain ⟨v,X',m,rfl,g,_,_,hp⟩:=he
  exact zb6 (v:=plV _) ⟨by rw [hp];rfl,g⟩ (plV_ok _ n X _)
 ·cases hT
theorem yg6 (s:List UInt8) (m:Nat):0≤ck2 s m∧ck2 s m≤20:=by
 unfold ck2
 split
 ·decide
 split
 ·decide
 split
 ·decide
 split
 ·decide
 split<;>decide
def fe (X Y Z:List UInt8):Int:=first3 (ck2 X 400) (ck2 Y 400) (ck2 Z 400)
theorem fe_le (X Y Z:List UInt8):0≤fe X Y Z∧fe X Y Z≤20:=by
 have a:=yg6 X 400;have b:=yg6 Y 400;have c:=yg6 Z 400
 unfold fe first3
 split
 ·split
  ·exact c
  ·exact b
 ·exact a
noncomputable def pq (E:Int) (X:List UInt8):Rat:=if E=0 then Classical.epsilon fun a=>X=za1 a else 0
theorem ys0 (a:Rat):pq 0 (za1 a)=a:=by
 unfold pq
 rw [if_pos rfl]
 exact ratL_inj (Classical.epsilon_spec (p:=fun b=>za1 a=za1 b) ⟨a,rfl⟩).symm
noncomputable def cVPa:ConT:=fun args nr _=>match args with
 | [.so (.vg [.cw X _,.cw Y _,.cw Z _])]=>some (.as (decide (X.length≤500∧Y.length≤500∧Z.length≤500)) (.leaf (.st [.vg (zi0 nr [(2000,pq (fe X Y Z) X),(2000,pq (fe X Y Z) Y),(2000,pq (fe X Y Z) Z)]),.vc (.ci .i64 (fe X Y Z) 0 20)]) 3 0))
 | _=>none
theorem ya8 {n:Nn} {X:Env} {w w':World} {e:Ending} {l:List (Nat × Rat)} {z lo hi:Int} (h:(∃ vs:List Value,e=.returned (.tuple #[.agg vs.toArray,.int .i64 z])∧IsRats w' vs l)∧Gr w w') (hz:lo≤z∧z≤hi):(Tr.leaf (.st [.vg (zi0 n.r l),.vc (.ci .i64 z lo hi)]) l.length 0).holds n X w e w':=by
 obtain ⟨X',h1,h2,h3,h4⟩:=zv1 (n:=n) (X:=X) h
 refine ⟨X',h1,h2,h3,fun x hx=>?_⟩
 simp only [List.mem_cons,List.not_mem_nil,or_false] at hx
 rcases hx with rfl | rfl
 ·exact h4 _ (by simp)
 ·exact ⟨rfl,hz⟩
def zrat:List Cl:=[.cb false (some false),.cv (.slice none 0 0),.cb false (some false),.cv (.slice none 0 0)]
noncomputable def cPara:ConT:=fun args nr _=>match args with
 | [.so (.vc (.cw X _))]=>some (.as (decide (X.length≤500)) (.br (ck2 X 400 !=0) (.leaf (.st [.vg zrat,.vc (.ci .i64 (ck2 X 400) 0 20)]) 0 0) (.leaf (ratE nr 2000 (pq 0 X) 0) 1 0)))
 | _=>none
theorem zrat_ok (n:Nn) (X:Env) (w:World):okL n X w zrat:=fun c hc=>by
 unfold zrat at hc
 simp only [List.mem_cons,List.not_mem_nil,or_false] at hc
 rcases hc with rfl | rfl | rfl | rfl<;>refine ⟨rfl,?_⟩<;>first | rfl | (intro v hv;cases hv;rfl)
theorem cPara_ok {I:World→Prop} (hI:∀ w,I w→Mx w):ConOK Tryz.prog I 94 cPara:=by
 intro args E n w T hw ha hT hp
 unfold cPara at hT
 split at hT
 ·rename_i X _
  cases hT
  have hl:=of_decide_eq_true hp.1
  refine (show Calls Tryz.prog 94 #[.string ⟨X.toArray⟩] w _ from ?_)
  by_cases h:ck2 X 400=0
  ·have hf:(ck2 X 400 !=0)=false:=by rw [h];rfl
   obtain ⟨a,rfl,aa,ab⟩:=zK9 h (by omega)
   refine (zG8 (k:=2000) a aa (by decide) (by decide) ab w (hI w hw)).mono fun e w' he=>⟨fun hb=>?_,fun _=>?_⟩
   ·rw [hf] at hb;cases hb
   ·rw [ys0];exact zt2 he
  ·have hf:(ck2 X 400 !=0)=true:=by simpa using h
   refine (ym6 X (by omega) h w (hI w hw)).mono fun e w' he=>⟨fun _=>zb6 he fun x hx=>?_,fun hb=>?_⟩
   ·simp only [List.mem_cons,List.not_mem_nil,or_false] at hx
    rcases hx with rfl | rfl
    ·exact zrat_ok n E w'
    ·exact ⟨rfl,yg6 X 400⟩
   ·rw [hf] at hb;cases hb
 ·cases hT
noncomputable def tabVp:List (Nat × List (Nat × Ent)):=[(57,[]),
 (93,[])]
noncomputable def conVp:List (Nat × ConT):=[(94,cPara)]
noncomputable def sysVp:Sys:=⟨Tryz.prog,2,199,tabVp,conVp,Mx⟩
theorem sysVp_ok:sysVp.OK where
 mixed:=by kernel_rfl
 calls:=fun f h0 h1=>by
  have:(List.range 199).all (fun f=>Nat.blt f 2||okCall Tryz.prog f)=true:=by kernel_rfl
  have:=List.all_eq_true.1 this f (List.mem_range.2 h1)
  simp only [Bool.or_eq_true] at this
  exact this.resolve_left (fun e=>by have:=ze6 e;exact absurd h0 (by show ¬ 2≤f;omega))
 tab:=by
  have:tabVp.all (okTab Tryz.prog)=true:=by kernel_rfl
  exact fun x hx=>List.all_eq_true.1 this x hx
 lps:=zy1 (by kernel_rfl)
 con:=fun x hx=>by
  simp only [sysVp,conVp,List.mem_cons,List.not_mem_nil,or_false] at hx
  rcases hx with rfl
  ·exact cPara_ok fun w h=>h
 inv:=fun w w' h g=>h.gr g
def zvec (e:Int):Lf:=.ret (.st [.vg (zrat++(zrat++(zrat++[]))),.vc (.ci .i64 e 0 20)])
def pa1 (X:List UInt8) (l:Lf):Lf:=.as (decide (X.length≤500)) true (.br (ck2 X 400 !=0) (.as (ck2 X 400 !=0) true (zvec (ck2 X 400))) l)
noncomputable def treeVp (X Y Z:List UInt8):Lf:=pa1 X (pa1 Y (pa1 Z (.ret (.st [.vg (zi0 0 [(2000,pq 0 X),(2000,pq 0 Y),(2000,pq 0 Z)]),.vc (.ci .i64 0 0 0)]))))
theorem runVp (X Y Z:List UInt8) (dx dy dz:Option (Nat × Rat)):zP0 sysVp 57 [.so (.vg [.cw X dx,.cw Y dy,.cw Z dz])] 0 0 (.s (.t .e) (.s (.t .e) (.s (.t .e) .e)))=some (treeVp X Y Z):=by kernel_rfl
noncomputable def vpL (X Y Z:List UInt8):List (Nat × Rat):=[(2000,pq (fe X Y Z) X),(2000,pq (fe X Y Z) Y),(2000,pq (fe X Y Z) Z)]
def VpP (X Y Z:List UInt8) (v:SV):Prop:=∃ l lo hi r,v=.st [.vg l,.vc (.ci .i64 (fe X Y Z) lo hi)]∧rats l=some r∧Conv r (vpL X Y Z)
theorem ys1 {P:SV→Prop} {X:List UInt8} {l:Lf} (hl:X.length≤500) (h1:ck2 X 400≠0→LOK P (zvec (ck2 X 400))) (h2:ck2 X 400=0→LOK P l):LOK P (pa1 X l):=
 ⟨decide_eq_true hl,fun h=>⟨h,h1 (by simpa using h)⟩,fun h=>h2 (by simpa using h)⟩
theorem ya9 {X Y Z:List UInt8} {e:Int} (h:fe X Y Z=e) (h0:e≠0):LOK (VpP X Y Z) (zvec e):=by
 refine ⟨_,0,20,[(64,0),(64,0),(64,0)],by rw [h],rfl,?_⟩
 have z:∀ X,pq e X=0:=fun X=>if_neg h0
 have r6:RS 64 (0:Rat):=⟨Nat.two_pow_pos _,Nat.one_lt_two_pow (by decide)⟩
 have r0:RS 2000 (0:Rat):=r6.mono (by decide)
 unfold vpL
 rw [h,z,z,z]
 exact ⟨⟨rfl,r0,by decide⟩,⟨rfl,r0,by decide⟩,⟨rfl,r0,by decide⟩,trivial⟩
theorem ys2 {X Y Z:List UInt8} (hl:X.length≤500∧Y.length≤500∧Z.length≤500):LOK (VpP X Y Z) (treeVp X Y Z):=by
 refine ys1 hl.1 (fun h=>ya9 (if_neg h) h) fun hx=>ys1 hl.2.1 (fun h=>ya9 ((if_pos hx).trans (if_neg h)) h) fun hy=>ys1 hl.2.2 (fun h=>ya9 ((if_pos hx).trans (if_pos hy)) h) fun hz=>?_
 have e:fe X Y Z=0:=(if_pos hx).trans ((if_pos hy).trans hz)
 refine ⟨_,0,0,_,by rw [e],rfl,?_⟩
 have pr:∀ {X:List UInt8},ck2 X 400=0→X.length≤500→RS 2000 (pq 0 X):=fun {X} hx hl=>by
  obtain ⟨a,rfl,ha,_⟩:=zK9 hx (by omega)
  rw [ys0];exact ha
 unfold vpL
 rw [e]
 exact ⟨⟨rfl,pr hx hl.1,by decide⟩,⟨rfl,pr hy hl.2.1,by decide⟩,⟨rfl,pr hz hl.2.2,by decide⟩,trivial⟩
theorem ys3 {I:World→Prop} (hI:∀ w,I w→Mx w):ConOK Tryz.prog I 57 cVPa:=by
 intro args E n w T hw ha hT hp
 unfold cVPa at hT
 split at hT
 ·rename_i X dx Y dy Z dz
  cases hT
  have g:=fun c hc=>(ha _ (List.mem_singleton.2 rfl) c hc)
  refine (ze7 sysVp sysVp_ok (runVp X Y Z dx dy dz) (X:=E) (hI w hw) (okF1 (zi1 ⟨⟨rfl,(g (.cw X dx) (by simp)).2⟩,⟨rfl,(g (.cw Y dy) (by simp)).2⟩,⟨rfl,(g (.cw Z dz) (by simp)).2⟩,trivial⟩)) (ys2 (of_decide_eq_true hp.1))).mono fun e w' he=>ya8 ?_ (fe_le X Y Z)
  obtain ⟨v,X',m,rfl,g,_,hv,l,lo,hi,r,rfl,hr,hc⟩:=he
  exact ⟨⟨_,rfl,(zB3 hr (hv (.vg l) (by simp))).conv hc⟩,g⟩
 ·cases hT
noncomputable def sysCa:Sys:=⟨Tryz.prog,2,199,[(15,ym0)],[(57,cVPa)],Mx⟩
theorem sysCa_ok:sysCa.OK where
 mixed:=by kernel_rfl
 calls:=fun f h0 h1=>by
  have:(List.range 199).all (fun f=>Nat.blt f 2||okCall Tryz.prog f)=true:=by kernel_rfl
  have:=List.all_eq_true.1 this f (List.mem_range.2 h1)
  simp only [Bool.or_eq_true] at this
  exact this.resolve_left (fun e=>by have:=ze6 e;exact absurd h0 (by show ¬ 2≤f;omega))
 tab:=by
  have:[(15,ym0)].all (okTab Tryz.prog)=true:=by kernel_rfl
  exact fun x hx=>List.all_eq_true.1 this x hx
 lps:=fun x hx fn c h2 hb=>by
  have:x=(15,ym0):=List.mem_singleton.1 hx
  subst this
  have:fn=Tryz.f15:=Option.some.inj (h2.symm.trans Tryz.func15)
  subst this
  have:c=(Tryz.f15.body).getD .skip:=by rw [hb];rfl
  subst this
  repeat' first | exact trivial | exact yr5 | refine ⟨?_,?_⟩
 con:=fun x hx=>by
  have:x=(57,cVPa):=List.mem_singleton.1 hx
  subst this
  exact ys3 fun w h=>h
 inv:=fun w w' h g=>h.gr g
def absw (q:Int):Int:=if IntKind.i64.wrap (0 - q)>q then IntKind.i64.wrap (0 - q) else q
def rgn (q:Int) (l:Lf):Lf:=.br (decide (q< -12)) (re 2) (.br (decide (12<q)) (re 2) l)
def finA (X Y Z:List UInt8):Lf:=.as (decide (X.length≤500∧Y.length≤500∧Z.length≤500)) true (.ret (.so (.vc (.ci .i64 (fe X Y Z) 0 20))))
def treeCa (q0 q1 q2 q3:Int) (X Y Z:List UInt8):Lf:=.br (zz3 [q0,q1,q2,q3] [0,0,0,0]) (re 19) (rgn q0 (rgn q1 (rgn q2 (rgn q3 (treeG absw (finA X Y Z) q0 q1 q2 q3)))))
theorem runCa (q0 q1 q2 q3:Int) (X Y Z:List UInt8) (dx dy dz:Option (Nat × Rat)):zP0 sysCa 15 [.so (.vg [.ci .i64 q0 (-9223372036854775808) 9223372036854775807,.ci .i64 q1 (-9223372036854775808) 9223372036854775807,.ci .i64 q2 (-9223372036854775808) 9223372036854775807,.ci .i64 q3 (-9223372036854775808) 9223372036854775807,.cw X dx,.cw Y dy,.cw Z dz])] 0 0 (.s .e (.s .e (.s .e (.s .e (.s .e (.s .e (.s .e (.s .e (.s .e (.s (.s (.s (.s .e (.s .e .e)) (.s .e (.s .e .e))) (.f (.s .e (.s .e .e)))) (.f (.f (.s .e (.s .e .e))))))))))))))=some (treeCa q0 q1 q2 q3 X Y Z):=by kernel_rfl
theorem yg7 {P:SV→Prop} {q:Int} {l:Lf} (h1:¬(-12≤q∧q≤12)→LOK P (re 2)) (h2:-12≤q∧q≤12→LOK P l):LOK P (rgn q l):=
 ⟨fun h=>h1 (by have:=of_decide_eq_true h;omega),fun h=>⟨fun k=>h1 (by have:=of_decide_eq_true k;omega),fun k=>h2 (by have:=of_decide_eq_false h;have:=of_decide_eq_false k;omega)⟩⟩
theorem ys4 {qq0 qq1 qq2 qq3:Int} {X Y Z:List UInt8} (hl:X.length≤500∧Y.length≤500∧Z.length≤500):LOK (CkP (chk qq0 qq1 qq2 qq3 (fe X Y Z))) (treeCa qq0 qq1 qq2 qq3 X Y Z):=by
 refine ⟨fun h=>zP9 ?_,fun h=>?_⟩
 ·rw [conj0] at h;unfold chk;rw [if_pos (of_decide_eq_true h)]
 ·rw [conj0] at h
  have hz:=of_decide_eq_false h
  unfold chk
  rw [if_neg hz]
  refine yg7 (fun h=>zP9 (by rw [if_pos fun g=>h g.1])) fun i0=>yg7 (fun h=>zP9 (by rw [if_pos fun g=>h g.2.1])) fun i1=>yg7 (fun h=>zP9 (by rw [if_pos fun g=>h g.2.2.1])) fun i2=>yg7 (fun h=>zP9 (by rw [if_pos fun g=>h g.2.2.2])) fun i3=>?_
  rw [if_neg (by simp only [Classical.not_not];exact ⟨i0,i1,i2,i3⟩)]
  exact yg4 i0 i1 i2 i3 (fun q h=>by unfold absw;rw [IntKind.wrap_i64];split<;>omega) hz ⟨decide_eq_true hl,_,_,rfl⟩
theorem chk_le {q0 q1 q2 q3 E:Int} (h:0≤E∧E≤20):0≤chk q0 q1 q2 q3 E∧chk q0 q1 q2 q3 E≤20:=by
 unfold chk
 split
 ·decide
 split
 ·decide
 split
 ·decide
 ·exact h
def cChA:ConT:=fun args _ _=>match args with
 | [.so (.vg [.ci .i64 q0 _ _,.ci .i64 q1 _ _,.ci .i64 q2 _ _,.ci .i64 q3 _ _,.cw X _,.cw Y _,.cw Z _])]=>some (.as (decide (((-9223372036854775808≤q0∧q0≤9223372036854775807)∧(-9223372036854775808≤q1∧q1≤9223372036854775807)∧(-9223372036854775808≤q2∧q2≤9223372036854775807)∧(-9223372036854775808≤q3∧q3≤9223372036854775807))∧X.length≤500∧Y.length≤500∧Z.length≤500)) (.leaf (.so (.vc (.ci .i64 (chk q0 q1 q2 q3 (fe X Y Z)) 0 20))) 0 0))
 | _=>none
theorem cChA_ok {I:World→Prop} (hI:∀ w,I w→Mx w):ConOK Tryz.prog I 15 cChA:=by
 intro args E n w T hw ha hT hp
 unfold cChA at hT
 split at hT
 ·rename_i q0 _ _ q1 _ _ q2 _ _ q3 _ _ X dx Y dy Z dz
  cases hT
  obtain ⟨⟨h0,h1,h2,h3⟩,hl⟩:=of_decide_eq_true hp.1
  have g:=fun c hc=>(ha _ (List.mem_singleton.2 rfl) c hc)
  refine (ze7 sysCa sysCa_ok (runCa q0 q1 q2 q3 X Y Z dx dy dz) (X:=E) (hI w hw) (okF1 (zi1 ⟨⟨rfl,h0⟩,⟨rfl,h1⟩,⟨rfl,h2⟩,⟨rfl,h3⟩,⟨rfl,(g (.cw X dx) (by simp)).2⟩,⟨rfl,(g (.cw Y dy) (by simp)).2⟩,⟨rfl,(g (.cw Z dz) (by simp)).2⟩,trivial⟩)) (ys4 hl)).mono fun e w' he=>?_
  obtain ⟨v,X',m,rfl,g,_,_,lo,hi,rfl⟩:=he
  exact zb6 ⟨rfl,g⟩ ⟨rfl,chk_le (fe_le X Y Z)⟩
 ·cases hT
def cMag:ConT:=zZ9 as64 fun z _ _=>some (.as (decide (-4611686018427387904≤z∧z≤4611686018427387904)) (.leaf (.so (.vc (.ci .i64 (z.natAbs:Int) 0 4611686018427387904))) 0 0))
theorem cMag_ok {I:World→Prop}:ConOK Tryz.prog I 72 cMag:=zf8 fun a x n X w T _ h1 h2 hT hp=>by
 cases hT
 obtain ⟨e1,h3,h4⟩:=zS8 h1 h2
 rw [e1]
 have:=of_decide_eq_true hp.1
 exact (zV2 a this w).mono fun e w' he=>zb6 he ⟨rfl,by omega,by omega⟩
noncomputable def tabPd:List (Nat × List (Nat × Ent)):=[(27,[(11,.ord [(true,0),(true,1),(false,2),(true,3),(false,4),(true,5)] [4])]),
 (45,[])]
noncomputable def conPd:List (Nat × ConT):=[(103,zj6 100000 (fun k m=>k+m+1) (fun a b=>a+b)),
 (75,zj6 100000 (fun k m=>k+m+1) (fun a b=>a - b)),
 (82,zj6 100000 (fun k m=>k+m) (fun a b=>a*b)),
 (108,cNeg),
 (59,zY8),
 (37,zY9),
 (76,zS9),
 (87,zZ0),
 (130,cNum),
 (81,cDen),
 (58,cDiv),
 (96,zy6),
 (80,zT0),
 (122,zT1),
 (123,zT2),
 (68,zZ1),
 (105,cTT (fun k m=>k+m+1) fun a b=>a+b),
 (132,cTT (fun k m=>k+m+1) fun a b=>a - b),
 (106,cTT (fun k m=>k+m) fun a b=>a*b),
 (64,zZ2),
 (115,zZ3),
 (65,zD1),
 (94,zt8 400),
 (107,zt8 65536),
 (66,zT5),
 (16,cMEq),
 (67,yl8),
 (21,cPlc),
 (11,zM5),
 (15,cChA),
 (57,cVPa),
 (72,cMag)]
noncomputable def sysPd:Sys:=⟨Tryz.prog,2,199,tabPd,conPd,fun w=>Tab w∧Mx w⟩
theorem sysPd_ok:sysPd.OK where
 mixed:=by kernel_rfl
 calls:=fun f h0 h1=>by
  have:(List.range 199).all (fun f=>Nat.blt f 2||okCall Tryz.prog f)=true:=by kernel_rfl
  have:=List.all_eq_true.1 this f (List.mem_range.2 h1)
  simp only [Bool.or_eq_true] at this
  exact this.resolve_left (fun e=>by have:=ze6 e;exact absurd h0 (by show ¬ 2≤f;omega))
 tab:=by
  have:tabPd.all (okTab Tryz.prog)=true:=by kernel_rfl
  exact fun x hx=>List.all_eq_true.1 this x hx
 lps:=zy1 (by kernel_rfl)
 con:=fun x hx=>by
  simp only [sysPd,conPd,List.mem_cons,List.not_mem_nil,or_false] at hx
  rcases hx with rfl | rfl | rfl | rfl | rfl | rfl | rfl | rfl | rfl | rfl | rfl | rfl | rfl | rfl | rfl | rfl | rfl | rfl | rfl | rfl | rfl | rfl | rfl | rfl | rfl | rfl | rfl | rfl | rfl | rfl | rfl | rfl
  ·exact zc4 fun h1 h2 h3=>zi7 h1 h2 h3
  ·exact zc4 fun h1 h2 h3=>zt6 h1 h2 h3
  ·exact zc4 fun h1 h2 h3=>yb2 h1 h2 h3
  ·exact zu9
  ·exact zo0
  ·exact zo1
  ·exact zl1
  ·exact zo2 fun w h=>h.1
  ·exact zs0
  ·exact zs1
  ·exact zv0
  ·exact zh9
  ·exact zl2
  ·exact zl3
  ·exact zl4
  ·exact zo3
  ·exact zo4
  ·exact zo5
  ·exact zo6
  ·exact zo7
  ·exact zo8
  ·exact zj8
  ·exact zo9 fun w h=>h.2
  ·exact zp0 fun w h=>h.2
  ·exact zp1
  ·exact zG4
  ·exact zv9
  ·exact zP7 fun w h=>h
  ·exact zw0 fun w h=>h
  ·exact cChA_ok fun w h=>h.2
  ·exact ys3 fun w h=>h.2
  ·exact cMag_ok
 inv:=fun w w' h g=>⟨h.1.gr g,h.2.gr g⟩
def ePd (q0 q1 q2 q3:Int) (x1 x2 x3:Rat):Int:=yv6 true q0 q1 q2 q3 (za1 x1) (za1 x2) (za1 x3)
def pdV (q0 q1 q2 q3:Int) (x1 x2 x3:Rat):SV:=.st [.vg [.ci .i64 (pif (ePd q0 q1 q2 q3 x1 x2 x3) q0) (-12) 12,.ci .i64 (pif (ePd q0 q1 q2 q3 x1 x2 x3) q1) (-12) 12,.ci .i64 (pif (ePd q0 q1 q2 q3 x1 x2 x3) q2) (-12) 12,.ci .i64 (pif (ePd q0 q1 q2 q3 x1 x2 x3) q3) (-12) 12,.cw (pit (ePd q0 q1 q2 q3 x1 x2 x3) (za1 x1)) none,.cw (pit (ePd q0 q1 q2 q3 x1 x2 x3) (za1 x2)) none,.cw (pit (ePd q0 q1 q2 q3 x1 x2 x3) (za1 x3)) none],.vc (.ci .i64 (ePd q0 q1 q2 q3 x1 x2 x3) 0 5)]
def mgC (q:Int) (l:Lf):Lf:=.as (decide (-4611686018427387904≤q∧q≤4611686018427387904)) true (.br (decide ((12:Int)<(q.natAbs:Int))) (er 2) l)
def treePd (q0 q1 q2 q3:Int) (x1 x2 x3:Rat):Lf:=mgC q0 (mgC q1 (mgC q2 (mgC q3 (leC x1 (leC x2 (leC x3 (.ret (.st [.vg [.ci .i64 q0 (-1099511627776) 1099511627776,.ci .i64 q1 (-1099511627776) 1099511627776,.ci .i64 q2 (-1099511627776) 1099511627776,.ci .i64 q3 (-1099511627776) 1099511627776,.cw (za1 x1) (some (20000,x1)),.cw (za1 x2) (some (20000,x2)),.cw (za1 x3) (some (20000,x3))],.vc (.ci .i64 0 0 0)]))))))))
def PdP (q0 q1 q2 q3:Int) (x1 x2 x3:Rat) (v:SV):Prop:=∀ X,v.den X=(pdV q0 q1 q2 q3 x1 x2 x3).den X
theorem runPd (q0 q1 q2 q3:Int) (x1 x2 x3:Rat):zP0 sysPd 27 [.so (.vg [.ci .i64 q0 (-1099511627776) 1099511627776,.ci .i64 q1 (-1099511627776) 1099511627776,.ci .i64 q2 (-1099511627776) 1099511627776,.ci .i64 q3 (-1099511627776) 1099511627776]),.so (.vg [.cw (za1 x1) (some (20000,x1)),.cw (za1 x2) (some (20000,x2)),.cw (za1 x3) (some (20000,x3))])] 0 0 (.s .e (.s .e (.s .e (.s .e (.s .e (.s .e (.s .e .e)))))))=some (treePd q0 q1 q2 q3 x1 x2 x3):=by kernel_rfl
theorem zG6 {q0 q1 q2 q3 n:Int} {x1 x2 x3:Rat} (h:ePd q0 q1 q2 q3 x1 x2 x3=n) (h0:n≠0):LOK (PdP q0 q1 q2 q3 x1 x2 x3) (er n):=by
 intro X
 unfold pdV
 rw [h]
 have p:∀ z,pif n z=0:=fun z=>if_neg h0
 have q:∀ x,pit n x=[]:=fun x=>if_neg h0
 simp only [p,q]
 rfl
theorem yg8 {P:SV→Prop} {q:Int} {l:Lf} (hq:-4611686018427387904≤q∧q≤4611686018427387904) (h1:¬(-12≤q∧q≤12)→LOK P (er 2)) (h2:-12≤q∧q≤12→LOK P l):LOK P (mgC q l):=
 ⟨decide_eq_true hq,fun h=>h1 (by have:=of_decide_eq_true h;omega),fun h=>h2 (by have:=of_decide_eq_false h;omega)⟩
theorem ys5 {q0 q1 q2 q3:Int} (h0:-4611686018427387904≤q0∧q0≤4611686018427387904) (h1:-4611686018427387904≤q1∧q1≤4611686018427387904) (h2:-4611686018427387904≤q2∧q2≤4611686018427387904) (h3:-4611686018427387904≤q3∧q3≤4611686018427387904) (x1 x2 x3:Rat):LOK (PdP q0 q1 q2 q3 x1 x2 x3) (treePd q0 q1 q2 q3 x1 x2 x3):=by
 have e2:¬((-12≤q0∧q0≤12)∧(-12≤q1∧q1≤12)∧(-12≤q2∧q2≤12)∧(-12≤q3∧q3≤12))→ePd q0 q1 q2 q3 x1 x2 x3=2:=fun h=>by unfold ePd yv6;rw [if_pos rfl,if_neg h]
 refine yg8 h0 (fun h=>zG6 (e2 fun g=>h g.1) (by decide)) fun b0=>yg8 h1 (fun h=>zG6 (e2 fun g=>h g.2.1) (by decide)) fun b1=>yg8 h2 (fun h=>zG6 (e2 fun g=>h g.2.2.1) (by decide)) fun b2=>yg8 h3 (fun h=>zG6 (e2 fun g=>h g.2.2.2) (by decide)) fun b3=>?_
 have e5:¬(((za1 x1).length:Int)≤400∧((za1 x2).length:Int)≤400∧((za1 x3).length:Int)≤400)→ePd q0 q1 q2 q3 x1 x2 x3=5:=fun h=>by unfold ePd yv6;rw [if_pos rfl,if_pos ⟨b0,b1,b2,b3⟩,if_neg h]
 refine zM6 (fun h=>zG6 (e5 fun g=>h g.1) (by decide)) fun l0=>zM6 (fun h=>zG6 (e5 fun g=>h g.2.1) (by decide)) fun l1=>zM6 (fun h=>zG6 (e5 fun g=>h g.2.2) (by decide)) fun l2=>?_
 have e0:ePd q0 q1 q2 q3 x1 x2 x3=0:=by unfold ePd yv6;rw [if_pos rfl,if_pos ⟨b0,b1,b2,b3⟩,if_pos ⟨l0,l1,l2⟩]
 intro X
 unfold pdV
 rw [e0]
 rfl
theorem perr_le (r:Bool) (z0 z1 z2 z3:Int) (x y t:List UInt8):0≤yv6 r z0 z1 z2 z3 x y t∧yv6 r z0 z1 z2 z3 x y t≤5∧(yv6 r z0 z1 z2 z3 x y t=0→(-12≤z0∧z0≤12)∧(-12≤z1∧z1≤12)∧(-12≤z2∧z2≤12)∧(-12≤z3∧z3≤12)):=by
 unfold yv6
 split
 ·split
  ·rename_i h;split<;>simp_all
  ·simp
 ·simp
theorem pdV_ok (q0 q1 q2 q3:Int) (x1 x2 x3:Rat) (n:Nn) (X:Env) (w:World):(pdV q0 q1 q2 q3 x1 x2 x3).ok n X w:=by
 have h:=perr_le true q0 q1 q2 q3 (za1 x1) (za1 x2) (za1 x3)
 have b:∀ z:Int,(ePd q0 q1 q2 q3 x1 x2 x3=0→-12≤z∧z≤12)→-12≤pif (ePd q0 q1 q2 q3 x1 x2 x3) z∧pif (ePd q0 q1 q2 q3 x1 x2 x3) z≤12:=fun z hz=>by
  unfold pif
  split
  ·exact hz ‹_›
  ·decide
 intro x hx
 simp only [List.mem_cons,List.not_mem_nil,or_false] at hx
 rcases hx with rfl | rfl
 ·exact zi1 ⟨⟨rfl,b _ fun e=>(h.2.2 e).1⟩,⟨rfl,b _ fun e=>(h.2.2 e).2.1⟩,⟨rfl,b _ fun e=>(h.2.2 e).2.2.1⟩,⟨rfl,b _ fun e=>(h.2.2 e).2.2.2⟩,⟨rfl,fun _ _ e=>by cases e⟩,⟨rfl,fun _ _ e=>by cases e⟩,⟨rfl,fun _ _ e=>by cases e⟩,trivial⟩
 ·exact ⟨rfl,h.1,h.2.1⟩
def cPlcd:ConT:=fun args _ _=>match args with
 | [.so (.vg [.ci .i64 q0 l0 h0,.ci .i64 q1 l1 h1,.ci .i64 q2 l2 h2,.ci .i64 q3 l3 h3]),.so (.vg [c1,c2,c3])]=>match txC c1,txC c2,txC c3 with
  | some (k1,x1),some (k2,x2),some (k3,x3)=>tr (inP l0 h0&&inP l1 h1&&inP l2 h2&&inP l3 h3&&Nat.ble k1 20000&&Nat.ble k2 20000&&Nat.ble k3 20000) (.leaf (pdV q0 q1 q2 q3 x1 x2 x3) 0 0)
  | _,_,_=>none
 | _=>none
theorem cPlcd_ok {I:World→Prop} (hI:∀ w,I w→Tab w∧Mx w):ConOK Tryz.prog I 27 cPlcd:=by
 intro args E n w T hw ha hT _
 unfold cPlcd at hT
 split at hT
 ·rename_i q0 l0 h0 q1 l1 h1 q2 l2 h2 q3 l3 h3 c1 c2 c3
  split at hT
  ·rename_i k1 x1 k2 x2 k3 x3 e1 e2 e3
   obtain ⟨hb,rfl⟩:=zd1 hT
   simp only [Bool.and_eq_true,Nat.ble_eq] at hb
   obtain ⟨⟨⟨⟨⟨⟨b0,b1⟩,b2⟩,b3⟩,b4⟩,b5⟩,b6⟩:=hb
   have g:=fun c hc=>ha (.so (.vg [c1,c2,c3])) (by simp) c hc
   have gq:=fun c hc=>ha (.so (.vg [.ci .i64 q0 l0 h0,.ci .i64 q1 l1 h1,.ci .i64 q2 l2 h2,.ci .i64 q3 l3 h3])) (by simp) c hc
   have g0:=zD2 b0 (gq (.ci .i64 q0 l0 h0) (by simp)).2
   have g1:=zD2 b1 (gq (.ci .i64 q1 l1 h1) (by simp)).2
   have g2:=zD2 b2 (gq (.ci .i64 q2 l2 h2) (by simp)).2
   have g3:=zD2 b3 (gq (.ci .i64 q3 l3 h3) (by simp)).2
   obtain ⟨d1,s1⟩:=zl0 e1 (g c1 (by simp))
   obtain ⟨d2,s2⟩:=zl0 e2 (g c2 (by simp))
   obtain ⟨d3,s3⟩:=zl0 e3 (g c3 (by simp))
   have tx:∀ {k x},k≤20000→RS k x→(Cl.cw (za1 x) (some (20000,x))).ok ⟨0,0,0⟩ (zF1 []) w:=fun hk h=>⟨rfl,fun k q e=>by cases e;exact ⟨rfl,h.mono hk⟩⟩
   have iq:∀ {q:Int},-1099511627776≤q∧q≤1099511627776→(Cl.ci .i64 q (-1099511627776) 1099511627776).ok ⟨0,0,0⟩ (zF1 []) w:=fun h=>⟨rfl,h⟩
   show Calls _ _ #[.agg #[.int .i64 q0,.int .i64 q1,.int .i64 q2,.int .i64 q3],.agg #[c1.den E,c2.den E,c3.den E]] w _
   rw [d1,d2,d3]
   refine (ze7 sysPd sysPd_ok (runPd q0 q1 q2 q3 x1 x2 x3) (X:=zF1 []) (hI w hw) (okF2 (zi1 ⟨iq g0,iq g1,iq g2,iq g3,trivial⟩) (zi1 ⟨tx b4 s1,tx b5 s2,tx b6 s3,trivial⟩)) (ys5 (by omega) (by omega) (by omega) (by omega) x1 x2 x3)).mono fun e w' he=>?_
   obtain ⟨v,X',m,rfl,g,_,_,hp⟩:=he
   exact zb6 (v:=pdV q0 q1 q2 q3 x1 x2 x3) ⟨by rw [hp];rfl,g⟩ (pdV_ok q0 q1 q2 q3 x1 x2 x3 n E w')
  ·cases hT
 ·cases hT
def qm (a0 a1 a2 a3 b0 b1 b2 b3:Int):Nat→Int
 | 0=>a0*b0 - a1*b1 - a2*b2 - a3*b3
 | 1=>a0*b1+a1*b0+a2*b3 - a3*b2
 | 2=>a0*b2 - a1*b3+a2*b0+a3*b1
 | _=>a0*b3+a1*b2 - a2*b1+a3*b0
def qmp (a0 a1 a2 a3 b0 b1 b2 b3:Int) (k:Nat):Int:=qprim (qm a0 a1 a2 a3 b0 b1 b2 b3 0) (qm a0 a1 a2 a3 b0 b1 b2 b3 1) (qm a0 a1 a2 a3 b0 b1 b2 b3 2) (qm a0 a1 a2 a3 b0 b1 b2 b3 3) (qm a0 a1 a2 a3 b0 b1 b2 b3 k)
def qmC (a0 a1 a2 a3 b0 b1 b2 b3:Int) (k:Nat):Cl:=.ci .i64 (qmp a0 a1 a2 a3 b0 b1 b2 b3 k) (-4000000000) 4000000000
def smB (B:Int) (a0 a1 a2 a3 b0 b1 b2 b3:Int):Bool:=decide (((-B≤a0∧a0≤B)∧(-B≤a1∧a1≤B)∧(-B≤a2∧a2≤B)∧(-B≤a3∧a3≤B))∧((-1000≤b0∧b0≤1000)∧(-1000≤b1∧b1≤1000)∧(-1000≤b2∧b2≤1000)∧(-1000≤b3∧b3≤1000))∧¬(qm a0 a1 a2 a3 b0 b1 b2 b3 0=0∧qm a0 a1 a2 a3 b0 b1 b2 b3 1=0∧qm a0 a1 a2 a3 b0 b1 b2 b3 2=0∧qm a0 a1 a2 a3 b0 b1 b2 b3 3=0))
def cProd:ConT:=fun args _ _=>match args with
 | [.so (.vg [.ci .i64 a0 _ _,.ci .i64 a1 _ _,.ci .i64 a2 _ _,.ci .i64 a3 _ _]),.so (.vg [.ci .i64 b0 _ _,.ci .i64 b1 _ _,.ci .i64 b2 _ _,.ci .i64 b3 _ _])]=>some (.as (smB 1000000 a0 a1 a2 a3 b0 b1 b2 b3) (.leaf (.so (.vg [qmC a0 a1 a2 a3 b0 b1 b2 b3 0,qmC a0 a1 a2 a3 b0 b1 b2 b3 1,qmC a0 a1 a2 a3 b0 b1 b2 b3 2,qmC a0 a1 a2 a3 b0 b1 b2 b3 3])) 0 0))
 | _=>none
theorem cProd_ok {I:World→Prop}:ConOK Tryz.prog I 25 cProd:=by
 intro args E n w T _ ha hT hp
 unfold cProd at hT
 split at hT
 ·rename_i a0 _ _ a1 _ _ a2 _ _ a3 _ _ b0 _ _ b1 _ _ b2 _ _ b3 _ _
  cases hT
  obtain ⟨⟨i0,i1,i2,i3⟩,⟨j0,j1,j2,j3⟩,hn⟩:=of_decide_eq_true hp.1
  have qb:∀ k,(qmC a0 a1 a2 a3 b0 b1 b2 b3 k).ok n E w:=fun k=>by
   refine ⟨rfl,?_⟩
   have l:=ze3 (n:=qm a0 a1 a2 a3 b0 b1 b2 b3 k) hn
   have m:∀ {p q:Int},-1000000≤p∧p≤1000000→-1000≤q∧q≤1000→-1000000000≤p*q∧p*q≤1000000000:=fun h g=>ze8 h g
   have u:-4000000000≤qm a0 a1 a2 a3 b0 b1 b2 b3 k∧qm a0 a1 a2 a3 b0 b1 b2 b3 k≤4000000000:=by
    unfold qm
    split
    ·have:=m i0 j0;have:=m i1 j1;have:=m i2 j2;have:=m i3 j3;omega
    ·have:=m i0 j1;have:=m i1 j0;have:=m i2 j3;have:=m i3 j2;omega
    ·have:=m i0 j2;have:=m i1 j3;have:=m i2 j0;have:=m i3 j1;omega
    ·have:=m i0 j3;have:=m i1 j2;have:=m i2 j1;have:=m i3 j0;omega
   show -4000000000≤qmp ..∧qmp ..≤4000000000
   unfold qmp
   omega
  refine (ym7 a0 a1 a2 a3 i0 i1 i2 i3 b0 b1 b2 b3 j0 j1 j2 j3 _ _ _ _ rfl rfl rfl rfl hn w).mono fun e w' he=>zb6 he fun c hc=>?_
  simp only [List.mem_cons,List.not_mem_nil,or_false] at hc
  rcases hc with rfl | rfl | rfl | rfl
  ·exact qb 0
  ·exact qb 1
  ·exact qb 2
  ·exact qb 3
 ·cases hT
def m12 (A:Mo):Mo:=mo12 (A 0) (A 1) (A 2) (A 3) (A 4) (A 5) (A 6) (A 7) (A 8) (A 9) (A 10) (A 11)
def eqP (A:Mo) (q0 q1 q2 q3:Int) (x1 x2 x3:Rat):Bool:=zj1 [pif (ePl A) (zwM A 0),pif (ePl A) (zwM A 1),pif (ePl A) (zwM A 2),pif (ePl A) (zwM A 3)] [pif (ePd q0 q1 q2 q3 x1 x2 x3) q0,pif (ePd q0 q1 q2 q3 x1 x2 x3) q1,pif (ePd q0 q1 q2 q3 x1 x2 x3) q2,pif (ePd q0 q1 q2 q3 x1 x2 x3) q3]&&sEq [pit (ePl A) (za1 (A 9)),pit (ePl A) (za1 (A 10)),pit (ePl A) (za1 (A 11))] [pit (ePd q0 q1 q2 q3 x1 x2 x3) (za1 x1),pit (ePd q0 q1 q2 q3 x1 x2 x3) (za1 x2),pit (ePd q0 q1 q2 q3 x1 x2 x3) (za1 x3)]
theorem eqj (n:Int):(n==n)=true:=by simp
theorem ys6 {A:Mo} {n0 n1 n2 n3 q0 q1 q2 q3:Int} {x1 x2 x3:Rat} (hn:¬(n0=0∧n1=0∧n2=0∧n3=0)) (h:RotM A n0 n1 n2 n3)
  (e0:q0=qprim n0 n1 n2 n3 n0) (e1:q1=qprim n0 n1 n2 n3 n1) (e2:q2=qprim n0 n1 n2 n3 n2) (e3:q3=qprim n0 n1 n2 n3 n3) (h1:A 9=x1) (h2:A 10=x2) (h3:A 11=x3):
  ePl (m12 A)=ePd q0 q1 q2 q3 x1 x2 x3∧eqP (m12 A) q0 q1 q2 q3 x1 x2 x3=true:=by
 obtain ⟨w0,w1,w2,w3⟩:=wzq_rot hn h
 have hr:rigM (m12 A)=true:=by
  have:=rig_mat hn h
  show rigM A=true
  unfold rigM;rw [this.1,this.2];rfl
 have z0:zwM (m12 A) 0=q0:=w0.trans e0.symm
 have z1:zwM (m12 A) 1=q1:=w1.trans e1.symm
 have z2:zwM (m12 A) 2=q2:=w2.trans e2.symm
 have z3:zwM (m12 A) 3=q3:=w3.trans e3.symm
 have t1:(m12 A) 9=x1:=h1
 have t2:(m12 A) 10=x2:=h2
 have t3:(m12 A) 11=x3:=h3
 have ee:ePl (m12 A)=ePd q0 q1 q2 q3 x1 x2 x3:=by unfold ePl ePd;rw [hr,z0,z1,z2,z3,t1,t2,t3]
 refine ⟨ee,?_⟩
 unfold eqP
 rw [ee,z0,z1,z2,z3,t1,t2,t3]
 exact plc_same _ _
theorem yu4 {k:IntKind} {z:Int} (h:k.has z):kmin k≤z∧z≤kmax k:=by
 cases k<;>simp only [IntKind.has,IntKind.bits,IntKind.signed,kmin,kmax,IntKind.min,IntKind.max] at h ⊢<;>first | omega | (simp at h;omega)
def ekC (ks:List IntKind) (x:List Int):List Cl:=List.zipWith (fun k z=>Cl.ci k z (kmin k) (kmax k)) ks x
theorem yu5 (X:Env):∀ (ks:List IntKind) (x:List Int),(ekC ks x).map (Cl.den X)=List.zipWith (fun k z=>Value.int k z) ks x
 | [],_=>by simp [ekC]
 | _::_,[]=>by simp [ekC]
 | k::ks,z::x=>by
  have:=yu5 X ks x
  simp only [ekC] at this
  simp [ekC,this,Cl.den]
theorem ekC_ok (n:Nn) (X:Env) (W:World):∀ (ks:List IntKind) (x:List Int),x.length=ks.length→(∀ (i:Nat) (k:IntKind),ks[i]?=some k→k.has (x.getD i 0))→okL n X W (ekC ks x)
 | [],_,_,_=>by intro c hc;simp [ekC] at hc
 | _::_,[],h,_=>by cases h
 | k::ks,z::x,hl,h=>by
  have ih:=ekC_ok n X W ks x (by simpa using hl) fun i k hi=>h (i+1) k hi
  intro c hc
  simp only [ekC,List.zipWith_cons_cons,List.mem_cons] at hc
  rcases hc with rfl | hc
  ·exact ⟨rfl,yu4 (h 0 k rfl)⟩
  ·exact ih c hc
theorem sl_fs {ks:List IntKind} {T:TypeId} {w:World} {v:Value} {xs:List (List Int)} (h:Sl (EK ks) T ks.length w v xs) (hp:0<ks.length):
  ∃ K:List (Nat × Obj),(∀ x ∈ K,w.heap[x.1]?=some x.2)∧∀ (n:Nn) (X:Env),X.K=K→(SV.fs v xs.length ks.length (xs.map (ekC ks))).ok n X w:=by
 obtain ⟨ys,⟨ao,cap,hv,_,hb⟩,hl,he⟩:=h
 rcases Nat.eq_zero_or_pos ys.length with h0 | hpos
 ·refine ⟨[],fun x hx=>(by cases hx),fun n X _=>⟨⟨ao,cap,hv⟩,fun i cs hi=>?_⟩⟩
  have aa:xs.length=0:=by
   rw [hl] at h0
   rcases Nat.mul_eq_zero.1 h0 with h | h<;>omega
  rw [List.length_eq_zero_iff.1 aa] at hi
  simp at hi
 ·obtain ⟨b,off,us,fr,rfl,hh,hc⟩:=hb hpos
  refine ⟨[(b,.cells us T fr)],fun x hx=>by rw [List.mem_singleton.1 hx];exact hh,fun n X hK=>⟨⟨_,cap,hv⟩,fun i cs hi=>?_⟩⟩
  rw [List.getElem?_map] at hi
  obtain ⟨x,hx,rfl⟩:=Option.map_eq_some_iff.1 hi
  obtain ⟨e1,e2,e3⟩:=he i x hx
  have hil:i<xs.length:=(List.getElem?_eq_some_iff.1 hx).1
  have hle:i*ks.length+ks.length≤ys.length:=by
   rw [hl]
   have:=Nat.mul_le_mul_right ks.length (show i+1≤xs.length by omega)
   rw [Nat.add_mul] at this;omega
  refine ⟨ekC_ok n X w ks x e1 e3,b,off,xs.length,cap,us,T,fr,hv,by rw [hK];exact List.mem_singleton.2 rfl,fun j u hj=>?_⟩
  rw [yu5,← e2] at hj
  have hj':j<ks.length:=by
   have:=(List.getElem?_eq_some_iff.1 hj).1
   rw [List.length_take] at this;omega
  rw [List.getElem?_take_of_lt hj',List.getElem?_drop] at hj
  rw [Nat.add_assoc,hc (i*ks.length+j) (by omega)]
  exact hj
end Go.Proofs.YtaldbfflkpgfoaaGreatDoor
