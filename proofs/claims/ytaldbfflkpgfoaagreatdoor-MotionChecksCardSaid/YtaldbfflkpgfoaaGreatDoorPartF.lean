/- Joined of: Gen92, Scal, Stq, Wh, Gen121, Who, Wg, Qt, Qr, Syr, Plc, Gen131, Rda, Gen47, Gen69. -/
import Derived.Test.YtaldbfflkpgfoaaGreatDoorPartE
import Init.Data.Rat.Lemmas
import Derived.Test.YtaldbfflkpgfoaaGreatDoorPartD
import Derived.Test.YtaldbfflkpgfoaaGreatDoorPartA
import Derived.Test.YtaldbfflkpgfoaaGreatDoorPartB
/- Printed by a program of the prover's:motions that are compared. -/
namespace Go.Proofs.YtaldbfflkpgfoaaGreatDoor
open Go.RowKit

set_option maxRecDepth 100000 in
set_option maxHeartbeats 1000000 in
theorem ments {c0 c1 c2 c3 c4 c5 c6 c7 c8 c9 aP ah aJ ab au ar az aI ai aE aR aC ax ay ae ac aK av aM ad aD al af aN aa aw ak aQ aH aA ap aG aB aq aL aF aO aj:Value} (w:World) (_o0:c0.oneCell'=true) (_o1:c1.oneCell'=true) (_o2:c2.oneCell'=true) (_o3:c3.oneCell'=true) (_o4:c4.oneCell'=true) (_o5:c5.oneCell'=true) (_o6:c6.oneCell'=true) (_o7:c7.oneCell'=true) (_o8:c8.oneCell'=true) (_o9:c9.oneCell'=true) (_o10:aP.oneCell'=true) (_o11:ah.oneCell'=true) (_o12:aJ.oneCell'=true) (_o13:ab.oneCell'=true) (_o14:au.oneCell'=true) (_o15:ar.oneCell'=true) (_o16:az.oneCell'=true) (_o17:aI.oneCell'=true) (_o18:ai.oneCell'=true) (_o19:aE.oneCell'=true) (_o20:aR.oneCell'=true) (_o21:aC.oneCell'=true) (_o22:ax.oneCell'=true) (_o23:ay.oneCell'=true) (_o24:ae.oneCell'=true) (_o25:ac.oneCell'=true) (_o26:aK.oneCell'=true) (_o27:av.oneCell'=true) (_o28:aM.oneCell'=true) (_o29:ad.oneCell'=true) (_o30:aD.oneCell'=true) (_o31:al.oneCell'=true) (_o32:af.oneCell'=true) (_o33:aN.oneCell'=true) (_o34:aa.oneCell'=true) (_o35:aw.oneCell'=true) (_o36:ak.oneCell'=true) (_o37:aQ.oneCell'=true) (_o38:aH.oneCell'=true) (_o39:aA.oneCell'=true) (_o40:ap.oneCell'=true) (_o41:aG.oneCell'=true) (_o42:aB.oneCell'=true) (_o43:aq.oneCell'=true) (_o44:aL.oneCell'=true) (_o45:aF.oneCell'=true) (_o46:aO.oneCell'=true) (_o47:aj.oneCell'=true):
    Calls Tryz.prog 61 #[(.agg #[c0,c1,c2,c3,c4,c5,c6,c7,c8,c9,aP,ah,aJ,ab,au,ar,az,aI,ai,aE,aR,aC,ax,ay,ae,ac,aK,av,aM,ad,aD,al,af,aN,aa,aw,ak,aQ,aH,aA,ap,aG,aB,aq,aL,aF,aO,aj])] w fun e w'=>(∃ bm,e=.returned (.func (.func 98) #[] #[.pointer (some ⟨bm,0,none⟩)])∧Lc w' bm #[c0,c1,c2,c3,c4,c5,c6,c7,c8,c9,aP,ah,aJ,ab,au,ar,az,aI,ai,aE,aR,aC,ax,ay,ae,ac,aK,av,aM,ad,aD,al,af,aN,aa,aw,ak,aQ,aH,aA,ap,aG,aB,aq,aL,aF,aO,aj] 41)∧Gr w w':=by
 go_enter Tryz.func61,Tryz.ntmps61
 have hB:=Gr.refl w
 refine wp_seq_k (fun K1 k1=>?_)
 refine rg [0,1] ?_
 refine se ?_
 refine eb 41 #[c0,c1,c2,c3,c4,c5,c6,c7,c8,c9,aP,ah,aJ,ab,au,ar,az,aI,ai,aE,aR,aC,ax,ay,ae,ac,aK,av,aM,ad,aD,al,af,aN,aa,aw,ak,aQ,aH,aA,ap,aG,aB,aq,aL,aF,aO,aj] 1 hB fun b2 w2 g2 L2 o2 q2 hB=>?_
 simp only [p3,p4]
 refine sv 2 .nilFunc ?_
 refine sq_nil ?_
 refine k1 _ _ ?_
 try clear k1 K1
 refine wp_seq_k (fun K3 k3=>?_)
 refine rg [0,1] ?_
 refine sv 3 (.func (.func 98) #[] #[(.pointer (some ⟨b2,0,none⟩))]) ?_
 refine sv 2 (.func (.func 98) #[] #[(.pointer (some ⟨b2,0,none⟩))]) ?_
 refine sq_nil ?_
 refine k3 _ _ ?_
 try clear k3 K3
 refine wp_ret ?_
 refine bodyPost_ret (v:=(.func (.func 98) #[] #[(.pointer (some ⟨b2,0,none⟩))])) (ret_tmp rfl rfl) rfl ⟨?_,hB⟩
 exact ⟨_,rfl,L2⟩

theorem rcmp12 {xs ys:List Rat} (hx:xs.length=12) (hy:ys.length=12):(∀ j ∈ all12,rcmp (xs.getD j.val 0) (ys.getD j.val 0)=0)↔xs=ys:=by
 constructor
 ·intro h
  apply List.ext_getElem?
  intro i
  by_cases hi:i<12
  ·have:=rcmp_zero.1 (h ⟨i,hi⟩ (mem_all12 _))
   simp only [List.getD_eq_getElem?_getD,List.getElem?_eq_getElem (show i<xs.length by omega),List.getElem?_eq_getElem (show i<ys.length by omega),Option.getD_some] at this
   rw [List.getElem?_eq_getElem (show i<xs.length by omega),List.getElem?_eq_getElem (show i<ys.length by omega),this]
  ·rw [List.getElem?_eq_none (by omega),List.getElem?_eq_none (by omega)]
 ·rintro rfl j _
  exact rcmp_zero.2 rfl
set_option maxRecDepth 100000 in
set_option maxHeartbeats 4000000 in
theorem mequal {k m:Nat} {bU bp a9 bh bD bt a7 bv bM bc bK bL a2 bA bR a8 bQ bn bq bT bm bx bF bP bu bd bi bk ba bN a3 a4 bo bw bf bS bJ bj bg a5 bO bG bH bC bE bz a6 bb:Value} {cB cL cS cZ cC cJ cM cP cU cW cT cX:Rat} {a1 aE aN aY af ab aJ ae ax ak aM av aC ap aD ai ad aU aT aX ar al aO aw aR aj aH ay aF aQ aK aW aB aI aP ah a0 az au aV aa aG aS aA ac aq aZ aL:Value} {cF cE cG cK cV cH cN cO cR cY cQ cD:Rat} {w:World} (b9:IsRat w k bU bp a9 bh cB) (bY:IsRat w k bD bt a7 bv cL) (cc:IsRat w k bM bc bK bL cS) (cd:IsRat w k a2 bA bR a8 cZ) (bZ:IsRat w k bQ bn bq bT cC) (cu:IsRat w k bm bx bF bP cJ) (ca:IsRat w k bu bd bi bk cM) (bW:IsRat w k ba bN a3 a4 cP) (ch:IsRat w k bo bw bf bS cU) (cn:IsRat w k bJ bj bg a5 cW) (ce:IsRat w k bO bG bH bC cT) (cq:IsRat w k bE bz a6 bb cX) (cg:IsRat w m a1 aE aN aY cF) (cm:IsRat w m af ab aJ ae cE) (b7:IsRat w m ax ak aM av cG) (bV:IsRat w m aC ap aD ai cK) (cj:IsRat w m ad aU aT aX cV) (b8:IsRat w m ar al aO aw cH) (b5:IsRat w m aR aj aH ay cN) (bX:IsRat w m aF aQ aK aW cO) (ct:IsRat w m aB aI aP ah cR) (co:IsRat w m a0 az au aV cY) (cl:IsRat w m aa aG aS aA cQ) (ck:IsRat w m ac aq aZ aL cD) (_hk:k+m≤90000):
    Calls Tryz.prog 16 #[(.agg #[bU,bp,a9,bh,bD,bt,a7,bv,bM,bc,bK,bL,a2,bA,bR,a8,bQ,bn,bq,bT,bm,bx,bF,bP,bu,bd,bi,bk,ba,bN,a3,a4,bo,bw,bf,bS,bJ,bj,bg,a5,bO,bG,bH,bC,bE,bz,a6,bb]),(.agg #[a1,aE,aN,aY,af,ab,aJ,ae,ax,ak,aM,av,aC,ap,aD,ai,ad,aU,aT,aX,ar,al,aO,aw,aR,aj,aH,ay,aF,aQ,aK,aW,aB,aI,aP,ah,a0,az,au,aV,aa,aG,aS,aA,ac,aq,aZ,aL])] w fun e w'=>e=.returned (.bool (decide ([cB,cL,cS,cZ,cC,cJ,cM,cP,cU,cW,cT,cX]=[cF,cE,cG,cK,cV,cH,cN,cO,cR,cY,cQ,cD])))∧Gr w w':=by
 have hmaone:One1 [bU,bp,a9,bh,bD,bt,a7,bv,bM,bc,bK,bL,a2,bA,bR,a8,bQ,bn,bq,bT,bm,bx,bF,bP,bu,bd,bi,bk,ba,bN,a3,a4,bo,bw,bf,bS,bJ,bj,bg,a5,bO,bG,bH,bC,bE,bz,a6,bb]:=⟨b9.one0,b9.one1,b9.one2,b9.one3,bY.one0,bY.one1,bY.one2,bY.one3,cc.one0,cc.one1,cc.one2,cc.one3,cd.one0,cd.one1,cd.one2,cd.one3,bZ.one0,bZ.one1,bZ.one2,bZ.one3,cu.one0,cu.one1,cu.one2,cu.one3,ca.one0,ca.one1,ca.one2,ca.one3,bW.one0,bW.one1,bW.one2,bW.one3,ch.one0,ch.one1,ch.one2,ch.one3,cn.one0,cn.one1,cn.one2,cn.one3,ce.one0,ce.one1,ce.one2,ce.one3,cq.one0,cq.one1,cq.one2,cq.one3,trivial⟩
 have hmbone:One1 [a1,aE,aN,aY,af,ab,aJ,ae,ax,ak,aM,av,aC,ap,aD,ai,ad,aU,aT,aX,ar,al,aO,aw,aR,aj,aH,ay,aF,aQ,aK,aW,aB,aI,aP,ah,a0,az,au,aV,aa,aG,aS,aA,ac,aq,aZ,aL]:=⟨cg.one0,cg.one1,cg.one2,cg.one3,cm.one0,cm.one1,cm.one2,cm.one3,b7.one0,b7.one1,b7.one2,b7.one3,bV.one0,bV.one1,bV.one2,bV.one3,cj.one0,cj.one1,cj.one2,cj.one3,b8.one0,b8.one1,b8.one2,b8.one3,b5.one0,b5.one1,b5.one2,b5.one3,bX.one0,bX.one1,bX.one2,bX.one3,ct.one0,ct.one1,ct.one2,ct.one3,co.one0,co.one1,co.one2,co.one3,cl.one0,cl.one1,cl.one2,cl.one3,ck.one0,ck.one1,ck.one2,ck.one3,trivial⟩
 have qa:∀ j:Fin 12,IsRat w k ([bU,bp,a9,bh,bD,bt,a7,bv,bM,bc,bK,bL,a2,bA,bR,a8,bQ,bn,bq,bT,bm,bx,bF,bP,bu,bd,bi,bk,ba,bN,a3,a4,bo,bw,bf,bS,bJ,bj,bg,a5,bO,bG,bH,bC,bE,bz,a6,bb].getD (4*j.val) undef) ([bU,bp,a9,bh,bD,bt,a7,bv,bM,bc,bK,bL,a2,bA,bR,a8,bQ,bn,bq,bT,bm,bx,bF,bP,bu,bd,bi,bk,ba,bN,a3,a4,bo,bw,bf,bS,bJ,bj,bg,a5,bO,bG,bH,bC,bE,bz,a6,bb].getD (4*j.val+1) undef) ([bU,bp,a9,bh,bD,bt,a7,bv,bM,bc,bK,bL,a2,bA,bR,a8,bQ,bn,bq,bT,bm,bx,bF,bP,bu,bd,bi,bk,ba,bN,a3,a4,bo,bw,bf,bS,bJ,bj,bg,a5,bO,bG,bH,bC,bE,bz,a6,bb].getD (4*j.val+2) undef) ([bU,bp,a9,bh,bD,bt,a7,bv,bM,bc,bK,bL,a2,bA,bR,a8,bQ,bn,bq,bT,bm,bx,bF,bP,bu,bd,bi,bk,ba,bN,a3,a4,bo,bw,bf,bS,bJ,bj,bg,a5,bO,bG,bH,bC,bE,bz,a6,bb].getD (4*j.val+3) undef) ([cB,cL,cS,cZ,cC,cJ,cM,cP,cU,cW,cT,cX].getD j.val 0):=fin12 b9 bY cc cd bZ cu ca bW ch cn ce cq
 have qb:∀ j:Fin 12,IsRat w m ([a1,aE,aN,aY,af,ab,aJ,ae,ax,ak,aM,av,aC,ap,aD,ai,ad,aU,aT,aX,ar,al,aO,aw,aR,aj,aH,ay,aF,aQ,aK,aW,aB,aI,aP,ah,a0,az,au,aV,aa,aG,aS,aA,ac,aq,aZ,aL].getD (4*j.val) undef) ([a1,aE,aN,aY,af,ab,aJ,ae,ax,ak,aM,av,aC,ap,aD,ai,ad,aU,aT,aX,ar,al,aO,aw,aR,aj,aH,ay,aF,aQ,aK,aW,aB,aI,aP,ah,a0,az,au,aV,aa,aG,aS,aA,ac,aq,aZ,aL].getD (4*j.val+1) undef) ([a1,aE,aN,aY,af,ab,aJ,ae,ax,ak,aM,av,aC,ap,aD,ai,ad,aU,aT,aX,ar,al,aO,aw,aR,aj,aH,ay,aF,aQ,aK,aW,aB,aI,aP,ah,a0,az,au,aV,aa,aG,aS,aA,ac,aq,aZ,aL].getD (4*j.val+2) undef) ([a1,aE,aN,aY,af,ab,aJ,ae,ax,ak,aM,av,aC,ap,aD,ai,ad,aU,aT,aX,ar,al,aO,aw,aR,aj,aH,ay,aF,aQ,aK,aW,aB,aI,aP,ah,a0,az,au,aV,aa,aG,aS,aA,ac,aq,aZ,aL].getD (4*j.val+3) undef) ([cF,cE,cG,cK,cV,cH,cN,cO,cR,cY,cQ,cD].getD j.val 0):=fin12 cg cm b7 bV cj b8 b5 bX ct co cl ck
 refine enterN Tryz.func16 rfl ?_
 simp only [Tryz.ntmps16,List.size_toArray,List.length_cons,List.length_nil,Nat.reduceAdd,Nat.reduceSub,Array.replicate_succ,Array.replicate_zero,List.push_toArray,List.append_toArray,List.nil_append,List.cons_append]
 have hB:=Gr.refl w
 refine wp_seq_k (fun K1 k1=>?_)
 refine rg [0,1,2] ?_
 refine se ?_
 refine eb 41 #[bU,bp,a9,bh,bD,bt,a7,bv,bM,bc,bK,bL,a2,bA,bR,a8,bQ,bn,bq,bT,bm,bx,bF,bP,bu,bd,bi,bk,ba,bN,a3,a4,bo,bw,bf,bS,bJ,bj,bg,a5,bO,bG,bH,bC,bE,bz,a6,bb] 2 hB fun b2 w2 g2 L2 o2 q2 hB=>?_
 simp only [p3,p4]
 refine se ?_
 refine eb 41 #[a1,aE,aN,aY,af,ab,aJ,ae,ax,ak,aM,av,aC,ap,aD,ai,ad,aU,aT,aX,ar,al,aO,aw,aR,aj,aH,ay,aF,aQ,aK,aW,aB,aI,aP,ah,a0,az,au,aV,aa,aG,aS,aA,ac,aq,aZ,aL] 3 hB fun b3 w3 g3 L3 o3 q3 hB=>?_
 simp only [p3,p4]
 refine se ?_
 refine eff_alloc 4 (.bool false) #[(.bool false)] (some 4) rfl rfl (by kernel_rfl) rfl (fun b4 w4 g4 L4 q4=>?_)
 replace L2:=L2.gr g3
 have de:=L2.ne q4
 replace q4:=Nat.le_trans (Below.size hB) q4
 replace hB:=hB.trans g4
 simp only [putl,p3,p4]
 refine sq_nil ?_
 refine k1 _ _ ?_
 try clear k1 K1
 refine wp_seq_k (fun K5 k5=>?_)
 refine rg [0] ?_
 refine se ?_
 refine ea 116 #[(.bool false),(.slice none 0 0),(.bool false),(.slice none 0 0),(.bool false),(.slice none 0 0),(.bool false),(.slice none 0 0),(.bool false),(.slice none 0 0),(.bool false),(.slice none 0 0),(.bool false),(.slice none 0 0),(.bool false),(.slice none 0 0),(.bool false),(.slice none 0 0),(.bool false),(.slice none 0 0),(.bool false),(.slice none 0 0),(.bool false),(.slice none 0 0),(.bool false),(.slice none 0 0),(.bool false),(.slice none 0 0),(.bool false),(.slice none 0 0),(.bool false),(.slice none 0 0),(.bool false),(.slice none 0 0),(.bool false),(.slice none 0 0),(.bool false),(.slice none 0 0),(.bool false),(.slice none 0 0),(.bool false),(.slice none 0 0),(.bool false),(.slice none 0 0),(.bool false),(.slice none 0 0),(.bool false),(.slice none 0 0)] 5 hB fun b6 w6 g6 L6 o6 q6 hB=>?_
 replace L2:=L2.gr g4
 have df:=L2.ne o6
 replace L3:=L3.gr g4
 have dj:=L3.ne o6
 have c7:=L4.ne o6
 simp only [p3,p4]
 refine sq_nil ?_
 refine k5 _ _ ?_
 try clear k5 K5
 refine wp_seq_k (fun K7 k7=>?_)
 refine wp_seq_k (fun K8 k8=>?_)
 refine rg [0,1] ?_
 replace L3:=L3.gr g6
 refine sw 10 (.agg #[a1,aE,aN,aY,af,ab,aJ,ae,ax,ak,aM,av,aC,ap,aD,ai,ad,aU,aT,aX,ar,al,aO,aw,aR,aj,aH,ay,aF,aQ,aK,aW,aB,aI,aP,ah,a0,az,au,aV,aa,aG,aS,aA,ac,aq,aZ,aL]) rfl (rl 41 0 [a1,aE,aN,aY,af,ab,aJ,ae,ax,ak,aM,av,aC,ap,aD,ai,ad,aU,aT,aX,ar,al,aO,aw,aR,aj,aH,ay,aF,aQ,aK,aW,aB,aI,aP,ah,a0,az,au,aV,aa,aG,aS,aA,ac,aq,aZ,aL] L3) ?_
 refine se ?_
 refine ec 11 (ments _ cg.one0 cg.one1 cg.one2 cg.one3 cm.one0 cm.one1 cm.one2 cm.one3 b7.one0 b7.one1 b7.one2 b7.one3 bV.one0 bV.one1 bV.one2 bV.one3 cj.one0 cj.one1 cj.one2 cj.one3 b8.one0 b8.one1 b8.one2 b8.one3 b5.one0 b5.one1 b5.one2 b5.one3 bX.one0 bX.one1 bX.one2 bX.one3 ct.one0 ct.one1 ct.one2 ct.one3 co.one0 co.one1 co.one2 co.one3 cl.one0 cl.one1 cl.one2 cl.one3 ck.one0 ck.one1 ck.one2 ck.one3) ?_
 rintro e9 w9 ⟨⟨dL,rfl,dA⟩,g9⟩
 refine ⟨_,rfl,?_⟩
 replace hB:=hB.trans g9
 simp only [p3,p4]
 refine sq_nil ?_
 refine k8 _ _ ?_
 try clear k8 K8
 refine wp_block ?_
 replace L2:=L2.gr (g6.trans g9)
 replace L3:=L3.gr g9
 replace L4:=L4.gr (g6.trans g9)
 replace L6:=L6.gr g9
 refine rf_ent (Ds:=[]) (d1:=6) (d2:=7) (ent_stops _ dL a1 aE aN aY af ab aJ ae ax ak aM av aC ap aD ai ad aU aT aX ar al aO aw aR aj aH ay aF aQ aK aW aB aI aP ah a0 az au aV aa aG aS aA ac aq aZ aL cg.one0 cg.one1 cg.one2 cg.one3 cm.one0 cm.one1 cm.one2 cm.one3 b7.one0 b7.one1 b7.one2 b7.one3 bV.one0 bV.one1 bV.one2 bV.one3 cj.one0 cj.one1 cj.one2 cj.one3 b8.one0 b8.one1 b8.one2 b8.one3 b5.one0 b5.one1 b5.one2 b5.one3 bX.one0 bX.one1 bX.one2 bX.one3 ct.one0 ct.one1 ct.one2 ct.one3 co.one0 co.one1 co.one2 co.one3 cl.one0 cl.one1 cl.one2 cl.one3 ck.one0 ck.one1 ck.one2 ck.one3 _ dA) (fun prs W'=>Gr w W'∧Kp w9 W'∧Lc W' b2 #[bU,bp,a9,bh,bD,bt,a7,bv,bM,bc,bK,bL,a2,bA,bR,a8,bQ,bn,bq,bT,bm,bx,bF,bP,bu,bd,bi,bk,ba,bN,a3,a4,bo,bw,bf,bS,bJ,bj,bg,a5,bO,bG,bH,bC,bE,bz,a6,bb] 41∧Lc W' b3 #[a1,aE,aN,aY,af,ab,aJ,ae,ax,ak,aM,av,aC,ap,aD,ai,ad,aU,aT,aX,ar,al,aO,aw,aR,aj,aH,ay,aF,aQ,aK,aW,aB,aI,aP,ah,a0,az,au,aV,aa,aG,aS,aA,ac,aq,aZ,aL] 41∧Lc W' b4 #[(.bool false)] 4∧∃ xs,Fills 12 [a1,aE,aN,aY,af,ab,aJ,ae,ax,ak,aM,av,aC,ap,aD,ai,ad,aU,aT,aX,ar,al,aO,aw,aR,aj,aH,ay,aF,aQ,aK,aW,aB,aI,aP,ah,a0,az,au,aV,aa,aG,aS,aA,ac,aq,aZ,aL] prs xs∧Lc W' b6 xs.toArray 116) (fun _ _ _=>False) ((own_gr hB.size).and ((own_kp _ _).and ((own_lc _ _ _ _).and ((own_lc _ _ _ _).and ((own_lc _ _ _ _).and (own_ex fun xs=>(ownFrom_pure _ _).and (own_lc _ _ _ _))))))) (fun _ _ _ _ _ h _ _=>h) ⟨hB,Kp.refl _,L2,L3,L4,⟨_,⟨rfl,one1_all (by decide),fun _ h=>absurd h (by simp)⟩,L6⟩⟩ ?_ ?_ ?_ ?_ rfl (enters_of Tryz.func98 (by kernel_rfl) rfl)
 ·intro ll kk W K hK
  try simp only [p3,p4]
  refine wpIn_seq_k (fun K1 k1=>?_)
  refine rgI (wide_round ll) [0] ?_
  refine sv 6 (.int .i64 (kk.val:Int)) ?_
  try simp only [p3,p4]
  refine sq_nil ?_
  refine k1 _ _ ?_
  refine rgY [0,1] ?_
  refine alstY (wide_round ll) 7 36 (.agg #[(.bool false),(.slice none 0 0),(.bool false),(.slice none 0 0)]) (ent [a1,aE,aN,aY,af,ab,aJ,ae,ax,ak,aM,av,aC,ap,aD,ai,ad,aU,aT,aX,ar,al,aO,aw,aR,aj,aH,ay,aF,aQ,aK,aW,aB,aI,aP,ah,a0,az,au,aV,aa,aG,aS,aA,ac,aq,aZ,aL] kk) ?_ (ent_one hmbone rfl kk)
  try simp only [p3,p4]
  refine nilY ?_
  exact hK
 ·rintro ll bB prs kk W ⟨hB,hkW,L2,L3,L4,xs,hF,L6⟩ hqB hLB
  try simp only [p3,p4]
  have hlt:=kk.isLt
  refine wpIn_block ?_
  refine rgI (wide_round ll) [0,1,2,3] ?_
  refine sv 14 (.int .i64 (kk.val:Int)) ?_
  try simp only [p3,p4]
  refine sw 15 (.agg (ent [a1,aE,aN,aY,af,ab,aJ,ae,ax,ak,aM,av,aC,ap,aD,ai,ad,aU,aT,aX,ar,al,aO,aw,aR,aj,aH,ay,aF,aQ,aK,aW,aB,aI,aP,ah,a0,az,au,aV,aa,aG,aS,aA,ac,aq,aZ,aL] kk).toArray) rfl (rl 36 0 (ent [a1,aE,aN,aY,af,ab,aJ,ae,ax,ak,aM,av,aC,ap,aD,ai,ad,aU,aT,aX,ar,al,aO,aw,aR,aj,aH,ay,aF,aQ,aK,aW,aB,aI,aP,ah,a0,az,au,aV,aa,aG,aS,aA,ac,aq,aZ,aL] kk) hLB) ?_
  try simp only [p3,p4]
  refine sw 16 (.pointer (some ⟨b6,4*kk.val,none⟩)) rfl (rv_aix 116 _ _ b6 12 36 4 kk.val hlt) ?_
  try simp only [p3,p4]
  obtain ⟨ys,hys,dO⟩:=hF.step hmbone rfl hlt
  refine se ?_
  refine es 36 (4*kk.val) _ (ent [a1,aE,aN,aY,af,ab,aJ,ae,ax,ak,aM,av,aC,ap,aD,ai,ad,aU,aT,aX,ar,al,aO,aw,aR,aj,aH,ay,aF,aQ,aK,aW,aB,aI,aP,ah,a0,az,au,aV,aa,aG,aS,aA,ac,aq,aZ,aL] kk) ys.toArray L6 hB q6 (ent_one hmbone rfl kk) ?_ (hoff:=by simp [hF.len,ent];omega) (hcs:=hys)
  intro w1 st kp N g
  refine sq_nil ?_
  have ho:=others_st st L6 (Nat.le_of_eq (by rw [st.size]))
  exact ⟨ho.from _,ho.walks,g,hkW.trans kp,st.lc L2 df,st.lc L3 dj,st.lc L4 c7,ys,dO,N⟩
 ·rintro da dF dh ⟨dd,dM,dl,dD,dp,xs,hF,di⟩ cy
  have dv:=hF.done (by decide) rfl
  subst dv
  clear hF
  have c5:=L4.ne dh
  replace dh:=Nat.le_trans (Below.size hB) dh
  replace hB:=dd
  replace L2:=dl
  replace L4:=dp
  replace L6:=di
  change IsMk dF da at cy
  change Lc dF b6 #[a1,aE,aN,aY,af,ab,aJ,ae,ax,ak,aM,av,aC,ap,aD,ai,ad,aU,aT,aX,ar,al,aO,aw,aR,aj,aH,ay,aF,aQ,aK,aW,aB,aI,aP,ah,a0,az,au,aV,aa,aG,aS,aA,ac,aq,aZ,aL] 116 at L6
  refine k7 _ _ ?_
  try clear k7 K7
  refine wp_seq_k (fun dH dG=>?_)
  refine wp_seq_k (fun dI dC=>?_)
  refine rg [0,1] ?_
  refine sw 17 (.agg #[bU,bp,a9,bh,bD,bt,a7,bv,bM,bc,bK,bL,a2,bA,bR,a8,bQ,bn,bq,bT,bm,bx,bF,bP,bu,bd,bi,bk,ba,bN,a3,a4,bo,bw,bf,bS,bJ,bj,bg,a5,bO,bG,bH,bC,bE,bz,a6,bb]) rfl (rl 41 0 [bU,bp,a9,bh,bD,bt,a7,bv,bM,bc,bK,bL,a2,bA,bR,a8,bQ,bn,bq,bT,bm,bx,bF,bP,bu,bd,bi,bk,ba,bN,a3,a4,bo,bw,bf,bS,bJ,bj,bg,a5,bO,bG,bH,bC,bE,bz,a6,bb] L2) ?_
  refine se ?_
  refine ec 18 (ments _ b9.one0 b9.one1 b9.one2 b9.one3 bY.one0 bY.one1 bY.one2 bY.one3 cc.one0 cc.one1 cc.one2 cc.one3 cd.one0 cd.one1 cd.one2 cd.one3 bZ.one0 bZ.one1 bZ.one2 bZ.one3 cu.one0 cu.one1 cu.one2 cu.one3 ca.one0 ca.one1 ca.one2 ca.one3 bW.one0 bW.one1 bW.one2 bW.one3 ch.one0 ch.one1 ch.one2 ch.one3 cn.one0 cn.one1 cn.one2 cn.one3 ce.one0 ce.one1 ce.one2 ce.one3 cq.one0 cq.one1 cq.one2 cq.one3) ?_
  rintro e13 dE ⟨⟨dw,rfl,db⟩,dc⟩
  refine ⟨_,rfl,?_⟩
  replace hB:=hB.trans dc
  simp only [p3,p4]
  refine sq_nil ?_
  refine dC _ _ ?_
  try clear dC dI
  refine wp_block ?_
  replace L2:=L2.gr dc
  replace L4:=L4.gr dc
  replace L6:=L6.gr dc
  replace cy:=cy.gr dc
  refine rf_ent (Ds:=[da]) (d1:=8) (d2:=9) (ent_stops _ dw bU bp a9 bh bD bt a7 bv bM bc bK bL a2 bA bR a8 bQ bn bq bT bm bx bF bP bu bd bi bk ba bN a3 a4 bo bw bf bS bJ bj bg a5 bO bG bH bC bE bz a6 bb b9.one0 b9.one1 b9.one2 b9.one3 bY.one0 bY.one1 bY.one2 bY.one3 cc.one0 cc.one1 cc.one2 cc.one3 cd.one0 cd.one1 cd.one2 cd.one3 bZ.one0 bZ.one1 bZ.one2 bZ.one3 cu.one0 cu.one1 cu.one2 cu.one3 ca.one0 ca.one1 ca.one2 ca.one3 bW.one0 bW.one1 bW.one2 bW.one3 ch.one0 ch.one1 ch.one2 ch.one3 cn.one0 cn.one1 cn.one2 cn.one3 ce.one0 ce.one1 ce.one2 ce.one3 cq.one0 cq.one1 cq.one2 cq.one3 _ db) (fun prs W'=>Gr w W'∧Kp dE W'∧Lc W' b2 #[bU,bp,a9,bh,bD,bt,a7,bv,bM,bc,bK,bL,a2,bA,bR,a8,bQ,bn,bq,bT,bm,bx,bF,bP,bu,bd,bi,bk,ba,bN,a3,a4,bo,bw,bf,bS,bJ,bj,bg,a5,bO,bG,bH,bC,bE,bz,a6,bb] 41∧Lc W' b4 #[(.bool false)] 4∧Lc W' b6 #[a1,aE,aN,aY,af,ab,aJ,ae,ax,ak,aM,av,aC,ap,aD,ai,ad,aU,aT,aX,ar,al,aO,aw,aR,aj,aH,ay,aF,aQ,aK,aW,aB,aI,aP,ah,a0,az,au,aV,aa,aG,aS,aA,ac,aq,aZ,aL] 116∧IsMk W' da∧(∀ j ∈ prs,rcmp ([cB,cL,cS,cZ,cC,cJ,cM,cP,cU,cW,cT,cX].getD j.val 0) ([cF,cE,cG,cK,cV,cH,cN,cO,cR,cY,cQ,cD].getD j.val 0)=0)) (fun c prs W'=>c=.ret∧Gr w W'∧Kp dE W'∧Lc W' b2 #[bU,bp,a9,bh,bD,bt,a7,bv,bM,bc,bK,bL,a2,bA,bR,a8,bQ,bn,bq,bT,bm,bx,bF,bP,bu,bd,bi,bk,ba,bN,a3,a4,bo,bw,bf,bS,bJ,bj,bg,a5,bO,bG,bH,bC,bE,bz,a6,bb] 41∧Lc W' b4 #[(.bool false)] 4∧Lc W' b6 #[a1,aE,aN,aY,af,ab,aJ,ae,ax,ak,aM,av,aC,ap,aD,ai,ad,aU,aT,aX,ar,al,aO,aw,aR,aj,aH,ay,aF,aQ,aK,aW,aB,aI,aP,ah,a0,az,au,aV,aa,aG,aS,aA,ac,aq,aZ,aL] 116∧IsMk W' da∧(∃ j:Fin 12,rcmp ([cB,cL,cS,cZ,cC,cJ,cM,cP,cU,cW,cT,cX].getD j.val 0) ([cF,cE,cG,cK,cV,cH,cN,cO,cR,cY,cQ,cD].getD j.val 0)≠0)) ((own_gr hB.size).and ((own_kp _ _).and ((own_lc _ _ _ _).and ((own_lc _ _ _ _).and ((own_lc _ _ _ _).and ((own_mk cy).and (ownFrom_pure _ _))))))) (fun c=>((ownFrom_pure _ _).and ((own_gr hB.size).and ((own_kp _ _).and ((own_lc _ _ _ _).and ((own_lc _ _ _ _).and ((own_lc _ _ _ _).and ((own_mk cy).and (ownFrom_pure _ _))))))))) ⟨hB,Kp.refl _,L2,L4,L6,cy,fun _ h=>absurd h (by simp)⟩ ?_ ?_ ?_ ?_ rfl (enters_of Tryz.func98 (by kernel_rfl) rfl)
  ·intro ll kk W K hK
   try simp only [p3,p4]
   refine wpIn_seq_k (fun K1 k1=>?_)
   refine rgI (wide_round ll) [0] ?_
   refine sv 8 (.int .i64 (kk.val:Int)) ?_
   try simp only [p3,p4]
   refine sq_nil ?_
   refine k1 _ _ ?_
   refine rgY [0,1] ?_
   refine alstY (wide_round ll) 9 36 (.agg #[(.bool false),(.slice none 0 0),(.bool false),(.slice none 0 0)]) (ent [bU,bp,a9,bh,bD,bt,a7,bv,bM,bc,bK,bL,a2,bA,bR,a8,bQ,bn,bq,bT,bm,bx,bF,bP,bu,bd,bi,bk,ba,bN,a3,a4,bo,bw,bf,bS,bJ,bj,bg,a5,bO,bG,bH,bC,bE,bz,a6,bb] kk) ?_ (ent_one hmaone rfl kk)
   try simp only [p3,p4]
   refine nilY ?_
   exact hK
  ·rintro ll bB prs kk W ⟨hB,hkW,L2,L4,L6,cy,hq⟩ hqB hLB
   try simp only [p3,p4]
   refine wpIn_block ?_
   refine wpIn_seq_k (fun K1 k1=>?_)
   have gd:=Gr.drew W
   refine ordI (wide_round ll) (fun w'=>Lc w' bB (ent [bU,bp,a9,bh,bD,bt,a7,bv,bM,bc,bK,bL,a2,bA,bR,a8,bQ,bn,bq,bT,bm,bx,bF,bP,bu,bd,bi,bk,ba,bN,a3,a4,bo,bw,bf,bS,bJ,bj,bg,a5,bO,bG,bH,bC,bE,bz,a6,bb] kk).toArray 36∧Lc w' b6 [a1,aE,aN,aY,af,ab,aJ,ae,ax,ak,aM,av,aC,ap,aD,ai,ad,aU,aT,aX,ar,al,aO,aw,aR,aj,aH,ay,aF,aQ,aK,aW,aB,aI,aP,ah,a0,az,au,aV,aa,aG,aS,aA,ac,aq,aZ,aL].toArray 116) [(true,0),(true,1),(true,2),(true,3),(false,4),(true,5)] (by kernel_rfl) (by kernel_rfl) (by kernel_rfl) (by decide) (fun _ _ _ _ _ h=>h) ⟨hLB.gr gd,L6.gr gd⟩ ?_
   refine ow 21 (.agg (ent [bU,bp,a9,bh,bD,bt,a7,bv,bM,bc,bK,bL,a2,bA,bR,a8,bQ,bn,bq,bT,bm,bx,bF,bP,bu,bd,bi,bk,ba,bN,a3,a4,bo,bw,bf,bS,bJ,bj,bg,a5,bO,bG,bH,bC,bE,bz,a6,bb] kk).toArray) rfl (fun w' hS=>rl 36 0 (ent [bU,bp,a9,bh,bD,bt,a7,bv,bM,bc,bK,bL,a2,bA,bR,a8,bQ,bn,bq,bT,bm,bx,bF,bP,bu,bd,bi,bk,ba,bN,a3,a4,bo,bw,bf,bS,bJ,bj,bg,a5,bO,bG,bH,bC,bE,bz,a6,bb] kk) hS.1) ?_
   refine ov 22 (.int .i64 (kk.val:Int)) ?_
   refine ow 23 (.pointer (some ⟨b6,4*kk.val,none⟩)) rfl (fun w' hS=>rv_aix 116 _ _ b6 12 36 4 kk.val kk.isLt) ?_
   refine ow 24 (.agg (ent [a1,aE,aN,aY,af,ab,aJ,ae,ax,ak,aM,av,aC,ap,aD,ai,ad,aU,aT,aX,ar,al,aO,aw,aR,aj,aH,ay,aF,aQ,aK,aW,aB,aI,aP,ah,a0,az,au,aV,aa,aG,aS,aA,ac,aq,aZ,aL] kk).toArray) rfl (fun w' hS=>rl 36 (4*kk.val) (ent [a1,aE,aN,aY,af,ab,aJ,ae,ax,ak,aM,av,aC,ap,aD,ai,ad,aU,aT,aX,ar,al,aO,aw,aR,aj,aH,ay,aF,aQ,aK,aW,aB,aI,aP,ah,a0,az,au,aV,aa,aG,aS,aA,ac,aq,aZ,aL] kk) hS.2 (hv:=ent_take rfl kk)) ?_
   refine oe ?_
   refine ec 25 (compare_r ((qa kk).kp (hB.trans gd).kp) ((qb kk).kp (hB.trans gd).kp) (by omega)) ?_
   rintro e1 w1 ⟨rfl,g1⟩
   refine ⟨_,rfl,?_⟩
   refine ⟨⟨hLB.gr (gd.trans g1),L6.gr (gd.trans g1)⟩,?_⟩
   refine ov 26 (.bool (rcmp ([cB,cL,cS,cZ,cC,cJ,cM,cP,cU,cW,cT,cX].getD kk.val 0) ([cF,cE,cG,cK,cV,cH,cN,cO,cR,cY,cQ,cD].getD kk.val 0) !=0)) ?_
   refine ord_nil ?_
   refine k1 _ _ ?_
   clear k1 K1
   have g:=gd.trans g1
   have ho:=others_gr g
   refine wpIn_cond_split rfl (fun hb=>?_) (fun hb=>?_)
   ·refine wpIn_seq_k (fun K1 k1=>?_)
    refine rgI (wide_round ll) [0] ?_
    refine se ?_
    refine es 4 0 _ [.bool false] #[.bool false] (L4.gr g) (hB.trans g) q4 ⟨rfl,trivial⟩ ?_
    intro w2 st kp N g2
    refine sq_nil ?_
    refine k1 _ _ ?_
    clear k1 K1
    refine wpIn_ret ?_
    have dJ:=others_st st (L4.gr g) (Nat.le_of_eq (by rw [st.size]))
    exact ⟨(ho.trans dJ).from _,rfl,g2,(hkW.trans g.kp).trans kp,st.lc (L2.gr g) de,N,st.lc (L6.gr g) (Ne.symm c7),(cy.gr g).st st (Ne.symm c5),⟨kk,by simpa using hb⟩⟩
   ·refine wpIn_skip ?_
    refine ⟨ho.from _,ho.walks,hB.trans g,hkW.trans g.kp,L2.gr g,L4.gr g,L6.gr g,cy.gr g,fun j hj=>?_⟩
    rcases List.mem_append.1 hj with hj | hj
    · exact hq j hj
    · simp only [List.mem_singleton] at hj;subst hj;simpa using hb
  ·rintro dn dx c6 ⟨dd,dt,dk,c4,dq,cA,hqd⟩ c8
   have c9:=L4.ne c6
   have cx:=cy.ne c6
   replace c6:=Nat.le_trans (Below.size hB) c6
   replace hB:=dd
   replace L4:=c4
   replace cy:=cA
   change IsMk dx dn at c8
   refine dG _ _ ?_
   try clear dG dH
   refine wp_seq_k (fun dK dB=>?_)
   refine rg [0] ?_
   refine se ?_
   refine es 4 0 (.bool true) [(.bool true)] #[(.bool true)] L4 hB q4 ⟨rfl,trivial⟩ fun dR dm dN L4 hB=>?_
   refine sq_nil ?_
   refine dB _ _ ?_
   try clear dB dK
   refine wp_ret ?_
   replace c8:=c8.st dm (Ne.symm c9)
   replace cy:=cy.st dm (Ne.symm c5)
   refine endN [dn,da] _ (List.Pairwise.cons (List.forall_mem_cons.2 ⟨(Ne.symm cx),(fun _ h=>absurd h (by simp))⟩) (List.Pairwise.cons (fun _ h=>absurd h (by simp)) List.Pairwise.nil)) (List.forall_mem_cons.2 ⟨⟨c6,c8⟩,(List.forall_mem_cons.2 ⟨⟨dh,cy⟩,(fun _ h=>absurd h (by simp))⟩)⟩) hB (fun dP du hB=>?_)
   replace L4:=du.lc L4 (by decide)
   refine ⟨(.bool true),(ret_cell1 _ _ _ rfl rfl L4 (by kernel_rfl)),?_,hB⟩
   exact (by rw [show decide (_=_)=true from decide_eq_true ((rcmp12 rfl rfl).1 hqd)])
  ·rintro dn c prs dx c6 ⟨rfl,dd,dt,dk,c4,dq,cA,hleft⟩ c8
   have cx:=cy.ne c6
   replace c6:=Nat.le_trans (Below.size hB) c6
   replace hB:=dd
   replace L4:=c4
   replace cy:=cA
   change IsMk dx dn at c8
   refine wp_ret ?_
   simp only [Exit.then,Exit.inBlock]
   refine endN [dn,da] _ (List.Pairwise.cons (List.forall_mem_cons.2 ⟨(Ne.symm cx),(fun _ h=>absurd h (by simp))⟩) (List.Pairwise.cons (fun _ h=>absurd h (by simp)) List.Pairwise.nil)) (List.forall_mem_cons.2 ⟨⟨c6,c8⟩,(List.forall_mem_cons.2 ⟨⟨dh,cy⟩,(fun _ h=>absurd h (by simp))⟩)⟩) hB (fun dQ dy hB=>?_)
   replace L4:=dy.lc L4 (by decide)
   refine ⟨(.bool false),(ret_cell1 _ _ _ rfl rfl L4 (by kernel_rfl)),?_,hB⟩
   exact (by obtain ⟨j,hj⟩:=hleft;rw [show decide (_=_)=false from decide_eq_false (fun h=>hj ((rcmp12 rfl rfl).2 h j (mem_all12 j)))])
 ·intro D c prs W _ h;exact h.elim

end Go.Proofs.YtaldbfflkpgfoaaGreatDoor
/- The primitive multiple of six small numbers:plain facts. -/
namespace Go.Proofs.YtaldbfflkpgfoaaGreatDoor
def tz (M:Int) (a:Rat):Int:=a.num*(M/(a.den:Int))
end Go.Proofs.YtaldbfflkpgfoaaGreatDoor
/- Arrays of texts compared with themselves;an integer among the rationals is small. -/
namespace Go.Proofs.YtaldbfflkpgfoaaGreatDoor
open Go.RowKit
section
variable {P:Program} {a:Act} {o:Oper} {w:World} {Q:Exit→Act→World→Prop}
theorem rv_rem (t t2:TypeId) (x y:Operand) (A B:Int) (hop:o.op=.binOp .rem t x y t2) (hx:a.eval x=.int .i64 A) (hy:a.eval y=.int .i64 B) (hA:0≤A) (hB:0<B):RunV P a o w (.int .i64 (A % B)):=by
 have h0:¬ B=0:=by omega
 have e:Int.tmod A B=A % B:=Int.tmod_eq_emod_of_nonneg hA
 unfold RunV execOp
 simp only [hop,hx,hy]
 simp [go_sem,binOp,eqGuard,Op.intDiv,h0,e]
theorem rv_quo (t t2:TypeId) (x y:Operand) (A B C:Int) (hop:o.op=.binOp .quo t x y t2) (hx:a.eval x=.int .i64 A) (hy:a.eval y=.int .i64 B) (hC:Int.tdiv A B=C) (h1:-9223372036854775808≤C) (h2:C≤9223372036854775807) (hB:0<B):RunV P a o w (.int .i64 C):=by
 have h0:¬ B=0:=by omega
 have e2:IntKind.i64.wrap C=C:=by rw [IntKind.wrap_i64];omega
 unfold RunV execOp
 simp only [hop,hx,hy]
 simp [go_sem,binOp,eqGuard,Op.intDiv,h0,hC,e2]
end

theorem IsRat.small {w:World} {K:Nat} {c0 c1 c2 c3:Value} {z:Int} (h:IsRat w K c0 c1 c2 c3 (z:Rat)) (h0:-9223372036854775808≤z) (h1:z≤9223372036854775807):IsRat w 64 c0 c1 c2 c3 (z:Rat):=by
 obtain ⟨hn,⟨D,hd,hD⟩,_⟩:=h
 have e1:((z:Rat)).num=z:=Rat.num_intCast z
 have e2:((z:Rat)).den=1:=Rat.den_intCast z
 rw [e1] at hn
 refine ⟨by rw [e1];exact hn.resz (Sz.i64 h0 h1),⟨D,hd.resz ?_,hD⟩,Nat.le_refl 64⟩
 unfold Sz
 rw [e2] at hD
 rcases hD with h | ⟨h,_⟩<;>subst h<;>decide
theorem gcd_stepZ {g n:Int} (hg:0≤g) (hn:0<n):Int.gcd n (g % n)=Int.gcd g n:=by
 obtain ⟨a,rfl⟩:=Int.eq_ofNat_of_zero_le hg
 obtain ⟨b,rfl⟩:=Int.eq_ofNat_of_zero_le (Int.le_of_lt hn)
 rw [← Int.natCast_emod,Int.gcd_natCast_natCast,Int.gcd_natCast_natCast,Nat.gcd_comm b,← Nat.gcd_rec,Nat.gcd_comm]
end Go.Proofs.YtaldbfflkpgfoaaGreatDoor
/- What the whole numbers of a rotation's quaternion are made of. -/
namespace Go.Proofs.YtaldbfflkpgfoaaGreatDoor
open Go.RowKit
def pden4 (a1 a2 a3 a4:Rat):Int:=lcmS (lcmS (lcmS (lcmS 1 (a1.den:Int)) (a2.den:Int)) (a3.den:Int)) (a4.den:Int)
def wsgn (a1 a2 a3 a4:Rat):Int:=if sgn a1.num=0 then (if sgn a2.num=0 then (if sgn a3.num=0 then sgn a4.num else sgn a3.num) else sgn a2.num) else sgn a1.num
def wout (a1 a2 a3 a4 x:Rat):Int:=x.num*(pden4 a1 a2 a3 a4/(x.den:Int))*wsgn a1 a2 a3 a4
def wgcd (a1 a2 a3 a4:Rat):Int:=
 (Int.gcd (Int.gcd (Int.gcd (Int.gcd 0 (wout a1 a2 a3 a4 a1):Int) (wout a1 a2 a3 a4 a2):Int) (wout a1 a2 a3 a4 a3):Int) (wout a1 a2 a3 a4 a4):Int)
def wz (a1 a2 a3 a4 x:Rat):Int:=wout a1 a2 a3 a4 x/wgcd a1 a2 a3 a4
theorem den_posI (a:Rat):0<(a.den:Int):=by have:=a.den_pos;omega
end Go.Proofs.YtaldbfflkpgfoaaGreatDoor
/- Printed by a program of the prover's:the run through motion.whole. -/
namespace Go.Proofs.YtaldbfflkpgfoaaGreatDoor
open Go.RowKit

noncomputable def tabW:List (Nat × List (Nat × Ent)):=[(104,[(5,.flo [(true,0),(true,1),(true,2),(false,3),(false,4),(false,5),(true,6),(true,7),(true,8),(true,9)] [(10,7,34),(11,8,34)] [(false,12),(false,13),(true,14)] []),(6,.ord [(true,0),(true,1),(false,2),(false,3),(false,4)] [3]),(15,.flo [(true,0),(true,1),(false,2),(false,3),(true,4),(true,5),(true,6),(true,7)] [(8,14,34),(9,15,34)] [(false,10),(false,11),(true,12)] []),(16,.ord [(true,0),(true,1),(true,3),(true,5),(false,2),(false,4),(false,6),(false,7),(true,8),(false,9)] [10]),(17,.ort [(true,0),(true,1),(true,2),(true,3),(false,4),(false,5)] [11] [([5],11)]),(22,.ort [(true,0),(true,1),(true,2),(true,3),(true,4),(false,5),(true,6),(true,7),(true,8),(true,9),(true,10),(false,11)] [10] [([11],10)])])]
noncomputable def conW:List (Nat × ConT):=[(76,cSign),
 (130,cNum),
 (81,cDen),
 (96,cZFrom),
 (80,cZMul),
 (122,cZGcd),
 (123,cZDiv)]
noncomputable def sysW:Sys:=⟨Tryz.prog,2,199,tabW,conW,fun _=>True⟩
theorem sysW_ok:sysW.OK where
 mixed:=by kernel_rfl
 calls:=fun f h0 h1=>by
  have:(List.range 199).all (fun f=>Nat.blt f 2||okCall Tryz.prog f)=true:=by kernel_rfl
  have:=List.all_eq_true.1 this f (List.mem_range.2 h1)
  simp only [Bool.or_eq_true] at this
  exact this.resolve_left (fun e=>by have:=blt_of e;exact absurd h0 (by show ¬ 2≤f;omega))
 tab:=by
  have:tabW.all (okTab Tryz.prog)=true:=by kernel_rfl
  exact fun x hx=>List.all_eq_true.1 this x hx
 lps:=lps_no (by kernel_rfl)
 con:=fun x hx=>by
  simp only [sysW,conW,List.mem_cons,List.not_mem_nil,or_false] at hx
  rcases hx with rfl | rfl | rfl | rfl | rfl | rfl | rfl
  ·exact cSign_ok
  ·exact cNum_ok
  ·exact cDen_ok
  ·exact cZFrom_ok
  ·exact cZMul_ok
  ·exact cZGcd_ok
  ·exact cZDiv_ok
 inv:=fun _ _ _ _=>trivial
def woS (a1 a2 a3 a4:Rat) (s:Int) (x:Rat):Int:=x.num*(pden4 a1 a2 a3 a4/(x.den:Int))*s
def wgS (a1 a2 a3 a4:Rat) (s:Int):Int:=(Int.gcd (Int.gcd (Int.gcd (Int.gcd 0 (woS a1 a2 a3 a4 s a1):Int) (woS a1 a2 a3 a4 s a2):Int) (woS a1 a2 a3 a4 s a3):Int) (woS a1 a2 a3 a4 s a4):Int)
def retW (z1 z2 z3 z4:Int):SV:=.so (.vg [.cz 57 0 40128 (z1),.cz 57 1 40128 (z1),.cz 59 0 40128 (z2),.cz 59 1 40128 (z2),.cz 61 0 40128 (z3),.cz 61 1 40128 (z3),.cz 63 0 40128 (z4),.cz 63 1 40128 (z4)])
def endW (a1 a2 a3 a4:Rat) (s:Int):Lf:=.as (decide (0<(a1.den:Int))) true (.as (decide (0<(a2.den:Int))) true (.as (decide (0<(a3.den:Int))) true (.as (decide (0<(a4.den:Int))) true (.as (decide (0<wgS a1 a2 a3 a4 s)) true (.as (decide (0<wgS a1 a2 a3 a4 s)) true (.as (decide (0<wgS a1 a2 a3 a4 s)) true (.as (decide (0<wgS a1 a2 a3 a4 s)) true (.ret (retW (woS a1 a2 a3 a4 s a1/wgS a1 a2 a3 a4 s) (woS a1 a2 a3 a4 s a2/wgS a1 a2 a3 a4 s) (woS a1 a2 a3 a4 s a3/wgS a1 a2 a3 a4 s) (woS a1 a2 a3 a4 s a4/wgS a1 a2 a3 a4 s))))))))))
def treeW (a1 a2 a3 a4:Rat):Lf:=.as (decide (0<(Int.gcd 1 (a1.den:Int):Int))) true (.as (decide (0<(Int.gcd (lcmS 1 (a1.den:Int)) (a2.den:Int):Int))) true (.br (sgn a1.num==0)
 (.as (decide (0<(Int.gcd (lcmS (lcmS 1 (a1.den:Int)) (a2.den:Int)) (a3.den:Int):Int))) true (.br (sgn a2.num==0) (.as (decide (0<(Int.gcd (lcmS (lcmS (lcmS 1 (a1.den:Int)) (a2.den:Int)) (a3.den:Int)) (a4.den:Int):Int))) true (.br (sgn a3.num==0) (endW a1 a2 a3 a4 (sgn a4.num)) (endW a1 a2 a3 a4 (sgn a3.num)))) (.as (decide (0<(Int.gcd (lcmS (lcmS (lcmS 1 (a1.den:Int)) (a2.den:Int)) (a3.den:Int)) (a4.den:Int):Int))) true (.as (sgn a2.num==0) false (endW a1 a2 a3 a4 (sgn a2.num))))))
 (.as (decide (0<(Int.gcd (lcmS (lcmS 1 (a1.den:Int)) (a2.den:Int)) (a3.den:Int):Int))) true (.as (sgn a1.num==0) false (.as (decide (0<(Int.gcd (lcmS (lcmS (lcmS 1 (a1.den:Int)) (a2.den:Int)) (a3.den:Int)) (a4.den:Int):Int))) true (.as (sgn a1.num==0) false (endW a1 a2 a3 a4 (sgn a1.num))))))))
theorem runW (a1 a2 a3 a4:Rat):runF sysW 104 [.so (.vg [.cr 0 0 8000 a1,.cr 0 1 8000 a1,.cr 0 2 8000 a1,.cr 0 3 8000 a1,.cr 1 0 8000 a2,.cr 1 1 8000 a2,.cr 1 2 8000 a2,.cr 1 3 8000 a2,.cr 2 0 8000 a3,.cr 2 1 8000 a3,.cr 2 2 8000 a3,.cr 2 3 8000 a3,.cr 3 0 8000 a4,.cr 3 1 8000 a4,.cr 3 2 8000 a4,.cr 3 3 8000 a4])] 4 0 (.s (.s (.s .e .e) (.f .e)) (.f (.f .e)))=some (treeW a1 a2 a3 a4):=by kernel_rfl
end Go.Proofs.YtaldbfflkpgfoaaGreatDoor
/- The whole numbers of four rationals:what the run says. -/
namespace Go.Proofs.YtaldbfflkpgfoaaGreatDoor
open Go.RowKit

def envR (cs:List Value):Env:=⟨fun _=>0,fun j c=>cs.getD (4*j+c) undef,fun _ _=>undef,[]⟩
def okA (n:Nn) (X:Env) (W:World):List Cl→Prop
 | []=>True
 | c::l=>c.ok n X W∧okA n X W l
theorem okA_ok {n:Nn} {X:Env} {W:World}:∀ {l:List Cl},okA n X W l→okL n X W l
 | [],_,_,h=>by cases h
 | c::l,hh,x,h=>by
  rcases List.mem_cons.1 h with rfl | h
  ·exact hh.1
  ·exact okA_ok hh.2 x h
theorem okF1 {n:Nn} {X:Env} {W:World} {v:SV} (h:v.ok n X W):okF n X W [v]:=fun x hx=>by rw [List.mem_singleton] at hx;exact hx ▸ h
theorem gcd_den_pos (d:Int) (a:Rat):decide (0<(Int.gcd d (a.den:Int):Int))=true:=by
 have h:=a.den_pos
 have:0<Int.gcd d (a.den:Int):=Int.gcd_pos_of_ne_zero_right _ (by omega)
 exact decide_eq_true (by omega)
theorem endW_ok {a1 a2 a3 a4:Rat} {s:Int} (hs:wsgn a1 a2 a3 a4=s) (hg:0<wgcd a1 a2 a3 a4):
  LOK (fun v=>v=retW (wz a1 a2 a3 a4 a1) (wz a1 a2 a3 a4 a2) (wz a1 a2 a3 a4 a3) (wz a1 a2 a3 a4 a4)) (endW a1 a2 a3 a4 s):=by
 subst hs
 have d:=fun a:Rat=>decide_eq_true (den_posI a)
 have g:decide (0<wgS a1 a2 a3 a4 (wsgn a1 a2 a3 a4))=true:=decide_eq_true hg
 exact ⟨d a1,d a2,d a3,d a4,g,g,g,g,rfl⟩
theorem treeW_ok {a1 a2 a3 a4:Rat} (hg:0<wgcd a1 a2 a3 a4):
  LOK (fun v=>v=retW (wz a1 a2 a3 a4 a1) (wz a1 a2 a3 a4 a2) (wz a1 a2 a3 a4 a3) (wz a1 a2 a3 a4 a4)) (treeW a1 a2 a3 a4):=by
 have t:=fun {z:Int} (h:(z==0)=true)=>eq_of_beq h
 have f:=fun {z:Int} (h:(z==0)=false)=>ne_of_beq_false h
 refine ⟨gcd_den_pos _ _,gcd_den_pos _ _,fun h1=>⟨gcd_den_pos _ _,fun h2=>⟨gcd_den_pos _ _,fun h3=>endW_ok ?_ hg,fun h3=>endW_ok ?_ hg⟩,fun h2=>⟨gcd_den_pos _ _,h2,endW_ok ?_ hg⟩⟩,fun h1=>⟨gcd_den_pos _ _,h1,gcd_den_pos _ _,h1,endW_ok ?_ hg⟩⟩
 ·unfold wsgn;rw [if_pos (t h1),if_pos (t h2),if_pos (t h3)]
 ·unfold wsgn;rw [if_pos (t h1),if_pos (t h2),if_neg (f h3)]
 ·unfold wsgn;rw [if_pos (t h1),if_neg (f h2)]
 ·unfold wsgn;rw [if_neg (f h1)]
theorem mwhole {k:Nat} {aq ah ak ad:Value} {a1:Rat} {ap al ac aa:Value} {a2:Rat} {aj ar af ai:Value} {a3:Rat} {au ae ab av:Value} {a4:Rat} {w:World} (h1:IsRat w k aq ah ak ad a1) (h2:IsRat w k ap al ac aa a2) (h3:IsRat w k aj ar af ai a3) (h4:IsRat w k au ae ab av a4) (hg:0<wgcd a1 a2 a3 a4) (hk:k≤8000):
  Calls Tryz.prog 104 #[.agg #[aq,ah,ak,ad,ap,al,ac,aa,aj,ar,af,ai,au,ae,ab,av]] w fun e w'=>(∃ t0 t1 t2 t3 t4 t5 t6 t7,e=.returned (.agg #[t0,t1,t2,t3,t4,t5,t6,t7])∧IsInt w' 40128 t0 t1 (wz a1 a2 a3 a4 a1)∧IsInt w' 40128 t2 t3 (wz a1 a2 a3 a4 a2)∧IsInt w' 40128 t4 t5 (wz a1 a2 a3 a4 a3)∧IsInt w' 40128 t6 t7 (wz a1 a2 a3 a4 a4))∧Gr w w':=by
 replace h1:=h1.mono hk
 replace h2:=h2.mono hk
 replace h3:=h3.mono hk
 replace h4:=h4.mono hk
 refine (run_calls sysW sysW_ok (runW a1 a2 a3 a4) (X:=envR [aq,ah,ak,ad,ap,al,ac,aa,aj,ar,af,ai,au,ae,ab,av]) trivial (okF1 (okA_ok ⟨⟨rfl,h1⟩,⟨rfl,h1⟩,⟨rfl,h1⟩,⟨rfl,h1⟩,⟨rfl,h2⟩,⟨rfl,h2⟩,⟨rfl,h2⟩,⟨rfl,h2⟩,⟨rfl,h3⟩,⟨rfl,h3⟩,⟨rfl,h3⟩,⟨rfl,h3⟩,⟨rfl,h4⟩,⟨rfl,h4⟩,⟨rfl,h4⟩,⟨rfl,h4⟩,trivial⟩)) (treeW_ok hg)).mono fun e w' he=>?_
 obtain ⟨v,X',n,rfl,g,_,hv,rfl⟩:=he
 exact ⟨⟨_,_,_,_,_,_,_,_,rfl,(hv _ (.head _)).2,(hv _ (.tail _ (.tail _ (.head _)))).2,(hv _ (.tail _ (.tail _ (.tail _ (.tail _ (.head _)))))).2,(hv _ (.tail _ (.tail _ (.tail _ (.tail _ (.tail _ (.tail _ (.head _)))))))).2⟩,g⟩
end Go.Proofs.YtaldbfflkpgfoaaGreatDoor
/- A rotation's quaternion:which row is taken,and that it is not 0. -/
namespace Go.Proofs.YtaldbfflkpgfoaaGreatDoor
open Go.RowKit
theorem wsgn_ne {a1 a2 a3 a4:Rat} (h:¬(a1=0∧a2=0∧a3=0∧a4=0)):wsgn a1 a2 a3 a4≠0:=by
 unfold wsgn
 have z:∀ a:Rat,sgn a.num=0→a=0:=fun a ha=>Rat.num_eq_zero.1 (sgn_eq_zero.1 ha)
 split
 ·next h1=>
  split
  ·next h2=>
   split
   ·next h3=>exact fun h4=>h ⟨z _ h1,z _ h2,z _ h3,z _ h4⟩
   ·assumption
  ·assumption
 ·assumption
theorem lcmS_dvd {d:Int} (q:Rat) (_h:0<d):d∣lcmS d (q.den:Int)∧(q.den:Int)∣lcmS d (q.den:Int):=by
 obtain ⟨h1,h2⟩:=gcd_ex d q
 unfold lcmS
 refine ⟨?_,Int.dvd_mul_left _ _⟩
 obtain ⟨c,hc⟩:=h2
 have h3:(Int.gcd d (q.den:Int):Int)∣(q.den:Int):=Int.gcd_dvd_right ..
 obtain ⟨e,he⟩:=h3
 generalize (Int.gcd d (q.den:Int):Int)=g at*
 refine ⟨e,?_⟩
 rw [he,hc,Int.mul_ediv_cancel_left c (by omega)]
 rw [← Int.mul_assoc,Int.mul_comm c g,Int.mul_assoc]
theorem pden4_pos (a1 a2 a3 a4:Rat):0<pden4 a1 a2 a3 a4:=lcmS_pos _ (lcmS_pos _ (lcmS_pos _ (lcmS_pos _ (by omega))))
theorem pden4_dvd (a1 a2 a3 a4:Rat):(a1.den:Int)∣pden4 a1 a2 a3 a4∧(a2.den:Int)∣pden4 a1 a2 a3 a4∧(a3.den:Int)∣pden4 a1 a2 a3 a4∧(a4.den:Int)∣pden4 a1 a2 a3 a4:=by
 have p1:(0:Int)<1:=by omega
 have p2:=lcmS_pos a1 p1
 have p3:=lcmS_pos a2 p2
 have p4:=lcmS_pos a3 p3
 have d1:=lcmS_dvd a1 p1
 have d2:=lcmS_dvd a2 p2
 have d3:=lcmS_dvd a3 p3
 have d4:=lcmS_dvd a4 p4
 unfold pden4
 exact ⟨Int.dvd_trans d1.2 (Int.dvd_trans d2.1 (Int.dvd_trans d3.1 d4.1)),Int.dvd_trans d2.2 (Int.dvd_trans d3.1 d4.1),Int.dvd_trans d3.2 d4.1,d4.2⟩
theorem div_pos_of {d x:Int} (hd:0<d) (hx:0<x) (h:x∣d):0<d/x:=by
 obtain ⟨c,rfl⟩:=h
 rw [Int.mul_ediv_cancel_left c (by omega)]
 rcases Int.lt_or_le 0 c with h3 | h3
 ·exact h3
 ·have:=Int.mul_nonpos_of_nonneg_of_nonpos (Int.le_of_lt hx) h3;omega
theorem wout_zero {a1 a2 a3 a4 x:Rat} (hs:wsgn a1 a2 a3 a4≠0) (hd:(x.den:Int)∣pden4 a1 a2 a3 a4) (h:wout a1 a2 a3 a4 x=0):x=0:=by
 have h1:=div_pos_of (pden4_pos a1 a2 a3 a4) (den_posI x) hd
 unfold wout at h
 rcases Int.mul_eq_zero.1 h with h | h
 ·rcases Int.mul_eq_zero.1 h with h | h
  ·exact Rat.num_eq_zero.1 h
  ·omega
 ·exact absurd h hs
theorem wgcd_pos {a1 a2 a3 a4:Rat} (h:¬(a1=0∧a2=0∧a3=0∧a4=0)):0<wgcd a1 a2 a3 a4:=by
 have hs:=wsgn_ne h
 have hd:=pden4_dvd a1 a2 a3 a4
 have h0:0≤wgcd a1 a2 a3 a4:=Int.natCast_nonneg _
 rcases Int.lt_or_le 0 (wgcd a1 a2 a3 a4) with h1 | h1
 ·exact h1
 ·exfalso
  apply h
  have e:wgcd a1 a2 a3 a4=0:=by omega
  unfold wgcd at e
  have e1:=Int.gcd_eq_zero_iff.1 (Int.natCast_eq_zero.1 e)
  have e2:=Int.gcd_eq_zero_iff.1 (Int.natCast_eq_zero.1 e1.1)
  have e3:=Int.gcd_eq_zero_iff.1 (Int.natCast_eq_zero.1 e2.1)
  have e4:=Int.gcd_eq_zero_iff.1 (Int.natCast_eq_zero.1 e3.1)
  exact ⟨wout_zero hs hd.1 e4.2,wout_zero hs hd.2.1 e3.2,wout_zero hs hd.2.2.1 e2.2,wout_zero hs hd.2.2.2 e1.2⟩
def qrow (a11 a12 a13 a21 a22 a23 a31 a32 a33:Rat):Rat × Rat × Rat × Rat:=
 if sgn ((((0+1)+a11)+a22)+a33).num=0 then (if sgn ((1+a11) - (a22+a33)).num=0 then (if sgn ((1+a22) - (a11+a33)).num=0 then ((a21 - a12),(a13+a31),(a23+a32),((1+a33) - (a11+a22))) else ((a13 - a31),(a12+a21),((1+a22) - (a11+a33)),(a23+a32))) else ((a32 - a23),((1+a11) - (a22+a33)),(a12+a21),(a13+a31))) else (((((0+1)+a11)+a22)+a33),(a32 - a23),(a13 - a31),(a21 - a12))
def wzq (r:Rat × Rat × Rat × Rat) (i:Nat):Int:=wz r.1 r.2.1 r.2.2.1 r.2.2.2 (match i with | 0=>r.1 | 1=>r.2.1 | 2=>r.2.2.1 | _=>r.2.2.2)
section
variable {a11 a12 a13 a21 a22 a23 a31 a32 a33:Rat}
theorem qrow1f (h0:(sgn ((((0+1)+a11)+a22)+a33).num==(0:Int))=false):qrow a11 a12 a13 a21 a22 a23 a31 a32 a33=(((((0+1)+a11)+a22)+a33),(a32 - a23),(a13 - a31),(a21 - a12)):=by
 unfold qrow
 simp only [beq_eq_false_iff_ne,ne_eq] at h0
 rw [if_neg h0]
theorem row_pos1f (h0:(sgn ((((0+1)+a11)+a22)+a33).num==(0:Int))=false):0<wgcd ((((0+1)+a11)+a22)+a33) (a32 - a23) (a13 - a31) (a21 - a12):=wgcd_pos (by
 rintro ⟨h5,h6,h7,h8⟩
 rw [h5] at h0;exact absurd h0 (by decide))
theorem qrow2f (h0:(sgn ((((0+1)+a11)+a22)+a33).num==(0:Int))=true) (h1:(sgn ((1+a11) - (a22+a33)).num==(0:Int))=false):qrow a11 a12 a13 a21 a22 a23 a31 a32 a33=((a32 - a23),((1+a11) - (a22+a33)),(a12+a21),(a13+a31)):=by
 unfold qrow
 simp only [beq_iff_eq,beq_eq_false_iff_ne,ne_eq] at h0 h1
 rw [if_pos h0,if_neg h1]
theorem row_pos2f (_h0:(sgn ((((0+1)+a11)+a22)+a33).num==(0:Int))=true) (h1:(sgn ((1+a11) - (a22+a33)).num==(0:Int))=false):0<wgcd (a32 - a23) ((1+a11) - (a22+a33)) (a12+a21) (a13+a31):=wgcd_pos (by
 rintro ⟨h5,h6,h7,h8⟩
 rw [h6] at h1;exact absurd h1 (by decide))
theorem qrow3f (h0:(sgn ((((0+1)+a11)+a22)+a33).num==(0:Int))=true) (h1:(sgn ((1+a11) - (a22+a33)).num==(0:Int))=true) (h2:(sgn ((1+a22) - (a11+a33)).num==(0:Int))=false):qrow a11 a12 a13 a21 a22 a23 a31 a32 a33=((a13 - a31),(a12+a21),((1+a22) - (a11+a33)),(a23+a32)):=by
 unfold qrow
 simp only [beq_iff_eq,beq_eq_false_iff_ne,ne_eq] at h0 h1 h2
 rw [if_pos h0,if_pos h1,if_neg h2]
theorem row_pos3f (_h0:(sgn ((((0+1)+a11)+a22)+a33).num==(0:Int))=true) (_h1:(sgn ((1+a11) - (a22+a33)).num==(0:Int))=true) (h2:(sgn ((1+a22) - (a11+a33)).num==(0:Int))=false):0<wgcd (a13 - a31) (a12+a21) ((1+a22) - (a11+a33)) (a23+a32):=wgcd_pos (by
 rintro ⟨h5,h6,h7,h8⟩
 rw [h7] at h2;exact absurd h2 (by decide))
theorem qrow3t (h0:(sgn ((((0+1)+a11)+a22)+a33).num==(0:Int))=true) (h1:(sgn ((1+a11) - (a22+a33)).num==(0:Int))=true) (h2:(sgn ((1+a22) - (a11+a33)).num==(0:Int))=true):qrow a11 a12 a13 a21 a22 a23 a31 a32 a33=((a21 - a12),(a13+a31),(a23+a32),((1+a33) - (a11+a22))):=by
 unfold qrow
 simp only [beq_iff_eq] at h0 h1 h2
 rw [if_pos h0,if_pos h1,if_pos h2]
theorem row_pos3t (h0:(sgn ((((0+1)+a11)+a22)+a33).num==(0:Int))=true) (h1:(sgn ((1+a11) - (a22+a33)).num==(0:Int))=true) (h2:(sgn ((1+a22) - (a11+a33)).num==(0:Int))=true):0<wgcd (a21 - a12) (a13+a31) (a23+a32) ((1+a33) - (a11+a22)):=wgcd_pos (by
 rintro ⟨h5,h6,h7,h8⟩
 simp only [beq_iff_eq,sgn_eq_zero,Rat.num_eq_zero] at h0 h1 h2
 grind)
end
end Go.Proofs.YtaldbfflkpgfoaaGreatDoor
/- A quaternion of integers:its primitive one,the rows of its rotation,and that these lead back to it. -/
namespace Go.Proofs.YtaldbfflkpgfoaaGreatDoor
open Go.RowKit
def qgcd (n1 n2 n3 n4:Int):Int:=(Int.gcd (Int.gcd (Int.gcd (Int.gcd 0 n1:Int) n2:Int) n3:Int) n4:Int)
def qsgn (n1 n2 n3 n4:Int):Int:=if n1=0 then (if n2=0 then (if n3=0 then sgn n4 else sgn n3) else sgn n2) else sgn n1
def qprim (n1 n2 n3 n4 n:Int):Int:=n/qgcd n1 n2 n3 n4*qsgn n1 n2 n3 n4
theorem gcd_mulI (k a b:Int):(Int.gcd (k*a) (k*b):Int)=(k.natAbs:Int)*(Int.gcd a b:Int):=by
 rw [Int.gcd_mul_left];exact Int.natCast_mul ..
theorem gcd_mulA (k a b:Int):(Int.gcd ((k.natAbs:Int)*a) (k*b):Int)=(k.natAbs:Int)*(Int.gcd a b:Int):=by
 rw [← gcd_mulI]
 rcases Int.natAbs_eq k with h | h
 ·rw [← h]
 ·generalize (k.natAbs:Int)=m at h;subst h
  rw [Int.neg_mul,Int.neg_mul,Int.gcd_neg,Int.neg_gcd,Int.gcd_neg]
theorem qgcd_mul (k n1 n2 n3 n4:Int):qgcd (k*n1) (k*n2) (k*n3) (k*n4)=(k.natAbs:Int)*qgcd n1 n2 n3 n4:=by
 unfold qgcd
 have h0:(Int.gcd 0 (k*n1):Int)=(k.natAbs:Int)*(Int.gcd 0 n1:Int):=by
  rw [← gcd_mulI,Int.mul_zero]
 rw [h0,gcd_mulA,gcd_mulA,gcd_mulA]
theorem qgcd_dvd (n1 n2 n3 n4:Int):qgcd n1 n2 n3 n4∣n1∧qgcd n1 n2 n3 n4∣n2∧qgcd n1 n2 n3 n4∣n3∧qgcd n1 n2 n3 n4∣n4:=by
 unfold qgcd
 refine ⟨?_,?_,?_,Int.gcd_dvd_right ..⟩
 ·exact Int.dvd_trans (Int.gcd_dvd_left ..) (Int.dvd_trans (Int.gcd_dvd_left ..) (Int.dvd_trans (Int.gcd_dvd_left ..) (Int.gcd_dvd_right ..)))
 ·exact Int.dvd_trans (Int.gcd_dvd_left ..) (Int.dvd_trans (Int.gcd_dvd_left ..) (Int.gcd_dvd_right ..))
 ·exact Int.dvd_trans (Int.gcd_dvd_left ..) (Int.gcd_dvd_right ..)
theorem qgcd_nonneg (n1 n2 n3 n4:Int):0≤qgcd n1 n2 n3 n4:=Int.natCast_nonneg _
theorem qgcd_zero {n1 n2 n3 n4:Int} (h:qgcd n1 n2 n3 n4=0):n1=0∧n2=0∧n3=0∧n4=0:=by
 obtain ⟨h1,h2,h3,h4⟩:=qgcd_dvd n1 n2 n3 n4
 rw [h] at h1 h2 h3 h4
 exact ⟨Int.zero_dvd.1 h1,Int.zero_dvd.1 h2,Int.zero_dvd.1 h3,Int.zero_dvd.1 h4⟩
theorem qgcd_pos {n1 n2 n3 n4:Int} (h:¬(n1=0∧n2=0∧n3=0∧n4=0)):0<qgcd n1 n2 n3 n4:=by
 have h0:=qgcd_nonneg n1 n2 n3 n4
 have h1:qgcd n1 n2 n3 n4≠0:=fun e=>h (qgcd_zero e)
 omega
theorem sgn_mulq (a b:Int):sgn (a*b)=sgn a*sgn b:=by
 have key:∀ x y:Int,0<x→sgn (x*y)=sgn y:=by
  intro x y hx
  unfold sgn
  rcases Int.lt_trichotomy y 0 with h | h | h
  ·rw [if_pos h,if_pos (Int.mul_neg_of_pos_of_neg hx h)]
  ·subst h;simp
  ·have:=Int.mul_pos hx h
   rw [if_neg (by omega),if_neg (by omega),if_neg (by omega),if_neg (by omega)]
 rcases Int.lt_trichotomy a 0 with h | h | h
 ·have e:a*b=-(-a*b):=by rw [Int.neg_mul,Int.neg_neg]
  have h2:=key (-a) b (by omega)
  have h3:sgn a=-1:=by unfold sgn;rw [if_pos h]
  rw [h3,← h2,e]
  unfold sgn
  generalize -a*b=z
  split<;>(try split)<;>(try split)<;>omega
 ·subst h;simp [sgn]
 ·rw [key a b h,show sgn a=1 by unfold sgn;rw [if_neg (by omega),if_neg (by omega)],Int.one_mul]
theorem qsgn_mul {k:Int} (hk:k≠0) (n1 n2 n3 n4:Int):qsgn (k*n1) (k*n2) (k*n3) (k*n4)=sgn k*qsgn n1 n2 n3 n4:=by
 have z:∀ n:Int,k*n=0↔n=0:=fun n=>by simp [Int.mul_eq_zero,hk]
 unfold qsgn
 simp only [z,sgn_mulq]
 split
 ·split
  ·split<;>rfl
  ·rfl
 ·rfl
theorem div_mul_natq (n:Int) {d:Nat} (hd:0<d):Rat.divInt n (d:Int)*((d:Int):Rat)=(n:Rat):=by
 rw [Rat.divInt_eq_div]
 have:((d:Int):Rat)≠0:=by
  intro e
  have:=Rat.intCast_inj.1 (e.trans rfl:((d:Int):Rat)=((0:Int):Rat))
  omega
 exact Rat.div_mul_cancel this
theorem rat_mul_denq (x:Rat):x*((x.den:Int):Rat)=(x.num:Rat):=by
 have:=div_mul_natq x.num x.den_pos
 rw [Rat.num_divInt_den] at this
 exact this
structure RotQ (a11 a12 a13 a21 a22 a23 a31 a32 a33 w x y z:Rat):Prop where
 e11:a11*(w*w+x*x+y*y+z*z)=w*w+x*x - y*y - z*z
 e12:a12*(w*w+x*x+y*y+z*z)=2*(x*y - w*z)
 e13:a13*(w*w+x*x+y*y+z*z)=2*(x*z+w*y)
 e21:a21*(w*w+x*x+y*y+z*z)=2*(x*y+w*z)
 e22:a22*(w*w+x*x+y*y+z*z)=w*w - x*x+y*y - z*z
 e23:a23*(w*w+x*x+y*y+z*z)=2*(y*z - w*x)
 e31:a31*(w*w+x*x+y*y+z*z)=2*(x*z - w*y)
 e32:a32*(w*w+x*x+y*y+z*z)=2*(y*z+w*x)
 e33:a33*(w*w+x*x+y*y+z*z)=w*w - x*x - y*y+z*z
end Go.Proofs.YtaldbfflkpgfoaaGreatDoor
/- The sizes of a rotation of small integers;the integers of a valid turn;the error of a placement. -/
namespace Go.Proofs.YtaldbfflkpgfoaaGreatDoor
open Go.RowKit
theorem num_den_le {a:Rat} {n d:Int} (hd:0<d) (h:a*(d:Rat)=(n:Rat)):a.num.natAbs≤n.natAbs∧(a.den:Int)≤d:=by
 have e:=rat_mul_denq a
 have hp:=den_posI a
 have k:a.num*d=n*(a.den:Int):=by
  have:((a.num*d:Int):Rat)=((n*(a.den:Int):Int):Rat):=by
   rw [Rat.intCast_mul,Rat.intCast_mul,← h,← e]
   generalize ((a.den:Int):Rat)=x
   generalize (d:Rat)=y
   grind
  exact Rat.intCast_inj.1 this
 have hdvd:(a.den:Int)∣a.num*d:=⟨n,by rw [k,Int.mul_comm]⟩
 have h2:(a.den:Int)∣d:=by
  have h1:a.den∣a.num.natAbs*d.natAbs:=by
   have:=Int.natAbs_dvd_natAbs.2 hdvd
   rwa [Int.natAbs_mul] at this
  have h3:=Nat.Coprime.dvd_of_dvd_mul_left (Nat.coprime_comm.1 a.reduced) h1
  rcases Int.natAbs_eq d with e | e
  ·rw [e];exact Int.ofNat_dvd.2 h3
  ·rw [e];exact Int.dvd_neg.2 (Int.ofNat_dvd.2 h3)
 obtain ⟨c,hc⟩:=h2
 have hcp:0<c:=by
  rcases Int.lt_or_le 0 c with h | h
  ·exact h
  ·have:=Int.mul_nonpos_of_nonneg_of_nonpos (Int.le_of_lt hp) h;omega
 have hn:n=a.num*c:=by
  rw [hc,← Int.mul_assoc,Int.mul_right_comm] at k
  exact (Int.eq_of_mul_eq_mul_right (by omega) k).symm
 constructor
 ·rw [hn,Int.natAbs_mul]
  exact Nat.le_mul_of_pos_right _ (by omega)
 ·rw [hc]
  have:=Int.mul_le_mul_of_nonneg_left (show 1≤c by omega) (Int.le_of_lt hp)
  omega
theorem rs_of_mul {k:Nat} {a:Rat} {n d:Int} (hd:0<d) (h:a*(d:Rat)=(n:Rat)) (h1:n.natAbs<2 ^ k) (h2:d<2 ^ k):RS k a:=by
 obtain ⟨e1,e2⟩:=num_den_le hd h
 refine ⟨Nat.lt_of_le_of_lt e1 h1,?_⟩
 unfold Sz
 have:((2 ^ k:Nat):Int)=2 ^ k:=by simp
 have:=den_posI a
 omega
theorem sq_le {a b:Int} (h1:-b≤a) (h2:a≤b):0≤a*a∧a*a≤b*b:=by
 have hb:0≤b:=by omega
 refine ⟨?_,?_⟩
 ·rcases Int.le_total 0 a with h | h
  ·exact Int.mul_nonneg h h
  ·exact Int.mul_nonneg_of_nonpos_of_nonpos h h
 ·rcases Int.le_total 0 a with h | h
  ·exact Int.mul_le_mul h2 h2 h hb
  ·have:=Int.mul_le_mul (show -a≤b by omega) (show -a≤b by omega) (by omega) hb
   rwa [Int.neg_mul_neg] at this
theorem rotq_rs {a11 a12 a13 a21 a22 a23 a31 a32 a33:Rat} {w x y z:Int} (h0:¬(w=0∧x=0∧y=0∧z=0))
  (b0:-1000000≤w∧w≤1000000) (b1:-1000000≤x∧x≤1000000) (b2:-1000000≤y∧y≤1000000) (b3:-1000000≤z∧z≤1000000)
  (h:RotQ a11 a12 a13 a21 a22 a23 a31 a32 a33 w x y z):
  RS 50 a11∧RS 50 a12∧RS 50 a13∧RS 50 a21∧RS 50 a22∧RS 50 a23∧RS 50 a31∧RS 50 a32∧RS 50 a33:=by
 obtain ⟨ai,ae,ad,ah,af,aj,ac,ab,aa⟩:=h
 have sw:=sq_le b0.1 b0.2;have sx:=sq_le b1.1 b1.2;have sy:=sq_le b2.1 b2.2;have sz:=sq_le b3.1 b3.2
 have hN:0<w*w+x*x+y*y+z*z:=by
  have z0:∀ t:Int,t*t=0→t=0:=fun t ht=>by rcases Int.mul_eq_zero.1 ht with h | h<;>exact h
  rcases Int.lt_or_le 0 (w*w+x*x+y*y+z*z) with h | h
  ·exact h
  ·exact absurd ⟨z0 _ (by omega),z0 _ (by omega),z0 _ (by omega),z0 _ (by omega)⟩ h0
 have pr:∀ p q:Int,-1000000≤p∧p≤1000000→-1000000≤q∧q≤1000000→-1000000000000≤p*q∧p*q≤1000000000000:=by
  intro p q hp hq
  have s1:=sq_le (a:=p+q) (b:=2000000) (by omega) (by omega)
  have s2:=sq_le (a:=p - q) (b:=2000000) (by omega) (by omega)
  have e1:(p+q)*(p+q)=p*p+2*(p*q)+q*q:=by grind
  have e2:(p - q)*(p - q)=p*p - 2*(p*q)+q*q:=by grind
  have:=sq_le hp.1 hp.2
  have:=sq_le hq.1 hq.2
  have e3:(p+q)*(p+q) - (p - q)*(p - q)=4*(p*q):=by grind
  omega
 have wx:=pr w x b0 b1;have wy:=pr w y b0 b2;have wz:=pr w z b0 b3;have xy:=pr x y b1 b2;have xz:=pr x z b1 b3;have yz:=pr y z b2 b3
 have go:∀ (a:Rat) (n:Int),a*(w*w+x*x+y*y+z*z)=(n:Rat)→n.natAbs<2 ^ 50→RS 50 a:=by
  intro a n e hn
  refine rs_of_mul (n:=n) hN ?_ hn (by omega)
  rw [Rat.intCast_add,Rat.intCast_add,Rat.intCast_add,Rat.intCast_mul,Rat.intCast_mul,Rat.intCast_mul,Rat.intCast_mul];exact e
 refine ⟨go _ (w*w+x*x - y*y - z*z) (ai.trans ?_) (by omega),go _ (2*(x*y - w*z)) (ae.trans ?_) (by omega),go _ (2*(x*z+w*y)) (ad.trans ?_) (by omega),
  go _ (2*(x*y+w*z)) (ah.trans ?_) (by omega),go _ (w*w - x*x+y*y - z*z) (af.trans ?_) (by omega),go _ (2*(y*z - w*x)) (aj.trans ?_) (by omega),
  go _ (2*(x*z - w*y)) (ac.trans ?_) (by omega),go _ (2*(y*z+w*x)) (ab.trans ?_) (by omega),go _ (w*w - x*x - y*y+z*z) (aa.trans ?_) (by omega)⟩<;>
  simp only [Rat.intCast_add,Rat.intCast_sub,Rat.intCast_mul]<;>rfl
theorem nq_posI {w x y z:Int} (h:¬(w=0∧x=0∧y=0∧z=0)):0<w*w+x*x+y*y+z*z:=by
 have sq:∀ t:Int,0≤t*t:=fun t=>by
  rcases Int.le_total 0 t with h | h
  ·exact Int.mul_nonneg h h
  ·exact Int.mul_nonneg_of_nonpos_of_nonpos h h
 have z0:∀ t:Int,t*t=0→t=0:=fun t ht=>by rcases Int.mul_eq_zero.1 ht with h | h<;>exact h
 have s1:=sq w;have s2:=sq x;have s3:=sq y;have s4:=sq z
 rcases Int.lt_or_le 0 (w*w+x*x+y*y+z*z) with hp | hp
 ·exact hp
 ·exact absurd ⟨z0 _ (by omega),z0 _ (by omega),z0 _ (by omega),z0 _ (by omega)⟩ h
structure VT (q0 q1 q2 q3:Int):Prop where
 b0:-12≤q0∧q0≤12
 b1:-12≤q1∧q1≤12
 b2:-12≤q2∧q2≤12
 b3:-12≤q3∧q3≤12
 g:qgcd q0 q1 q2 q3=1
 s:qsgn q0 q1 q2 q3=1
def chk (q0 q1 q2 q3 e:Int):Int:=
 if q0=0∧q1=0∧q2=0∧q3=0 then 19
 else if ¬((-12≤q0∧q0≤12)∧(-12≤q1∧q1≤12)∧(-12≤q2∧q2≤12)∧(-12≤q3∧q3≤12)) then 2
 else if ¬(qgcd q0 q1 q2 q3=1∧qsgn q0 q1 q2 q3=1) then 3 else e
theorem qsgn_cases {q0 q1 q2 q3:Int} (h:¬(q0=0∧q1=0∧q2=0∧q3=0)):qsgn q0 q1 q2 q3=1∨qsgn q0 q1 q2 q3=-1:=by
 have k:∀ z:Int,z≠0→sgn z=1∨sgn z=-1:=fun z hz=>by unfold sgn;split<;>(try split)<;>omega
 unfold qsgn
 split
 ·split
  ·split
   ·exact k _ (by omega)
   ·exact k _ (by omega)
  ·exact k _ (by omega)
 ·exact k _ (by omega)
theorem VT.ne {q0 q1 q2 q3:Int} (h:VT q0 q1 q2 q3):¬(q0=0∧q1=0∧q2=0∧q3=0):=by
 rintro ⟨rfl,rfl,rfl,rfl⟩;exact absurd h.s (by decide)
theorem VT.chk {q0 q1 q2 q3:Int} (h:VT q0 q1 q2 q3) (e:Int):chk q0 q1 q2 q3 e=e:=by
 unfold _root_.Go.Proofs.YtaldbfflkpgfoaaGreatDoor.chk
 rw [if_neg h.ne,if_neg (by simp only [Classical.not_not];exact ⟨h.b0,h.b1,h.b2,h.b3⟩),if_neg (by simp only [Classical.not_not];exact ⟨h.g,h.s⟩)]
theorem chk_ok {q0 q1 q2 q3 e:Int} (h:chk q0 q1 q2 q3 e=0):VT q0 q1 q2 q3∧e=0:=by
 unfold chk at h
 split at h
 ·omega
 ·split at h
  ·omega
  ·next h1 h2=>
   split at h
   ·omega
   ·next h3=>
    simp only [Classical.not_not] at h2 h3
    exact ⟨⟨h2.1,h2.2.1,h2.2.2.1,h2.2.2.2,h3.1,h3.2⟩,h⟩
theorem qprim_tdiv {q0 q1 q2 q3 n:Int} (h0:¬(q0=0∧q1=0∧q2=0∧q3=0)) (h:qgcd q0 q1 q2 q3∣n):Int.tdiv n (qgcd q0 q1 q2 q3*qsgn q0 q1 q2 q3)=qprim q0 q1 q2 q3 n:=by
 have hg:=qgcd_pos h0
 unfold qprim
 obtain ⟨c,rfl⟩:=h
 generalize qgcd q0 q1 q2 q3=g at*
 rw [Int.mul_ediv_cancel_left _ (by omega)]
 rcases qsgn_cases h0 with e | e
 ·rw [e,Int.mul_one,Int.mul_one,Int.mul_tdiv_cancel_left _ (by omega)]
 ·rw [e,Int.mul_neg,Int.mul_one,Int.tdiv_neg,Int.mul_tdiv_cancel_left _ (by omega)];omega
theorem qprim_ok {q0 q1 q2 q3:Int} (h0:¬(q0=0∧q1=0∧q2=0∧q3=0)):
  qgcd (qprim q0 q1 q2 q3 q0) (qprim q0 q1 q2 q3 q1) (qprim q0 q1 q2 q3 q2) (qprim q0 q1 q2 q3 q3)=1∧qsgn (qprim q0 q1 q2 q3 q0) (qprim q0 q1 q2 q3 q1) (qprim q0 q1 q2 q3 q2) (qprim q0 q1 q2 q3 q3)=1:=by
 have hg:=qgcd_pos h0
 obtain ⟨d0,d1,d2,d3⟩:=qgcd_dvd q0 q1 q2 q3
 have hs:=qsgn_cases h0
 have hk:qgcd q0 q1 q2 q3*qsgn q0 q1 q2 q3≠0:=Int.mul_ne_zero (by omega) (by omega)
 have go:∀ n,qgcd q0 q1 q2 q3∣n→n=qgcd q0 q1 q2 q3*qsgn q0 q1 q2 q3*qprim q0 q1 q2 q3 n:=by
  intro n ⟨c,hc⟩
  unfold qprim
  rw [hc]
  generalize qgcd q0 q1 q2 q3=g at*
  rw [Int.mul_ediv_cancel_left _ (by omega)]
  rcases hs with e | e<;>rw [e]<;>grind
 have e0:=go _ d0;have e1:=go _ d1;have e2:=go _ d2;have e3:=go _ d3
 generalize ac:qprim q0 q1 q2 q3 q0=p0 at*
 generalize ad:qprim q0 q1 q2 q3 q1=p1 at*
 generalize aa:qprim q0 q1 q2 q3 q2=p2 at*
 generalize ab:qprim q0 q1 q2 q3 q3=p3 at*
 have m1:=qgcd_mul (qgcd q0 q1 q2 q3*qsgn q0 q1 q2 q3) p0 p1 p2 p3
 have m2:=qsgn_mul hk p0 p1 p2 p3
 rw [← e0,← e1,← e2,← e3] at m1 m2
 have hab:((qgcd q0 q1 q2 q3*qsgn q0 q1 q2 q3).natAbs:Int)=qgcd q0 q1 q2 q3:=by
  rcases hs with e | e<;>rw [e]<;>omega
 have hsg:sgn (qgcd q0 q1 q2 q3*qsgn q0 q1 q2 q3)=qsgn q0 q1 q2 q3:=by
  rcases hs with e | e<;>rw [e]<;>unfold sgn<;>split<;>(try split)<;>omega
 rw [hab] at m1
 rw [hsg] at m2
 constructor
 ·have:qgcd q0 q1 q2 q3*qgcd p0 p1 p2 p3=qgcd q0 q1 q2 q3*1:=by rw [← m1,Int.mul_one]
  exact Int.eq_of_mul_eq_mul_left (by omega) this
 ·rcases hs with e | e<;>rw [e] at m2<;>omega
theorem qprim_le {q0 q1 q2 q3 n:Int} (h0:¬(q0=0∧q1=0∧q2=0∧q3=0)):(qprim q0 q1 q2 q3 n).natAbs≤n.natAbs:=by
 have hg:=qgcd_pos h0
 unfold qprim
 have:(n/qgcd q0 q1 q2 q3).natAbs≤n.natAbs:=by
  generalize qgcd q0 q1 q2 q3=g at*
  have h1:=Int.natAbs_ediv_le_natAbs n g
  exact h1
 rcases qsgn_cases h0 with e | e<;>rw [e]<;>omega
theorem IsInt.tight {w:World} {k m:Nat} {x y:Value} {z:Int} (h:IsInt w k x y z) (hs:Sz m z):IsInt w m x y z:=by
 obtain ⟨ao,len,cap,h1,h2,h3,_⟩:=h
 exact ⟨ao,len,cap,h1,h2,h3,hs⟩
theorem IsRat.tight {w:World} {k m:Nat} {c0 c1 c2 c3:Value} {q:Rat} (h:IsRat w k c0 c1 c2 c3 q) (hs:RS m q) (hm:64≤m):IsRat w m c0 c1 c2 c3 q:=by
 obtain ⟨h1,⟨D,h2,h3⟩,_⟩:=h
 refine ⟨h1.tight hs.1,⟨D,h2.tight ?_,h3⟩,hm⟩
 rcases h3 with rfl | ⟨rfl,_⟩
 ·exact hs.2
 ·exact Nat.two_pow_pos m
end Go.Proofs.YtaldbfflkpgfoaaGreatDoor
/- A run on symbols:rows of rationals. -/
namespace Go.Proofs.YtaldbfflkpgfoaaGreatDoor
open Go.RowKit

def rats:List Cl→Option (List (Nat × Rat))
 | []=>some []
 | .cr j 0 k q::.cr j1 1 _ _::.cr j2 2 _ _::.cr j3 3 _ _::r=>if Nat.beq j1 j&&Nat.beq j2 j&&Nat.beq j3 j then (match rats r with | some l=>some ((k,q)::l) | none=>none) else none
 | a::b::c::d::r=>if falC a&&nilC b&&falC c&&nilC d then (match rats r with | some l=>some ((64,0)::l) | none=>none) else none
 | _=>none
def IsRats (w:World):List Value→List (Nat × Rat)→Prop
 | [],[]=>True
 | a::b::c::d::v,x::l=>IsRat w x.1 a b c d x.2∧IsRats w v l
 | _,_=>False
theorem rats_ok {n:Nn} {X:Env} {w:World}:∀ {l:List Cl} {r:List (Nat × Rat)},rats l=some r→okL n X w l→IsRats w (l.map (Cl.den X)) r
 | l,r,h,hl=>by
  unfold rats at h
  split at h
  ·cases h;trivial
  ·rename_i j k q j1 _ _ j2 _ _ j3 _ _ t
   split at h
   ·rename_i hj
    simp only [Bool.and_eq_true,Nat.beq_eq] at hj
    obtain ⟨⟨rfl,rfl⟩,rfl⟩:=hj
    split at h
    ·rename_i l' hr
     cases h
     exact ⟨(hl (.cr j3 0 k q) (by simp)).2,rats_ok hr fun c hc=>hl c (by simp [hc])⟩
    ·cases h
   ·cases h
  ·rename_i a b c d t _
   split at h
   ·rename_i hh
    simp only [Bool.and_eq_true] at hh
    obtain ⟨⟨⟨h1,h2⟩,h3⟩,h4⟩:=hh
    split at h
    ·rename_i l' hr
     cases h
     refine ⟨?_,rats_ok hr fun c hc=>hl c (by simp [hc])⟩
     rw [falC_den h1 (hl a (by simp)),nilC_den h2,falC_den h3 (hl c (by simp)),nilC_den h4]
     exact IsRat.zero w (Nat.le_refl _)
    ·cases h
   ·cases h
  ·cases h
def asRats:SV→Option (List (Nat × Rat))
 | .so (.vg l)=>rats l
 | _=>none
theorem asRats_ok {n:Nn} {X:Env} {w:World} {v:SV} {r:List (Nat × Rat)} (h:asRats v=some r) (hv:v.ok n X w):∃ vs,v.den X=.agg vs.toArray∧IsRats w vs r:=by
 unfold asRats at h
 split at h
 ·exact ⟨_,rfl,rats_ok h hv⟩
 ·cases h
theorem IsRats.cons {w:World} {v:List Value} {x:Nat × Rat} {l:List (Nat × Rat)} (h:IsRats w v (x::l)):∃ a b c d u,v=a::b::c::d::u∧IsRat w x.1 a b c d x.2∧IsRats w u l:=by
 match v,h with
 | a::b::c::d::u,h=>exact ⟨a,b,c,d,u,rfl,h.1,h.2⟩
theorem IsRats.nil {w:World} {v:List Value} (h:IsRats w v []):v=[]:=by
 cases v with
 | nil=>rfl
 | cons a v=>simp [IsRats] at h
def Conv:List (Nat × Rat)→List (Nat × Rat)→Prop
 | [],[]=>True
 | (_,q)::l,(m,r)::l'=>(q=r∧RS m r∧64≤m)∧Conv l l'
 | _,_=>False
theorem IsRats.conv {w:World}:∀ {vs:List Value} {l l':List (Nat × Rat)},IsRats w vs l→Conv l l'→IsRats w vs l'
 | [],[],[],_,_=>trivial
 | a::b::c::d::vs,(k,q)::l,(m,r)::l',h,hc=>by
  obtain ⟨⟨rfl,h1,h2⟩,h3⟩:=hc
  exact ⟨h.1.tight h1 h2,IsRats.conv h.2 h3⟩
 | [],[],_::_,_,h=>by cases h
 | _,_::_,[],_,h=>by cases h
 | [],_::_,_::_,h,_=>by cases h
 | [_],_::_,_::_,h,_=>by cases h
 | [_,_],_::_,_::_,h,_=>by cases h
 | [_,_,_],_::_,_::_,h,_=>by cases h
 | _::_,[],_,h,_=>by simp [IsRats] at h
def cellsR:Nat→List (Nat × Rat)→List Cl
 | _,[]=>[]
 | j,(k,q)::l=>.cr j 0 k q::.cr j 1 k q::.cr j 2 k q::.cr j 3 k q::cellsR (j+1) l
def envV (X:Env) (n:Nat) (vs:List Value):Env:={X with R:=fun i c=>if i<n then X.R i c else vs.getD (4*(i - n)+c) undef}
theorem cellsR_ok {w:World} {X:Env} {n:Nn} (vs:List Value):∀ (l:List (Nat × Rat)) (us:List Value) (j m:Nat),IsRats w us l→vs.drop (4*j)=us→m=n.r+j+l.length→
  (cellsR (n.r+j) l).map (Cl.den (envV X n.r vs))=us∧okL ⟨n.b,m,n.z⟩ (envV X n.r vs) w (cellsR (n.r+j) l)
 | [],[],j,m,_,_,_=>⟨rfl,fun _ h=>by cases h⟩
 | (k,q)::l,a::b::c::d::us,j,m,h,hd,hm=>by
  have hR:∀ t,(envV X n.r vs).R (n.r+j) t=vs.getD (4*j+t) undef:=fun t=>by
   show (if n.r+j<n.r then _ else _)=_
   rw [if_neg (by omega),Nat.add_sub_cancel_left]
  have hg:∀ t,vs.getD (4*j+t) undef=(a::b::c::d::us).getD t undef:=fun t=>by
   rw [← hd,List.getD_eq_getElem?_getD,List.getD_eq_getElem?_getD,List.getElem?_drop]
  have e0:(envV X n.r vs).R (n.r+j) 0=a:=by rw [hR,hg];rfl
  have e1:(envV X n.r vs).R (n.r+j) 1=b:=by rw [hR,hg];rfl
  have e2:(envV X n.r vs).R (n.r+j) 2=c:=by rw [hR,hg];rfl
  have e3:(envV X n.r vs).R (n.r+j) 3=d:=by rw [hR,hg];rfl
  simp only [List.length_cons] at hm
  obtain ⟨i1,i2⟩:=cellsR_ok (X:=X) (n:=n) vs l us (j+1) m h.2 (by
   have:=congrArg (List.drop 4) hd
   rw [List.drop_drop] at this
   simpa [Nat.mul_add] using this) (by omega)
  refine ⟨?_,fun x hx=>?_⟩
  ·simp only [cellsR,List.map_cons,Cl.den,e0,e1,e2,e3]
   rw [show n.r+j+1=n.r+(j+1) by omega,i1]
  ·have hl:Nat.blt (n.r+j) m=true:=blt_to (by omega)
   have hq:IsRat w k ((envV X n.r vs).R (n.r+j) 0) ((envV X n.r vs).R (n.r+j) 1) ((envV X n.r vs).R (n.r+j) 2) ((envV X n.r vs).R (n.r+j) 3) q:=by rw [e0,e1,e2,e3];exact h.1
   simp only [cellsR,List.mem_cons] at hx
   rcases hx with rfl | rfl | rfl | rfl | hx
   ·exact ⟨by simp only [Cl.lt,hl];rfl,hq⟩
   ·exact ⟨by simp only [Cl.lt,hl];rfl,hq⟩
   ·exact ⟨by simp only [Cl.lt,hl];rfl,hq⟩
   ·exact ⟨by simp only [Cl.lt,hl];rfl,hq⟩
   ·exact i2 x (by rw [show n.r+(j+1)=n.r+j+1 by omega];exact hx)
 | _::_,[],_,_,h,_,_=>by cases h
 | _::_,[_],_,_,h,_,_=>by cases h
 | _::_,[_,_],_,_,h,_,_=>by cases h
 | _::_,[_,_,_],_,_,h,_,_=>by cases h
 | [],_::_,_,_,h,_,_=>by simp [IsRats] at h
theorem envV_agr (X:Env) (n:Nn) (vs:List Value):Agr n X (envV X n.r vs):=⟨fun _ _=>rfl,fun _ _ hi=>(if_pos hi).symm,fun _ _ _=>rfl,rfl⟩
theorem rats_holds1 {n:Nn} {X:Env} {w w':World} {e:Ending} {l:List (Nat × Rat)} {t:IntKind} {z:Int} (h:(∃ vs:List Value,e=.returned (.tuple #[.agg vs.toArray,.int t z])∧IsRats w' vs l)∧Gr w w'):(Tr.leaf (.st [.vg (cellsR n.r l),.vc (.ci t z z z)]) l.length 0).holds n X w e w':=by
 obtain ⟨⟨vs,rfl,h1⟩,g⟩:=h
 obtain ⟨a,b⟩:=cellsR_ok (X:=X) (n:=n) vs l vs 0 (n.r+l.length) h1 rfl (by omega)
 refine ⟨envV X n.r vs,?_,g,envV_agr X n vs,fun x hx=>?_⟩
 ·simp only [SV.den,TV.den,List.map,Cl.den,dnL]
  rw [show cellsR n.r l=cellsR (n.r+0) l from rfl,a]
 ·simp only [List.mem_cons,List.not_mem_nil,or_false] at hx
  rcases hx with rfl | rfl
  ·exact b
  ·exact ⟨rfl,Int.le_refl _,Int.le_refl _⟩
end Go.Proofs.YtaldbfflkpgfoaaGreatDoor
/- Placements compared;what a placement's function answers. -/
namespace Go.Proofs.YtaldbfflkpgfoaaGreatDoor
open Go.RowKit
section
variable {P:Program} {a:Act} {o:Oper} {w:World}
theorem rv_chr (t:TypeId) (x y:Operand) (X:List UInt8) (k:Nat) (hop:o.op=.index t x y) (hx:a.eval x=.string ⟨X.toArray⟩) (hy:a.eval y=.int .i64 (k:Int)) (hk:k<X.length) (hu:P.underlying t=some .string):RunV P a o w (.int .u8 ((X.getD k 0).toNat:Int)):=by
 unfold RunV execOp
 simp only [hop,hx,hy]
 simp [go_sem,hu,hk]
 rfl
theorem rv_quon (t t2:TypeId) (x y:Operand) (A B C:Int) (hop:o.op=.binOp .quo t x y t2) (hx:a.eval x=.int .i64 A) (hy:a.eval y=.int .i64 B) (hC:Int.tdiv A B=C) (h1:-9223372036854775808≤C) (h2:C≤9223372036854775807) (hB:B≠0):RunV P a o w (.int .i64 C):=by
 have e2:IntKind.i64.wrap C=C:=by rw [IntKind.wrap_i64];omega
 unfold RunV execOp
 simp only [hop,hx,hy]
 simp [go_sem,binOp,eqGuard,Op.intDiv,hB,hC,e2]
end
section
variable {q0 q1 q2 q3:Int}
theorem gcd_end0 {g n a b:Int} (h:Int.gcd g n=Int.gcd a b) (hb:decide ((0:Int)<n)=false) (hg:0≤g) (hn:0≤n):g=(Int.gcd a b:Int):=by
 have:=of_decide_eq_false hb
 have h0:n=0:=by omega
 rw [h0,Int.gcd_zero_right] at h
 omega
theorem common_eq:(Int.gcd (Int.gcd (Int.gcd (Int.gcd 0 (q0.natAbs:Int):Int) (q1.natAbs:Int):Int) (q2.natAbs:Int):Int) (q3.natAbs:Int):Int)=qgcd q0 q1 q2 q3:=by
 unfold qgcd;simp [Int.gcd]
theorem pos_sgn {z:Int} (hz:z≠0):decide ((0:Int)<z)=decide (sgn z=1):=by
 unfold sgn
 rw [Bool.eq_iff_iff,decide_eq_true_eq,decide_eq_true_eq]
 split<;>(try split)<;>omega
theorem posq0 (h0:(q0 !=(0:Int))=true):decide ((0:Int)<q0)=decide (qsgn q0 q1 q2 q3=1):=by
 have h0:q0≠0:=by simpa using h0
 rw [show qsgn q0 q1 q2 q3=sgn q0 from if_neg h0];exact pos_sgn h0
theorem posq1 (h0:(q0 !=(0:Int))=false) (h1:(q1 !=(0:Int))=true):decide ((0:Int)<q1)=decide (qsgn q0 q1 q2 q3=1):=by
 have h0:q0=0:=by simpa using h0
 have h1:q1≠0:=by simpa using h1
 rw [show qsgn q0 q1 q2 q3=sgn q1 by unfold qsgn;rw [if_pos h0,if_neg h1]];exact pos_sgn h1
theorem posq2 (h0:(q0 !=(0:Int))=false) (h1:(q1 !=(0:Int))=false) (h2:(q2 !=(0:Int))=true):decide ((0:Int)<q2)=decide (qsgn q0 q1 q2 q3=1):=by
 have h0:q0=0:=by simpa using h0
 have h1:q1=0:=by simpa using h1
 have h2:q2≠0:=by simpa using h2
 rw [show qsgn q0 q1 q2 q3=sgn q2 by unfold qsgn;rw [if_pos h0,if_pos h1,if_neg h2]];exact pos_sgn h2
theorem posq3 (h0:(q0 !=(0:Int))=false) (h1:(q1 !=(0:Int))=false) (h2:(q2 !=(0:Int))=false) (h3:(q3 !=(0:Int))=true):decide ((0:Int)<q3)=decide (qsgn q0 q1 q2 q3=1):=by
 have h0:q0=0:=by simpa using h0
 have h1:q1=0:=by simpa using h1
 have h2:q2=0:=by simpa using h2
 have h3:q3≠0:=by simpa using h3
 rw [show qsgn q0 q1 q2 q3=sgn q3 by unfold qsgn;rw [if_pos h0,if_pos h1,if_pos h2]];exact pos_sgn h3
theorem posq4 (h0:(q0 !=(0:Int))=false) (h1:(q1 !=(0:Int))=false) (h2:(q2 !=(0:Int))=false) (h3:(q3 !=(0:Int))=false):false=decide (qsgn q0 q1 q2 q3=1):=by
 have h0:q0=0:=by simpa using h0
 have h1:q1=0:=by simpa using h1
 have h2:q2=0:=by simpa using h2
 have h3:q3=0:=by simpa using h3
 subst h0 h1 h2 h3;rfl
theorem prim_td {n:Int} (h0:¬(q0=0∧q1=0∧q2=0∧q3=0)) (hd:qgcd q0 q1 q2 q3∣n) (hs:qsgn q0 q1 q2 q3=1):Int.tdiv n (qgcd q0 q1 q2 q3)=qprim q0 q1 q2 q3 n:=by
 have:=qprim_tdiv h0 hd
 rwa [hs,Int.mul_one] at this
theorem prim_tm {n:Int} (h0:¬(q0=0∧q1=0∧q2=0∧q3=0)) (hd:qgcd q0 q1 q2 q3∣n) (hs:qsgn q0 q1 q2 q3=-1):Int.tdiv n (0 - qgcd q0 q1 q2 q3)=qprim q0 q1 q2 q3 n:=by
 have:=qprim_tdiv h0 hd
 rwa [hs,Int.mul_neg,Int.mul_one,← Int.zero_sub] at this
end
end Go.Proofs.YtaldbfflkpgfoaaGreatDoor
/- Printed by a program of the prover's:the check of a placement. -/
namespace Go.Proofs.YtaldbfflkpgfoaaGreatDoor
open Go.RowKit

noncomputable def bd15:Code:=(findL 100016 ((Tryz.f15.body).getD .skip)).getD .skip
noncomputable def es15:List (Nat × Ent):=[(17,.ord [(true,0),(true,1),(true,2),(true,3),(true,4),(true,5)] [])]
noncomputable def lp15 (s:Sg) (k:KT):Rs:=match s with
 | ⟨(x0::x1::x2::x3::x4::.so (.vc (.ci .i64 g lg hg))::x6::x7::x8::.so (.vc (.ci .i64 m _ _))::x10::x11::x12::x13::x14::x15::x16::x17::x18::x19::x20::x21::x22::x23::x24::x25::x26::x27::x28::x29::x30::x31::x32::x33::x34::x35::x36::x37::x38::x39::_::_::_::_::_::_::x46::x47::x48::x49::x50::x51::x52::x53::x54::x55::x56::x57::x58::x59::[]),bl,nu,nr,nz,ds⟩=>if ile 0 lg&&ile hg 9223372036854775807&&ile 0 0 then asL (decide (0≤m∧m≤9223372036854775807)) true (k (.x 4) ⟨(x0::x1::x2::x3::x4::.so (.vc (.ci .i64 (Int.gcd g m:Int) 0 9223372036854775807))::x6::x7::x8::.so (.vc (.ci .i64 0 0 0))::x10::x11::x12::x13::x14::x15::x16::x17::x18::x19::x20::x21::x22::x23::x24::x25::x26::x27::x28::x29::x30::x31::x32::x33::x34::x35::x36::x37::x38::x39::.so (.vc (.ci .i64 0 0 0))::.so (.vc (.cb false (some false)))::.sj nz 0::.sj nz 1::.sj nz 2::.sj nz 3::x46::x47::x48::x49::x50::x51::x52::x53::x54::x55::x56::x57::x58::x59::[]),bl,nu,nr,nz+1,ds⟩) else none
 | _=>none
theorem ru115 (x0 x1 x2 x3 x4 x6 x7 x8 aO aK ab aP az ac aD aC aA af aB aH al aJ aT aU ar aL aG ap aX ax aS ak aF aE aw aI aa aM aQ ay ad aV aN au aq ae ah aW av aR aj ai a3 a0 aZ aY a1 a2:SV) (g m:Int) (bl:List (Nat × List Cl)) (nu nr nz:Nat) (k:KT):xCode Tryz.prog 0 0 (fun _ _ _ _=>none) es15 bd15 ⟨(x0::x1::x2::x3::x4::.so (.vc (.ci .i64 g 0 9223372036854775807))::x6::x7::x8::.so (.vc (.ci .i64 m 1 9223372036854775807))::aO::aK::ab::aP::az::ac::aD::aC::aA::af::aB::aH::al::aJ::aT::aU::ar::aL::aG::ap::aX::ax::aS::ak::aF::aE::aw::aI::aa::aM::a3::a0::aZ::aY::a1::a2::aQ::ay::ad::aV::aN::au::aq::ae::ah::aW::av::aR::aj::ai::[]),bl,nu,nr,nz,.e⟩ k=k .n ⟨(x0::x1::x2::x3::x4::.so (.vc (.ci .i64 m 1 9223372036854775807))::x6::x7::x8::.so (.vc (.ci .i64 (g % m) 0 (9223372036854775807 - 1)))::aO::aK::ab::aP::az::ac::aD::aC::aA::af::aB::aH::al::aJ::aT::aU::ar::aL::aG::ap::aX::ax::aS::ak::aF::aE::aw::aI::aa::aM::.so (.vc (.ci .i64 m 1 9223372036854775807))::.so (.vc (.cb (m !=0) (some true)))::.so (.vc (.ci .i64 m 1 9223372036854775807))::.so (.vc (.ci .i64 g 0 9223372036854775807))::.so (.vc (.ci .i64 m 1 9223372036854775807))::.so (.vc (.ci .i64 (g % m) 0 (9223372036854775807 - 1)))::aQ::ay::ad::aV::aN::au::aq::ae::ah::aW::av::aR::aj::ai::[]),bl,nu,nr,nz,.e⟩:=by kernel_rfl
theorem ru015 (x0 x1 x2 x3 x4 x6 x7 x8 aS aO ab aT aD ad aH aG aE ah aF aL ar aN aX aY ax aP aK au a1 aB aW aq aJ aI aA aM aa aQ aU aC ae aZ aR ay av af ai a0 az aV ap ak a3 a2 aj ac al aw:SV) (g:Int) (bl:List (Nat × List Cl)) (nu nr nz:Nat) (k:KT):xCode Tryz.prog 0 0 (fun _ _ _ _=>none) es15 bd15 ⟨(x0::x1::x2::x3::x4::.so (.vc (.ci .i64 g 0 9223372036854775807))::x6::x7::x8::.so (.vc (.ci .i64 0 0 0))::aS::aO::ab::aT::aD::ad::aH::aG::aE::ah::aF::aL::ar::aN::aX::aY::ax::aP::aK::au::a1::aB::aW::aq::aJ::aI::aA::aM::aa::aQ::a3::a2::aj::ac::al::aw::aU::aC::ae::aZ::aR::ay::av::af::ai::a0::az::aV::ap::ak::[]),bl,nu,nr,nz,.e⟩ k=k (.x 4) ⟨(x0::x1::x2::x3::x4::.so (.vc (.ci .i64 g 0 9223372036854775807))::x6::x7::x8::.so (.vc (.ci .i64 0 0 0))::aS::aO::ab::aT::aD::ad::aH::aG::aE::ah::aF::aL::ar::aN::aX::aY::ax::aP::aK::au::a1::aB::aW::aq::aJ::aI::aA::aM::aa::aQ::.so (.vc (.ci .i64 0 0 0))::.so (.vc (.cb false (some false)))::aj::ac::al::aw::aU::aC::ae::aZ::aR::ay::av::af::ai::a0::az::aV::ap::ak::[]),bl,nu,nr,nz,.e⟩:=by kernel_rfl
theorem lp15_ok:LpOK Tryz.prog lp15 bd15:=by
 intro Post B Q k X s w L hp hk h hL hR
 have hmx:Tryz.prog.follows .mixedOrders=true:=by kernel_rfl
 have hco:codeOK Tryz.prog es15 bd15=true:=by kernel_rfl
 have hno:noLp es15=true:=by kernel_rfl
 unfold lp15 at h
 split at h
 ·rename_i x0 x1 x2 x3 x4 g lg hg x6 x7 x8 m lm hm aY aX ah av aT ax aV aU aG ai aH aJ aN aA a2 aw aQ au aW aO aC ap a1 aF aI aq al aK aD ar ba a5 a6 a8 bb a9 aZ aS ay a3 aL aR aP az aj aB ak a0 aM aE bl nu nr nz ds
  split at h
  ·rename_i hc
   obtain ⟨L',hkk,rfl⟩:=asL_some h
   obtain ⟨hm,hL⟩:=hL
   have hm:=of_decide_eq_true hm
   simp only [Bool.and_eq_true,ile_eq,decide_eq_true_eq] at hc
   have hg:lg≤g∧g≤hg:=(hR.fr (.so (.vc (.ci .i64 g lg hg))) (List.mem_of_getElem? (i:=5) rfl)).2
   have r0:=((hR.ds .e).set (d:=5) (v:=.so (.vc (.ci .i64 g 0 9223372036854775807))) ⟨rfl,by omega,by omega⟩).set (d:=9) (v:=.so (.vc (.ci .i64 m 0 9223372036854775807))) ⟨rfl,hm.1,hm.2⟩
   refine wp_loop_inv (fun n a w'=>∃ (X':Env) (g' m':Int) (ad ac ab ae aa af:SV),m'.toNat=n∧a=actOf X' (x0::x1::x2::x3::x4::.so (.vc (.ci .i64 g' 0 9223372036854775807))::x6::x7::x8::.so (.vc (.ci .i64 m' 0 9223372036854775807))::aY::aX::ah::av::aT::ax::aV::aU::aG::ai::aH::aJ::aN::aA::a2::aw::aQ::au::aW::aO::aC::ap::a1::aF::aI::aq::al::aK::aD::ar::ad::ac::ab::ae::aa::af::aZ::aS::ay::a3::aL::aR::aP::az::aj::aB::ak::a0::aM::aE::[])∧Rep B X' ⟨(x0::x1::x2::x3::x4::.so (.vc (.ci .i64 g' 0 9223372036854775807))::x6::x7::x8::.so (.vc (.ci .i64 m' 0 9223372036854775807))::aY::aX::ah::av::aT::ax::aV::aU::aG::ai::aH::aJ::aN::aA::a2::aw::aQ::au::aW::aO::aC::ap::a1::aF::aI::aq::al::aK::aD::ar::ad::ac::ab::ae::aa::af::aZ::aS::ay::a3::aL::aR::aP::az::aj::aB::ak::a0::aM::aE::[]),bl,nu,nr,nz,.e⟩ w'∧Int.gcd g' m'=Int.gcd g m∧(0≤g'∧g'≤9223372036854775807)∧0≤m'∧m'≤9223372036854775807) m.toNat ⟨X,g,m,ba,a5,a6,a8,bb,a9,rfl,rfl,r0,rfl,⟨by omega,by omega⟩,hm⟩ ?_
   rintro _ _ w' ⟨X',g',m',ad,ac,ab,ae,aa,af,rfl,rfl,hR',hgcd,g0,m0⟩ K hK
   by_cases hz:m'=0
   ·subst hz
    refine body_ok (Q:=Exit.then K Q) hmx hco hno (hp.then K) (ru015 x0 x1 x2 x3 x4 x6 x7 x8 aY aX ah av aT ax aV aU aG ai aH aJ aN aA a2 aw aQ au aW aO aC ap a1 aF aI aq al aK aD ar aZ aS ay a3 aL aR aP az aj aB ak a0 aM aE ad ac ab ae aa af g' bl nu nr nz) (hR'.set (d:=9) (v:=.so (.vc (.ci .i64 0 0 0))) ⟨rfl,Int.le_refl _,Int.le_refl _⟩) fun X2 w2 a4=>?_
    obtain ⟨X3,a7,he⟩:=a4.junk [42,43,44,45]
    have eg:g'=(Int.gcd g m:Int):=by rw [Int.gcd_zero_right] at hgcd;omega
    subst eg
    exact (congrArg (fun a=>Q (.exit 4) a w2) he).mp (hk (.x 4) _ X3 w2 L' hkk hL (a7.ds ds))
   ·refine body_ok (Q:=Exit.then K Q) hmx hco hno (hp.then K) (ru115 x0 x1 x2 x3 x4 x6 x7 x8 aY aX ah av aT ax aV aU aG ai aH aJ aN aA a2 aw aQ au aW aO aC ap a1 aF aI aq al aK aD ar aZ aS ay a3 aL aR aP az aj aB ak a0 aM aE ad ac ab ae aa af g' m' bl nu nr nz) (hR'.set (d:=9) (v:=.so (.vc (.ci .i64 m' 1 9223372036854775807))) ⟨rfl,by omega,m0.2⟩) fun X2 w2 a4=>?_
    have e1:=Int.emod_nonneg g' hz
    have e2:=Int.emod_lt_of_pos g' (show 0<m' by omega)
    refine hK (g' % m').toNat _ _ (by omega) ⟨X2,m',g' % m',_,_,_,_,_,_,rfl,rfl,(a4.set (d:=5) (v:=.so (.vc (.ci .i64 m' 0 9223372036854775807))) ⟨rfl,by omega,m0.2⟩).set (d:=9) (v:=.so (.vc (.ci .i64 (g' % m') 0 9223372036854775807))) ⟨rfl,e1,by omega⟩,(gcd_stepZ g0.1 (by omega)).trans hgcd,⟨by omega,m0.2⟩,e1,by omega⟩
  ·cases h
 ·cases h
noncomputable def es15L:List (Nat × Ent):=(100016,.lp lp15)::es15
section
variable {qq0 qq1 qq2 qq3:Int}
theorem qsgn0 (h:(qq0==(0:Int))=false):qsgn qq0 qq1 qq2 qq3=sgn qq0∧qq0≠0:=by
 have h:qq0≠0:=by simpa using h
 exact ⟨if_neg h,h⟩
theorem qsgn1 (h0:(qq0==(0:Int))=true) (h:(qq1==(0:Int))=false):qsgn qq0 qq1 qq2 qq3=sgn qq1∧qq1≠0:=by
 have h0:qq0=0:=by simpa using h0
 have h:qq1≠0:=by simpa using h
 refine ⟨?_,h⟩
 unfold qsgn;rw [if_pos h0,if_neg h]
theorem qsgn2 (h0:(qq0==(0:Int))=true) (h1:(qq1==(0:Int))=true) (h:(qq2==(0:Int))=false):qsgn qq0 qq1 qq2 qq3=sgn qq2∧qq2≠0:=by
 have h0:qq0=0:=by simpa using h0
 have h1:qq1=0:=by simpa using h1
 have h:qq2≠0:=by simpa using h
 refine ⟨?_,h⟩
 unfold qsgn;rw [if_pos h0,if_pos h1,if_neg h]
theorem qsgn3 (h0:(qq0==(0:Int))=true) (h1:(qq1==(0:Int))=true) (h2:(qq2==(0:Int))=true) (hz:¬(qq0=0∧qq1=0∧qq2=0∧qq3=0)):qsgn qq0 qq1 qq2 qq3=sgn qq3∧qq3≠0:=by
 have h0:qq0=0:=by simpa using h0
 have h1:qq1=0:=by simpa using h1
 have h2:qq2=0:=by simpa using h2
 refine ⟨?_,fun h3=>hz ⟨h0,h1,h2,h3⟩⟩
 unfold qsgn;rw [if_pos h0,if_pos h1,if_pos h2]
theorem chk_g {g E:Int} (hG:g=qgcd qq0 qq1 qq2 qq3) (h:(g !=(1:Int))=true):(3:Int)=(if ¬(qgcd qq0 qq1 qq2 qq3=1∧qsgn qq0 qq1 qq2 qq3=1) then 3 else E):=by
 rw [if_pos]
 rintro ⟨h1,_⟩
 rw [hG,h1] at h;exact absurd h (by decide)
theorem chk_s {s E:Int} (hS:qsgn qq0 qq1 qq2 qq3=sgn s∧s≠0) (h:decide (s<(0:Int))=true):(3:Int)=(if ¬(qgcd qq0 qq1 qq2 qq3=1∧qsgn qq0 qq1 qq2 qq3=1) then 3 else E):=by
 rw [if_pos]
 rintro ⟨_,h1⟩
 rw [hS.1] at h1
 have h:=of_decide_eq_true h
 unfold sgn at h1;rw [if_pos h] at h1;omega
theorem chk_e {g s E:Int} (hG:g=qgcd qq0 qq1 qq2 qq3) (hg:(g !=(1:Int))=false) (hS:qsgn qq0 qq1 qq2 qq3=sgn s∧s≠0) (h:decide (s<(0:Int))=false):E=(if ¬(qgcd qq0 qq1 qq2 qq3=1∧qsgn qq0 qq1 qq2 qq3=1) then 3 else E):=by
 rw [if_neg]
 simp only [Classical.not_not]
 have h:=of_decide_eq_false h
 have hs:=hS.2
 refine ⟨by rw [← hG];simpa using hg,?_⟩
 rw [hS.1];unfold sgn;rw [if_neg h,if_neg hs]
end
def cVPv:ConT:=fun args nr _=>match args with
 | [.so (.vg [c1,c2,c3])]=>match txC c1,txC c2,txC c3 with
  | some (k1,x1),some (k2,x2),some (k3,x3)=>tr (Nat.ble k1 64&&Nat.ble k2 64&&Nat.ble k3 64) (.leaf (.st [.vg (cellsR nr [(64,x1),(64,x2),(64,x3)]),.vc (.ci .i64 0 0 0)]) 3 0)
  | _,_,_=>none
 | _=>none
theorem cVPv_ok {I:World→Prop} (hI:∀ w,I w→Mx w):ConOK Tryz.prog I 57 cVPv:=by
 intro args E n w T hw ha hT _
 unfold cVPv at hT
 split at hT
 ·rename_i c1 c2 c3
  split at hT
  ·rename_i k1 x1 k2 x2 k3 x3 e1 e2 e3
   obtain ⟨hb,rfl⟩:=tr_some hT
   simp only [Bool.and_eq_true,Nat.ble_eq] at hb
   obtain ⟨⟨b4,b5⟩,b6⟩:=hb
   have g:=fun c hc=>ha _ (List.mem_singleton.2 rfl) c hc
   obtain ⟨d1,s1⟩:=txC_ok e1 (g c1 (by simp))
   obtain ⟨d2,s2⟩:=txC_ok e2 (g c2 (by simp))
   obtain ⟨d3,s3⟩:=txC_ok e3 (g c3 (by simp))
   have s1:=s1.mono b4
   have s2:=s2.mono b5
   have s3:=s3.mono b6
   have le:∀ {x:Rat},RS 64 x→((ratL x).length:Int)≤400:=fun h=>by have:=ratL_len h.1 h.2;omega
   show Calls _ _ #[.agg #[c1.den E,c2.den E,c3.den E]] w _
   rw [d1,d2,d3]
   refine (vparse_v (k:=64) x1 x2 x3 s1 s2 s3 (by decide) (by decide) (le s1) (le s2) (le s3) w (hI w hw)).mono fun e w' he=>rats_holds1 ?_
   obtain ⟨⟨t0,t1,t2,t3,t4,t5,t6,t7,t8,t9,aa,ab,rfl,h1,h2,h3⟩,g⟩:=he
   exact ⟨⟨[t0,t1,t2,t3,t4,t5,t6,t7,t8,t9,aa,ab],rfl,h1,h2,h3,trivial⟩,g⟩
  ·cases hT
 ·cases hT
noncomputable def sysCk:Sys:=⟨Tryz.prog,2,199,[(15,es15L)],[(57,cVPv)],Mx⟩
theorem sysCk_ok:sysCk.OK where
 mixed:=by kernel_rfl
 calls:=fun f h0 h1=>by
  have:(List.range 199).all (fun f=>Nat.blt f 2||okCall Tryz.prog f)=true:=by kernel_rfl
  have:=List.all_eq_true.1 this f (List.mem_range.2 h1)
  simp only [Bool.or_eq_true] at this
  exact this.resolve_left (fun e=>by have:=blt_of e;exact absurd h0 (by show ¬ 2≤f;omega))
 tab:=by
  have:[(15,es15L)].all (okTab Tryz.prog)=true:=by kernel_rfl
  exact fun x hx=>List.all_eq_true.1 this x hx
 lps:=fun x hx fn c h2 hb=>by
  have:x=(15,es15L):=List.mem_singleton.1 hx
  subst this
  have:fn=Tryz.f15:=Option.some.inj (h2.symm.trans Tryz.func15)
  subst this
  have:c=(Tryz.f15.body).getD .skip:=by rw [hb];rfl
  subst this
  repeat' first | exact trivial | exact lp15_ok | refine ⟨?_,?_⟩
 con:=fun x hx=>by
  have:x=(57,cVPv):=List.mem_singleton.1 hx
  subst this
  exact cVPv_ok fun w h=>h
 inv:=fun w w' h g=>h.gr g
def absq (q:Int):Int:=if 0 - q>q then 0 - q else q
def gq4 (q0 q1 q2 q3:Int):Int:=(Int.gcd (Int.gcd (Int.gcd (Int.gcd 0 q0:Int) q1:Int) q2:Int) q3:Int)
def re (n:Int):Lf:=.ret (.so (.vc (.ci .i64 n n n)))
def nng (m:Int) (l:Lf):Lf:=.as (decide (0≤m∧m≤9223372036854775807)) true l
def eg (fin:Lf) (g s:Int):Lf:=.br (g !=1) (re 3) (.br (decide (s<0)) (re 3) fin)
def treeG (ab:Int→Int) (fin:Lf) (q0 q1 q2 q3:Int):Lf:=nng (ab q0) (.br (q0==0)
 (nng (ab q1) (.br (q1==0)
  (nng (ab q2) (.br (q2==0) (nng (ab q3) (eg fin (gq4 (ab q0) (ab q1) (ab q2) (ab q3)) q3)) (nng (ab q3) (eg fin (gq4 (ab q0) (ab q1) (ab q2) (ab q3)) q2))))
  (nng (ab q2) (.as (q1==0) false (nng (ab q3) (eg fin (gq4 (ab q0) (ab q1) (ab q2) (ab q3)) q1))))))
 (nng (ab q1) (.as (q0==0) false (nng (ab q2) (.as (q0==0) false (nng (ab q3) (eg fin (gq4 (ab q0) (ab q1) (ab q2) (ab q3)) q0)))))))
def treeCk (q0 q1 q2 q3:Int):Lf:=.br (conjL [q0,q1,q2,q3] [0,0,0,0]) (re 19) (treeG absq (re 0) q0 q1 q2 q3)
theorem runCk (q0 q1 q2 q3:Int) (x1 x2 x3:Rat):runF sysCk 15 [.so (.vg [.ci .i64 q0 (-12) 12,.ci .i64 q1 (-12) 12,.ci .i64 q2 (-12) 12,.ci .i64 q3 (-12) 12,.cw (ratL x1) (some (64,x1)),.cw (ratL x2) (some (64,x2)),.cw (ratL x3) (some (64,x3))])] 0 0 (.s .e (.s (.s (.s (.s .e (.s .e .e)) (.s .e (.s .e .e))) (.f (.s .e (.s .e .e)))) (.f (.f (.s .e (.s .e .e))))))=some (treeCk q0 q1 q2 q3):=by kernel_rfl
def CkP (E:Int) (v:SV):Prop:=∃ lo hi,v=.so (.vc (.ci .i64 E lo hi))
theorem re_ok {E n:Int} (h:n=E):LOK (CkP E) (re n):=⟨n,n,by rw [h]⟩
theorem conj0 {qq0 qq1 qq2 qq3:Int}:conjL [qq0,qq1,qq2,qq3] [0,0,0,0]=decide (qq0=0∧qq1=0∧qq2=0∧qq3=0):=by
 rw [Bool.eq_iff_iff,decide_eq_true_eq];simp [conjL,eqL,and_assoc]
section
variable {qq0 qq1 qq2 qq3:Int} (i0:-12≤qq0∧qq0≤12) (i1:-12≤qq1∧qq1≤12) (i2:-12≤qq2∧qq2≤12) (i3:-12≤qq3∧qq3≤12)
include i0 i1 i2 i3
theorem treeG_ok {ab:Int→Int} (hab:∀ q,-12≤q∧q≤12→ab q=(q.natAbs:Int)) (hz:¬(qq0=0∧qq1=0∧qq2=0∧qq3=0)) {fin:Lf} {E:Int} (hf:LOK (CkP E) fin):
  LOK (CkP (if ¬(qgcd qq0 qq1 qq2 qq3=1∧qsgn qq0 qq1 qq2 qq3=1) then 3 else E)) (treeG ab fin qq0 qq1 qq2 qq3):=by
 have nn:∀ {P:SV→Prop} {q:Int} {l:Lf},-12≤q∧q≤12→LOK P l→LOK P (nng (ab q) l):=fun {P q l} h hl=>⟨decide_eq_true (by rw [hab q h];omega),hl⟩
 have hg:gq4 (ab qq0) (ab qq1) (ab qq2) (ab qq3)=qgcd qq0 qq1 qq2 qq3:=by
  unfold gq4;rw [hab _ i0,hab _ i1,hab _ i2,hab _ i3];exact common_eq
 have e:∀ {s:Int},qsgn qq0 qq1 qq2 qq3=sgn s∧s≠0→LOK (CkP (if ¬(qgcd qq0 qq1 qq2 qq3=1∧qsgn qq0 qq1 qq2 qq3=1) then 3 else E)) (eg fin (gq4 (ab qq0) (ab qq1) (ab qq2) (ab qq3)) s):=fun hS=>
  ⟨fun h=>re_ok (chk_g hg h),fun h=>⟨fun k=>re_ok (chk_s hS k),fun k=>by rw [← chk_e (E:=E) hg h hS k];exact hf⟩⟩
 exact nn i0 ⟨fun h0=>nn i1 ⟨fun h1=>nn i2 ⟨fun h2=>nn i3 (e (qsgn3 h0 h1 h2 hz)),fun h2=>nn i3 (e (qsgn2 h0 h1 h2))⟩,
  fun h1=>nn i2 ⟨h1,nn i3 (e (qsgn1 h0 h1))⟩⟩,fun h0=>nn i1 ⟨h0,nn i2 ⟨h0,nn i3 (e (qsgn0 h0))⟩⟩⟩
theorem treeCk_ok:LOK (CkP (chk qq0 qq1 qq2 qq3 0)) (treeCk qq0 qq1 qq2 qq3):=by
 refine ⟨fun h=>re_ok ?_,fun h=>?_⟩
 ·rw [conj0] at h;unfold chk;rw [if_pos (of_decide_eq_true h)]
 ·rw [conj0] at h
  have hz:=of_decide_eq_false h
  unfold chk;rw [if_neg hz,if_neg (by simp only [Classical.not_not];exact ⟨i0,i1,i2,i3⟩)]
  exact treeG_ok i0 i1 i2 i3 (fun q h=>by unfold absq;split<;>omega) hz (re_ok rfl)
theorem mcheckr (ac aa ab:Rat) (ae:RS 64 ac) (ad:RS 64 aa) (af:RS 64 ab) (w:World) (hm:Mx w):
  Calls Tryz.prog 15 #[.agg #[.int .i64 qq0,.int .i64 qq1,.int .i64 qq2,.int .i64 qq3,.string ⟨(ratL ac).toArray⟩,.string ⟨(ratL aa).toArray⟩,.string ⟨(ratL ab).toArray⟩]] w fun e w'=>e=.returned (.int .i64 (chk qq0 qq1 qq2 qq3 0))∧Gr w w':=by
 have tx:∀ {x},RS 64 x→(Cl.cw (ratL x) (some (64,x))).ok ⟨0,0,0⟩ (envR []) w:=fun h=>⟨rfl,fun k q e=>by cases e;exact ⟨rfl,h⟩⟩
 refine (run_calls sysCk sysCk_ok (runCk qq0 qq1 qq2 qq3 ac aa ab) (X:=envR []) hm (okF1 (okA_ok ⟨⟨rfl,i0⟩,⟨rfl,i1⟩,⟨rfl,i2⟩,⟨rfl,i3⟩,tx ae,tx ad,tx af,trivial⟩)) (treeCk_ok i0 i1 i2 i3)).mono fun e w' he=>?_
 obtain ⟨v,X',n,rfl,g,_,_,lo,hi,rfl⟩:=he
 exact ⟨rfl,g⟩
end
end Go.Proofs.YtaldbfflkpgfoaaGreatDoor
/- What rational.read meets at any text:the library's functions,integer.Parse at texts out of their form. -/
namespace Go.Proofs.YtaldbfflkpgfoaaGreatDoor
open Go.RowKit

theorem trimS_nil {l cs:List UInt8}:Lib.trimS l cs=[]↔∀ c ∈ l,cs.contains c=true:=by
 constructor
 ·intro h c hc
  rcases Bool.eq_false_or_eq_true (cs.contains c) with e | e
  ·exact e
  ·exact absurd h (trimS_some hc e)
 ·exact trimS_all
theorem digit_iff {c:UInt8}:[48,49,50,51,52,53,54,55,56,57].contains c=true↔48≤c.toNat∧c.toNat≤57:=by
 constructor
 ·intro h
  simp only [List.contains_cons,List.contains_nil,Bool.or_eq_true,beq_iff_eq,Bool.or_false] at h
  rcases h with rfl | rfl | rfl | rfl | rfl | rfl | rfl | rfl | rfl | rfl<;>decide
 ·exact digit_in
theorem allD_trim (l:List UInt8):allD l=((l !=([]:List UInt8))&&(Lib.trimS l [48,49,50,51,52,53,54,55,56,57]==([]:List UInt8))):=by
 rw [Bool.eq_iff_iff]
 simp only [allD,Bool.and_eq_true,decide_eq_true_eq,List.all_eq_true,bne_iff_ne,beq_iff_eq,trimS_nil,digit_iff,isD_iff]
 rw [← List.length_pos_iff]
theorem zeros_trim (l:List UInt8):zerosL l=(Lib.trimS l [48]==([]:List UInt8)):=by
 rw [Bool.eq_iff_iff]
 simp [zerosL,trimS_nil]
theorem trim_any (l:List UInt8) (hl:l.length≤1000000) (w:World):
  Calls Tryz.prog 142 #[.string ⟨l.toArray⟩,.string ⟨#[48,49,50,51,52,53,54,55,56,57]⟩] w fun e w'=>e=.returned (.string ⟨(Lib.trimS l [48,49,50,51,52,53,54,55,56,57]).toArray⟩)∧Gr w w':=by
 refine (Any.strings_Trim_laid Tryz.lays160 (by kernel_rfl) ⟨l.toArray⟩ ⟨#[48,49,50,51,52,53,54,55,56,57]⟩ w (by show l.toArray.size≤_;simp;omega) (by decide) (ascii_of_all (by decide))).mono ?_
 rintro e w1 ⟨he,g⟩
 exact ⟨he,g⟩
theorem trim_any0 (l:List UInt8) (hl:l.length≤1000000) (w:World):
  Calls Tryz.prog 142 #[.string ⟨l.toArray⟩,.string ⟨#[48]⟩] w fun e w'=>e=.returned (.string ⟨(Lib.trimS l [48]).toArray⟩)∧Gr w w':=by
 refine (Any.strings_Trim_laid Tryz.lays160 (by kernel_rfl) ⟨l.toArray⟩ ⟨#[48]⟩ w (by show l.toArray.size≤_;simp;omega) (by decide) (ascii_of_all (by decide))).mono ?_
 rintro e w1 ⟨he,g⟩
 exact ⟨he,g⟩
theorem trimprefix_any (l:List UInt8) (w:World):Calls Tryz.prog 141 #[.string ⟨l.toArray⟩,.string ⟨#[45]⟩] w fun e w'=>e=.returned (.string ⟨(strip l).toArray⟩)∧Gr w w':=by
 refine (Tryz.strings_TrimPrefix _ _ _).mono ?_
 rintro e w1 ⟨he,rfl⟩
 refine ⟨?_,Gr.refl _⟩
 rw [he]
 show Ending.returned (.string ⟨(Lib.trimPrefix l [45]).toArray⟩)=_
 have:Lib.trimPrefix l [45]=strip l:=by
  cases l with
  | nil=>rfl
  | cons c l=>
   rw [strip_cons]
   by_cases hc:c=45
   ·subst hc;simp [Lib.trimPrefix,Lib.hasPrefix]
   ·have:¬ (45:UInt8)=c:=fun e=>hc e.symm
    simp [Lib.trimPrefix,Lib.hasPrefix,List.isPrefixOf,hc,this]
 rw [this]
theorem cut_any (l:List UInt8) (hl:l.length≤1000000) {w:World} (hm:Mx w):
  Calls Tryz.prog 139 #[.string ⟨l.toArray⟩,.string ⟨#[47]⟩] w fun e w'=>e=.returned (.tuple #[.string ⟨(numL l).toArray⟩,.string ⟨((cutL l).2.getD []).toArray⟩,.bool (cutL l).2.isSome])∧Gr w w':=by
 obtain ⟨m,hm⟩:=hm
 refine (Tryz.strings_Cut ⟨l.toArray⟩ ⟨#[47]⟩ m w (by show l.toArray.size<_;simp;omega) hm).mono ?_
 rintro e w1 ⟨he,n,rfl⟩
 refine ⟨?_,(Below.refl _ _).drewN _⟩
 rw [he]
 have e1:(⟨l.toArray⟩:ByteArray).data.toList=l:=by simp
 rw [e1,show (⟨#[47]⟩:ByteArray).data.toList=[47] from rfl,cut_slash]
theorem cut_no (l:List UInt8) (hl:l.length≤1000000) (hc:cutL l=(l,none)) {w:World} (hm:Mx w):
  Calls Tryz.prog 139 #[.string ⟨l.toArray⟩,.string ⟨#[47]⟩] w fun e w'=>e=.returned (.tuple #[.string ⟨l.toArray⟩,.string ⟨([]:List UInt8).toArray⟩,.bool false])∧Gr w w':=by
 refine (cut_any l hl hm).mono ?_
 rintro e w1 ⟨he,g⟩
 exact ⟨by rw [he,numL,hc];rfl,g⟩
theorem cut_yes (X A D:List UInt8) (hl:X.length≤1000000) (hc:cutL X=(A,some D)) {w:World} (hm:Mx w):
  Calls Tryz.prog 139 #[.string ⟨X.toArray⟩,.string ⟨#[47]⟩] w fun e w'=>e=.returned (.tuple #[.string ⟨A.toArray⟩,.string ⟨D.toArray⟩,.bool true])∧Gr w w':=by
 refine (cut_any X hl hm).mono ?_
 rintro e w1 ⟨he,g⟩
 exact ⟨by rw [he,numL,hc];rfl,g⟩
theorem strip_len (l:List UInt8):(strip l).length≤l.length:=by
 rcases strip_cases l with e | ⟨e,_⟩
 ·have:=congrArg List.length e;simp at this;omega
 ·have:=congrArg List.length e;omega
theorem strip_dig {l:List UInt8} (h:allD l=true):allD (strip l)=true:=by
 cases l with
 | nil=>exact h
 | cons c l=>
  rw [strip_cons]
  by_cases hc:c=45
  ·have:=(allD_all h).2 c (by simp)
   subst hc
   simp at this
  ·rw [if_neg hc];exact h
theorem badZ_head {l:List UInt8} (h:allD l=true) (h2:zerosL l=false) (h3:(l[0]?==some 48)=true):badZ l=true:=by
 cases l with
 | nil=>cases h3
 | cons c l=>
  have hc:c=48:=by simpa using h3
  subst hc
  cases l with
  | nil=>simp [zerosL] at h2
  | cons d l=>simp [badZ,strip_cons]
set_option maxHeartbeats 1000000 in
theorem parse_bad (l:List UInt8) (hl:l.length≤60000) (h1:allD (strip l)=true) (h2:badZ l=true) (w:World):
  Calls Tryz.prog 143 #[.string ⟨l.toArray⟩] w fun e w'=>e=.returned (.tuple #[.agg #[.bool false,.slice none 0 0],.int .i64 3])∧Gr w w':=by
 have aa:=allD_all h1
 obtain ⟨s,hs⟩:∃ s:ByteArray,s=⟨l.toArray⟩:=⟨_,rfl⟩
 have hss:s.size=l.length:=by rw [hs];show l.toArray.size=_;simp
 obtain ⟨D,hD⟩:∃ D:ByteArray,D=⟨(strip l).toArray⟩:=⟨_,rfl⟩
 have hDl:D.data.toList=strip l:=by rw [hD]
 have hDs:D.size=(strip l).length:=by rw [hD];show (strip l).toArray.size=_;simp
 have ad:0<D.size:=by rw [hDs];exact List.length_pos_iff.2 aa.1
 have hslen:=strip_len l
 have hc:∀ w,Calls Tryz.prog 169 #[.string s,.string ⟨#[45]⟩] w fun e w'=>e=.returned (.tuple #[.string D,.bool (decide ((strip l).length<l.length))])∧w=w':=by
  intro w
  rw [hs,hD]
  refine (Tryz.strings_CutPrefix _ _ _).mono ?_
  rintro e w1 ⟨he,rfl⟩
  refine ⟨?_,rfl⟩
  rw [he]
  show Ending.returned (.tuple #[.string ⟨(Lib.trimPrefix l [45]).toArray⟩,.bool (Lib.hasPrefix l [45])])=_
  cases l with
  | nil=>rfl
  | cons c l=>
   rw [strip_cons]
   by_cases hc:c=45
   ·subst hc;simp [Lib.trimPrefix,Lib.hasPrefix]
   ·have:¬ (45:UInt8)=c:=fun e=>hc e.symm
    simp [Lib.trimPrefix,Lib.hasPrefix,List.isPrefixOf,hc,this]
 have hcn:=contains_no D (by rw [hDl];exact aa.2)
 have hne:(D.toList==[])=false:=by
  rw [beq_eq_false_iff_ne,ByteArray.toList_eq,hDl];exact aa.1
 have ab:(D[0].toNat:Int)=48∧(1<D.size∨(strip l).length<l.length):=by
  unfold badZ at h2
  simp only [Bool.and_eq_true,Bool.or_eq_true,decide_eq_true_eq] at h2
  have hh:=head48 ad
  rw [hDl,h2.1] at hh
  have hh:=(beq_iff_eq.1 hh.symm)
  refine ⟨hh,?_⟩
  rw [hDs]
  omega
 have ac:((D[0].toNat:Int)==48)=true:=by rw [ab.1];rfl
 have hor:=ab.2
 have af:D.size≤60000:=by omega
 have ae:s.size≤60000:=by omega
 rw [← hs]
 have HD:=Lib.hid hDl
 clear ab hDl hDs hD hs hss h2 aa h1 hslen
 go_enter Tryz.func143,Tryz.ntmps143
 go_wp2_with fail
 (with_reducible refine (hc _).mono ?_)
 rintro e w1 ⟨rfl,rfl⟩
 clear hc
 go_wp2_with fail
 (with_reducible refine (hcn _).mono ?_)
 rintro e w2 ⟨rfl,g2⟩
 clear hcn
 have p3:=Gr.heap g2 (heap_alloc_new w (.cells #[.bool false,.slice none 0 0] 34))
 have d0:=cells_of p3 0
 have d1:=cells_of p3 1
 have d2:=free_of p3
 have gw:Gr w w2:=(Gr.alloc w _).trans g2
 by_cases hD2:(1:Int)<(D.size:Int)
 ·go_wp2
  have p4:=heap_setCell_at (i:=1) (.slice none 0 0) (heap_setCell_at (i:=0) (.bool false) p3)
  have hst:=(St.setCell w2 w.heap.size 0 (.bool false)).trans (St.setCell _ w.heap.size 1 (.slice none 0 0))
  exact bodyPost_ret (v:=.tuple #[.agg #[.bool false,.slice none 0 0],.int .i64 3]) (ret_cell_tmp' _ _ _ rfl rfl p4 (by kernel_rfl) rfl) rfl ⟨rfl,hst.gr gw (Nat.le_refl _)⟩
 ·have hlt:(strip l).length<l.length:=by
   rcases hor with h | h
   ·omega
   ·exact h
  go_wp2
  have p4:=heap_setCell_at (i:=1) (.slice none 0 0) (heap_setCell_at (i:=0) (.bool false) p3)
  have hst:=(St.setCell w2 w.heap.size 0 (.bool false)).trans (St.setCell _ w.heap.size 1 (.slice none 0 0))
  exact bodyPost_ret (v:=.tuple #[.agg #[.bool false,.slice none 0 0],.int .i64 3]) (ret_cell_tmp' _ _ _ rfl rfl p4 (by kernel_rfl) rfl) rfl ⟨rfl,hst.gr gw (Nat.le_refl _)⟩
end Go.Proofs.YtaldbfflkpgfoaaGreatDoor
/- Printed by a program of the prover's:rational.read at any text. -/
namespace Go.Proofs.YtaldbfflkpgfoaaGreatDoor
open Go.RowKit

set_option maxRecDepth 100000 in
set_option maxHeartbeats 1000000 in
theorem rdigits_a (l:List UInt8) (_hl:l.length≤1000000) (w:World):
    Calls Tryz.prog 140 #[(.string ⟨(l:List UInt8).toArray⟩)] w fun e w'=>e=.returned (.bool (allD l))∧Gr w w':=by
 go_enter Tryz.func140,Tryz.ntmps140
 have hB:=Gr.refl w
 refine wp_seq_k (fun K1 k1=>?_)
 refine rg [0] ?_
 refine sv 2 (.bool false) ?_
 refine sq_nil ?_
 refine k1 _ _ ?_
 try clear k1 K1
 refine wp_seq_k (fun K2 k2=>?_)
 refine rg [0,1,2,3,4,5,6,7] ?_
 refine sv 3 (.string ⟨(l:List UInt8).toArray⟩) ?_
 refine sw 4 (.bool (((l) !=([]:List UInt8)))) rfl (rv_sne 9 9 _ _ (l) ([]) rfl rfl rfl) ?_
 rcases Bool.eq_false_or_eq_true (((l) !=([]:List UInt8))) with hb3 | hb3
 ·refine sw 5 (.bool true) rfl (RunV.bool (x:=((l) !=([]:List UInt8))) (rvk (by kernel_rfl)) hb3) ?_
  refine sv 6 (.string ⟨(l:List UInt8).toArray⟩) ?_
  refine se ?_
  refine ec 7 (trim_any (l) (by omega) _) ?_
  rintro e4 w4 ⟨rfl,g4⟩
  refine ⟨_,rfl,?_⟩
  replace hB:=hB.trans g4
  simp only [p3,p4]
  refine sw 8 (.bool (((Lib.trimS (l) [48,49,50,51,52,53,54,55,56,57])==([]:List UInt8)))) rfl (rv_seq 9 9 _ _ (Lib.trimS (l) [48,49,50,51,52,53,54,55,56,57]) ([]) rfl rfl rfl) ?_
  refine sv 9 (.bool (((Lib.trimS (l) [48,49,50,51,52,53,54,55,56,57])==([]:List UInt8)))) ?_
  refine sv 2 (.bool (((Lib.trimS (l) [48,49,50,51,52,53,54,55,56,57])==([]:List UInt8)))) ?_
  refine sq_nil ?_
  refine k2 _ _ ?_
  try clear k2 K2
  refine wp_ret ?_
  refine bodyPost_ret (v:=(.bool (((Lib.trimS (l) [48,49,50,51,52,53,54,55,56,57])==([]:List UInt8))))) (ret_tmp rfl rfl) rfl ⟨?_,hB⟩
  exact (by rw [allD_trim,hb3];rfl)
 ·refine sw 5 (.bool false) rfl (RunV.bool (x:=((l) !=([]:List UInt8))) (rvk (by kernel_rfl)) hb3) ?_
  refine ss 6 ?_
  refine ss 7 ?_
  refine ss 8 ?_
  refine sv 9 (.bool false) ?_
  refine sv 2 (.bool false) ?_
  refine sq_nil ?_
  refine k2 _ _ ?_
  try clear k2 K2
  refine wp_ret ?_
  refine bodyPost_ret (v:=(.bool false)) (ret_tmp rfl rfl) rfl ⟨?_,hB⟩
  exact (by rw [allD_trim,hb3];rfl)

set_option maxRecDepth 100000 in
set_option maxHeartbeats 1000000 in
theorem read_long (X:List UInt8) (most:Int) (_hx:X.length≤1000000) (_hlong:most<(X.length:Int)) (w:World) (hm:Mx w):
    Calls Tryz.prog 120 #[(.string ⟨(X:List UInt8).toArray⟩),(.int .i64 (most))] w fun e w'=>e=.returned (.tuple #[.agg #[.bool false,.slice none 0 0,.bool false,.slice none 0 0],.int .i64 5])∧Gr w w':=by
 have hl:decide (most<((X).length:Int))=true:=by simp;omega
 go_enter Tryz.func120,Tryz.ntmps120
 have hB:=Gr.refl w
 refine wp_seq_k (fun K1 k1=>?_)
 refine rg [0,1] ?_
 refine se ?_
 refine ea 36 #[(.bool false),(.slice none 0 0),(.bool false),(.slice none 0 0)] 4 hB fun b2 w2 g2 L2 o2 q2 hB=>?_
 simp only [p3,p4]
 refine sv 5 (.int .i64 0) ?_
 refine sq_nil ?_
 refine k1 _ _ ?_
 try clear k1 K1
 refine wp_seq_k (fun K3 k3=>?_)
 refine rg [0,1] ?_
 refine sv 13 (.string ⟨(X:List UInt8).toArray⟩) ?_
 refine sv 6 (.string ⟨(X:List UInt8).toArray⟩) ?_
 refine sq_nil ?_
 refine k3 _ _ ?_
 try clear k3 K3
 refine wp_seq_k (fun K4 k4=>?_)
 refine rg [0,1,2,3,4,5,6,7,8] ?_
 refine sv 15 (.string ⟨(X:List UInt8).toArray⟩) ?_
 refine se ?_
 refine ec 16 (cut_any (X) (by omega) (hm.gr hB)) ?_
 rintro e5 w5 ⟨rfl,g5⟩
 refine ⟨_,rfl,?_⟩
 replace hB:=hB.trans g5
 simp only [p3,p4]
 refine sv 14 (.tuple #[(.string ⟨(numL (X):List UInt8).toArray⟩),(.string ⟨((cutL (X)).2.getD []:List UInt8).toArray⟩),(.bool ((cutL (X)).2.isSome))]) ?_
 refine sv 17 (.string ⟨(numL (X):List UInt8).toArray⟩) ?_
 refine sv 18 (.string ⟨((cutL (X)).2.getD []:List UInt8).toArray⟩) ?_
 refine sv 19 (.bool ((cutL (X)).2.isSome)) ?_
 refine sv 7 (.string ⟨(numL (X):List UInt8).toArray⟩) ?_
 refine sv 8 (.string ⟨((cutL (X)).2.getD []:List UInt8).toArray⟩) ?_
 refine sv 9 (.bool ((cutL (X)).2.isSome)) ?_
 refine sq_nil ?_
 refine k4 _ _ ?_
 try clear k4 K4
 refine wp_seq_k (fun K6 k6=>?_)
 refine wp_block ?_
 refine wp_seq_k (fun K7 k7=>?_)
 refine rg [0,1,2,3,4] ?_
 refine sv 21 (.string ⟨(X:List UInt8).toArray⟩) ?_
 refine sv 22 (.int .i64 (((X).length:Int))) ?_
 refine sv 23 (.int .i64 (most)) ?_
 refine sw 24 (.bool true) rfl (RunV.bool (x:=decide (most<((X).length:Int))) (rvk (by kernel_rfl)) hl) ?_
 refine sv 20 (.bool true) ?_
 refine sq_nil ?_
 refine k7 _ _ ?_
 try clear k7 K7
 refine wp_cond_true rfl ?_
 refine wp_seq_k (fun K8 k8=>?_)
 refine rg [0,1,2] ?_
 refine sv 25 (.agg #[(.bool false),(.slice none 0 0),(.bool false),(.slice none 0 0)]) ?_
 refine se ?_
 replace L2:=L2.gr g5
 refine es 36 0 (.agg #[(.bool false),(.slice none 0 0),(.bool false),(.slice none 0 0)]) [(.bool false),(.slice none 0 0),(.bool false),(.slice none 0 0)] #[(.bool false),(.slice none 0 0),(.bool false),(.slice none 0 0)] L2 hB q2 ⟨rfl,rfl,rfl,rfl,trivial⟩ fun w9 ab aa L2 hB=>?_
 refine sv 5 (.int .i64 5) ?_
 refine sq_nil ?_
 refine k8 _ _ ?_
 try clear k8 K8
 refine wp_ret ?_
 simp only [Exit.then,Exit.inBlock]
 refine bodyPost_ret (v:=(.tuple #[(.agg #[(.bool false),(.slice none 0 0),(.bool false),(.slice none 0 0)]),(.int .i64 5)])) (ret_cell_tmp' _ _ _ rfl rfl L2 (by kernel_rfl) rfl) rfl ⟨?_,hB⟩
 exact rfl

set_option maxRecDepth 100000 in
set_option maxHeartbeats 1000000 in
theorem read_ns (X:List UInt8) (most:Int) (_hx:X.length≤14000) (_hlong:(X.length:Int)≤most) (hc:cutL X=(X,none)) (h1:allD (strip X)=false) (w:World) (hm:Mx w):
    Calls Tryz.prog 120 #[(.string ⟨(X:List UInt8).toArray⟩),(.int .i64 (most))] w fun e w'=>e=.returned (.tuple #[.agg #[.bool false,.slice none 0 0,.bool false,.slice none 0 0],.int .i64 14])∧Gr w w':=by
 have hl:decide (most<((X).length:Int))=false:=by simp;omega
 have hsX:(strip (X)).length≤(X).length:=strip_len _
 go_enter Tryz.func120,Tryz.ntmps120
 have hB:=Gr.refl w
 refine wp_seq_k (fun K1 k1=>?_)
 refine rg [0,1] ?_
 refine se ?_
 refine ea 36 #[(.bool false),(.slice none 0 0),(.bool false),(.slice none 0 0)] 4 hB fun b2 w2 g2 L2 o2 q2 hB=>?_
 simp only [p3,p4]
 refine sv 5 (.int .i64 0) ?_
 refine sq_nil ?_
 refine k1 _ _ ?_
 try clear k1 K1
 refine wp_seq_k (fun K3 k3=>?_)
 refine rg [0,1] ?_
 refine sv 13 (.string ⟨(X:List UInt8).toArray⟩) ?_
 refine sv 6 (.string ⟨(X:List UInt8).toArray⟩) ?_
 refine sq_nil ?_
 refine k3 _ _ ?_
 try clear k3 K3
 refine wp_seq_k (fun K4 k4=>?_)
 refine rg [0,1,2,3,4,5,6,7,8] ?_
 refine sv 15 (.string ⟨(X:List UInt8).toArray⟩) ?_
 refine se ?_
 refine ec 16 (cut_no (X) (by omega) hc (hm.gr hB)) ?_
 rintro e5 w5 ⟨rfl,g5⟩
 refine ⟨_,rfl,?_⟩
 replace hB:=hB.trans g5
 simp only [p3,p4]
 refine sv 14 (.tuple #[(.string ⟨(X:List UInt8).toArray⟩),(.string ⟨([]:List UInt8).toArray⟩),(.bool false)]) ?_
 refine sv 17 (.string ⟨(X:List UInt8).toArray⟩) ?_
 refine sv 18 (.string ⟨([]:List UInt8).toArray⟩) ?_
 refine sv 19 (.bool false) ?_
 refine sv 7 (.string ⟨(X:List UInt8).toArray⟩) ?_
 refine sv 8 (.string ⟨([]:List UInt8).toArray⟩) ?_
 refine sv 9 (.bool false) ?_
 refine sq_nil ?_
 refine k4 _ _ ?_
 try clear k4 K4
 refine wp_seq_k (fun K6 k6=>?_)
 refine wp_block ?_
 refine wp_seq_k (fun K7 k7=>?_)
 refine rg [0,1,2,3,4] ?_
 refine sv 21 (.string ⟨(X:List UInt8).toArray⟩) ?_
 refine sv 22 (.int .i64 (((X).length:Int))) ?_
 refine sv 23 (.int .i64 (most)) ?_
 refine sw 24 (.bool false) rfl (RunV.bool (x:=decide (most<((X).length:Int))) (rvk (by kernel_rfl)) hl) ?_
 refine sv 20 (.bool false) ?_
 refine sq_nil ?_
 refine k7 _ _ ?_
 try clear k7 K7
 refine wp_cond_false rfl ?_
 refine wp_seq_k (fun K8 k8=>?_)
 refine rg [0,1,2,3,4,5,6,7,8,9,10,11,12] ?_
 refine sv 27 (.string ⟨(X:List UInt8).toArray⟩) ?_
 refine se ?_
 refine ec 28 (trimprefix_any (X) _) ?_
 rintro e9 w9 ⟨rfl,g9⟩
 refine ⟨_,rfl,?_⟩
 replace hB:=hB.trans g9
 simp only [p3,p4]
 refine se ?_
 refine ec 29 (rdigits_a (strip (X)) (by omega) _) ?_
 rintro ah af ⟨rfl,aa⟩
 refine ⟨_,rfl,?_⟩
 replace hB:=hB.trans aa
 simp only [p3,p4]
 refine sw 30 (.bool true) rfl (RunV.bool (x:=!(allD (strip (X)))) (rvk (by kernel_rfl)) (show (!(allD (strip (X))))=true by rw [h1];rfl)) ?_
 refine sv 31 (.bool true) ?_
 refine ss 32 ?_
 refine ss 33 ?_
 refine ss 34 ?_
 refine ss 35 ?_
 refine ss 36 ?_
 refine ss 37 ?_
 refine sv 38 (.bool true) ?_
 refine sv 26 (.bool true) ?_
 refine sq_nil ?_
 refine k8 _ _ ?_
 try clear k8 K8
 refine wp_cond_true rfl ?_
 refine wp_seq_k (fun ac ab=>?_)
 refine rg [0,1,2] ?_
 refine sv 39 (.agg #[(.bool false),(.slice none 0 0),(.bool false),(.slice none 0 0)]) ?_
 refine se ?_
 replace L2:=L2.gr (g5.trans (g9.trans aa))
 refine es 36 0 (.agg #[(.bool false),(.slice none 0 0),(.bool false),(.slice none 0 0)]) [(.bool false),(.slice none 0 0),(.bool false),(.slice none 0 0)] #[(.bool false),(.slice none 0 0),(.bool false),(.slice none 0 0)] L2 hB q2 ⟨rfl,rfl,rfl,rfl,trivial⟩ fun ai ad ae L2 hB=>?_
 refine sv 5 (.int .i64 14) ?_
 refine sq_nil ?_
 refine ab _ _ ?_
 try clear ab ac
 refine wp_ret ?_
 simp only [Exit.then,Exit.inBlock]
 refine bodyPost_ret (v:=(.tuple #[(.agg #[(.bool false),(.slice none 0 0),(.bool false),(.slice none 0 0)]),(.int .i64 14)])) (ret_cell_tmp' _ _ _ rfl rfl L2 (by kernel_rfl) rfl) rfl ⟨?_,hB⟩
 exact rfl

set_option maxRecDepth 100000 in
set_option maxHeartbeats 1000000 in
theorem read_nf (X:List UInt8) (most:Int) (_hx:X.length≤14000) (_hlong:(X.length:Int)≤most) (hc:cutL X=(X,none)) (h1:allD (strip X)=true) (h2:badZ X=true) (w:World) (hm:Mx w):
    Calls Tryz.prog 120 #[(.string ⟨(X:List UInt8).toArray⟩),(.int .i64 (most))] w fun e w'=>e=.returned (.tuple #[.agg #[.bool false,.slice none 0 0,.bool false,.slice none 0 0],.int .i64 3])∧Gr w w':=by
 have hl:decide (most<((X).length:Int))=false:=by simp;omega
 have hsX:(strip (X)).length≤(X).length:=strip_len _
 go_enter Tryz.func120,Tryz.ntmps120
 have hB:=Gr.refl w
 refine wp_seq_k (fun K1 k1=>?_)
 refine rg [0,1] ?_
 refine se ?_
 refine ea 36 #[(.bool false),(.slice none 0 0),(.bool false),(.slice none 0 0)] 4 hB fun b2 w2 g2 L2 o2 q2 hB=>?_
 simp only [p3,p4]
 refine sv 5 (.int .i64 0) ?_
 refine sq_nil ?_
 refine k1 _ _ ?_
 try clear k1 K1
 refine wp_seq_k (fun K3 k3=>?_)
 refine rg [0,1] ?_
 refine sv 13 (.string ⟨(X:List UInt8).toArray⟩) ?_
 refine sv 6 (.string ⟨(X:List UInt8).toArray⟩) ?_
 refine sq_nil ?_
 refine k3 _ _ ?_
 try clear k3 K3
 refine wp_seq_k (fun K4 k4=>?_)
 refine rg [0,1,2,3,4,5,6,7,8] ?_
 refine sv 15 (.string ⟨(X:List UInt8).toArray⟩) ?_
 refine se ?_
 refine ec 16 (cut_no (X) (by omega) hc (hm.gr hB)) ?_
 rintro e5 w5 ⟨rfl,g5⟩
 refine ⟨_,rfl,?_⟩
 replace hB:=hB.trans g5
 simp only [p3,p4]
 refine sv 14 (.tuple #[(.string ⟨(X:List UInt8).toArray⟩),(.string ⟨([]:List UInt8).toArray⟩),(.bool false)]) ?_
 refine sv 17 (.string ⟨(X:List UInt8).toArray⟩) ?_
 refine sv 18 (.string ⟨([]:List UInt8).toArray⟩) ?_
 refine sv 19 (.bool false) ?_
 refine sv 7 (.string ⟨(X:List UInt8).toArray⟩) ?_
 refine sv 8 (.string ⟨([]:List UInt8).toArray⟩) ?_
 refine sv 9 (.bool false) ?_
 refine sq_nil ?_
 refine k4 _ _ ?_
 try clear k4 K4
 refine wp_seq_k (fun K6 k6=>?_)
 refine wp_block ?_
 refine wp_seq_k (fun K7 k7=>?_)
 refine rg [0,1,2,3,4] ?_
 refine sv 21 (.string ⟨(X:List UInt8).toArray⟩) ?_
 refine sv 22 (.int .i64 (((X).length:Int))) ?_
 refine sv 23 (.int .i64 (most)) ?_
 refine sw 24 (.bool false) rfl (RunV.bool (x:=decide (most<((X).length:Int))) (rvk (by kernel_rfl)) hl) ?_
 refine sv 20 (.bool false) ?_
 refine sq_nil ?_
 refine k7 _ _ ?_
 try clear k7 K7
 refine wp_cond_false rfl ?_
 refine wp_seq_k (fun K8 k8=>?_)
 refine rg [0,1,2,3,4,5,6,7,8,9,10,11,12] ?_
 refine sv 27 (.string ⟨(X:List UInt8).toArray⟩) ?_
 refine se ?_
 refine ec 28 (trimprefix_any (X) _) ?_
 rintro e9 w9 ⟨rfl,g9⟩
 refine ⟨_,rfl,?_⟩
 replace hB:=hB.trans g9
 simp only [p3,p4]
 refine se ?_
 refine ec 29 (rdigits_a (strip (X)) (by omega) _) ?_
 rintro aE aC ⟨rfl,ad⟩
 refine ⟨_,rfl,?_⟩
 replace hB:=hB.trans ad
 simp only [p3,p4]
 refine sw 30 (.bool false) rfl (RunV.bool (x:=!(allD (strip (X)))) (rvk (by kernel_rfl)) (show (!(allD (strip (X))))=false by rw [h1];rfl)) ?_
 refine sv 31 (.bool false) ?_
 refine sv 32 (.bool false) ?_
 refine sv 33 (.bool false) ?_
 refine ss 34 ?_
 refine ss 35 ?_
 refine ss 36 ?_
 refine sv 37 (.bool false) ?_
 refine sv 38 (.bool false) ?_
 refine sv 26 (.bool false) ?_
 refine sq_nil ?_
 refine k8 _ _ ?_
 try clear k8 K8
 refine wp_cond_false rfl ?_
 refine wp_seq_k (fun ak ae=>?_)
 refine rg [0,1,2,3,4,5,6] ?_
 refine sv 41 (.bool false) ?_
 refine sv 42 (.bool false) ?_
 refine ss 43 ?_
 refine ss 44 ?_
 refine ss 45 ?_
 refine sv 46 (.bool false) ?_
 refine sv 40 (.bool false) ?_
 refine sq_nil ?_
 refine ae _ _ ?_
 try clear ae ak
 refine wp_cond_false rfl ?_
 refine wp_skip ?_
 refine k6 _ _ ?_
 try clear k6 K6
 refine wp_seq_k (fun ay ah=>?_)
 refine rg [0,1,2,3,4,5,6,7] ?_
 refine sv 49 (.string ⟨(X:List UInt8).toArray⟩) ?_
 refine se ?_
 refine ec 50 (parse_bad (X) (by omega) h1 h2 _) ?_
 rintro e13 aA ⟨rfl,af⟩
 refine ⟨_,rfl,?_⟩
 replace hB:=hB.trans af
 simp only [p3,p4]
 refine sv 48 (.tuple #[(.agg #[(.bool false),(.slice none 0 0)]),(.int .i64 3)]) ?_
 refine sv 51 (.agg #[(.bool false),(.slice none 0 0)]) ?_
 refine sv 52 (.int .i64 3) ?_
 refine se ?_
 refine ea 34 #[(.bool false),(.slice none 0 0)] 10 hB fun aH aB al ai aw au hB=>?_
 replace L2:=L2.gr (g5.trans (g9.trans (ad.trans af)))
 have aa:=L2.ne aw
 simp only [p3,p4]
 refine se ?_
 refine es 34 0 (.agg #[(.bool false),(.slice none 0 0)]) [(.bool false),(.slice none 0 0)] #[(.bool false),(.slice none 0 0)] ai hB au ⟨rfl,rfl,trivial⟩ fun aF ab aq ai hB=>?_
 refine sv 11 (.int .i64 3) ?_
 refine sq_nil ?_
 refine ah _ _ ?_
 try clear ah ay
 refine wp_seq_k (fun az aG=>?_)
 refine wp_seq_k (fun ap ac=>?_)
 refine rg [0,1] ?_
 refine sv 53 (.int .i64 3) ?_
 refine sv 54 (.bool true) ?_
 refine sq_nil ?_
 refine ac _ _ ?_
 try clear ac ap
 refine wp_cond_true rfl ?_
 refine wp_seq_k (fun ar aj=>?_)
 refine rg [0,1,2] ?_
 refine sv 55 (.agg #[(.bool false),(.slice none 0 0),(.bool false),(.slice none 0 0)]) ?_
 refine se ?_
 replace L2:=ab.lc (L2.gr al) aa
 refine es 36 0 (.agg #[(.bool false),(.slice none 0 0),(.bool false),(.slice none 0 0)]) [(.bool false),(.slice none 0 0),(.bool false),(.slice none 0 0)] #[(.bool false),(.slice none 0 0),(.bool false),(.slice none 0 0)] L2 hB q2 ⟨rfl,rfl,rfl,rfl,trivial⟩ fun aD ax av L2 hB=>?_
 refine sv 5 (.int .i64 3) ?_
 refine sq_nil ?_
 refine aj _ _ ?_
 try clear aj ar
 refine wp_ret ?_
 simp only [Exit.then]
 refine bodyPost_ret (v:=(.tuple #[(.agg #[(.bool false),(.slice none 0 0),(.bool false),(.slice none 0 0)]),(.int .i64 3)])) (ret_cell_tmp' _ _ _ rfl rfl L2 (by kernel_rfl) rfl) rfl ⟨?_,hB⟩
 exact rfl

set_option maxRecDepth 100000 in
set_option maxHeartbeats 1000000 in
theorem read_fs1 (X A D:List UInt8) (most:Int) (_hx:X.length≤14000) (_hlong:(X.length:Int)≤most) (hc:cutL X=(A,some D)) (_hA:(A).length≤X.length) (_hD:D.length≤X.length) (h1:allD (strip A)=false) (w:World) (hm:Mx w):
    Calls Tryz.prog 120 #[(.string ⟨(X:List UInt8).toArray⟩),(.int .i64 (most))] w fun e w'=>e=.returned (.tuple #[.agg #[.bool false,.slice none 0 0,.bool false,.slice none 0 0],.int .i64 14])∧Gr w w':=by
 have hl:decide (most<((X).length:Int))=false:=by simp;omega
 have hsA:(strip (A)).length≤(A).length:=strip_len _
 go_enter Tryz.func120,Tryz.ntmps120
 have hB:=Gr.refl w
 refine wp_seq_k (fun K1 k1=>?_)
 refine rg [0,1] ?_
 refine se ?_
 refine ea 36 #[(.bool false),(.slice none 0 0),(.bool false),(.slice none 0 0)] 4 hB fun b2 w2 g2 L2 o2 q2 hB=>?_
 simp only [p3,p4]
 refine sv 5 (.int .i64 0) ?_
 refine sq_nil ?_
 refine k1 _ _ ?_
 try clear k1 K1
 refine wp_seq_k (fun K3 k3=>?_)
 refine rg [0,1] ?_
 refine sv 13 (.string ⟨(X:List UInt8).toArray⟩) ?_
 refine sv 6 (.string ⟨(X:List UInt8).toArray⟩) ?_
 refine sq_nil ?_
 refine k3 _ _ ?_
 try clear k3 K3
 refine wp_seq_k (fun K4 k4=>?_)
 refine rg [0,1,2,3,4,5,6,7,8] ?_
 refine sv 15 (.string ⟨(X:List UInt8).toArray⟩) ?_
 refine se ?_
 refine ec 16 (cut_yes (X) (A) (D) (by omega) hc (hm.gr hB)) ?_
 rintro e5 w5 ⟨rfl,g5⟩
 refine ⟨_,rfl,?_⟩
 replace hB:=hB.trans g5
 simp only [p3,p4]
 refine sv 14 (.tuple #[(.string ⟨(A:List UInt8).toArray⟩),(.string ⟨(D:List UInt8).toArray⟩),(.bool true)]) ?_
 refine sv 17 (.string ⟨(A:List UInt8).toArray⟩) ?_
 refine sv 18 (.string ⟨(D:List UInt8).toArray⟩) ?_
 refine sv 19 (.bool true) ?_
 refine sv 7 (.string ⟨(A:List UInt8).toArray⟩) ?_
 refine sv 8 (.string ⟨(D:List UInt8).toArray⟩) ?_
 refine sv 9 (.bool true) ?_
 refine sq_nil ?_
 refine k4 _ _ ?_
 try clear k4 K4
 refine wp_seq_k (fun K6 k6=>?_)
 refine wp_block ?_
 refine wp_seq_k (fun K7 k7=>?_)
 refine rg [0,1,2,3,4] ?_
 refine sv 21 (.string ⟨(X:List UInt8).toArray⟩) ?_
 refine sv 22 (.int .i64 (((X).length:Int))) ?_
 refine sv 23 (.int .i64 (most)) ?_
 refine sw 24 (.bool false) rfl (RunV.bool (x:=decide (most<((X).length:Int))) (rvk (by kernel_rfl)) hl) ?_
 refine sv 20 (.bool false) ?_
 refine sq_nil ?_
 refine k7 _ _ ?_
 try clear k7 K7
 refine wp_cond_false rfl ?_
 refine wp_seq_k (fun K8 k8=>?_)
 refine rg [0,1,2,3,4,5,6,7,8,9,10,11,12] ?_
 refine sv 27 (.string ⟨(A:List UInt8).toArray⟩) ?_
 refine se ?_
 refine ec 28 (trimprefix_any (A) _) ?_
 rintro e9 w9 ⟨rfl,g9⟩
 refine ⟨_,rfl,?_⟩
 replace hB:=hB.trans g9
 simp only [p3,p4]
 refine se ?_
 refine ec 29 (rdigits_a (strip (A)) (by omega) _) ?_
 rintro ah af ⟨rfl,aa⟩
 refine ⟨_,rfl,?_⟩
 replace hB:=hB.trans aa
 simp only [p3,p4]
 refine sw 30 (.bool true) rfl (RunV.bool (x:=!(allD (strip (A)))) (rvk (by kernel_rfl)) (show (!(allD (strip (A))))=true by rw [h1];rfl)) ?_
 refine sv 31 (.bool true) ?_
 refine ss 32 ?_
 refine ss 33 ?_
 refine ss 34 ?_
 refine ss 35 ?_
 refine ss 36 ?_
 refine ss 37 ?_
 refine sv 38 (.bool true) ?_
 refine sv 26 (.bool true) ?_
 refine sq_nil ?_
 refine k8 _ _ ?_
 try clear k8 K8
 refine wp_cond_true rfl ?_
 refine wp_seq_k (fun ac ab=>?_)
 refine rg [0,1,2] ?_
 refine sv 39 (.agg #[(.bool false),(.slice none 0 0),(.bool false),(.slice none 0 0)]) ?_
 refine se ?_
 replace L2:=L2.gr (g5.trans (g9.trans aa))
 refine es 36 0 (.agg #[(.bool false),(.slice none 0 0),(.bool false),(.slice none 0 0)]) [(.bool false),(.slice none 0 0),(.bool false),(.slice none 0 0)] #[(.bool false),(.slice none 0 0),(.bool false),(.slice none 0 0)] L2 hB q2 ⟨rfl,rfl,rfl,rfl,trivial⟩ fun ai ad ae L2 hB=>?_
 refine sv 5 (.int .i64 14) ?_
 refine sq_nil ?_
 refine ab _ _ ?_
 try clear ab ac
 refine wp_ret ?_
 simp only [Exit.then,Exit.inBlock]
 refine bodyPost_ret (v:=(.tuple #[(.agg #[(.bool false),(.slice none 0 0),(.bool false),(.slice none 0 0)]),(.int .i64 14)])) (ret_cell_tmp' _ _ _ rfl rfl L2 (by kernel_rfl) rfl) rfl ⟨?_,hB⟩
 exact rfl

set_option maxRecDepth 100000 in
set_option maxHeartbeats 1000000 in
theorem read_fs2 (X A D:List UInt8) (most:Int) (_hx:X.length≤14000) (_hlong:(X.length:Int)≤most) (hc:cutL X=(A,some D)) (_hA:(A).length≤X.length) (_hD:D.length≤X.length) (h1:allD (strip A)=true) (h2:allD D=false) (w:World) (hm:Mx w):
    Calls Tryz.prog 120 #[(.string ⟨(X:List UInt8).toArray⟩),(.int .i64 (most))] w fun e w'=>e=.returned (.tuple #[.agg #[.bool false,.slice none 0 0,.bool false,.slice none 0 0],.int .i64 14])∧Gr w w':=by
 have hl:decide (most<((X).length:Int))=false:=by simp;omega
 have hsA:(strip (A)).length≤(A).length:=strip_len _
 go_enter Tryz.func120,Tryz.ntmps120
 have hB:=Gr.refl w
 refine wp_seq_k (fun K1 k1=>?_)
 refine rg [0,1] ?_
 refine se ?_
 refine ea 36 #[(.bool false),(.slice none 0 0),(.bool false),(.slice none 0 0)] 4 hB fun b2 w2 g2 L2 o2 q2 hB=>?_
 simp only [p3,p4]
 refine sv 5 (.int .i64 0) ?_
 refine sq_nil ?_
 refine k1 _ _ ?_
 try clear k1 K1
 refine wp_seq_k (fun K3 k3=>?_)
 refine rg [0,1] ?_
 refine sv 13 (.string ⟨(X:List UInt8).toArray⟩) ?_
 refine sv 6 (.string ⟨(X:List UInt8).toArray⟩) ?_
 refine sq_nil ?_
 refine k3 _ _ ?_
 try clear k3 K3
 refine wp_seq_k (fun K4 k4=>?_)
 refine rg [0,1,2,3,4,5,6,7,8] ?_
 refine sv 15 (.string ⟨(X:List UInt8).toArray⟩) ?_
 refine se ?_
 refine ec 16 (cut_yes (X) (A) (D) (by omega) hc (hm.gr hB)) ?_
 rintro e5 w5 ⟨rfl,g5⟩
 refine ⟨_,rfl,?_⟩
 replace hB:=hB.trans g5
 simp only [p3,p4]
 refine sv 14 (.tuple #[(.string ⟨(A:List UInt8).toArray⟩),(.string ⟨(D:List UInt8).toArray⟩),(.bool true)]) ?_
 refine sv 17 (.string ⟨(A:List UInt8).toArray⟩) ?_
 refine sv 18 (.string ⟨(D:List UInt8).toArray⟩) ?_
 refine sv 19 (.bool true) ?_
 refine sv 7 (.string ⟨(A:List UInt8).toArray⟩) ?_
 refine sv 8 (.string ⟨(D:List UInt8).toArray⟩) ?_
 refine sv 9 (.bool true) ?_
 refine sq_nil ?_
 refine k4 _ _ ?_
 try clear k4 K4
 refine wp_seq_k (fun K6 k6=>?_)
 refine wp_block ?_
 refine wp_seq_k (fun K7 k7=>?_)
 refine rg [0,1,2,3,4] ?_
 refine sv 21 (.string ⟨(X:List UInt8).toArray⟩) ?_
 refine sv 22 (.int .i64 (((X).length:Int))) ?_
 refine sv 23 (.int .i64 (most)) ?_
 refine sw 24 (.bool false) rfl (RunV.bool (x:=decide (most<((X).length:Int))) (rvk (by kernel_rfl)) hl) ?_
 refine sv 20 (.bool false) ?_
 refine sq_nil ?_
 refine k7 _ _ ?_
 try clear k7 K7
 refine wp_cond_false rfl ?_
 refine wp_seq_k (fun K8 k8=>?_)
 refine rg [0,1,2,3,4,5,6,7,8,9,10,11,12] ?_
 refine sv 27 (.string ⟨(A:List UInt8).toArray⟩) ?_
 refine se ?_
 refine ec 28 (trimprefix_any (A) _) ?_
 rintro e9 w9 ⟨rfl,g9⟩
 refine ⟨_,rfl,?_⟩
 replace hB:=hB.trans g9
 simp only [p3,p4]
 refine se ?_
 refine ec 29 (rdigits_a (strip (A)) (by omega) _) ?_
 rintro ak aj ⟨rfl,ab⟩
 refine ⟨_,rfl,?_⟩
 replace hB:=hB.trans ab
 simp only [p3,p4]
 refine sw 30 (.bool false) rfl (RunV.bool (x:=!(allD (strip (A)))) (rvk (by kernel_rfl)) (show (!(allD (strip (A))))=false by rw [h1];rfl)) ?_
 refine sv 31 (.bool false) ?_
 refine sv 32 (.bool true) ?_
 refine sv 33 (.bool true) ?_
 refine sv 34 (.string ⟨(D:List UInt8).toArray⟩) ?_
 refine se ?_
 refine ec 35 (rdigits_a (D) (by omega) _) ?_
 rintro e11 ai ⟨rfl,aa⟩
 refine ⟨_,rfl,?_⟩
 replace hB:=hB.trans aa
 simp only [p3,p4]
 refine sw 36 (.bool true) rfl (RunV.bool (x:=!(allD (D))) (rvk (by kernel_rfl)) (show (!(allD (D)))=true by rw [h2];rfl)) ?_
 refine sv 37 (.bool true) ?_
 refine sv 38 (.bool true) ?_
 refine sv 26 (.bool true) ?_
 refine sq_nil ?_
 refine k8 _ _ ?_
 try clear k8 K8
 refine wp_cond_true rfl ?_
 refine wp_seq_k (fun af ac=>?_)
 refine rg [0,1,2] ?_
 refine sv 39 (.agg #[(.bool false),(.slice none 0 0),(.bool false),(.slice none 0 0)]) ?_
 refine se ?_
 replace L2:=L2.gr (g5.trans (g9.trans (ab.trans aa)))
 refine es 36 0 (.agg #[(.bool false),(.slice none 0 0),(.bool false),(.slice none 0 0)]) [(.bool false),(.slice none 0 0),(.bool false),(.slice none 0 0)] #[(.bool false),(.slice none 0 0),(.bool false),(.slice none 0 0)] L2 hB q2 ⟨rfl,rfl,rfl,rfl,trivial⟩ fun ah ae ad L2 hB=>?_
 refine sv 5 (.int .i64 14) ?_
 refine sq_nil ?_
 refine ac _ _ ?_
 try clear ac af
 refine wp_ret ?_
 simp only [Exit.then,Exit.inBlock]
 refine bodyPost_ret (v:=(.tuple #[(.agg #[(.bool false),(.slice none 0 0),(.bool false),(.slice none 0 0)]),(.int .i64 14)])) (ret_cell_tmp' _ _ _ rfl rfl L2 (by kernel_rfl) rfl) rfl ⟨?_,hB⟩
 exact rfl

set_option maxRecDepth 100000 in
set_option maxHeartbeats 1000000 in
theorem read_fz (X A D:List UInt8) (most:Int) (_hx:X.length≤14000) (_hlong:(X.length:Int)≤most) (hc:cutL X=(A,some D)) (_hA:(A).length≤X.length) (_hD:D.length≤X.length) (h1:allD (strip A)=true) (h2:allD D=true) (h3:zerosL D=true) (w:World) (hm:Mx w):
    Calls Tryz.prog 120 #[(.string ⟨(X:List UInt8).toArray⟩),(.int .i64 (most))] w fun e w'=>e=.returned (.tuple #[.agg #[.bool false,.slice none 0 0,.bool false,.slice none 0 0],.int .i64 19])∧Gr w w':=by
 have hl:decide (most<((X).length:Int))=false:=by simp;omega
 have hsA:(strip (A)).length≤(A).length:=strip_len _
 have h4:((Lib.trimS (D) [48])==([]:List UInt8))=true:=by rw [← zeros_trim];exact h3
 go_enter Tryz.func120,Tryz.ntmps120
 have hB:=Gr.refl w
 refine wp_seq_k (fun K1 k1=>?_)
 refine rg [0,1] ?_
 refine se ?_
 refine ea 36 #[(.bool false),(.slice none 0 0),(.bool false),(.slice none 0 0)] 4 hB fun b2 w2 g2 L2 o2 q2 hB=>?_
 simp only [p3,p4]
 refine sv 5 (.int .i64 0) ?_
 refine sq_nil ?_
 refine k1 _ _ ?_
 try clear k1 K1
 refine wp_seq_k (fun K3 k3=>?_)
 refine rg [0,1] ?_
 refine sv 13 (.string ⟨(X:List UInt8).toArray⟩) ?_
 refine sv 6 (.string ⟨(X:List UInt8).toArray⟩) ?_
 refine sq_nil ?_
 refine k3 _ _ ?_
 try clear k3 K3
 refine wp_seq_k (fun K4 k4=>?_)
 refine rg [0,1,2,3,4,5,6,7,8] ?_
 refine sv 15 (.string ⟨(X:List UInt8).toArray⟩) ?_
 refine se ?_
 refine ec 16 (cut_yes (X) (A) (D) (by omega) hc (hm.gr hB)) ?_
 rintro e5 w5 ⟨rfl,g5⟩
 refine ⟨_,rfl,?_⟩
 replace hB:=hB.trans g5
 simp only [p3,p4]
 refine sv 14 (.tuple #[(.string ⟨(A:List UInt8).toArray⟩),(.string ⟨(D:List UInt8).toArray⟩),(.bool true)]) ?_
 refine sv 17 (.string ⟨(A:List UInt8).toArray⟩) ?_
 refine sv 18 (.string ⟨(D:List UInt8).toArray⟩) ?_
 refine sv 19 (.bool true) ?_
 refine sv 7 (.string ⟨(A:List UInt8).toArray⟩) ?_
 refine sv 8 (.string ⟨(D:List UInt8).toArray⟩) ?_
 refine sv 9 (.bool true) ?_
 refine sq_nil ?_
 refine k4 _ _ ?_
 try clear k4 K4
 refine wp_seq_k (fun K6 k6=>?_)
 refine wp_block ?_
 refine wp_seq_k (fun K7 k7=>?_)
 refine rg [0,1,2,3,4] ?_
 refine sv 21 (.string ⟨(X:List UInt8).toArray⟩) ?_
 refine sv 22 (.int .i64 (((X).length:Int))) ?_
 refine sv 23 (.int .i64 (most)) ?_
 refine sw 24 (.bool false) rfl (RunV.bool (x:=decide (most<((X).length:Int))) (rvk (by kernel_rfl)) hl) ?_
 refine sv 20 (.bool false) ?_
 refine sq_nil ?_
 refine k7 _ _ ?_
 try clear k7 K7
 refine wp_cond_false rfl ?_
 refine wp_seq_k (fun K8 k8=>?_)
 refine rg [0,1,2,3,4,5,6,7,8,9,10,11,12] ?_
 refine sv 27 (.string ⟨(A:List UInt8).toArray⟩) ?_
 refine se ?_
 refine ec 28 (trimprefix_any (A) _) ?_
 rintro e9 w9 ⟨rfl,g9⟩
 refine ⟨_,rfl,?_⟩
 replace hB:=hB.trans g9
 simp only [p3,p4]
 refine se ?_
 refine ec 29 (rdigits_a (strip (A)) (by omega) _) ?_
 rintro aq ap ⟨rfl,ac⟩
 refine ⟨_,rfl,?_⟩
 replace hB:=hB.trans ac
 simp only [p3,p4]
 refine sw 30 (.bool false) rfl (RunV.bool (x:=!(allD (strip (A)))) (rvk (by kernel_rfl)) (show (!(allD (strip (A))))=false by rw [h1];rfl)) ?_
 refine sv 31 (.bool false) ?_
 refine sv 32 (.bool true) ?_
 refine sv 33 (.bool true) ?_
 refine sv 34 (.string ⟨(D:List UInt8).toArray⟩) ?_
 refine se ?_
 refine ec 35 (rdigits_a (D) (by omega) _) ?_
 rintro e11 al ⟨rfl,aa⟩
 refine ⟨_,rfl,?_⟩
 replace hB:=hB.trans aa
 simp only [p3,p4]
 refine sw 36 (.bool false) rfl (RunV.bool (x:=!(allD (D))) (rvk (by kernel_rfl)) (show (!(allD (D)))=false by rw [h2];rfl)) ?_
 refine sv 37 (.bool false) ?_
 refine sv 38 (.bool false) ?_
 refine sv 26 (.bool false) ?_
 refine sq_nil ?_
 refine k8 _ _ ?_
 try clear k8 K8
 refine wp_cond_false rfl ?_
 refine wp_seq_k (fun aj ae=>?_)
 refine rg [0,1,2,3,4,5,6] ?_
 refine sv 41 (.bool true) ?_
 refine sv 42 (.bool true) ?_
 refine sv 43 (.string ⟨(D:List UInt8).toArray⟩) ?_
 refine se ?_
 refine ec 44 (trim_any0 (D) (by omega) _) ?_
 rintro e13 ak ⟨rfl,ad⟩
 refine ⟨_,rfl,?_⟩
 replace hB:=hB.trans ad
 simp only [p3,p4]
 refine sw 45 (.bool true) rfl (RunV.bool (x:=((Lib.trimS (D) [48])==([]:List UInt8))) (rv_seq 9 9 _ _ (Lib.trimS (D) [48]) ([]) rfl rfl rfl) h4) ?_
 refine sv 46 (.bool true) ?_
 refine sv 40 (.bool true) ?_
 refine sq_nil ?_
 refine ae _ _ ?_
 try clear ae aj
 refine wp_cond_true rfl ?_
 refine wp_seq_k (fun af ab=>?_)
 refine rg [0,1,2] ?_
 refine sv 47 (.agg #[(.bool false),(.slice none 0 0),(.bool false),(.slice none 0 0)]) ?_
 refine se ?_
 replace L2:=L2.gr (g5.trans (g9.trans (ac.trans (aa.trans ad))))
 refine es 36 0 (.agg #[(.bool false),(.slice none 0 0),(.bool false),(.slice none 0 0)]) [(.bool false),(.slice none 0 0),(.bool false),(.slice none 0 0)] #[(.bool false),(.slice none 0 0),(.bool false),(.slice none 0 0)] L2 hB q2 ⟨rfl,rfl,rfl,rfl,trivial⟩ fun ar ai ah L2 hB=>?_
 refine sv 5 (.int .i64 19) ?_
 refine sq_nil ?_
 refine ab _ _ ?_
 try clear ab af
 refine wp_ret ?_
 simp only [Exit.then,Exit.inBlock]
 refine bodyPost_ret (v:=(.tuple #[(.agg #[(.bool false),(.slice none 0 0),(.bool false),(.slice none 0 0)]),(.int .i64 19)])) (ret_cell_tmp' _ _ _ rfl rfl L2 (by kernel_rfl) rfl) rfl ⟨?_,hB⟩
 exact rfl

set_option maxRecDepth 100000 in
set_option maxHeartbeats 1000000 in
theorem read_fb1 (X A D:List UInt8) (most:Int) (_hx:X.length≤14000) (_hlong:(X.length:Int)≤most) (hc:cutL X=(A,some D)) (_hA:(A).length≤X.length) (_hD:D.length≤X.length) (h1:allD (strip A)=true) (h2:allD D=true) (h3:zerosL D=false) (h5:badZ A=true) (w:World) (hm:Mx w):
    Calls Tryz.prog 120 #[(.string ⟨(X:List UInt8).toArray⟩),(.int .i64 (most))] w fun e w'=>e=.returned (.tuple #[.agg #[.bool false,.slice none 0 0,.bool false,.slice none 0 0],.int .i64 3])∧Gr w w':=by
 have hl:decide (most<((X).length:Int))=false:=by simp;omega
 have hsA:(strip (A)).length≤(A).length:=strip_len _
 have h4:((Lib.trimS (D) [48])==([]:List UInt8))=false:=by rw [← zeros_trim];exact h3
 go_enter Tryz.func120,Tryz.ntmps120
 have hB:=Gr.refl w
 refine wp_seq_k (fun K1 k1=>?_)
 refine rg [0,1] ?_
 refine se ?_
 refine ea 36 #[(.bool false),(.slice none 0 0),(.bool false),(.slice none 0 0)] 4 hB fun b2 w2 g2 L2 o2 q2 hB=>?_
 simp only [p3,p4]
 refine sv 5 (.int .i64 0) ?_
 refine sq_nil ?_
 refine k1 _ _ ?_
 try clear k1 K1
 refine wp_seq_k (fun K3 k3=>?_)
 refine rg [0,1] ?_
 refine sv 13 (.string ⟨(X:List UInt8).toArray⟩) ?_
 refine sv 6 (.string ⟨(X:List UInt8).toArray⟩) ?_
 refine sq_nil ?_
 refine k3 _ _ ?_
 try clear k3 K3
 refine wp_seq_k (fun K4 k4=>?_)
 refine rg [0,1,2,3,4,5,6,7,8] ?_
 refine sv 15 (.string ⟨(X:List UInt8).toArray⟩) ?_
 refine se ?_
 refine ec 16 (cut_yes (X) (A) (D) (by omega) hc (hm.gr hB)) ?_
 rintro e5 w5 ⟨rfl,g5⟩
 refine ⟨_,rfl,?_⟩
 replace hB:=hB.trans g5
 simp only [p3,p4]
 refine sv 14 (.tuple #[(.string ⟨(A:List UInt8).toArray⟩),(.string ⟨(D:List UInt8).toArray⟩),(.bool true)]) ?_
 refine sv 17 (.string ⟨(A:List UInt8).toArray⟩) ?_
 refine sv 18 (.string ⟨(D:List UInt8).toArray⟩) ?_
 refine sv 19 (.bool true) ?_
 refine sv 7 (.string ⟨(A:List UInt8).toArray⟩) ?_
 refine sv 8 (.string ⟨(D:List UInt8).toArray⟩) ?_
 refine sv 9 (.bool true) ?_
 refine sq_nil ?_
 refine k4 _ _ ?_
 try clear k4 K4
 refine wp_seq_k (fun K6 k6=>?_)
 refine wp_block ?_
 refine wp_seq_k (fun K7 k7=>?_)
 refine rg [0,1,2,3,4] ?_
 refine sv 21 (.string ⟨(X:List UInt8).toArray⟩) ?_
 refine sv 22 (.int .i64 (((X).length:Int))) ?_
 refine sv 23 (.int .i64 (most)) ?_
 refine sw 24 (.bool false) rfl (RunV.bool (x:=decide (most<((X).length:Int))) (rvk (by kernel_rfl)) hl) ?_
 refine sv 20 (.bool false) ?_
 refine sq_nil ?_
 refine k7 _ _ ?_
 try clear k7 K7
 refine wp_cond_false rfl ?_
 refine wp_seq_k (fun K8 k8=>?_)
 refine rg [0,1,2,3,4,5,6,7,8,9,10,11,12] ?_
 refine sv 27 (.string ⟨(A:List UInt8).toArray⟩) ?_
 refine se ?_
 refine ec 28 (trimprefix_any (A) _) ?_
 rintro e9 w9 ⟨rfl,g9⟩
 refine ⟨_,rfl,?_⟩
 replace hB:=hB.trans g9
 simp only [p3,p4]
 refine se ?_
 refine ec 29 (rdigits_a (strip (A)) (by omega) _) ?_
 rintro aF aM ⟨rfl,al⟩
 refine ⟨_,rfl,?_⟩
 replace hB:=hB.trans al
 simp only [p3,p4]
 refine sw 30 (.bool false) rfl (RunV.bool (x:=!(allD (strip (A)))) (rvk (by kernel_rfl)) (show (!(allD (strip (A))))=false by rw [h1];rfl)) ?_
 refine sv 31 (.bool false) ?_
 refine sv 32 (.bool true) ?_
 refine sv 33 (.bool true) ?_
 refine sv 34 (.string ⟨(D:List UInt8).toArray⟩) ?_
 refine se ?_
 refine ec 35 (rdigits_a (D) (by omega) _) ?_
 rintro e11 aB ⟨rfl,af⟩
 refine ⟨_,rfl,?_⟩
 replace hB:=hB.trans af
 simp only [p3,p4]
 refine sw 36 (.bool false) rfl (RunV.bool (x:=!(allD (D))) (rvk (by kernel_rfl)) (show (!(allD (D)))=false by rw [h2];rfl)) ?_
 refine sv 37 (.bool false) ?_
 refine sv 38 (.bool false) ?_
 refine sv 26 (.bool false) ?_
 refine sq_nil ?_
 refine k8 _ _ ?_
 try clear k8 K8
 refine wp_cond_false rfl ?_
 refine wp_seq_k (fun aw ai=>?_)
 refine rg [0,1,2,3,4,5,6] ?_
 refine sv 41 (.bool true) ?_
 refine sv 42 (.bool true) ?_
 refine sv 43 (.string ⟨(D:List UInt8).toArray⟩) ?_
 refine se ?_
 refine ec 44 (trim_any0 (D) (by omega) _) ?_
 rintro e13 aL ⟨rfl,ae⟩
 refine ⟨_,rfl,?_⟩
 replace hB:=hB.trans ae
 simp only [p3,p4]
 refine sw 45 (.bool false) rfl (RunV.bool (x:=((Lib.trimS (D) [48])==([]:List UInt8))) (rv_seq 9 9 _ _ (Lib.trimS (D) [48]) ([]) rfl rfl rfl) h4) ?_
 refine sv 46 (.bool false) ?_
 refine sv 40 (.bool false) ?_
 refine sq_nil ?_
 refine ai _ _ ?_
 try clear ai aw
 refine wp_cond_false rfl ?_
 refine wp_skip ?_
 refine k6 _ _ ?_
 try clear k6 K6
 refine wp_seq_k (fun ar ad=>?_)
 refine rg [0,1,2,3,4,5,6,7] ?_
 refine sv 49 (.string ⟨(A:List UInt8).toArray⟩) ?_
 refine se ?_
 refine ec 50 (parse_bad (A) (by omega) h1 h5 _) ?_
 rintro aD aJ ⟨rfl,aj⟩
 refine ⟨_,rfl,?_⟩
 replace hB:=hB.trans aj
 simp only [p3,p4]
 refine sv 48 (.tuple #[(.agg #[(.bool false),(.slice none 0 0)]),(.int .i64 3)]) ?_
 refine sv 51 (.agg #[(.bool false),(.slice none 0 0)]) ?_
 refine sv 52 (.int .i64 3) ?_
 refine se ?_
 refine ea 34 #[(.bool false),(.slice none 0 0)] 10 hB fun aC aH aA ah az au hB=>?_
 replace L2:=L2.gr (g5.trans (g9.trans (al.trans (af.trans (ae.trans aj)))))
 have aa:=L2.ne az
 simp only [p3,p4]
 refine se ?_
 refine es 34 0 (.agg #[(.bool false),(.slice none 0 0)]) [(.bool false),(.slice none 0 0)] #[(.bool false),(.slice none 0 0)] ah hB au ⟨rfl,rfl,trivial⟩ fun aE ab av ah hB=>?_
 refine sv 11 (.int .i64 3) ?_
 refine sq_nil ?_
 refine ad _ _ ?_
 try clear ad ar
 refine wp_seq_k (fun aI aK=>?_)
 refine wp_seq_k (fun ap ac=>?_)
 refine rg [0,1] ?_
 refine sv 53 (.int .i64 3) ?_
 refine sv 54 (.bool true) ?_
 refine sq_nil ?_
 refine ac _ _ ?_
 try clear ac ap
 refine wp_cond_true rfl ?_
 refine wp_seq_k (fun ax ak=>?_)
 refine rg [0,1,2] ?_
 refine sv 55 (.agg #[(.bool false),(.slice none 0 0),(.bool false),(.slice none 0 0)]) ?_
 refine se ?_
 replace L2:=ab.lc (L2.gr aA) aa
 refine es 36 0 (.agg #[(.bool false),(.slice none 0 0),(.bool false),(.slice none 0 0)]) [(.bool false),(.slice none 0 0),(.bool false),(.slice none 0 0)] #[(.bool false),(.slice none 0 0),(.bool false),(.slice none 0 0)] L2 hB q2 ⟨rfl,rfl,rfl,rfl,trivial⟩ fun aG aq ay L2 hB=>?_
 refine sv 5 (.int .i64 3) ?_
 refine sq_nil ?_
 refine ak _ _ ?_
 try clear ak ax
 refine wp_ret ?_
 simp only [Exit.then]
 refine bodyPost_ret (v:=(.tuple #[(.agg #[(.bool false),(.slice none 0 0),(.bool false),(.slice none 0 0)]),(.int .i64 3)])) (ret_cell_tmp' _ _ _ rfl rfl L2 (by kernel_rfl) rfl) rfl ⟨?_,hB⟩
 exact rfl

set_option maxRecDepth 100000 in
set_option maxHeartbeats 1000000 in
theorem read_fb2 (X D:List UInt8) (z:Int) (most:Int) (_hx:X.length≤14000) (_hlong:(X.length:Int)≤most) (hc:cutL X=(Lib.itoa (z),some D)) (_hA:(Lib.itoa (z)).length≤X.length) (_hD:D.length≤X.length) (h2:allD D=true) (aQ:allD (strip D)=true) (h3:zerosL D=false) (h5:badZ D=true) (w:World) (hm:Mx w):
    Calls Tryz.prog 120 #[(.string ⟨(X:List UInt8).toArray⟩),(.int .i64 (most))] w fun e w'=>e=.returned (.tuple #[.agg #[.bool false,.slice none 0 0,.bool false,.slice none 0 0],.int .i64 3])∧Gr w w':=by
 have hl:decide (most<((X).length:Int))=false:=by simp;omega
 have hsA:(strip (Lib.itoa (z))).length≤(Lib.itoa (z)).length:=strip_len _
 have h1:allD (strip (Lib.itoa (z)))=true:=by rw [strip_itoa];exact allD_dec _
 have h4:((Lib.trimS (D) [48])==([]:List UInt8))=false:=by rw [← zeros_trim];exact h3
 go_enter Tryz.func120,Tryz.ntmps120
 have hB:=Gr.refl w
 refine wp_seq_k (fun K1 k1=>?_)
 refine rg [0,1] ?_
 refine se ?_
 refine ea 36 #[(.bool false),(.slice none 0 0),(.bool false),(.slice none 0 0)] 4 hB fun b2 w2 g2 L2 o2 q2 hB=>?_
 simp only [p3,p4]
 refine sv 5 (.int .i64 0) ?_
 refine sq_nil ?_
 refine k1 _ _ ?_
 try clear k1 K1
 refine wp_seq_k (fun K3 k3=>?_)
 refine rg [0,1] ?_
 refine sv 13 (.string ⟨(X:List UInt8).toArray⟩) ?_
 refine sv 6 (.string ⟨(X:List UInt8).toArray⟩) ?_
 refine sq_nil ?_
 refine k3 _ _ ?_
 try clear k3 K3
 refine wp_seq_k (fun K4 k4=>?_)
 refine rg [0,1,2,3,4,5,6,7,8] ?_
 refine sv 15 (.string ⟨(X:List UInt8).toArray⟩) ?_
 refine se ?_
 refine ec 16 (cut_yes (X) (Lib.itoa (z)) (D) (by omega) hc (hm.gr hB)) ?_
 rintro e5 w5 ⟨rfl,g5⟩
 refine ⟨_,rfl,?_⟩
 replace hB:=hB.trans g5
 simp only [p3,p4]
 refine sv 14 (.tuple #[(.string ⟨(Lib.itoa (z):List UInt8).toArray⟩),(.string ⟨(D:List UInt8).toArray⟩),(.bool true)]) ?_
 refine sv 17 (.string ⟨(Lib.itoa (z):List UInt8).toArray⟩) ?_
 refine sv 18 (.string ⟨(D:List UInt8).toArray⟩) ?_
 refine sv 19 (.bool true) ?_
 refine sv 7 (.string ⟨(Lib.itoa (z):List UInt8).toArray⟩) ?_
 refine sv 8 (.string ⟨(D:List UInt8).toArray⟩) ?_
 refine sv 9 (.bool true) ?_
 refine sq_nil ?_
 refine k4 _ _ ?_
 try clear k4 K4
 refine wp_seq_k (fun K6 k6=>?_)
 refine wp_block ?_
 refine wp_seq_k (fun K7 k7=>?_)
 refine rg [0,1,2,3,4] ?_
 refine sv 21 (.string ⟨(X:List UInt8).toArray⟩) ?_
 refine sv 22 (.int .i64 (((X).length:Int))) ?_
 refine sv 23 (.int .i64 (most)) ?_
 refine sw 24 (.bool false) rfl (RunV.bool (x:=decide (most<((X).length:Int))) (rvk (by kernel_rfl)) hl) ?_
 refine sv 20 (.bool false) ?_
 refine sq_nil ?_
 refine k7 _ _ ?_
 try clear k7 K7
 refine wp_cond_false rfl ?_
 refine wp_seq_k (fun K8 k8=>?_)
 refine rg [0,1,2,3,4,5,6,7,8,9,10,11,12] ?_
 refine sv 27 (.string ⟨(Lib.itoa (z):List UInt8).toArray⟩) ?_
 refine se ?_
 refine ec 28 (trimprefix_any (Lib.itoa (z)) _) ?_
 rintro e9 w9 ⟨rfl,g9⟩
 refine ⟨_,rfl,?_⟩
 replace hB:=hB.trans g9
 simp only [p3,p4]
 refine se ?_
 refine ec 29 (rdigits_a (strip (Lib.itoa (z))) (by omega) _) ?_
 rintro a6 bd ⟨rfl,aE⟩
 refine ⟨_,rfl,?_⟩
 replace hB:=hB.trans aE
 simp only [p3,p4]
 refine sw 30 (.bool false) rfl (RunV.bool (x:=!(allD (strip (Lib.itoa (z))))) (rvk (by kernel_rfl)) (show (!(allD (strip (Lib.itoa (z)))))=false by rw [h1];rfl)) ?_
 refine sv 31 (.bool false) ?_
 refine sv 32 (.bool true) ?_
 refine sv 33 (.bool true) ?_
 refine sv 34 (.string ⟨(D:List UInt8).toArray⟩) ?_
 refine se ?_
 refine ec 35 (rdigits_a (D) (by omega) _) ?_
 rintro e11 a2 ⟨rfl,au⟩
 refine ⟨_,rfl,?_⟩
 replace hB:=hB.trans au
 simp only [p3,p4]
 refine sw 36 (.bool false) rfl (RunV.bool (x:=!(allD (D))) (rvk (by kernel_rfl)) (show (!(allD (D)))=false by rw [h2];rfl)) ?_
 refine sv 37 (.bool false) ?_
 refine sv 38 (.bool false) ?_
 refine sv 26 (.bool false) ?_
 refine sq_nil ?_
 refine k8 _ _ ?_
 try clear k8 K8
 refine wp_cond_false rfl ?_
 refine wp_seq_k (fun aT ay=>?_)
 refine rg [0,1,2,3,4,5,6] ?_
 refine sv 41 (.bool true) ?_
 refine sv 42 (.bool true) ?_
 refine sv 43 (.string ⟨(D:List UInt8).toArray⟩) ?_
 refine se ?_
 refine ec 44 (trim_any0 (D) (by omega) _) ?_
 rintro e13 bc ⟨rfl,ar⟩
 refine ⟨_,rfl,?_⟩
 replace hB:=hB.trans ar
 simp only [p3,p4]
 refine sw 45 (.bool false) rfl (RunV.bool (x:=((Lib.trimS (D) [48])==([]:List UInt8))) (rv_seq 9 9 _ _ (Lib.trimS (D) [48]) ([]) rfl rfl rfl) h4) ?_
 refine sv 46 (.bool false) ?_
 refine sv 40 (.bool false) ?_
 refine sq_nil ?_
 refine ay _ _ ?_
 try clear ay aT
 refine wp_cond_false rfl ?_
 refine wp_skip ?_
 refine k6 _ _ ?_
 try clear k6 K6
 refine wp_seq_k (fun aK aq=>?_)
 refine rg [0,1,2,3,4,5,6,7] ?_
 refine sv 49 (.string ⟨(Lib.itoa (z):List UInt8).toArray⟩) ?_
 refine se ?_
 refine ec 50 (parse_i (z) (itoa_sz (z) (m:=14000) (by omega)) (by omega) _) ?_
 rintro a3 bb ⟨⟨ah,ai,rfl,av⟩,aB⟩
 refine ⟨_,rfl,?_⟩
 replace hB:=hB.trans aB
 simp only [p3,p4]
 refine sv 48 (.tuple #[(.agg #[ah,ai]),(.int .i64 0)]) ?_
 refine sv 51 (.agg #[ah,ai]) ?_
 refine sv 52 (.int .i64 0) ?_
 refine se ?_
 refine ea 34 #[(.bool false),(.slice none 0 0)] 10 hB fun aJ a9 a1 aa a0 aM hB=>?_
 replace L2:=L2.gr (g5.trans (g9.trans (aE.trans (au.trans (ar.trans aB)))))
 have ae:=L2.ne a0
 simp only [p3,p4]
 refine se ?_
 refine es 34 0 (.agg #[ah,ai]) [ah,ai] #[ah,ai] aa hB aM ⟨av.one0,av.one1,trivial⟩ fun a5 al aN aa hB=>?_
 refine sv 11 (.int .i64 0) ?_
 refine sq_nil ?_
 refine aq _ _ ?_
 try clear aq aK
 refine wp_seq_k (fun aW aC=>?_)
 refine wp_seq_k (fun aI ap=>?_)
 refine rg [0,1] ?_
 refine sv 53 (.int .i64 0) ?_
 refine sv 54 (.bool false) ?_
 refine sq_nil ?_
 refine ap _ _ ?_
 try clear ap aI
 refine wp_cond_false rfl ?_
 refine wp_skip ?_
 refine aC _ _ ?_
 try clear aC aW
 refine wp_seq_k (fun aY aD=>?_)
 refine wp_seq_k (fun aP aw=>?_)
 refine rg [0,1] ?_
 refine sv 56 (.bool true) ?_
 refine sv 57 (.bool false) ?_
 refine sq_nil ?_
 refine aw _ _ ?_
 try clear aw aP
 refine wp_cond_false rfl ?_
 refine wp_skip ?_
 refine aD _ _ ?_
 try clear aD aY
 refine wp_seq_k (fun aH az=>?_)
 refine rg [0,1,2,3,4,5,6,7] ?_
 refine sv 61 (.string ⟨(D:List UInt8).toArray⟩) ?_
 refine se ?_
 refine ec 62 (parse_bad (D) (by omega) aQ h5 _) ?_
 rintro e23 ba ⟨rfl,ak⟩
 refine ⟨_,rfl,?_⟩
 replace hB:=hB.trans ak
 simp only [p3,p4]
 refine sv 60 (.tuple #[(.agg #[(.bool false),(.slice none 0 0)]),(.int .i64 3)]) ?_
 refine sv 63 (.agg #[(.bool false),(.slice none 0 0)]) ?_
 refine sv 64 (.int .i64 3) ?_
 refine se ?_
 refine ea 34 #[(.bool false),(.slice none 0 0)] 12 hB fun aO bf aG ab aA aS hB=>?_
 replace L2:=(al.lc (L2.gr a1) ae).gr ak
 have af:=L2.ne aA
 replace aa:=aa.gr ak
 have ad:=aa.ne aA
 simp only [p3,p4]
 refine se ?_
 refine es 34 0 (.agg #[(.bool false),(.slice none 0 0)]) [(.bool false),(.slice none 0 0)] #[(.bool false),(.slice none 0 0)] ab hB aS ⟨rfl,rfl,trivial⟩ fun aR aj aZ ab hB=>?_
 refine sv 11 (.int .i64 3) ?_
 refine sq_nil ?_
 refine az _ _ ?_
 try clear az aH
 refine wp_seq_k (fun a4 a8=>?_)
 refine wp_seq_k (fun aV aF=>?_)
 have ac:=Gr.drew aR
 replace hB:=hB.trans ac
 replace aa:=(aj.lc (aa.gr aG) ad).gr ac
 replace ab:=ab.gr ac
 refine wp_region_ord (fun w'=>Lc w' aJ #[ah,ai] 34∧Lc w' aO #[(.bool false),(.slice none 0 0)] 34) [(true,0),(true,1),(true,2),(true,3),(false,4),(false,5),(true,6),(true,7),(true,8),(true,9),(true,10),(false,11),(false,12),(false,13),(true,14),(true,15)] (by kernel_rfl) (by kernel_rfl) (by kernel_rfl) (by decide) (fun _ _ _ _ _ h=>h) ⟨aa,ab⟩ ?_
 refine ov 65 (.int .i64 3) ?_
 refine ov 66 (.bool true) ?_
 refine ov 67 (.bool true) ?_
 refine os 68 ?_
 refine oz 69 ⟨aa,ab⟩ ?_
 refine oz 70 ⟨aa,ab⟩ ?_
 refine os 71 ?_
 refine ov 72 (.bool true) ?_
 refine ov 73 (.bool true) ?_
 refine os 74 ?_
 refine os 75 ?_
 refine oz 76 ⟨aa,ab⟩ ?_
 refine oz 77 ⟨aa,ab⟩ ?_
 refine oz 78 ⟨aa,ab⟩ ?_
 refine os 79 ?_
 refine ov 80 (.bool true) ?_
 refine ord_nil ?_
 refine aF _ _ ?_
 try clear aF aV
 refine wp_cond_true rfl ?_
 refine wp_seq_k (fun aL ax=>?_)
 refine rg [0,1,2] ?_
 refine sv 81 (.agg #[(.bool false),(.slice none 0 0),(.bool false),(.slice none 0 0)]) ?_
 refine se ?_
 replace L2:=(aj.lc (L2.gr aG) af).gr ac
 refine es 36 0 (.agg #[(.bool false),(.slice none 0 0),(.bool false),(.slice none 0 0)]) [(.bool false),(.slice none 0 0),(.bool false),(.slice none 0 0)] #[(.bool false),(.slice none 0 0),(.bool false),(.slice none 0 0)] L2 hB q2 ⟨rfl,rfl,rfl,rfl,trivial⟩ fun a7 aU aX L2 hB=>?_
 refine sv 5 (.int .i64 3) ?_
 refine sq_nil ?_
 refine ax _ _ ?_
 try clear ax aL
 refine wp_ret ?_
 simp only [Exit.then]
 refine bodyPost_ret (v:=(.tuple #[(.agg #[(.bool false),(.slice none 0 0),(.bool false),(.slice none 0 0)]),(.int .i64 3)])) (ret_cell_tmp' _ _ _ rfl rfl L2 (by kernel_rfl) rfl) rfl ⟨?_,hB⟩
 exact rfl

set_option maxRecDepth 100000 in
set_option maxHeartbeats 1000000 in
theorem read_g1 (X:List UInt8) (z d:Int) (most:Int) (_hx:X.length≤14000) (_hlong:(X.length:Int)≤most) (hc:cutL X=(Lib.itoa (z),some (Lib.itoa (d)))) (_hA:(Lib.itoa (z)).length≤X.length) (_hD:(Lib.itoa (d)).length≤X.length) (h2:allD (Lib.itoa d)=true) (h3:zerosL (Lib.itoa d)=false) (h5:d=1) (w:World) (hm:Mx w):
    Calls Tryz.prog 120 #[(.string ⟨(X:List UInt8).toArray⟩),(.int .i64 (most))] w fun e w'=>e=.returned (.tuple #[.agg #[.bool false,.slice none 0 0,.bool false,.slice none 0 0],.int .i64 3])∧Gr w w':=by
 have hl:decide (most<((X).length:Int))=false:=by simp;omega
 have hsA:(strip (Lib.itoa (z))).length≤(Lib.itoa (z)).length:=strip_len _
 have h1:allD (strip (Lib.itoa (z)))=true:=by rw [strip_itoa];exact allD_dec _
 have h4:((Lib.trimS (Lib.itoa (d)) [48])==([]:List UInt8))=false:=by rw [← zeros_trim];exact h3
 have h6:(sgn (d - 1)==(0:Int))=true:=by rw [h5];rfl
 go_enter Tryz.func120,Tryz.ntmps120
 have hB:=Gr.refl w
 refine wp_seq_k (fun K1 k1=>?_)
 refine rg [0,1] ?_
 refine se ?_
 refine ea 36 #[(.bool false),(.slice none 0 0),(.bool false),(.slice none 0 0)] 4 hB fun b2 w2 g2 L2 o2 q2 hB=>?_
 simp only [p3,p4]
 refine sv 5 (.int .i64 0) ?_
 refine sq_nil ?_
 refine k1 _ _ ?_
 try clear k1 K1
 refine wp_seq_k (fun K3 k3=>?_)
 refine rg [0,1] ?_
 refine sv 13 (.string ⟨(X:List UInt8).toArray⟩) ?_
 refine sv 6 (.string ⟨(X:List UInt8).toArray⟩) ?_
 refine sq_nil ?_
 refine k3 _ _ ?_
 try clear k3 K3
 refine wp_seq_k (fun K4 k4=>?_)
 refine rg [0,1,2,3,4,5,6,7,8] ?_
 refine sv 15 (.string ⟨(X:List UInt8).toArray⟩) ?_
 refine se ?_
 refine ec 16 (cut_yes (X) (Lib.itoa (z)) (Lib.itoa (d)) (by omega) hc (hm.gr hB)) ?_
 rintro e5 w5 ⟨rfl,g5⟩
 refine ⟨_,rfl,?_⟩
 replace hB:=hB.trans g5
 simp only [p3,p4]
 refine sv 14 (.tuple #[(.string ⟨(Lib.itoa (z):List UInt8).toArray⟩),(.string ⟨(Lib.itoa (d):List UInt8).toArray⟩),(.bool true)]) ?_
 refine sv 17 (.string ⟨(Lib.itoa (z):List UInt8).toArray⟩) ?_
 refine sv 18 (.string ⟨(Lib.itoa (d):List UInt8).toArray⟩) ?_
 refine sv 19 (.bool true) ?_
 refine sv 7 (.string ⟨(Lib.itoa (z):List UInt8).toArray⟩) ?_
 refine sv 8 (.string ⟨(Lib.itoa (d):List UInt8).toArray⟩) ?_
 refine sv 9 (.bool true) ?_
 refine sq_nil ?_
 refine k4 _ _ ?_
 try clear k4 K4
 refine wp_seq_k (fun K6 k6=>?_)
 refine wp_block ?_
 refine wp_seq_k (fun K7 k7=>?_)
 refine rg [0,1,2,3,4] ?_
 refine sv 21 (.string ⟨(X:List UInt8).toArray⟩) ?_
 refine sv 22 (.int .i64 (((X).length:Int))) ?_
 refine sv 23 (.int .i64 (most)) ?_
 refine sw 24 (.bool false) rfl (RunV.bool (x:=decide (most<((X).length:Int))) (rvk (by kernel_rfl)) hl) ?_
 refine sv 20 (.bool false) ?_
 refine sq_nil ?_
 refine k7 _ _ ?_
 try clear k7 K7
 refine wp_cond_false rfl ?_
 refine wp_seq_k (fun K8 k8=>?_)
 refine rg [0,1,2,3,4,5,6,7,8,9,10,11,12] ?_
 refine sv 27 (.string ⟨(Lib.itoa (z):List UInt8).toArray⟩) ?_
 refine se ?_
 refine ec 28 (trimprefix_any (Lib.itoa (z)) _) ?_
 rintro e9 w9 ⟨rfl,g9⟩
 refine ⟨_,rfl,?_⟩
 replace hB:=hB.trans g9
 simp only [p3,p4]
 refine se ?_
 refine ec 29 (rdigits_a (strip (Lib.itoa (z))) (by omega) _) ?_
 rintro bg bo ⟨rfl,aM⟩
 refine ⟨_,rfl,?_⟩
 replace hB:=hB.trans aM
 simp only [p3,p4]
 refine sw 30 (.bool false) rfl (RunV.bool (x:=!(allD (strip (Lib.itoa (z))))) (rvk (by kernel_rfl)) (show (!(allD (strip (Lib.itoa (z)))))=false by rw [h1];rfl)) ?_
 refine sv 31 (.bool false) ?_
 refine sv 32 (.bool true) ?_
 refine sv 33 (.bool true) ?_
 refine sv 34 (.string ⟨(Lib.itoa (d):List UInt8).toArray⟩) ?_
 refine se ?_
 refine ec 35 (rdigits_a (Lib.itoa (d)) (by omega) _) ?_
 rintro e11 a8 ⟨rfl,aC⟩
 refine ⟨_,rfl,?_⟩
 replace hB:=hB.trans aC
 simp only [p3,p4]
 refine sw 36 (.bool false) rfl (RunV.bool (x:=!(allD (Lib.itoa (d)))) (rvk (by kernel_rfl)) (show (!(allD (Lib.itoa (d))))=false by rw [h2];rfl)) ?_
 refine sv 37 (.bool false) ?_
 refine sv 38 (.bool false) ?_
 refine sv 26 (.bool false) ?_
 refine sq_nil ?_
 refine k8 _ _ ?_
 try clear k8 K8
 refine wp_cond_false rfl ?_
 refine wp_seq_k (fun aZ aF=>?_)
 refine rg [0,1,2,3,4,5,6] ?_
 refine sv 41 (.bool true) ?_
 refine sv 42 (.bool true) ?_
 refine sv 43 (.string ⟨(Lib.itoa (d):List UInt8).toArray⟩) ?_
 refine se ?_
 refine ec 44 (trim_any0 (Lib.itoa (d)) (by omega) _) ?_
 rintro e13 bm ⟨rfl,aB⟩
 refine ⟨_,rfl,?_⟩
 replace hB:=hB.trans aB
 simp only [p3,p4]
 refine sw 45 (.bool false) rfl (RunV.bool (x:=((Lib.trimS (Lib.itoa (d)) [48])==([]:List UInt8))) (rv_seq 9 9 _ _ (Lib.trimS (Lib.itoa (d)) [48]) ([]) rfl rfl rfl) h4) ?_
 refine sv 46 (.bool false) ?_
 refine sv 40 (.bool false) ?_
 refine sq_nil ?_
 refine aF _ _ ?_
 try clear aF aZ
 refine wp_cond_false rfl ?_
 refine wp_skip ?_
 refine k6 _ _ ?_
 try clear k6 K6
 refine wp_seq_k (fun aR aA=>?_)
 refine rg [0,1,2,3,4,5,6,7] ?_
 refine sv 49 (.string ⟨(Lib.itoa (z):List UInt8).toArray⟩) ?_
 refine se ?_
 refine ec 50 (parse_i (z) (itoa_sz (z) (m:=14000) (by omega)) (by omega) _) ?_
 rintro ba bk ⟨⟨aj,ak,rfl,aD⟩,aJ⟩
 refine ⟨_,rfl,?_⟩
 replace hB:=hB.trans aJ
 simp only [p3,p4]
 refine sv 48 (.tuple #[(.agg #[aj,ak]),(.int .i64 0)]) ?_
 refine sv 51 (.agg #[aj,ak]) ?_
 refine sv 52 (.int .i64 0) ?_
 refine se ?_
 refine ea 34 #[(.bool false),(.slice none 0 0)] 10 hB fun aQ bi a7 aa a5 aS hB=>?_
 replace L2:=L2.gr (g5.trans (g9.trans (aM.trans (aC.trans (aB.trans aJ)))))
 have ah:=L2.ne a5
 simp only [p3,p4]
 refine se ?_
 refine es 34 0 (.agg #[aj,ak]) [aj,ak] #[aj,ak] aa hB aS ⟨aD.one0,aD.one1,trivial⟩ fun bd av aT aa hB=>?_
 refine sv 11 (.int .i64 0) ?_
 refine sq_nil ?_
 refine aA _ _ ?_
 try clear aA aR
 refine wp_seq_k (fun a1 aK=>?_)
 refine wp_seq_k (fun aP az=>?_)
 refine rg [0,1] ?_
 refine sv 53 (.int .i64 0) ?_
 refine sv 54 (.bool false) ?_
 refine sq_nil ?_
 refine az _ _ ?_
 try clear az aP
 refine wp_cond_false rfl ?_
 refine wp_skip ?_
 refine aK _ _ ?_
 try clear aK a1
 refine wp_seq_k (fun a4 aL=>?_)
 refine wp_seq_k (fun aW aE=>?_)
 refine rg [0,1] ?_
 refine sv 56 (.bool true) ?_
 refine sv 57 (.bool false) ?_
 refine sq_nil ?_
 refine aE _ _ ?_
 try clear aE aW
 refine wp_cond_false rfl ?_
 refine wp_skip ?_
 refine aL _ _ ?_
 try clear aL a4
 refine wp_seq_k (fun aO aG=>?_)
 refine rg [0,1,2,3,4,5,6,7] ?_
 refine sv 61 (.string ⟨(Lib.itoa (d):List UInt8).toArray⟩) ?_
 refine se ?_
 refine ec 62 (parse_i (d) (itoa_sz (d) (m:=14000) (by omega)) (by omega) _) ?_
 rintro e23 bj ⟨⟨ae,af,rfl,aq⟩,au⟩
 refine ⟨_,rfl,?_⟩
 replace hB:=hB.trans au
 simp only [p3,p4]
 refine sv 60 (.tuple #[(.agg #[ae,af]),(.int .i64 0)]) ?_
 refine sv 63 (.agg #[ae,af]) ?_
 refine sv 64 (.int .i64 0) ?_
 refine se ?_
 refine ea 34 #[(.bool false),(.slice none 0 0)] 12 hB fun aV bp ay ab aH aY hB=>?_
 replace L2:=(av.lc (L2.gr a7) ah).gr au
 have ai:=L2.ne aH
 replace aa:=aa.gr au
 have ad:=aa.ne aH
 simp only [p3,p4]
 refine se ?_
 refine es 34 0 (.agg #[ae,af]) [ae,af] #[ae,af] ab hB aY ⟨aq.one0,aq.one1,trivial⟩ fun aX al ax ab hB=>?_
 refine sv 11 (.int .i64 0) ?_
 refine sq_nil ?_
 refine aG _ _ ?_
 try clear aG aO
 refine wp_seq_k (fun bc bh=>?_)
 refine wp_seq_k (fun a0 aN=>?_)
 have ac:=Gr.drew aX
 replace hB:=hB.trans ac
 replace aa:=(al.lc (aa.gr ay) ad).gr ac
 replace ab:=ab.gr ac
 refine wp_region_ord (fun w'=>Lc w' aQ #[aj,ak] 34∧Lc w' aV #[ae,af] 34) [(true,0),(true,1),(true,2),(true,3),(false,4),(false,5),(true,6),(true,7),(true,8),(true,9),(true,10),(false,11),(false,12),(false,13),(true,14),(true,15)] (by kernel_rfl) (by kernel_rfl) (by kernel_rfl) (by decide) (fun _ _ _ _ _ h=>h) ⟨aa,ab⟩ ?_
 refine ov 65 (.int .i64 0) ?_
 refine ov 66 (.bool false) ?_
 refine ov 67 (.bool false) ?_
 refine ow 68 (.agg #[ae,af]) rfl (fun w' hS=>(rl 34 0 [ae,af] hS.2)) ?_
 refine oe ?_
 refine ec 69 (one_i _) ?_
 rintro bt bb ⟨⟨a9,bu,rfl,a3⟩,ap⟩
 refine ⟨_,rfl,?_⟩
 replace hB:=hB.trans ap
 replace aa:=aa.gr ap
 replace ab:=ab.gr ap
 refine ⟨⟨aa,ab⟩,?_⟩
 simp only [p3,p4]
 refine oe ?_
 have aw:=ay.kp.trans (ax.trans (ac.kp.trans ap.kp))
 replace aq:=aq.kp aw
 refine ec 70 (compare_i aq a3 (by omega) (by omega)) ?_
 rintro bq bf ⟨rfl,ar⟩
 refine ⟨_,rfl,?_⟩
 replace hB:=hB.trans ar
 replace aa:=aa.gr ar
 replace ab:=ab.gr ar
 refine ⟨⟨aa,ab⟩,?_⟩
 simp only [p3,p4]
 refine ow 71 (.bool true) rfl (fun w' hS=>(RunV.bool (x:=(sgn (d - 1)==(0:Int))) (rvk (by kernel_rfl)) h6)) ?_
 refine ov 72 (.bool true) ?_
 refine ov 73 (.bool true) ?_
 refine os 74 ?_
 refine os 75 ?_
 refine oz 76 ⟨aa,ab⟩ ?_
 refine oz 77 ⟨aa,ab⟩ ?_
 refine oz 78 ⟨aa,ab⟩ ?_
 refine os 79 ?_
 refine ov 80 (.bool true) ?_
 refine ord_nil ?_
 refine aN _ _ ?_
 try clear aN a0
 refine wp_cond_true rfl ?_
 refine wp_seq_k (fun aU aI=>?_)
 refine rg [0,1,2] ?_
 refine sv 81 (.agg #[(.bool false),(.slice none 0 0),(.bool false),(.slice none 0 0)]) ?_
 refine se ?_
 replace L2:=(al.lc (L2.gr ay) ai).gr (ac.trans (ap.trans ar))
 refine es 36 0 (.agg #[(.bool false),(.slice none 0 0),(.bool false),(.slice none 0 0)]) [(.bool false),(.slice none 0 0),(.bool false),(.slice none 0 0)] #[(.bool false),(.slice none 0 0),(.bool false),(.slice none 0 0)] L2 hB q2 ⟨rfl,rfl,rfl,rfl,trivial⟩ fun bn a2 a6 L2 hB=>?_
 refine sv 5 (.int .i64 3) ?_
 refine sq_nil ?_
 refine aI _ _ ?_
 try clear aI aU
 refine wp_ret ?_
 simp only [Exit.then]
 refine bodyPost_ret (v:=(.tuple #[(.agg #[(.bool false),(.slice none 0 0),(.bool false),(.slice none 0 0)]),(.int .i64 3)])) (ret_cell_tmp' _ _ _ rfl rfl L2 (by kernel_rfl) rfl) rfl ⟨?_,hB⟩
 exact rfl

set_option maxRecDepth 100000 in
set_option maxHeartbeats 1000000 in
theorem read_g2 (X:List UInt8) (z d:Int) (most:Int) (_hx:X.length≤14000) (_hlong:(X.length:Int)≤most) (hc:cutL X=(Lib.itoa (z),some (Lib.itoa (d)))) (_hA:(Lib.itoa (z)).length≤X.length) (_hD:(Lib.itoa (d)).length≤X.length) (h2:allD (Lib.itoa d)=true) (h3:zerosL (Lib.itoa d)=false) (h5:d≠1) (h7:Int.gcd z d≠1) (w:World) (hm:Mx w):
    Calls Tryz.prog 120 #[(.string ⟨(X:List UInt8).toArray⟩),(.int .i64 (most))] w fun e w'=>e=.returned (.tuple #[.agg #[.bool false,.slice none 0 0,.bool false,.slice none 0 0],.int .i64 3])∧Gr w w':=by
 have hl:decide (most<((X).length:Int))=false:=by simp;omega
 have hsA:(strip (Lib.itoa (z))).length≤(Lib.itoa (z)).length:=strip_len _
 have h1:allD (strip (Lib.itoa (z)))=true:=by rw [strip_itoa];exact allD_dec _
 have h4:((Lib.trimS (Lib.itoa (d)) [48])==([]:List UInt8))=false:=by rw [← zeros_trim];exact h3
 have h6:(sgn (d - 1)==(0:Int))=false:=by rw [beq_eq_false_iff_ne];exact fun e=>h5 (by have:=sgn_eq_zero.1 e;omega)
 have h8:(sgn ((Int.gcd (z) (d):Int) - 1) !=(0:Int))=true:=by rw [bne_iff_ne];exact fun e=>h7 (by have:=sgn_eq_zero.1 e;omega)
 go_enter Tryz.func120,Tryz.ntmps120
 have hB:=Gr.refl w
 refine wp_seq_k (fun K1 k1=>?_)
 refine rg [0,1] ?_
 refine se ?_
 refine ea 36 #[(.bool false),(.slice none 0 0),(.bool false),(.slice none 0 0)] 4 hB fun b2 w2 g2 L2 o2 q2 hB=>?_
 simp only [p3,p4]
 refine sv 5 (.int .i64 0) ?_
 refine sq_nil ?_
 refine k1 _ _ ?_
 try clear k1 K1
 refine wp_seq_k (fun K3 k3=>?_)
 refine rg [0,1] ?_
 refine sv 13 (.string ⟨(X:List UInt8).toArray⟩) ?_
 refine sv 6 (.string ⟨(X:List UInt8).toArray⟩) ?_
 refine sq_nil ?_
 refine k3 _ _ ?_
 try clear k3 K3
 refine wp_seq_k (fun K4 k4=>?_)
 refine rg [0,1,2,3,4,5,6,7,8] ?_
 refine sv 15 (.string ⟨(X:List UInt8).toArray⟩) ?_
 refine se ?_
 refine ec 16 (cut_yes (X) (Lib.itoa (z)) (Lib.itoa (d)) (by omega) hc (hm.gr hB)) ?_
 rintro e5 w5 ⟨rfl,g5⟩
 refine ⟨_,rfl,?_⟩
 replace hB:=hB.trans g5
 simp only [p3,p4]
 refine sv 14 (.tuple #[(.string ⟨(Lib.itoa (z):List UInt8).toArray⟩),(.string ⟨(Lib.itoa (d):List UInt8).toArray⟩),(.bool true)]) ?_
 refine sv 17 (.string ⟨(Lib.itoa (z):List UInt8).toArray⟩) ?_
 refine sv 18 (.string ⟨(Lib.itoa (d):List UInt8).toArray⟩) ?_
 refine sv 19 (.bool true) ?_
 refine sv 7 (.string ⟨(Lib.itoa (z):List UInt8).toArray⟩) ?_
 refine sv 8 (.string ⟨(Lib.itoa (d):List UInt8).toArray⟩) ?_
 refine sv 9 (.bool true) ?_
 refine sq_nil ?_
 refine k4 _ _ ?_
 try clear k4 K4
 refine wp_seq_k (fun K6 k6=>?_)
 refine wp_block ?_
 refine wp_seq_k (fun K7 k7=>?_)
 refine rg [0,1,2,3,4] ?_
 refine sv 21 (.string ⟨(X:List UInt8).toArray⟩) ?_
 refine sv 22 (.int .i64 (((X).length:Int))) ?_
 refine sv 23 (.int .i64 (most)) ?_
 refine sw 24 (.bool false) rfl (RunV.bool (x:=decide (most<((X).length:Int))) (rvk (by kernel_rfl)) hl) ?_
 refine sv 20 (.bool false) ?_
 refine sq_nil ?_
 refine k7 _ _ ?_
 try clear k7 K7
 refine wp_cond_false rfl ?_
 refine wp_seq_k (fun K8 k8=>?_)
 refine rg [0,1,2,3,4,5,6,7,8,9,10,11,12] ?_
 refine sv 27 (.string ⟨(Lib.itoa (z):List UInt8).toArray⟩) ?_
 refine se ?_
 refine ec 28 (trimprefix_any (Lib.itoa (z)) _) ?_
 rintro e9 w9 ⟨rfl,g9⟩
 refine ⟨_,rfl,?_⟩
 replace hB:=hB.trans g9
 simp only [p3,p4]
 refine se ?_
 refine ec 29 (rdigits_a (strip (Lib.itoa (z))) (by omega) _) ?_
 rintro bt bH ⟨rfl,aS⟩
 refine ⟨_,rfl,?_⟩
 replace hB:=hB.trans aS
 simp only [p3,p4]
 refine sw 30 (.bool false) rfl (RunV.bool (x:=!(allD (strip (Lib.itoa (z))))) (rvk (by kernel_rfl)) (show (!(allD (strip (Lib.itoa (z)))))=false by rw [h1];rfl)) ?_
 refine sv 31 (.bool false) ?_
 refine sv 32 (.bool true) ?_
 refine sv 33 (.bool true) ?_
 refine sv 34 (.string ⟨(Lib.itoa (d):List UInt8).toArray⟩) ?_
 refine se ?_
 refine ec 35 (rdigits_a (Lib.itoa (d)) (by omega) _) ?_
 rintro e11 bg ⟨rfl,aK⟩
 refine ⟨_,rfl,?_⟩
 replace hB:=hB.trans aK
 simp only [p3,p4]
 refine sw 36 (.bool false) rfl (RunV.bool (x:=!(allD (Lib.itoa (d)))) (rvk (by kernel_rfl)) (show (!(allD (Lib.itoa (d))))=false by rw [h2];rfl)) ?_
 refine sv 37 (.bool false) ?_
 refine sv 38 (.bool false) ?_
 refine sv 26 (.bool false) ?_
 refine sq_nil ?_
 refine k8 _ _ ?_
 try clear k8 K8
 refine wp_cond_false rfl ?_
 refine wp_seq_k (fun a6 aM=>?_)
 refine rg [0,1,2,3,4,5,6] ?_
 refine sv 41 (.bool true) ?_
 refine sv 42 (.bool true) ?_
 refine sv 43 (.string ⟨(Lib.itoa (d):List UInt8).toArray⟩) ?_
 refine se ?_
 refine ec 44 (trim_any0 (Lib.itoa (d)) (by omega) _) ?_
 rintro e13 bF ⟨rfl,aJ⟩
 refine ⟨_,rfl,?_⟩
 replace hB:=hB.trans aJ
 simp only [p3,p4]
 refine sw 45 (.bool false) rfl (RunV.bool (x:=((Lib.trimS (Lib.itoa (d)) [48])==([]:List UInt8))) (rv_seq 9 9 _ _ (Lib.trimS (Lib.itoa (d)) [48]) ([]) rfl rfl rfl) h4) ?_
 refine sv 46 (.bool false) ?_
 refine sv 40 (.bool false) ?_
 refine sq_nil ?_
 refine aM _ _ ?_
 try clear aM a6
 refine wp_cond_false rfl ?_
 refine wp_skip ?_
 refine k6 _ _ ?_
 try clear k6 K6
 refine wp_seq_k (fun aZ aI=>?_)
 refine rg [0,1,2,3,4,5,6,7] ?_
 refine sv 49 (.string ⟨(Lib.itoa (z):List UInt8).toArray⟩) ?_
 refine se ?_
 refine ec 50 (parse_i (z) (itoa_sz (z) (m:=14000) (by omega)) (by omega) _) ?_
 rintro bi bC ⟨⟨ah,aj,rfl,au⟩,aP⟩
 refine ⟨_,rfl,?_⟩
 replace hB:=hB.trans aP
 simp only [p3,p4]
 refine sv 48 (.tuple #[(.agg #[ah,aj]),(.int .i64 0)]) ?_
 refine sv 51 (.agg #[ah,aj]) ?_
 refine sv 52 (.int .i64 0) ?_
 refine se ?_
 refine ea 34 #[(.bool false),(.slice none 0 0)] 10 hB fun aY bA aU aa bc a0 hB=>?_
 replace L2:=L2.gr (g5.trans (g9.trans (aS.trans (aK.trans (aJ.trans aP)))))
 have ak:=L2.ne bc
 simp only [p3,p4]
 refine se ?_
 refine es 34 0 (.agg #[ah,aj]) [ah,aj] #[ah,aj] aa hB a0 ⟨au.one0,au.one1,trivial⟩ fun bq aC aD aa hB=>?_
 refine sv 11 (.int .i64 0) ?_
 refine sq_nil ?_
 refine aI _ _ ?_
 try clear aI aZ
 refine wp_seq_k (fun a8 aQ=>?_)
 refine wp_seq_k (fun aX aG=>?_)
 refine rg [0,1] ?_
 refine sv 53 (.int .i64 0) ?_
 refine sv 54 (.bool false) ?_
 refine sq_nil ?_
 refine aG _ _ ?_
 try clear aG aX
 refine wp_cond_false rfl ?_
 refine wp_skip ?_
 refine aQ _ _ ?_
 try clear aQ a8
 refine wp_seq_k (fun bb aR=>?_)
 refine wp_seq_k (fun a2 aL=>?_)
 refine rg [0,1] ?_
 refine sv 56 (.bool true) ?_
 refine sv 57 (.bool false) ?_
 refine sq_nil ?_
 refine aL _ _ ?_
 try clear aL a2
 refine wp_cond_false rfl ?_
 refine wp_skip ?_
 refine aR _ _ ?_
 try clear aR bb
 refine wp_seq_k (fun aV aN=>?_)
 refine rg [0,1,2,3,4,5,6,7] ?_
 refine sv 61 (.string ⟨(Lib.itoa (d):List UInt8).toArray⟩) ?_
 refine se ?_
 refine ec 62 (parse_i (d) (itoa_sz (d) (m:=14000) (by omega)) (by omega) _) ?_
 rintro e23 bB ⟨⟨ad,ae,rfl,ai⟩,ax⟩
 refine ⟨_,rfl,?_⟩
 replace hB:=hB.trans ax
 simp only [p3,p4]
 refine sv 60 (.tuple #[(.agg #[ad,ae]),(.int .i64 0)]) ?_
 refine sv 63 (.agg #[ad,ae]) ?_
 refine sv 64 (.int .i64 0) ?_
 refine se ?_
 refine ea 34 #[(.bool false),(.slice none 0 0)] 12 hB fun a1 bJ aA ab aO a5 hB=>?_
 replace L2:=(aC.lc (L2.gr aU) ak).gr ax
 have al:=L2.ne aO
 replace aa:=aa.gr ax
 have af:=aa.ne aO
 simp only [p3,p4]
 refine se ?_
 refine es 34 0 (.agg #[ad,ae]) [ad,ae] #[ad,ae] ab hB a5 ⟨ai.one0,ai.one1,trivial⟩ fun a4 ar av ab hB=>?_
 refine sv 11 (.int .i64 0) ?_
 refine sq_nil ?_
 refine aN _ _ ?_
 try clear aN aV
 refine wp_seq_k (fun bp bz=>?_)
 refine wp_seq_k (fun a7 aT=>?_)
 have ac:=Gr.drew a4
 replace hB:=hB.trans ac
 replace aa:=(ar.lc (aa.gr aA) af).gr ac
 replace ab:=ab.gr ac
 refine wp_region_ord (fun w'=>Lc w' aY #[ah,aj] 34∧Lc w' a1 #[ad,ae] 34) [(true,0),(true,1),(true,2),(true,3),(false,4),(false,5),(true,6),(true,7),(true,8),(true,9),(true,10),(false,11),(false,12),(false,13),(true,14),(true,15)] (by kernel_rfl) (by kernel_rfl) (by kernel_rfl) (by decide) (fun _ _ _ _ _ h=>h) ⟨aa,ab⟩ ?_
 refine ov 65 (.int .i64 0) ?_
 refine ov 66 (.bool false) ?_
 refine ov 67 (.bool false) ?_
 refine ow 68 (.agg #[ad,ae]) rfl (fun w' hS=>(rl 34 0 [ad,ae] hS.2)) ?_
 refine oe ?_
 refine ec 69 (one_i _) ?_
 rintro bu bf ⟨⟨bj,bE,rfl,aW⟩,ap⟩
 refine ⟨_,rfl,?_⟩
 replace hB:=hB.trans ap
 replace aa:=aa.gr ap
 replace ab:=ab.gr ap
 refine ⟨⟨aa,ab⟩,?_⟩
 simp only [p3,p4]
 refine oe ?_
 have aE:=aA.kp.trans (av.trans (ac.kp.trans ap.kp))
 replace ai:=ai.kp aE
 refine ec 70 (compare_i ai aW (by omega) (by omega)) ?_
 rintro bD bv ⟨rfl,aq⟩
 refine ⟨_,rfl,?_⟩
 replace hB:=hB.trans aq
 replace aa:=aa.gr aq
 replace ab:=ab.gr aq
 refine ⟨⟨aa,ab⟩,?_⟩
 simp only [p3,p4]
 refine ow 71 (.bool false) rfl (fun w' hS=>(RunV.bool (x:=(sgn (d - 1)==(0:Int))) (rvk (by kernel_rfl)) h6)) ?_
 refine ov 72 (.bool false) ?_
 refine ov 73 (.bool false) ?_
 refine ow 74 (.agg #[ah,aj]) rfl (fun w' hS=>(rl 34 0 [ah,aj] hS.1)) ?_
 refine ow 75 (.agg #[ad,ae]) rfl (fun w' hS=>(rl 34 0 [ad,ae] hS.2)) ?_
 refine oe ?_
 have aB:=aU.kp.trans (aD.trans (ax.kp.trans (aA.kp.trans (av.trans (ac.kp.trans (ap.kp.trans aq.kp))))))
 replace au:=au.kp aB
 replace ai:=ai.kp aq.kp
 refine ec 76 (gcd_i au ai (by omega)) ?_
 rintro bn bo ⟨⟨bm,bM,rfl,aF⟩,ay⟩
 refine ⟨_,rfl,?_⟩
 replace hB:=hB.trans ay
 replace aa:=aa.gr ay
 replace ab:=ab.gr ay
 refine ⟨⟨aa,ab⟩,?_⟩
 simp only [p3,p4]
 refine oe ?_
 refine ec 77 (one_i _) ?_
 rintro bL bK ⟨⟨bG,bw,rfl,ba⟩,aw⟩
 refine ⟨_,rfl,?_⟩
 replace hB:=hB.trans aw
 replace aa:=aa.gr aw
 replace ab:=ab.gr aw
 refine ⟨⟨aa,ab⟩,?_⟩
 simp only [p3,p4]
 refine oe ?_
 replace aF:=aF.kp aw.kp
 refine ec 78 (compare_i aF ba (by omega) (by omega)) ?_
 rintro bx bh ⟨rfl,az⟩
 refine ⟨_,rfl,?_⟩
 replace hB:=hB.trans az
 replace aa:=aa.gr az
 replace ab:=ab.gr az
 refine ⟨⟨aa,ab⟩,?_⟩
 simp only [p3,p4]
 refine ow 79 (.bool true) rfl (fun w' hS=>(RunV.bool (x:=(sgn ((Int.gcd (z) (d):Int) - 1) !=(0:Int))) (rvk (by kernel_rfl)) h8)) ?_
 refine ov 80 (.bool true) ?_
 refine ord_nil ?_
 refine aT _ _ ?_
 try clear aT a7
 refine wp_cond_true rfl ?_
 refine wp_seq_k (fun a3 aH=>?_)
 refine rg [0,1,2] ?_
 refine sv 81 (.agg #[(.bool false),(.slice none 0 0),(.bool false),(.slice none 0 0)]) ?_
 refine se ?_
 replace L2:=(ar.lc (L2.gr aA) al).gr (ac.trans (ap.trans (aq.trans (ay.trans (aw.trans az)))))
 refine es 36 0 (.agg #[(.bool false),(.slice none 0 0),(.bool false),(.slice none 0 0)]) [(.bool false),(.slice none 0 0),(.bool false),(.slice none 0 0)] #[(.bool false),(.slice none 0 0),(.bool false),(.slice none 0 0)] L2 hB q2 ⟨rfl,rfl,rfl,rfl,trivial⟩ fun bk bd a9 L2 hB=>?_
 refine sv 5 (.int .i64 3) ?_
 refine sq_nil ?_
 refine aH _ _ ?_
 try clear aH a3
 refine wp_ret ?_
 simp only [Exit.then]
 refine bodyPost_ret (v:=(.tuple #[(.agg #[(.bool false),(.slice none 0 0),(.bool false),(.slice none 0 0)]),(.int .i64 3)])) (ret_cell_tmp' _ _ _ rfl rfl L2 (by kernel_rfl) rfl) rfl ⟨?_,hB⟩
 exact rfl

theorem read_bad (X:List UInt8) (most:Nat) (hx:X.length≤14000) (h:ck2 X most≠0) (w:World) (hm:Mx w):
  Calls Tryz.prog 120 #[(.string ⟨(X:List UInt8).toArray⟩),(.int .i64 (most))] w fun e w'=>e=.returned (.tuple #[.agg #[.bool false,.slice none 0 0,.bool false,.slice none 0 0],.int .i64 (ck2 X most)])∧Gr w w':=by
 by_cases hl:most<X.length
 ·have e:ck2 X most=5:=by unfold ck2;rw [if_pos hl]
  rw [e];exact read_long X most (by omega) (by omega) w hm
 have aa:(X.length:Int)≤(most:Int):=by omega
 have hcl:=cutL_eq X
 have hnl:=numL_len X
 rcases hcut:cutL X with ⟨A,_ | D⟩
 ·rw [hcut] at hcl hnl
  obtain rfl:X=A:=hcl
  have hn:numL X=X:=by unfold numL;rw [hcut]
  have hd:denL X=[49]:=by unfold denL;rw [hcut];rfl
  unfold ck2 at h ⊢
  rw [if_neg hl,hn,hd] at h ⊢
  rw [show allD [49]=true from by decide,Bool.and_true] at h ⊢
  by_cases h1:allD (strip X)=true
  ·rw [if_neg (by rw [h1];decide),if_neg (by decide)] at h ⊢
   by_cases h2:badZ X=true
   ·rw [if_pos (by rw [h2];rfl)]
    exact read_nf X most hx aa hcut h1 h2 w hm
   ·rw [Bool.not_eq_true] at h2
    rw [if_neg (by rw [h2];decide),if_neg (by simp)] at h
    exact absurd rfl h
  ·rw [Bool.not_eq_true] at h1
   rw [if_pos h1]
   exact read_ns X most hx aa hcut h1 w hm
 ·rw [hcut] at hcl hnl
  dsimp only at hcl
  have hn:numL X=A:=by unfold numL;rw [hcut]
  have hd:denL X=D:=by unfold denL;rw [hcut];rfl
  have hlen:X.length=A.length+(D.length+1):=by rw [hcl];simp
  have hA:A.length≤X.length:=by omega
  have hD:D.length≤X.length:=by omega
  unfold ck2 at h ⊢
  rw [if_neg hl,hn,hd] at h ⊢
  by_cases h1:allD (strip A)=true
  ·by_cases h2:allD D=true
   ·rw [h1,h2,if_neg (by decide)] at h ⊢
    by_cases h3:zerosL D=true
    ·rw [if_pos h3]
     exact read_fz X A D most hx aa hcut hA hD h1 h2 h3 w hm
    rw [if_neg h3] at h ⊢
    rw [Bool.not_eq_true] at h3
    by_cases h4:badZ A=true
    ·rw [if_pos (by rw [h4];rfl)]
     exact read_fb1 X A D most hx aa hcut hA hD h1 h2 h3 h4 w hm
    rw [Bool.not_eq_true] at h4
    obtain ⟨z,rfl⟩:=form_itoa h1 h4
    have hz:valZ (Lib.itoa z)=z:=valZ_itoa z
    by_cases h5:(D[0]?==some 48)=true
    ·rw [if_pos (by rw [h5,Bool.or_true])]
     exact read_fb2 X D z most hx aa hcut hA hD h2 (strip_dig h2) h3 (badZ_head h2 h3 h5) w hm
    rw [Bool.not_eq_true] at h5
    obtain ⟨e1,e2⟩:=den_text h2 h5
    obtain ⟨d,ab⟩:∃ d:Int,d=(valL D:Int):=⟨_,rfl⟩
    have e3:Lib.itoa d=D:=by rw [ab,itoa_nonneg (by omega),Int.natAbs_natCast];exact e1
    subst e3
    have hv:valZ (Lib.itoa d)=d:=valZ_itoa d
    rw [if_neg (by rw [h4,h5];decide),hz,hv] at h ⊢
    have hlt:decide ((Lib.itoa z).length<X.length)=true:=by simp;omega
    rw [hlt,Bool.true_and] at h ⊢
    by_cases h6:d=1
    ·rw [if_pos (by rw [h6,itoa_one];rfl)]
     exact read_g1 X z d most hx aa hcut hA hD h2 h3 h6 w hm
    ·by_cases h7:Int.gcd z d=1
     ·rw [if_neg (by rw [h7];simp;intro e;exact h6 (itoa_inj (by rw [e,itoa_one])))] at h
      exact absurd rfl h
     ·rw [if_pos (by simp [h7])]
      exact read_g2 X z d most hx aa hcut hA hD h2 h3 h6 h7 w hm
   ·rw [Bool.not_eq_true] at h2
    rw [if_pos (by rw [h2,Bool.and_false])]
    exact read_fs2 X A D most hx aa hcut hA hD h1 h2 w hm
  ·rw [Bool.not_eq_true] at h1
   rw [if_pos (by rw [h1];rfl)]
   exact read_fs1 X A D most hx aa hcut hA hD h1 w hm

set_option maxRecDepth 100000 in
set_option maxHeartbeats 1000000 in
theorem rparse_bad (X:List UInt8) (hx:X.length≤14000) (h:ck2 X 400≠0) (w:World) (hm:Mx w):
    Calls Tryz.prog 94 #[(.string ⟨(X:List UInt8).toArray⟩)] w fun e w'=>e=.returned (.tuple #[.agg #[.bool false,.slice none 0 0,.bool false,.slice none 0 0],.int .i64 (ck2 X 400)])∧Gr w w':=by
 go_enter Tryz.func94,Tryz.ntmps94
 have hB:=Gr.refl w
 refine wp_seq_k (fun K1 k1=>?_)
 refine rg [0,1] ?_
 refine se ?_
 refine ea 36 #[(.bool false),(.slice none 0 0),(.bool false),(.slice none 0 0)] 2 hB fun b2 w2 g2 L2 o2 q2 hB=>?_
 simp only [p3,p4]
 refine sv 3 (.int .i64 0) ?_
 refine sq_nil ?_
 refine k1 _ _ ?_
 try clear k1 K1
 refine wp_seq_k (fun K3 k3=>?_)
 refine rg [0,1,2,3,4,5] ?_
 refine sv 4 (.string ⟨(X:List UInt8).toArray⟩) ?_
 refine se ?_
 refine ec 5 (read_bad X 400 hx h _ (hm.gr hB)) ?_
 rintro e4 w4 ⟨rfl,g4⟩
 refine ⟨_,rfl,?_⟩
 replace hB:=hB.trans g4
 simp only [p3,p4]
 refine sv 6 (.agg #[(.bool false),(.slice none 0 0),(.bool false),(.slice none 0 0)]) ?_
 refine sv 7 (.int .i64 (ck2 X 400)) ?_
 refine se ?_
 replace L2:=L2.gr g4
 refine es 36 0 (.agg #[(.bool false),(.slice none 0 0),(.bool false),(.slice none 0 0)]) [(.bool false),(.slice none 0 0),(.bool false),(.slice none 0 0)] #[(.bool false),(.slice none 0 0),(.bool false),(.slice none 0 0)] L2 hB q2 ⟨rfl,rfl,rfl,rfl,trivial⟩ fun w5 aa ab L2 hB=>?_
 refine sv 3 (.int .i64 (ck2 X 400)) ?_
 refine sq_nil ?_
 refine k3 _ _ ?_
 try clear k3 K3
 refine wp_ret ?_
 refine bodyPost_ret (v:=(.tuple #[(.agg #[(.bool false),(.slice none 0 0),(.bool false),(.slice none 0 0)]),(.int .i64 (ck2 X 400))])) (ret_cell_tmp' _ _ _ rfl rfl L2 (by kernel_rfl) rfl) rfl ⟨?_,hB⟩
 exact rfl

end Go.Proofs.YtaldbfflkpgfoaaGreatDoor
/- Printed by a program of the prover's:VectorParses. -/
namespace Go.Proofs.YtaldbfflkpgfoaaGreatDoor
open Go.RowKit

end Go.Proofs.YtaldbfflkpgfoaaGreatDoor
