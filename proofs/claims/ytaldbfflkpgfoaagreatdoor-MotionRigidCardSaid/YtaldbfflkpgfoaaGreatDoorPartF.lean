/- Joined of: Gen92, Scal, Stq, Wh, Gen121, Who, Wg, Qt, Qr, Gen131, Plc, Rda, Gen47, Gen69, Gen98. -/
import Derived.Test.YtaldbfflkpgfoaaGreatDoorPartE
import Init.Data.Rat.Lemmas
import Derived.Test.YtaldbfflkpgfoaaGreatDoorPartD
import Derived.Test.YtaldbfflkpgfoaaGreatDoorPartA
import Derived.Test.YtaldbfflkpgfoaaGreatDoorPartB
/- Printed by a program of the prover's:motions that are compared. -/
namespace Go.Proofs.YtaldbfflkpgfoaaGreatDoor
open Go.RowKit

set_option maxRecDepth 100000 in
set_option maxHeartbeats 1000000 in
theorem ments {c0 c1 c2 c3 c4 c5 c6 c7 c8 c9 aN aC ai aL av aw aa aH aD ak ar ab aj ay aB aG aQ aP ax aK ah aI aE aq ad aO af az al au aA ae ac aM aS aF aJ aR:Value} (w:World) (_o0:c0.oneCell'=true) (_o1:c1.oneCell'=true) (o2:c2.oneCell'=true) (_o3:c3.oneCell'=true) (_o4:c4.oneCell'=true) (_o5:c5.oneCell'=true) (_o6:c6.oneCell'=true) (_o7:c7.oneCell'=true) (_o8:c8.oneCell'=true) (_o9:c9.oneCell'=true) (_o10:aN.oneCell'=true) (_o11:aC.oneCell'=true) (_o12:ai.oneCell'=true) (_o13:aL.oneCell'=true) (_o14:av.oneCell'=true) (_o15:aw.oneCell'=true) (_o16:aa.oneCell'=true) (_o17:aH.oneCell'=true) (_o18:aD.oneCell'=true) (_o19:ak.oneCell'=true) (_o20:ar.oneCell'=true) (_o21:ab.oneCell'=true) (_o22:aj.oneCell'=true) (_o23:ay.oneCell'=true) (_o24:aB.oneCell'=true) (_o25:aG.oneCell'=true) (_o26:aQ.oneCell'=true) (_o27:aP.oneCell'=true) (_o28:ax.oneCell'=true) (_o29:aK.oneCell'=true) (_o30:ah.oneCell'=true) (_o31:aI.oneCell'=true) (_o32:aE.oneCell'=true) (_o33:aq.oneCell'=true) (_o34:ad.oneCell'=true) (_o35:aO.oneCell'=true) (_o36:af.oneCell'=true) (_o37:az.oneCell'=true) (_o38:al.oneCell'=true) (_o39:au.oneCell'=true) (_o40:aA.oneCell'=true) (_o41:ae.oneCell'=true) (_o42:ac.oneCell'=true) (_o43:aM.oneCell'=true) (_o44:aS.oneCell'=true) (_o45:aF.oneCell'=true) (_o46:aJ.oneCell'=true) (_o47:aR.oneCell'=true):
    Calls Tryz.prog 61 #[(.agg #[c0,c1,c2,c3,c4,c5,c6,c7,c8,c9,aN,aC,ai,aL,av,aw,aa,aH,aD,ak,ar,ab,aj,ay,aB,aG,aQ,aP,ax,aK,ah,aI,aE,aq,ad,aO,af,az,al,au,aA,ae,ac,aM,aS,aF,aJ,aR])] w fun e w'=>(∃ bm,e=.returned (.func (.func 98) #[] #[.pointer (some ⟨bm,0,none⟩)])∧Lc w' bm #[c0,c1,c2,c3,c4,c5,c6,c7,c8,c9,aN,aC,ai,aL,av,aw,aa,aH,aD,ak,ar,ab,aj,ay,aB,aG,aQ,aP,ax,aK,ah,aI,aE,aq,ad,aO,af,az,al,au,aA,ae,ac,aM,aS,aF,aJ,aR] 41)∧Gr w w':=by
 go_enter Tryz.func61,Tryz.ntmps61
 have hB:=Gr.refl w
 refine wp_seq_k (fun K1 k1=>?_)
 refine rg [0,1] ?_
 refine se ?_
 refine eb 41 #[c0,c1,c2,c3,c4,c5,c6,c7,c8,c9,aN,aC,ai,aL,av,aw,aa,aH,aD,ak,ar,ab,aj,ay,aB,aG,aQ,aP,ax,aK,ah,aI,aE,aq,ad,aO,af,az,al,au,aA,ae,ac,aM,aS,aF,aJ,aR] 1 hB fun b2 w2 g2 L2 o2 q2 hB=>?_
 simp only [p3,p4]
 refine sv 2 .nilFunc ?_
 refine sq_nil ?_
 refine k1 _ _ ?_
 try clear k1 K1
 refine wp_seq_k (fun K3 k3=>?_)
 refine rg [0,1] ?_
 refine sv 3 (.func (.func 98) #[] #[(.pointer (some ⟨b2,0,none⟩))]) ?_
 refine sv 2 (.func (.func 98) #[] #[(.pointer (some ⟨b2,0,none⟩))]) ?_
 refine sq_nil ?_
 refine k3 _ _ ?_
 try clear k3 K3
 refine wp_ret ?_
 refine bodyPost_ret (v:=(.func (.func 98) #[] #[(.pointer (some ⟨b2,0,none⟩))])) (ret_tmp rfl rfl) rfl ⟨?_,hB⟩
 exact ⟨_,rfl,L2⟩

theorem rcmp12 {xs ys:List Rat} (hx:xs.length=12) (hy:ys.length=12):(∀ j ∈ all12,rcmp (xs.getD j.val 0) (ys.getD j.val 0)=0)↔xs=ys:=by
  constructor
  · intro h
    apply List.ext_getElem?
    intro i
    by_cases hi:i<12
    · have:=rcmp_zero.1 (h ⟨i,hi⟩ (mem_all12 _))
      simp only [List.getD_eq_getElem?_getD,List.getElem?_eq_getElem (show i<xs.length by omega),List.getElem?_eq_getElem (show i<ys.length by omega),Option.getD_some] at this
      rw [List.getElem?_eq_getElem (show i<xs.length by omega),List.getElem?_eq_getElem (show i<ys.length by omega),this]
    · rw [List.getElem?_eq_none (by omega),List.getElem?_eq_none (by omega)]
  · rintro rfl j _
    exact rcmp_zero.2 rfl
set_option maxRecDepth 100000 in
set_option maxHeartbeats 4000000 in
theorem mequal {k m:Nat} {bn a8 bh bJ bE bM bL bF bH bp bt a6 bD bj bS bx a3 bg bq bA bu bQ bd a4 bm bb bT bV bP bk bc bR bK bw bi a5 bC bU bf ba bN bG a7 bv bo bz bO a9:Value} {cZ cP cT cK cM cU cJ cG cL cQ cW cV:Rat} {ad ar aX aZ aO aT aB aF a1 aq aP aQ a0 ac aD aa aI aY aH av aR ai ax ak au aM aL ay aC aN az aV aE al aU aw aj aW ab aJ ah ae aK af aG a2 aA aS:Value} {cX cN cF cC cY cO cR cD c4 cH cE cS:Rat} {w:World} (b5:IsRat w k bn a8 bh bJ cZ) (cl:IsRat w k bE bM bL bF cP) (cc:IsRat w k bH bp bt a6 cT) (b9:IsRat w k bD bj bS bx cK) (cd:IsRat w k a3 bg bq bA cM) (ct:IsRat w k bu bQ bd a4 cU) (cn:IsRat w k bm bb bT bV cJ) (cq:IsRat w k bP bk bc bR cG) (b8:IsRat w k bK bw bi a5 cL) (cg:IsRat w k bC bU bf ba cQ) (bY:IsRat w k bN bG a7 bv cW) (bX:IsRat w k bo bz bO a9 cV) (ck:IsRat w m ad ar aX aZ cX) (cj:IsRat w m aO aT aB aF cN) (ch:IsRat w m a1 aq aP aQ cF) (bW:IsRat w m a0 ac aD aa cC) (cx:IsRat w m aI aY aH av cY) (cm:IsRat w m aR ai ax ak cO) (bZ:IsRat w m au aM aL ay cR) (b7:IsRat w m aC aN az aV cD) (cu:IsRat w m aE al aU aw c4) (ce:IsRat w m aj aW ab aJ cH) (co:IsRat w m ah ae aK af cE) (ca:IsRat w m aG a2 aA aS cS) (_hk:k+m≤90000):
    Calls Tryz.prog 16 #[(.agg #[bn,a8,bh,bJ,bE,bM,bL,bF,bH,bp,bt,a6,bD,bj,bS,bx,a3,bg,bq,bA,bu,bQ,bd,a4,bm,bb,bT,bV,bP,bk,bc,bR,bK,bw,bi,a5,bC,bU,bf,ba,bN,bG,a7,bv,bo,bz,bO,a9]),(.agg #[ad,ar,aX,aZ,aO,aT,aB,aF,a1,aq,aP,aQ,a0,ac,aD,aa,aI,aY,aH,av,aR,ai,ax,ak,au,aM,aL,ay,aC,aN,az,aV,aE,al,aU,aw,aj,aW,ab,aJ,ah,ae,aK,af,aG,a2,aA,aS])] w fun e w'=>e=.returned (.bool (decide ([cZ,cP,cT,cK,cM,cU,cJ,cG,cL,cQ,cW,cV]=[cX,cN,cF,cC,cY,cO,cR,cD,c4,cH,cE,cS])))∧Gr w w':=by
 have hmaone:One1 [bn,a8,bh,bJ,bE,bM,bL,bF,bH,bp,bt,a6,bD,bj,bS,bx,a3,bg,bq,bA,bu,bQ,bd,a4,bm,bb,bT,bV,bP,bk,bc,bR,bK,bw,bi,a5,bC,bU,bf,ba,bN,bG,a7,bv,bo,bz,bO,a9]:=⟨b5.one0,b5.one1,b5.one2,b5.one3,cl.one0,cl.one1,cl.one2,cl.one3,cc.one0,cc.one1,cc.one2,cc.one3,b9.one0,b9.one1,b9.one2,b9.one3,cd.one0,cd.one1,cd.one2,cd.one3,ct.one0,ct.one1,ct.one2,ct.one3,cn.one0,cn.one1,cn.one2,cn.one3,cq.one0,cq.one1,cq.one2,cq.one3,b8.one0,b8.one1,b8.one2,b8.one3,cg.one0,cg.one1,cg.one2,cg.one3,bY.one0,bY.one1,bY.one2,bY.one3,bX.one0,bX.one1,bX.one2,bX.one3,trivial⟩
 have hmbone:One1 [ad,ar,aX,aZ,aO,aT,aB,aF,a1,aq,aP,aQ,a0,ac,aD,aa,aI,aY,aH,av,aR,ai,ax,ak,au,aM,aL,ay,aC,aN,az,aV,aE,al,aU,aw,aj,aW,ab,aJ,ah,ae,aK,af,aG,a2,aA,aS]:=⟨ck.one0,ck.one1,ck.one2,ck.one3,cj.one0,cj.one1,cj.one2,cj.one3,ch.one0,ch.one1,ch.one2,ch.one3,bW.one0,bW.one1,bW.one2,bW.one3,cx.one0,cx.one1,cx.one2,cx.one3,cm.one0,cm.one1,cm.one2,cm.one3,bZ.one0,bZ.one1,bZ.one2,bZ.one3,b7.one0,b7.one1,b7.one2,b7.one3,cu.one0,cu.one1,cu.one2,cu.one3,ce.one0,ce.one1,ce.one2,ce.one3,co.one0,co.one1,co.one2,co.one3,ca.one0,ca.one1,ca.one2,ca.one3,trivial⟩
 have qa:∀ j:Fin 12,IsRat w k ([bn,a8,bh,bJ,bE,bM,bL,bF,bH,bp,bt,a6,bD,bj,bS,bx,a3,bg,bq,bA,bu,bQ,bd,a4,bm,bb,bT,bV,bP,bk,bc,bR,bK,bw,bi,a5,bC,bU,bf,ba,bN,bG,a7,bv,bo,bz,bO,a9].getD (4*j.val) undef) ([bn,a8,bh,bJ,bE,bM,bL,bF,bH,bp,bt,a6,bD,bj,bS,bx,a3,bg,bq,bA,bu,bQ,bd,a4,bm,bb,bT,bV,bP,bk,bc,bR,bK,bw,bi,a5,bC,bU,bf,ba,bN,bG,a7,bv,bo,bz,bO,a9].getD (4*j.val+1) undef) ([bn,a8,bh,bJ,bE,bM,bL,bF,bH,bp,bt,a6,bD,bj,bS,bx,a3,bg,bq,bA,bu,bQ,bd,a4,bm,bb,bT,bV,bP,bk,bc,bR,bK,bw,bi,a5,bC,bU,bf,ba,bN,bG,a7,bv,bo,bz,bO,a9].getD (4*j.val+2) undef) ([bn,a8,bh,bJ,bE,bM,bL,bF,bH,bp,bt,a6,bD,bj,bS,bx,a3,bg,bq,bA,bu,bQ,bd,a4,bm,bb,bT,bV,bP,bk,bc,bR,bK,bw,bi,a5,bC,bU,bf,ba,bN,bG,a7,bv,bo,bz,bO,a9].getD (4*j.val+3) undef) ([cZ,cP,cT,cK,cM,cU,cJ,cG,cL,cQ,cW,cV].getD j.val 0):=fin12 b5 cl cc b9 cd ct cn cq b8 cg bY bX
 have qb:∀ j:Fin 12,IsRat w m ([ad,ar,aX,aZ,aO,aT,aB,aF,a1,aq,aP,aQ,a0,ac,aD,aa,aI,aY,aH,av,aR,ai,ax,ak,au,aM,aL,ay,aC,aN,az,aV,aE,al,aU,aw,aj,aW,ab,aJ,ah,ae,aK,af,aG,a2,aA,aS].getD (4*j.val) undef) ([ad,ar,aX,aZ,aO,aT,aB,aF,a1,aq,aP,aQ,a0,ac,aD,aa,aI,aY,aH,av,aR,ai,ax,ak,au,aM,aL,ay,aC,aN,az,aV,aE,al,aU,aw,aj,aW,ab,aJ,ah,ae,aK,af,aG,a2,aA,aS].getD (4*j.val+1) undef) ([ad,ar,aX,aZ,aO,aT,aB,aF,a1,aq,aP,aQ,a0,ac,aD,aa,aI,aY,aH,av,aR,ai,ax,ak,au,aM,aL,ay,aC,aN,az,aV,aE,al,aU,aw,aj,aW,ab,aJ,ah,ae,aK,af,aG,a2,aA,aS].getD (4*j.val+2) undef) ([ad,ar,aX,aZ,aO,aT,aB,aF,a1,aq,aP,aQ,a0,ac,aD,aa,aI,aY,aH,av,aR,ai,ax,ak,au,aM,aL,ay,aC,aN,az,aV,aE,al,aU,aw,aj,aW,ab,aJ,ah,ae,aK,af,aG,a2,aA,aS].getD (4*j.val+3) undef) ([cX,cN,cF,cC,cY,cO,cR,cD,c4,cH,cE,cS].getD j.val 0):=fin12 ck cj ch bW cx cm bZ b7 cu ce co ca
 refine enterN Tryz.func16 rfl ?_
 simp only [Tryz.ntmps16,List.size_toArray,List.length_cons,List.length_nil,Nat.reduceAdd,Nat.reduceSub,Array.replicate_succ,Array.replicate_zero,List.push_toArray,List.append_toArray,List.nil_append,List.cons_append]
 have hB:=Gr.refl w
 refine wp_seq_k (fun K1 k1=>?_)
 refine rg [0,1,2] ?_
 refine se ?_
 refine eb 41 #[bn,a8,bh,bJ,bE,bM,bL,bF,bH,bp,bt,a6,bD,bj,bS,bx,a3,bg,bq,bA,bu,bQ,bd,a4,bm,bb,bT,bV,bP,bk,bc,bR,bK,bw,bi,a5,bC,bU,bf,ba,bN,bG,a7,bv,bo,bz,bO,a9] 2 hB fun b2 w2 g2 L2 o2 q2 hB=>?_
 simp only [p3,p4]
 refine se ?_
 refine eb 41 #[ad,ar,aX,aZ,aO,aT,aB,aF,a1,aq,aP,aQ,a0,ac,aD,aa,aI,aY,aH,av,aR,ai,ax,ak,au,aM,aL,ay,aC,aN,az,aV,aE,al,aU,aw,aj,aW,ab,aJ,ah,ae,aK,af,aG,a2,aA,aS] 3 hB fun b3 w3 g3 L3 o3 q3 hB=>?_
 simp only [p3,p4]
 refine se ?_
 refine eff_alloc 4 (.bool false) #[(.bool false)] (some 4) rfl rfl (by kernel_rfl) rfl (fun b4 w4 g4 L4 q4=>?_)
 replace L2:=L2.gr g3
 have dh:=L2.ne q4
 replace q4:=Nat.le_trans (Below.size hB) q4
 replace hB:=hB.trans g4
 simp only [putl,p3,p4]
 refine sq_nil ?_
 refine k1 _ _ ?_
 try clear k1 K1
 refine wp_seq_k (fun K5 k5=>?_)
 refine rg [0] ?_
 refine se ?_
 refine ea 116 #[(.bool false),(.slice none 0 0),(.bool false),(.slice none 0 0),(.bool false),(.slice none 0 0),(.bool false),(.slice none 0 0),(.bool false),(.slice none 0 0),(.bool false),(.slice none 0 0),(.bool false),(.slice none 0 0),(.bool false),(.slice none 0 0),(.bool false),(.slice none 0 0),(.bool false),(.slice none 0 0),(.bool false),(.slice none 0 0),(.bool false),(.slice none 0 0),(.bool false),(.slice none 0 0),(.bool false),(.slice none 0 0),(.bool false),(.slice none 0 0),(.bool false),(.slice none 0 0),(.bool false),(.slice none 0 0),(.bool false),(.slice none 0 0),(.bool false),(.slice none 0 0),(.bool false),(.slice none 0 0),(.bool false),(.slice none 0 0),(.bool false),(.slice none 0 0),(.bool false),(.slice none 0 0),(.bool false),(.slice none 0 0)] 5 hB fun b6 w6 g6 L6 o6 q6 hB=>?_
 replace L2:=L2.gr g4
 have de:=L2.ne o6
 replace L3:=L3.gr g4
 have dp:=L3.ne o6
 have c8:=L4.ne o6
 simp only [p3,p4]
 refine sq_nil ?_
 refine k5 _ _ ?_
 try clear k5 K5
 refine wp_seq_k (fun K7 k7=>?_)
 refine wp_seq_k (fun K8 k8=>?_)
 refine rg [0,1] ?_
 replace L3:=L3.gr g6
 refine sw 10 (.agg #[ad,ar,aX,aZ,aO,aT,aB,aF,a1,aq,aP,aQ,a0,ac,aD,aa,aI,aY,aH,av,aR,ai,ax,ak,au,aM,aL,ay,aC,aN,az,aV,aE,al,aU,aw,aj,aW,ab,aJ,ah,ae,aK,af,aG,a2,aA,aS]) rfl (rl 41 0 [ad,ar,aX,aZ,aO,aT,aB,aF,a1,aq,aP,aQ,a0,ac,aD,aa,aI,aY,aH,av,aR,ai,ax,ak,au,aM,aL,ay,aC,aN,az,aV,aE,al,aU,aw,aj,aW,ab,aJ,ah,ae,aK,af,aG,a2,aA,aS] L3) ?_
 refine se ?_
 refine ec 11 (ments _ ck.one0 ck.one1 ck.one2 ck.one3 cj.one0 cj.one1 cj.one2 cj.one3 ch.one0 ch.one1 ch.one2 ch.one3 bW.one0 bW.one1 bW.one2 bW.one3 cx.one0 cx.one1 cx.one2 cx.one3 cm.one0 cm.one1 cm.one2 cm.one3 bZ.one0 bZ.one1 bZ.one2 bZ.one3 b7.one0 b7.one1 b7.one2 b7.one3 cu.one0 cu.one1 cu.one2 cu.one3 ce.one0 ce.one1 ce.one2 ce.one3 co.one0 co.one1 co.one2 co.one3 ca.one0 ca.one1 ca.one2 ca.one3) ?_
 rintro e9 w9 ⟨⟨dP,rfl,dw⟩,g9⟩
 refine ⟨_,rfl,?_⟩
 replace hB:=hB.trans g9
 simp only [p3,p4]
 refine sq_nil ?_
 refine k8 _ _ ?_
 try clear k8 K8
 refine wp_block ?_
 replace L2:=L2.gr (g6.trans g9)
 replace L3:=L3.gr g9
 replace L4:=L4.gr (g6.trans g9)
 replace L6:=L6.gr g9
 refine rf_ent (Ds:=[]) (d1:=6) (d2:=7) (ent_stops _ dP ad ar aX aZ aO aT aB aF a1 aq aP aQ a0 ac aD aa aI aY aH av aR ai ax ak au aM aL ay aC aN az aV aE al aU aw aj aW ab aJ ah ae aK af aG a2 aA aS ck.one0 ck.one1 ck.one2 ck.one3 cj.one0 cj.one1 cj.one2 cj.one3 ch.one0 ch.one1 ch.one2 ch.one3 bW.one0 bW.one1 bW.one2 bW.one3 cx.one0 cx.one1 cx.one2 cx.one3 cm.one0 cm.one1 cm.one2 cm.one3 bZ.one0 bZ.one1 bZ.one2 bZ.one3 b7.one0 b7.one1 b7.one2 b7.one3 cu.one0 cu.one1 cu.one2 cu.one3 ce.one0 ce.one1 ce.one2 ce.one3 co.one0 co.one1 co.one2 co.one3 ca.one0 ca.one1 ca.one2 ca.one3 _ dw) (fun prs W'=>Gr w W'∧Kp w9 W'∧Lc W' b2 #[bn,a8,bh,bJ,bE,bM,bL,bF,bH,bp,bt,a6,bD,bj,bS,bx,a3,bg,bq,bA,bu,bQ,bd,a4,bm,bb,bT,bV,bP,bk,bc,bR,bK,bw,bi,a5,bC,bU,bf,ba,bN,bG,a7,bv,bo,bz,bO,a9] 41∧Lc W' b3 #[ad,ar,aX,aZ,aO,aT,aB,aF,a1,aq,aP,aQ,a0,ac,aD,aa,aI,aY,aH,av,aR,ai,ax,ak,au,aM,aL,ay,aC,aN,az,aV,aE,al,aU,aw,aj,aW,ab,aJ,ah,ae,aK,af,aG,a2,aA,aS] 41∧Lc W' b4 #[(.bool false)] 4∧∃ xs,Fills 12 [ad,ar,aX,aZ,aO,aT,aB,aF,a1,aq,aP,aQ,a0,ac,aD,aa,aI,aY,aH,av,aR,ai,ax,ak,au,aM,aL,ay,aC,aN,az,aV,aE,al,aU,aw,aj,aW,ab,aJ,ah,ae,aK,af,aG,a2,aA,aS] prs xs∧Lc W' b6 xs.toArray 116) (fun _ _ _=>False) ((own_gr hB.size).and ((own_kp _ _).and ((own_lc _ _ _ _).and ((own_lc _ _ _ _).and ((own_lc _ _ _ _).and (own_ex fun xs=>(ownFrom_pure _ _).and (own_lc _ _ _ _))))))) (fun _ _ _ _ _ h _ _=>h) ⟨hB,Kp.refl _,L2,L3,L4,⟨_,⟨rfl,one1_all (by decide),fun _ h=>absurd h (by simp)⟩,L6⟩⟩ ?_ ?_ ?_ ?_ rfl (enters_of Tryz.func98 (by kernel_rfl) rfl)
 ·intro ll kk W K hK
  try simp only [p3,p4]
  refine wpIn_seq_k (fun K1 k1=>?_)
  refine rgI (wide_round ll) [0] ?_
  refine sv 6 (.int .i64 (kk.val:Int)) ?_
  try simp only [p3,p4]
  refine sq_nil ?_
  refine k1 _ _ ?_
  refine rgY [0,1] ?_
  refine alstY (wide_round ll) 7 36 (.agg #[(.bool false),(.slice none 0 0),(.bool false),(.slice none 0 0)]) (ent [ad,ar,aX,aZ,aO,aT,aB,aF,a1,aq,aP,aQ,a0,ac,aD,aa,aI,aY,aH,av,aR,ai,ax,ak,au,aM,aL,ay,aC,aN,az,aV,aE,al,aU,aw,aj,aW,ab,aJ,ah,ae,aK,af,aG,a2,aA,aS] kk) ?_ (ent_one hmbone rfl kk)
  try simp only [p3,p4]
  refine nilY ?_
  exact hK
 ·rintro ll bB prs kk W ⟨hB,hkW,L2,L3,L4,xs,hF,L6⟩ hqB hLB
  try simp only [p3,p4]
  have hlt:=kk.isLt
  refine wpIn_block ?_
  refine rgI (wide_round ll) [0,1,2,3] ?_
  refine sv 14 (.int .i64 (kk.val:Int)) ?_
  try simp only [p3,p4]
  refine sw 15 (.agg (ent [ad,ar,aX,aZ,aO,aT,aB,aF,a1,aq,aP,aQ,a0,ac,aD,aa,aI,aY,aH,av,aR,ai,ax,ak,au,aM,aL,ay,aC,aN,az,aV,aE,al,aU,aw,aj,aW,ab,aJ,ah,ae,aK,af,aG,a2,aA,aS] kk).toArray) rfl (rl 36 0 (ent [ad,ar,aX,aZ,aO,aT,aB,aF,a1,aq,aP,aQ,a0,ac,aD,aa,aI,aY,aH,av,aR,ai,ax,ak,au,aM,aL,ay,aC,aN,az,aV,aE,al,aU,aw,aj,aW,ab,aJ,ah,ae,aK,af,aG,a2,aA,aS] kk) hLB) ?_
  try simp only [p3,p4]
  refine sw 16 (.pointer (some ⟨b6,4*kk.val,none⟩)) rfl (rv_aix 116 _ _ b6 12 36 4 kk.val hlt) ?_
  try simp only [p3,p4]
  obtain ⟨ys,hys,dJ⟩:=hF.step hmbone rfl hlt
  refine se ?_
  refine es 36 (4*kk.val) _ (ent [ad,ar,aX,aZ,aO,aT,aB,aF,a1,aq,aP,aQ,a0,ac,aD,aa,aI,aY,aH,av,aR,ai,ax,ak,au,aM,aL,ay,aC,aN,az,aV,aE,al,aU,aw,aj,aW,ab,aJ,ah,ae,aK,af,aG,a2,aA,aS] kk) ys.toArray L6 hB q6 (ent_one hmbone rfl kk) ?_ (hoff:=by simp [hF.len,ent];omega) (hcs:=hys)
  intro w1 st kp N g
  refine sq_nil ?_
  have ho:=others_st st L6 (Nat.le_of_eq (by rw [st.size]))
  exact ⟨ho.from _,ho.walks,g,hkW.trans kp,st.lc L2 de,st.lc L3 dp,st.lc L4 c8,ys,dJ,N⟩
 ·rintro db dH di ⟨dl,dI,dk,dE,dj,xs,hF,dt⟩ cA
  have dx:=hF.done (by decide) rfl
  subst dx
  clear hF
  have c6:=L4.ne di
  replace di:=Nat.le_trans (Below.size hB) di
  replace hB:=dl
  replace L2:=dk
  replace L4:=dj
  replace L6:=dt
  change IsMk dH db at cA
  change Lc dH b6 #[ad,ar,aX,aZ,aO,aT,aB,aF,a1,aq,aP,aQ,a0,ac,aD,aa,aI,aY,aH,av,aR,ai,ax,ak,au,aM,aL,ay,aC,aN,az,aV,aE,al,aU,aw,aj,aW,ab,aJ,ah,ae,aK,af,aG,a2,aA,aS] 116 at L6
  refine k7 _ _ ?_
  try clear k7 K7
  refine wp_seq_k (fun dN dG=>?_)
  refine wp_seq_k (fun dM dC=>?_)
  refine rg [0,1] ?_
  refine sw 17 (.agg #[bn,a8,bh,bJ,bE,bM,bL,bF,bH,bp,bt,a6,bD,bj,bS,bx,a3,bg,bq,bA,bu,bQ,bd,a4,bm,bb,bT,bV,bP,bk,bc,bR,bK,bw,bi,a5,bC,bU,bf,ba,bN,bG,a7,bv,bo,bz,bO,a9]) rfl (rl 41 0 [bn,a8,bh,bJ,bE,bM,bL,bF,bH,bp,bt,a6,bD,bj,bS,bx,a3,bg,bq,bA,bu,bQ,bd,a4,bm,bb,bT,bV,bP,bk,bc,bR,bK,bw,bi,a5,bC,bU,bf,ba,bN,bG,a7,bv,bo,bz,bO,a9] L2) ?_
  refine se ?_
  refine ec 18 (ments _ b5.one0 b5.one1 b5.one2 b5.one3 cl.one0 cl.one1 cl.one2 cl.one3 cc.one0 cc.one1 cc.one2 cc.one3 b9.one0 b9.one1 b9.one2 b9.one3 cd.one0 cd.one1 cd.one2 cd.one3 ct.one0 ct.one1 ct.one2 ct.one3 cn.one0 cn.one1 cn.one2 cn.one3 cq.one0 cq.one1 cq.one2 cq.one3 b8.one0 b8.one1 b8.one2 b8.one3 cg.one0 cg.one1 cg.one2 cg.one3 bY.one0 bY.one1 bY.one2 bY.one3 bX.one0 bX.one1 bX.one2 bX.one3) ?_
  rintro e13 dD ⟨⟨dB,rfl,dq⟩,dm⟩
  refine ⟨_,rfl,?_⟩
  replace hB:=hB.trans dm
  simp only [p3,p4]
  refine sq_nil ?_
  refine dC _ _ ?_
  try clear dC dM
  refine wp_block ?_
  replace L2:=L2.gr dm
  replace L4:=L4.gr dm
  replace L6:=L6.gr dm
  replace cA:=cA.gr dm
  refine rf_ent (Ds:=[db]) (d1:=8) (d2:=9) (ent_stops _ dB bn a8 bh bJ bE bM bL bF bH bp bt a6 bD bj bS bx a3 bg bq bA bu bQ bd a4 bm bb bT bV bP bk bc bR bK bw bi a5 bC bU bf ba bN bG a7 bv bo bz bO a9 b5.one0 b5.one1 b5.one2 b5.one3 cl.one0 cl.one1 cl.one2 cl.one3 cc.one0 cc.one1 cc.one2 cc.one3 b9.one0 b9.one1 b9.one2 b9.one3 cd.one0 cd.one1 cd.one2 cd.one3 ct.one0 ct.one1 ct.one2 ct.one3 cn.one0 cn.one1 cn.one2 cn.one3 cq.one0 cq.one1 cq.one2 cq.one3 b8.one0 b8.one1 b8.one2 b8.one3 cg.one0 cg.one1 cg.one2 cg.one3 bY.one0 bY.one1 bY.one2 bY.one3 bX.one0 bX.one1 bX.one2 bX.one3 _ dq) (fun prs W'=>Gr w W'∧Kp dD W'∧Lc W' b2 #[bn,a8,bh,bJ,bE,bM,bL,bF,bH,bp,bt,a6,bD,bj,bS,bx,a3,bg,bq,bA,bu,bQ,bd,a4,bm,bb,bT,bV,bP,bk,bc,bR,bK,bw,bi,a5,bC,bU,bf,ba,bN,bG,a7,bv,bo,bz,bO,a9] 41∧Lc W' b4 #[(.bool false)] 4∧Lc W' b6 #[ad,ar,aX,aZ,aO,aT,aB,aF,a1,aq,aP,aQ,a0,ac,aD,aa,aI,aY,aH,av,aR,ai,ax,ak,au,aM,aL,ay,aC,aN,az,aV,aE,al,aU,aw,aj,aW,ab,aJ,ah,ae,aK,af,aG,a2,aA,aS] 116∧IsMk W' db∧(∀ j ∈ prs,rcmp ([cZ,cP,cT,cK,cM,cU,cJ,cG,cL,cQ,cW,cV].getD j.val 0) ([cX,cN,cF,cC,cY,cO,cR,cD,c4,cH,cE,cS].getD j.val 0)=0)) (fun c prs W'=>c=.ret∧Gr w W'∧Kp dD W'∧Lc W' b2 #[bn,a8,bh,bJ,bE,bM,bL,bF,bH,bp,bt,a6,bD,bj,bS,bx,a3,bg,bq,bA,bu,bQ,bd,a4,bm,bb,bT,bV,bP,bk,bc,bR,bK,bw,bi,a5,bC,bU,bf,ba,bN,bG,a7,bv,bo,bz,bO,a9] 41∧Lc W' b4 #[(.bool false)] 4∧Lc W' b6 #[ad,ar,aX,aZ,aO,aT,aB,aF,a1,aq,aP,aQ,a0,ac,aD,aa,aI,aY,aH,av,aR,ai,ax,ak,au,aM,aL,ay,aC,aN,az,aV,aE,al,aU,aw,aj,aW,ab,aJ,ah,ae,aK,af,aG,a2,aA,aS] 116∧IsMk W' db∧(∃ j:Fin 12,rcmp ([cZ,cP,cT,cK,cM,cU,cJ,cG,cL,cQ,cW,cV].getD j.val 0) ([cX,cN,cF,cC,cY,cO,cR,cD,c4,cH,cE,cS].getD j.val 0)≠0)) ((own_gr hB.size).and ((own_kp _ _).and ((own_lc _ _ _ _).and ((own_lc _ _ _ _).and ((own_lc _ _ _ _).and ((own_mk cA).and (ownFrom_pure _ _))))))) (fun c=>((ownFrom_pure _ _).and ((own_gr hB.size).and ((own_kp _ _).and ((own_lc _ _ _ _).and ((own_lc _ _ _ _).and ((own_lc _ _ _ _).and ((own_mk cA).and (ownFrom_pure _ _))))))))) ⟨hB,Kp.refl _,L2,L4,L6,cA,fun _ h=>absurd h (by simp)⟩ ?_ ?_ ?_ ?_ rfl (enters_of Tryz.func98 (by kernel_rfl) rfl)
  ·intro ll kk W K hK
   try simp only [p3,p4]
   refine wpIn_seq_k (fun K1 k1=>?_)
   refine rgI (wide_round ll) [0] ?_
   refine sv 8 (.int .i64 (kk.val:Int)) ?_
   try simp only [p3,p4]
   refine sq_nil ?_
   refine k1 _ _ ?_
   refine rgY [0,1] ?_
   refine alstY (wide_round ll) 9 36 (.agg #[(.bool false),(.slice none 0 0),(.bool false),(.slice none 0 0)]) (ent [bn,a8,bh,bJ,bE,bM,bL,bF,bH,bp,bt,a6,bD,bj,bS,bx,a3,bg,bq,bA,bu,bQ,bd,a4,bm,bb,bT,bV,bP,bk,bc,bR,bK,bw,bi,a5,bC,bU,bf,ba,bN,bG,a7,bv,bo,bz,bO,a9] kk) ?_ (ent_one hmaone rfl kk)
   try simp only [p3,p4]
   refine nilY ?_
   exact hK
  ·rintro ll bB prs kk W ⟨hB,hkW,L2,L4,L6,cA,hq⟩ hqB hLB
   try simp only [p3,p4]
   refine wpIn_block ?_
   refine wpIn_seq_k (fun K1 k1=>?_)
   have gd:=Gr.drew W
   refine ordI (wide_round ll) (fun w'=>Lc w' bB (ent [bn,a8,bh,bJ,bE,bM,bL,bF,bH,bp,bt,a6,bD,bj,bS,bx,a3,bg,bq,bA,bu,bQ,bd,a4,bm,bb,bT,bV,bP,bk,bc,bR,bK,bw,bi,a5,bC,bU,bf,ba,bN,bG,a7,bv,bo,bz,bO,a9] kk).toArray 36∧Lc w' b6 [ad,ar,aX,aZ,aO,aT,aB,aF,a1,aq,aP,aQ,a0,ac,aD,aa,aI,aY,aH,av,aR,ai,ax,ak,au,aM,aL,ay,aC,aN,az,aV,aE,al,aU,aw,aj,aW,ab,aJ,ah,ae,aK,af,aG,a2,aA,aS].toArray 116) [(true,0),(true,1),(true,2),(true,3),(false,4),(true,5)] (by kernel_rfl) (by kernel_rfl) (by kernel_rfl) (by decide) (fun _ _ _ _ _ h=>h) ⟨hLB.gr gd,L6.gr gd⟩ ?_
   refine ow 21 (.agg (ent [bn,a8,bh,bJ,bE,bM,bL,bF,bH,bp,bt,a6,bD,bj,bS,bx,a3,bg,bq,bA,bu,bQ,bd,a4,bm,bb,bT,bV,bP,bk,bc,bR,bK,bw,bi,a5,bC,bU,bf,ba,bN,bG,a7,bv,bo,bz,bO,a9] kk).toArray) rfl (fun w' hS=>rl 36 0 (ent [bn,a8,bh,bJ,bE,bM,bL,bF,bH,bp,bt,a6,bD,bj,bS,bx,a3,bg,bq,bA,bu,bQ,bd,a4,bm,bb,bT,bV,bP,bk,bc,bR,bK,bw,bi,a5,bC,bU,bf,ba,bN,bG,a7,bv,bo,bz,bO,a9] kk) hS.1) ?_
   try simp only [p3,p4]
   refine ov 22 (.int .i64 (kk.val:Int)) ?_
   try simp only [p3,p4]
   refine ow 23 (.pointer (some ⟨b6,4*kk.val,none⟩)) rfl (fun w' hS=>rv_aix 116 _ _ b6 12 36 4 kk.val kk.isLt) ?_
   try simp only [p3,p4]
   refine ow 24 (.agg (ent [ad,ar,aX,aZ,aO,aT,aB,aF,a1,aq,aP,aQ,a0,ac,aD,aa,aI,aY,aH,av,aR,ai,ax,ak,au,aM,aL,ay,aC,aN,az,aV,aE,al,aU,aw,aj,aW,ab,aJ,ah,ae,aK,af,aG,a2,aA,aS] kk).toArray) rfl (fun w' hS=>rl 36 (4*kk.val) (ent [ad,ar,aX,aZ,aO,aT,aB,aF,a1,aq,aP,aQ,a0,ac,aD,aa,aI,aY,aH,av,aR,ai,ax,ak,au,aM,aL,ay,aC,aN,az,aV,aE,al,aU,aw,aj,aW,ab,aJ,ah,ae,aK,af,aG,a2,aA,aS] kk) hS.2 (hv:=ent_take rfl kk)) ?_
   try simp only [p3,p4]
   refine oe ?_
   refine ec 25 (compare_r ((qa kk).kp (hB.trans gd).kp) ((qb kk).kp (hB.trans gd).kp) (by omega)) ?_
   rintro e1 w1 ⟨rfl,g1⟩
   refine ⟨_,rfl,?_⟩
   refine ⟨⟨hLB.gr (gd.trans g1),L6.gr (gd.trans g1)⟩,?_⟩
   try simp only [p3,p4]
   refine ov 26 (.bool (rcmp ([cZ,cP,cT,cK,cM,cU,cJ,cG,cL,cQ,cW,cV].getD kk.val 0) ([cX,cN,cF,cC,cY,cO,cR,cD,c4,cH,cE,cS].getD kk.val 0) !=0)) ?_
   try simp only [p3,p4]
   refine ord_nil ?_
   refine k1 _ _ ?_
   clear k1 K1
   have g:=gd.trans g1
   have ho:=others_gr g
   refine wpIn_cond_split rfl (fun hb=>?_) (fun hb=>?_)
   ·refine wpIn_seq_k (fun K1 k1=>?_)
    refine rgI (wide_round ll) [0] ?_
    refine se ?_
    refine es 4 0 _ [.bool false] #[.bool false] (L4.gr g) (hB.trans g) q4 ⟨rfl,trivial⟩ ?_
    intro w2 st kp N g2
    refine sq_nil ?_
    refine k1 _ _ ?_
    clear k1 K1
    refine wpIn_ret ?_
    have dK:=others_st st (L4.gr g) (Nat.le_of_eq (by rw [st.size]))
    exact ⟨(ho.trans dK).from _,rfl,g2,(hkW.trans g.kp).trans kp,st.lc (L2.gr g) dh,N,st.lc (L6.gr g) (Ne.symm c8),(cA.gr g).st st (Ne.symm c6),⟨kk,by simpa using hb⟩⟩
   ·refine wpIn_skip ?_
    refine ⟨ho.from _,ho.walks,hB.trans g,hkW.trans g.kp,L2.gr g,L4.gr g,L6.gr g,cA.gr g,fun j hj=>?_⟩
    rcases List.mem_append.1 hj with hj | hj
    · exact hq j hj
    · simp only [List.mem_singleton] at hj;subst hj;simpa using hb
  ·rintro dn dv c7 ⟨dl,dy,df,c5,dc,cB,hqd⟩ c9
   have da:=L4.ne c7
   have cy:=cA.ne c7
   replace c7:=Nat.le_trans (Below.size hB) c7
   replace hB:=dl
   replace L4:=c5
   replace cA:=cB
   change IsMk dv dn at c9
   refine dG _ _ ?_
   try clear dG dN
   refine wp_seq_k (fun dL dF=>?_)
   refine rg [0] ?_
   refine se ?_
   refine es 4 0 (.bool true) [(.bool true)] #[(.bool true)] L4 hB q4 ⟨rfl,trivial⟩ fun dR dd dO L4 hB=>?_
   refine sq_nil ?_
   refine dF _ _ ?_
   try clear dF dL
   refine wp_ret ?_
   replace c9:=c9.st dd (Ne.symm da)
   replace cA:=cA.st dd (Ne.symm c6)
   refine endN [dn,db] _ (List.Pairwise.cons (List.forall_mem_cons.2 ⟨(Ne.symm cy),(fun _ h=>absurd h (by simp))⟩) (List.Pairwise.cons (fun _ h=>absurd h (by simp)) List.Pairwise.nil)) (List.forall_mem_cons.2 ⟨⟨c7,c9⟩,(List.forall_mem_cons.2 ⟨⟨di,cA⟩,(fun _ h=>absurd h (by simp))⟩)⟩) hB (fun dQ dA hB=>?_)
   replace L4:=dA.lc L4 (by decide)
   refine ⟨(.bool true),(ret_cell1 _ _ _ rfl rfl L4 (by kernel_rfl)),?_,hB⟩
   exact (by rw [show decide (_=_)=true from decide_eq_true ((rcmp12 rfl rfl).1 hqd)])
  ·rintro dn c prs dv c7 ⟨rfl,dl,dy,df,c5,dc,cB,hleft⟩ c9
   have cy:=cA.ne c7
   replace c7:=Nat.le_trans (Below.size hB) c7
   replace hB:=dl
   replace L4:=c5
   replace cA:=cB
   change IsMk dv dn at c9
   refine wp_ret ?_
   simp only [Exit.then,Exit.inBlock]
   refine endN [dn,db] _ (List.Pairwise.cons (List.forall_mem_cons.2 ⟨(Ne.symm cy),(fun _ h=>absurd h (by simp))⟩) (List.Pairwise.cons (fun _ h=>absurd h (by simp)) List.Pairwise.nil)) (List.forall_mem_cons.2 ⟨⟨c7,c9⟩,(List.forall_mem_cons.2 ⟨⟨di,cA⟩,(fun _ h=>absurd h (by simp))⟩)⟩) hB (fun dS du hB=>?_)
   replace L4:=du.lc L4 (by decide)
   refine ⟨(.bool false),(ret_cell1 _ _ _ rfl rfl L4 (by kernel_rfl)),?_,hB⟩
   exact (by obtain ⟨j,hj⟩:=hleft;rw [show decide (_=_)=false from decide_eq_false (fun h=>hj ((rcmp12 rfl rfl).2 h j (mem_all12 j)))])
 ·intro D c prs W _ h;exact h.elim

end Go.Proofs.YtaldbfflkpgfoaaGreatDoor
/- The primitive multiple of six small numbers:plain facts. -/
namespace Go.Proofs.YtaldbfflkpgfoaaGreatDoor
def tz (M:Int) (a:Rat):Int:=a.num*(M/(a.den:Int))
end Go.Proofs.YtaldbfflkpgfoaaGreatDoor
/- Arrays of texts compared with themselves;an integer among the rationals is small. -/
namespace Go.Proofs.YtaldbfflkpgfoaaGreatDoor
open Go.RowKit
section
variable {P:Program} {a:Act} {o:Oper} {w:World} {Q:Exit→Act→World→Prop}
theorem rv_rem (t t2:TypeId) (x y:Operand) (A B:Int) (hop:o.op=.binOp .rem t x y t2) (hx:a.eval x=.int .i64 A) (hy:a.eval y=.int .i64 B) (hA:0≤A) (hB:0<B):RunV P a o w (.int .i64 (A % B)):=by
  have h0:¬ B=0:=by omega
  have e:Int.tmod A B=A % B:=Int.tmod_eq_emod_of_nonneg hA
  unfold RunV execOp
  simp only [hop,hx,hy]
  simp [go_sem,binOp,eqGuard,Op.intDiv,h0,e]
theorem rv_quo (t t2:TypeId) (x y:Operand) (A B C:Int) (hop:o.op=.binOp .quo t x y t2) (hx:a.eval x=.int .i64 A) (hy:a.eval y=.int .i64 B) (hC:Int.tdiv A B=C) (h1:-9223372036854775808≤C) (h2:C≤9223372036854775807) (hB:0<B):RunV P a o w (.int .i64 C):=by
  have h0:¬ B=0:=by omega
  have e2:IntKind.i64.wrap C=C:=by rw [IntKind.wrap_i64];omega
  unfold RunV execOp
  simp only [hop,hx,hy]
  simp [go_sem,binOp,eqGuard,Op.intDiv,h0,hC,e2]
end

theorem IsRat.small {w:World} {K:Nat} {c0 c1 c2 c3:Value} {z:Int} (h:IsRat w K c0 c1 c2 c3 (z:Rat)) (h0:-9223372036854775808≤z) (h1:z≤9223372036854775807):IsRat w 64 c0 c1 c2 c3 (z:Rat):=by
  obtain ⟨hn,⟨D,hd,hD⟩,_⟩:=h
  have e1:((z:Rat)).num=z:=Rat.num_intCast z
  have e2:((z:Rat)).den=1:=Rat.den_intCast z
  rw [e1] at hn
  refine ⟨by rw [e1];exact hn.resz (Sz.i64 h0 h1),⟨D,hd.resz ?_,hD⟩,Nat.le_refl 64⟩
  unfold Sz
  rw [e2] at hD
  rcases hD with h | ⟨h,_⟩<;>subst h<;>decide
theorem gcd_stepZ {g n:Int} (hg:0≤g) (hn:0<n):Int.gcd n (g % n)=Int.gcd g n:=by
  obtain ⟨a,rfl⟩:=Int.eq_ofNat_of_zero_le hg
  obtain ⟨b,rfl⟩:=Int.eq_ofNat_of_zero_le (Int.le_of_lt hn)
  rw [← Int.natCast_emod,Int.gcd_natCast_natCast,Int.gcd_natCast_natCast,Nat.gcd_comm b,← Nat.gcd_rec,Nat.gcd_comm]
theorem gcd_endZ {g n G v m:Int} (h:Int.gcd g n=Int.gcd G v) (hn:(n !=(0:Int))=false) (hg:0≤g) (hv:v=m∨v=-m):g=(Int.gcd G m:Int):=by
  have h0:n=0:=by simpa using hn
  rw [h0,Int.gcd_zero_right] at h
  have:Int.gcd G v=Int.gcd G m:=by
    rcases hv with e | e
    · rw [e]
    · rw [e,Int.gcd_neg]
  omega
end Go.Proofs.YtaldbfflkpgfoaaGreatDoor
/- What the whole numbers of a rotation's quaternion are made of. -/
namespace Go.Proofs.YtaldbfflkpgfoaaGreatDoor
open Go.RowKit
def pden4 (a1 a2 a3 a4:Rat):Int:=lcmS (lcmS (lcmS (lcmS 1 (a1.den:Int)) (a2.den:Int)) (a3.den:Int)) (a4.den:Int)
/-- the sign of the first number that is not 0 -/
def wsgn (a1 a2 a3 a4:Rat):Int:=if sgn a1.num=0 then (if sgn a2.num=0 then (if sgn a3.num=0 then sgn a4.num else sgn a3.num) else sgn a2.num) else sgn a1.num
def wout (a1 a2 a3 a4 x:Rat):Int:=x.num*(pden4 a1 a2 a3 a4/(x.den:Int))*wsgn a1 a2 a3 a4
def wgcd (a1 a2 a3 a4:Rat):Int:=
  (Int.gcd (Int.gcd (Int.gcd (Int.gcd 0 (wout a1 a2 a3 a4 a1):Int) (wout a1 a2 a3 a4 a2):Int) (wout a1 a2 a3 a4 a3):Int) (wout a1 a2 a3 a4 a4):Int)
def wz (a1 a2 a3 a4 x:Rat):Int:=wout a1 a2 a3 a4 x/wgcd a1 a2 a3 a4
theorem den_posI (a:Rat):0<(a.den:Int):=by have:=a.den_pos;omega
end Go.Proofs.YtaldbfflkpgfoaaGreatDoor
/- Printed by a program of the prover's:the run through motion.whole. -/
namespace Go.Proofs.YtaldbfflkpgfoaaGreatDoor
open Go.RowKit

/-- how the regions that draw their order are run -/
noncomputable def tabW:List (Nat × List (Nat × Ent)):=[(104,[(5,.flo [(true,0),(true,1),(true,2),(false,3),(false,4),(false,5),(true,6),(true,7),(true,8),(true,9)] [(10,7,34),(11,8,34)] [(false,12),(false,13),(true,14)] []),(6,.ord [(true,0),(true,1),(false,2),(false,3),(false,4)] [3]),(15,.flo [(true,0),(true,1),(false,2),(false,3),(true,4),(true,5),(true,6),(true,7)] [(8,14,34),(9,15,34)] [(false,10),(false,11),(true,12)] []),(16,.ord [(true,0),(true,1),(true,3),(true,5),(false,2),(false,4),(false,6),(false,7),(true,8),(false,9)] [10]),(17,.ort [(true,0),(true,1),(true,2),(true,3),(false,4),(false,5)] [11] [([5],11)]),(22,.ort [(true,0),(true,1),(true,2),(true,3),(true,4),(false,5),(true,6),(true,7),(true,8),(true,9),(true,10),(false,11)] [10] [([11],10)])])]
noncomputable def conW:List (Nat × ConT):=[(76,cSign),
 (130,cNum),
 (81,cDen),
 (96,cZFrom),
 (80,cZMul),
 (122,cZGcd),
 (123,cZDiv)]
noncomputable def sysW:Sys:=⟨Tryz.prog,2,199,tabW,conW,fun _=>True⟩
theorem sysW_ok:sysW.OK where
  mixed:=by kernel_rfl
  calls:=fun f h0 h1=>by
    have:(List.range 199).all (fun f=>Nat.blt f 2||okCall Tryz.prog f)=true:=by kernel_rfl
    have:=List.all_eq_true.1 this f (List.mem_range.2 h1)
    simp only [Bool.or_eq_true] at this
    exact this.resolve_left (fun e=>by have:=blt_of e;exact absurd h0 (by show ¬ 2≤f;omega))
  tab:=by
    have:tabW.all (okTab Tryz.prog)=true:=by kernel_rfl
    exact fun x hx=>List.all_eq_true.1 this x hx
  lps:=lps_no (by kernel_rfl)
  con:=fun x hx=>by
    simp only [sysW,conW,List.mem_cons,List.not_mem_nil,or_false] at hx
    rcases hx with rfl | rfl | rfl | rfl | rfl | rfl | rfl
    · exact cSign_ok
    · exact cNum_ok
    · exact cDen_ok
    · exact cZFrom_ok
    · exact cZMul_ok
    · exact cZGcd_ok
    · exact cZDiv_ok
  inv:=fun _ _ _ _=>trivial
def woS (a1 a2 a3 a4:Rat) (s:Int) (x:Rat):Int:=x.num*(pden4 a1 a2 a3 a4/(x.den:Int))*s
def wgS (a1 a2 a3 a4:Rat) (s:Int):Int:=(Int.gcd (Int.gcd (Int.gcd (Int.gcd 0 (woS a1 a2 a3 a4 s a1):Int) (woS a1 a2 a3 a4 s a2):Int) (woS a1 a2 a3 a4 s a3):Int) (woS a1 a2 a3 a4 s a4):Int)
def retW (z1 z2 z3 z4:Int):SV:=.so (.vg [.cz 57 0 40128 (z1),.cz 57 1 40128 (z1),.cz 59 0 40128 (z2),.cz 59 1 40128 (z2),.cz 61 0 40128 (z3),.cz 61 1 40128 (z3),.cz 63 0 40128 (z4),.cz 63 1 40128 (z4)])
def endW (a1 a2 a3 a4:Rat) (s:Int):Lf:=.as (decide (0<(a1.den:Int))) true (.as (decide (0<(a2.den:Int))) true (.as (decide (0<(a3.den:Int))) true (.as (decide (0<(a4.den:Int))) true (.as (decide (0<wgS a1 a2 a3 a4 s)) true (.as (decide (0<wgS a1 a2 a3 a4 s)) true (.as (decide (0<wgS a1 a2 a3 a4 s)) true (.as (decide (0<wgS a1 a2 a3 a4 s)) true (.ret (retW (woS a1 a2 a3 a4 s a1/wgS a1 a2 a3 a4 s) (woS a1 a2 a3 a4 s a2/wgS a1 a2 a3 a4 s) (woS a1 a2 a3 a4 s a3/wgS a1 a2 a3 a4 s) (woS a1 a2 a3 a4 s a4/wgS a1 a2 a3 a4 s))))))))))
def treeW (a1 a2 a3 a4:Rat):Lf:=.as (decide (0<(Int.gcd 1 (a1.den:Int):Int))) true (.as (decide (0<(Int.gcd (lcmS 1 (a1.den:Int)) (a2.den:Int):Int))) true (.br (sgn a1.num==0)
  (.as (decide (0<(Int.gcd (lcmS (lcmS 1 (a1.den:Int)) (a2.den:Int)) (a3.den:Int):Int))) true (.br (sgn a2.num==0) (.as (decide (0<(Int.gcd (lcmS (lcmS (lcmS 1 (a1.den:Int)) (a2.den:Int)) (a3.den:Int)) (a4.den:Int):Int))) true (.br (sgn a3.num==0) (endW a1 a2 a3 a4 (sgn a4.num)) (endW a1 a2 a3 a4 (sgn a3.num)))) (.as (decide (0<(Int.gcd (lcmS (lcmS (lcmS 1 (a1.den:Int)) (a2.den:Int)) (a3.den:Int)) (a4.den:Int):Int))) true (.as (sgn a2.num==0) false (endW a1 a2 a3 a4 (sgn a2.num))))))
  (.as (decide (0<(Int.gcd (lcmS (lcmS 1 (a1.den:Int)) (a2.den:Int)) (a3.den:Int):Int))) true (.as (sgn a1.num==0) false (.as (decide (0<(Int.gcd (lcmS (lcmS (lcmS 1 (a1.den:Int)) (a2.den:Int)) (a3.den:Int)) (a4.den:Int):Int))) true (.as (sgn a1.num==0) false (endW a1 a2 a3 a4 (sgn a1.num))))))))
theorem runW (a1 a2 a3 a4:Rat):runF sysW 104 [.so (.vg [.cr 0 0 8000 a1,.cr 0 1 8000 a1,.cr 0 2 8000 a1,.cr 0 3 8000 a1,.cr 1 0 8000 a2,.cr 1 1 8000 a2,.cr 1 2 8000 a2,.cr 1 3 8000 a2,.cr 2 0 8000 a3,.cr 2 1 8000 a3,.cr 2 2 8000 a3,.cr 2 3 8000 a3,.cr 3 0 8000 a4,.cr 3 1 8000 a4,.cr 3 2 8000 a4,.cr 3 3 8000 a4])] 4 0 (.s (.s (.s .e .e) (.f .e)) (.f (.f .e)))=some (treeW a1 a2 a3 a4):=by kernel_rfl
end Go.Proofs.YtaldbfflkpgfoaaGreatDoor
/- The whole numbers of four rationals:what the run says. -/
namespace Go.Proofs.YtaldbfflkpgfoaaGreatDoor
open Go.RowKit

/-- rationals as arguments:their cells,the environment -/
def envR (cs:List Value):Env:=⟨fun _=>0,fun j c=>cs.getD (4*j+c) undef,fun _ _=>undef,[]⟩
def okA (n:Nn) (X:Env) (W:World):List Cl→Prop
  | []=>True
  | c::l=>c.ok n X W∧okA n X W l
theorem okA_ok {n:Nn} {X:Env} {W:World}:∀ {l:List Cl},okA n X W l→okL n X W l
  | [],_,_,h=>by cases h
  | c::l,hh,x,h=>by
    rcases List.mem_cons.1 h with rfl | h
    · exact hh.1
    · exact okA_ok hh.2 x h
theorem okF1 {n:Nn} {X:Env} {W:World} {v:SV} (h:v.ok n X W):okF n X W [v]:=fun x hx=>by rw [List.mem_singleton] at hx;exact hx ▸ h
theorem gcd_den_pos (d:Int) (a:Rat):decide (0<(Int.gcd d (a.den:Int):Int))=true:=by
  have h:=a.den_pos
  have:0<Int.gcd d (a.den:Int):=Int.gcd_pos_of_ne_zero_right _ (by omega)
  exact decide_eq_true (by omega)
theorem endW_ok {a1 a2 a3 a4:Rat} {s:Int} (hs:wsgn a1 a2 a3 a4=s) (hg:0<wgcd a1 a2 a3 a4):
    LOK (fun v=>v=retW (wz a1 a2 a3 a4 a1) (wz a1 a2 a3 a4 a2) (wz a1 a2 a3 a4 a3) (wz a1 a2 a3 a4 a4)) (endW a1 a2 a3 a4 s):=by
  subst hs
  have d:=fun a:Rat=>decide_eq_true (den_posI a)
  have g:decide (0<wgS a1 a2 a3 a4 (wsgn a1 a2 a3 a4))=true:=decide_eq_true hg
  exact ⟨d a1,d a2,d a3,d a4,g,g,g,g,rfl⟩
theorem treeW_ok {a1 a2 a3 a4:Rat} (hg:0<wgcd a1 a2 a3 a4):
    LOK (fun v=>v=retW (wz a1 a2 a3 a4 a1) (wz a1 a2 a3 a4 a2) (wz a1 a2 a3 a4 a3) (wz a1 a2 a3 a4 a4)) (treeW a1 a2 a3 a4):=by
  have t:=fun {z:Int} (h:(z==0)=true)=>eq_of_beq h
  have f:=fun {z:Int} (h:(z==0)=false)=>ne_of_beq_false h
  refine ⟨gcd_den_pos _ _,gcd_den_pos _ _,fun h1=>⟨gcd_den_pos _ _,fun h2=>⟨gcd_den_pos _ _,fun h3=>endW_ok ?_ hg,fun h3=>endW_ok ?_ hg⟩,fun h2=>⟨gcd_den_pos _ _,h2,endW_ok ?_ hg⟩⟩,fun h1=>⟨gcd_den_pos _ _,h1,gcd_den_pos _ _,h1,endW_ok ?_ hg⟩⟩
  · unfold wsgn;rw [if_pos (t h1),if_pos (t h2),if_pos (t h3)]
  · unfold wsgn;rw [if_pos (t h1),if_pos (t h2),if_neg (f h3)]
  · unfold wsgn;rw [if_pos (t h1),if_neg (f h2)]
  · unfold wsgn;rw [if_neg (f h1)]
theorem mwhole {k:Nat} {aw ab ad ai:Value} {a1:Rat} {aq ac au ah:Value} {a2:Rat} {ak al af aj:Value} {a3:Rat} {ar av aa ae:Value} {a4:Rat} {w:World} (h1:IsRat w k aw ab ad ai a1) (h2:IsRat w k aq ac au ah a2) (h3:IsRat w k ak al af aj a3) (h4:IsRat w k ar av aa ae a4) (hg:0<wgcd a1 a2 a3 a4) (hk:k≤8000):
    Calls Tryz.prog 104 #[.agg #[aw,ab,ad,ai,aq,ac,au,ah,ak,al,af,aj,ar,av,aa,ae]] w fun e w'=>(∃ t0 t1 t2 t3 t4 t5 t6 t7,e=.returned (.agg #[t0,t1,t2,t3,t4,t5,t6,t7])∧IsInt w' 40128 t0 t1 (wz a1 a2 a3 a4 a1)∧IsInt w' 40128 t2 t3 (wz a1 a2 a3 a4 a2)∧IsInt w' 40128 t4 t5 (wz a1 a2 a3 a4 a3)∧IsInt w' 40128 t6 t7 (wz a1 a2 a3 a4 a4))∧Gr w w':=by
  replace h1:=h1.mono hk
  replace h2:=h2.mono hk
  replace h3:=h3.mono hk
  replace h4:=h4.mono hk
  refine (run_calls sysW sysW_ok (runW a1 a2 a3 a4) (X:=envR [aw,ab,ad,ai,aq,ac,au,ah,ak,al,af,aj,ar,av,aa,ae]) trivial (okF1 (okA_ok ⟨⟨rfl,h1⟩,⟨rfl,h1⟩,⟨rfl,h1⟩,⟨rfl,h1⟩,⟨rfl,h2⟩,⟨rfl,h2⟩,⟨rfl,h2⟩,⟨rfl,h2⟩,⟨rfl,h3⟩,⟨rfl,h3⟩,⟨rfl,h3⟩,⟨rfl,h3⟩,⟨rfl,h4⟩,⟨rfl,h4⟩,⟨rfl,h4⟩,⟨rfl,h4⟩,trivial⟩)) (treeW_ok hg)).mono fun e w' he=>?_
  obtain ⟨v,X',n,rfl,g,_,hv,rfl⟩:=he
  exact ⟨⟨_,_,_,_,_,_,_,_,rfl,(hv _ (.head _)).2,(hv _ (.tail _ (.tail _ (.head _)))).2,(hv _ (.tail _ (.tail _ (.tail _ (.tail _ (.head _)))))).2,(hv _ (.tail _ (.tail _ (.tail _ (.tail _ (.tail _ (.tail _ (.head _)))))))).2⟩,g⟩
end Go.Proofs.YtaldbfflkpgfoaaGreatDoor
/- A rotation's quaternion:which row is taken,and that it is not 0. -/
namespace Go.Proofs.YtaldbfflkpgfoaaGreatDoor
open Go.RowKit
theorem wsgn_ne {a1 a2 a3 a4:Rat} (h:¬(a1=0∧a2=0∧a3=0∧a4=0)):wsgn a1 a2 a3 a4≠0:=by
  unfold wsgn
  have z:∀ a:Rat,sgn a.num=0→a=0:=fun a ha=>Rat.num_eq_zero.1 (sgn_eq_zero.1 ha)
  split
  · next h1=>
    split
    · next h2=>
      split
      · next h3=>exact fun h4=>h ⟨z _ h1,z _ h2,z _ h3,z _ h4⟩
      · assumption
    · assumption
  · assumption
theorem lcmS_dvd {d:Int} (q:Rat) (_h:0<d):d∣lcmS d (q.den:Int)∧(q.den:Int)∣lcmS d (q.den:Int):=by
  obtain ⟨h1,h2⟩:=gcd_ex d q
  unfold lcmS
  refine ⟨?_,Int.dvd_mul_left _ _⟩
  obtain ⟨c,hc⟩:=h2
  have h3:(Int.gcd d (q.den:Int):Int)∣(q.den:Int):=Int.gcd_dvd_right ..
  obtain ⟨e,he⟩:=h3
  generalize (Int.gcd d (q.den:Int):Int)=g at*
  refine ⟨e,?_⟩
  rw [he,hc,Int.mul_ediv_cancel_left c (by omega)]
  rw [← Int.mul_assoc,Int.mul_comm c g,Int.mul_assoc]
theorem pden4_pos (a1 a2 a3 a4:Rat):0<pden4 a1 a2 a3 a4:=lcmS_pos _ (lcmS_pos _ (lcmS_pos _ (lcmS_pos _ (by omega))))
theorem pden4_dvd (a1 a2 a3 a4:Rat):(a1.den:Int)∣pden4 a1 a2 a3 a4∧(a2.den:Int)∣pden4 a1 a2 a3 a4∧(a3.den:Int)∣pden4 a1 a2 a3 a4∧(a4.den:Int)∣pden4 a1 a2 a3 a4:=by
  have p1:(0:Int)<1:=by omega
  have p2:=lcmS_pos a1 p1
  have p3:=lcmS_pos a2 p2
  have p4:=lcmS_pos a3 p3
  have d1:=lcmS_dvd a1 p1
  have d2:=lcmS_dvd a2 p2
  have d3:=lcmS_dvd a3 p3
  have d4:=lcmS_dvd a4 p4
  unfold pden4
  exact ⟨Int.dvd_trans d1.2 (Int.dvd_trans d2.1 (Int.dvd_trans d3.1 d4.1)),Int.dvd_trans d2.2 (Int.dvd_trans d3.1 d4.1),Int.dvd_trans d3.2 d4.1,d4.2⟩
theorem div_pos_of {d x:Int} (hd:0<d) (hx:0<x) (h:x∣d):0<d/x:=by
  obtain ⟨c,rfl⟩:=h
  rw [Int.mul_ediv_cancel_left c (by omega)]
  rcases Int.lt_or_le 0 c with h3 | h3
  · exact h3
  · have:=Int.mul_nonpos_of_nonneg_of_nonpos (Int.le_of_lt hx) h3;omega
theorem wout_zero {a1 a2 a3 a4 x:Rat} (hs:wsgn a1 a2 a3 a4≠0) (hd:(x.den:Int)∣pden4 a1 a2 a3 a4) (h:wout a1 a2 a3 a4 x=0):x=0:=by
  have h1:=div_pos_of (pden4_pos a1 a2 a3 a4) (den_posI x) hd
  unfold wout at h
  rcases Int.mul_eq_zero.1 h with h | h
  · rcases Int.mul_eq_zero.1 h with h | h
    · exact Rat.num_eq_zero.1 h
    · omega
  · exact absurd h hs
theorem wgcd_pos {a1 a2 a3 a4:Rat} (h:¬(a1=0∧a2=0∧a3=0∧a4=0)):0<wgcd a1 a2 a3 a4:=by
  have hs:=wsgn_ne h
  have hd:=pden4_dvd a1 a2 a3 a4
  have h0:0≤wgcd a1 a2 a3 a4:=Int.natCast_nonneg _
  rcases Int.lt_or_le 0 (wgcd a1 a2 a3 a4) with h1 | h1
  · exact h1
  · exfalso
    apply h
    have e:wgcd a1 a2 a3 a4=0:=by omega
    unfold wgcd at e
    have e1:=Int.gcd_eq_zero_iff.1 (Int.natCast_eq_zero.1 e)
    have e2:=Int.gcd_eq_zero_iff.1 (Int.natCast_eq_zero.1 e1.1)
    have e3:=Int.gcd_eq_zero_iff.1 (Int.natCast_eq_zero.1 e2.1)
    have e4:=Int.gcd_eq_zero_iff.1 (Int.natCast_eq_zero.1 e3.1)
    exact ⟨wout_zero hs hd.1 e4.2,wout_zero hs hd.2.1 e3.2,wout_zero hs hd.2.2.1 e2.2,wout_zero hs hd.2.2.2 e1.2⟩
def qrow (a11 a12 a13 a21 a22 a23 a31 a32 a33:Rat):Rat × Rat × Rat × Rat:=
  if sgn ((((0+1)+a11)+a22)+a33).num=0 then (if sgn ((1+a11) - (a22+a33)).num=0 then (if sgn ((1+a22) - (a11+a33)).num=0 then ((a21 - a12),(a13+a31),(a23+a32),((1+a33) - (a11+a22))) else ((a13 - a31),(a12+a21),((1+a22) - (a11+a33)),(a23+a32))) else ((a32 - a23),((1+a11) - (a22+a33)),(a12+a21),(a13+a31))) else (((((0+1)+a11)+a22)+a33),(a32 - a23),(a13 - a31),(a21 - a12))
def wzq (r:Rat × Rat × Rat × Rat) (i:Nat):Int:=wz r.1 r.2.1 r.2.2.1 r.2.2.2 (match i with | 0=>r.1 | 1=>r.2.1 | 2=>r.2.2.1 | _=>r.2.2.2)
section
variable {a11 a12 a13 a21 a22 a23 a31 a32 a33:Rat}
theorem qrow1f (h0:(sgn ((((0+1)+a11)+a22)+a33).num==(0:Int))=false):qrow a11 a12 a13 a21 a22 a23 a31 a32 a33=(((((0+1)+a11)+a22)+a33),(a32 - a23),(a13 - a31),(a21 - a12)):=by
  unfold qrow
  simp only [beq_eq_false_iff_ne,ne_eq] at h0
  rw [if_neg h0]
theorem row_pos1f (h0:(sgn ((((0+1)+a11)+a22)+a33).num==(0:Int))=false):0<wgcd ((((0+1)+a11)+a22)+a33) (a32 - a23) (a13 - a31) (a21 - a12):=wgcd_pos (by
  rintro ⟨h5,h6,h7,h8⟩
  rw [h5] at h0;exact absurd h0 (by decide))
theorem qrow2f (h0:(sgn ((((0+1)+a11)+a22)+a33).num==(0:Int))=true) (h1:(sgn ((1+a11) - (a22+a33)).num==(0:Int))=false):qrow a11 a12 a13 a21 a22 a23 a31 a32 a33=((a32 - a23),((1+a11) - (a22+a33)),(a12+a21),(a13+a31)):=by
  unfold qrow
  simp only [beq_iff_eq,beq_eq_false_iff_ne,ne_eq] at h0 h1
  rw [if_pos h0,if_neg h1]
theorem row_pos2f (_h0:(sgn ((((0+1)+a11)+a22)+a33).num==(0:Int))=true) (h1:(sgn ((1+a11) - (a22+a33)).num==(0:Int))=false):0<wgcd (a32 - a23) ((1+a11) - (a22+a33)) (a12+a21) (a13+a31):=wgcd_pos (by
  rintro ⟨h5,h6,h7,h8⟩
  rw [h6] at h1;exact absurd h1 (by decide))
theorem qrow3f (h0:(sgn ((((0+1)+a11)+a22)+a33).num==(0:Int))=true) (h1:(sgn ((1+a11) - (a22+a33)).num==(0:Int))=true) (h2:(sgn ((1+a22) - (a11+a33)).num==(0:Int))=false):qrow a11 a12 a13 a21 a22 a23 a31 a32 a33=((a13 - a31),(a12+a21),((1+a22) - (a11+a33)),(a23+a32)):=by
  unfold qrow
  simp only [beq_iff_eq,beq_eq_false_iff_ne,ne_eq] at h0 h1 h2
  rw [if_pos h0,if_pos h1,if_neg h2]
theorem row_pos3f (_h0:(sgn ((((0+1)+a11)+a22)+a33).num==(0:Int))=true) (_h1:(sgn ((1+a11) - (a22+a33)).num==(0:Int))=true) (h2:(sgn ((1+a22) - (a11+a33)).num==(0:Int))=false):0<wgcd (a13 - a31) (a12+a21) ((1+a22) - (a11+a33)) (a23+a32):=wgcd_pos (by
  rintro ⟨h5,h6,h7,h8⟩
  rw [h7] at h2;exact absurd h2 (by decide))
theorem qrow3t (h0:(sgn ((((0+1)+a11)+a22)+a33).num==(0:Int))=true) (h1:(sgn ((1+a11) - (a22+a33)).num==(0:Int))=true) (h2:(sgn ((1+a22) - (a11+a33)).num==(0:Int))=true):qrow a11 a12 a13 a21 a22 a23 a31 a32 a33=((a21 - a12),(a13+a31),(a23+a32),((1+a33) - (a11+a22))):=by
  unfold qrow
  simp only [beq_iff_eq] at h0 h1 h2
  rw [if_pos h0,if_pos h1,if_pos h2]
theorem row_pos3t (h0:(sgn ((((0+1)+a11)+a22)+a33).num==(0:Int))=true) (h1:(sgn ((1+a11) - (a22+a33)).num==(0:Int))=true) (h2:(sgn ((1+a22) - (a11+a33)).num==(0:Int))=true):0<wgcd (a21 - a12) (a13+a31) (a23+a32) ((1+a33) - (a11+a22)):=wgcd_pos (by
  rintro ⟨h5,h6,h7,h8⟩
  simp only [beq_iff_eq,sgn_eq_zero,Rat.num_eq_zero] at h0 h1 h2
  grind)
end
end Go.Proofs.YtaldbfflkpgfoaaGreatDoor
/- A quaternion of integers:its primitive one,the rows of its rotation,and that these lead back to it. -/
namespace Go.Proofs.YtaldbfflkpgfoaaGreatDoor
open Go.RowKit
def qgcd (n1 n2 n3 n4:Int):Int:=(Int.gcd (Int.gcd (Int.gcd (Int.gcd 0 n1:Int) n2:Int) n3:Int) n4:Int)
def qsgn (n1 n2 n3 n4:Int):Int:=if n1=0 then (if n2=0 then (if n3=0 then sgn n4 else sgn n3) else sgn n2) else sgn n1
def qprim (n1 n2 n3 n4 n:Int):Int:=n/qgcd n1 n2 n3 n4*qsgn n1 n2 n3 n4
theorem gcd_mulI (k a b:Int):(Int.gcd (k*a) (k*b):Int)=(k.natAbs:Int)*(Int.gcd a b:Int):=by
  rw [Int.gcd_mul_left];exact Int.natCast_mul ..
theorem gcd_mulA (k a b:Int):(Int.gcd ((k.natAbs:Int)*a) (k*b):Int)=(k.natAbs:Int)*(Int.gcd a b:Int):=by
  rw [← gcd_mulI]
  rcases Int.natAbs_eq k with h | h
  · rw [← h]
  · generalize (k.natAbs:Int)=m at h;subst h
    rw [Int.neg_mul,Int.neg_mul,Int.gcd_neg,Int.neg_gcd,Int.gcd_neg]
theorem qgcd_mul (k n1 n2 n3 n4:Int):qgcd (k*n1) (k*n2) (k*n3) (k*n4)=(k.natAbs:Int)*qgcd n1 n2 n3 n4:=by
  unfold qgcd
  have h0:(Int.gcd 0 (k*n1):Int)=(k.natAbs:Int)*(Int.gcd 0 n1:Int):=by
    rw [← gcd_mulI,Int.mul_zero]
  rw [h0,gcd_mulA,gcd_mulA,gcd_mulA]
theorem qgcd_dvd (n1 n2 n3 n4:Int):qgcd n1 n2 n3 n4∣n1∧qgcd n1 n2 n3 n4∣n2∧qgcd n1 n2 n3 n4∣n3∧qgcd n1 n2 n3 n4∣n4:=by
  unfold qgcd
  refine ⟨?_,?_,?_,Int.gcd_dvd_right ..⟩
  · exact Int.dvd_trans (Int.gcd_dvd_left ..) (Int.dvd_trans (Int.gcd_dvd_left ..) (Int.dvd_trans (Int.gcd_dvd_left ..) (Int.gcd_dvd_right ..)))
  · exact Int.dvd_trans (Int.gcd_dvd_left ..) (Int.dvd_trans (Int.gcd_dvd_left ..) (Int.gcd_dvd_right ..))
  · exact Int.dvd_trans (Int.gcd_dvd_left ..) (Int.gcd_dvd_right ..)
theorem qgcd_nonneg (n1 n2 n3 n4:Int):0≤qgcd n1 n2 n3 n4:=Int.natCast_nonneg _
theorem qgcd_zero {n1 n2 n3 n4:Int} (h:qgcd n1 n2 n3 n4=0):n1=0∧n2=0∧n3=0∧n4=0:=by
  obtain ⟨h1,h2,h3,h4⟩:=qgcd_dvd n1 n2 n3 n4
  rw [h] at h1 h2 h3 h4
  exact ⟨Int.zero_dvd.1 h1,Int.zero_dvd.1 h2,Int.zero_dvd.1 h3,Int.zero_dvd.1 h4⟩
theorem qgcd_pos {n1 n2 n3 n4:Int} (h:¬(n1=0∧n2=0∧n3=0∧n4=0)):0<qgcd n1 n2 n3 n4:=by
  have h0:=qgcd_nonneg n1 n2 n3 n4
  have h1:qgcd n1 n2 n3 n4≠0:=fun e=>h (qgcd_zero e)
  omega
theorem sgn_mulq (a b:Int):sgn (a*b)=sgn a*sgn b:=by
  have key:∀ x y:Int,0<x→sgn (x*y)=sgn y:=by
    intro x y hx
    unfold sgn
    rcases Int.lt_trichotomy y 0 with h | h | h
    · rw [if_pos h,if_pos (Int.mul_neg_of_pos_of_neg hx h)]
    · subst h;simp
    · have:=Int.mul_pos hx h
      rw [if_neg (by omega),if_neg (by omega),if_neg (by omega),if_neg (by omega)]
  rcases Int.lt_trichotomy a 0 with h | h | h
  · have e:a*b=-(-a*b):=by rw [Int.neg_mul,Int.neg_neg]
    have h2:=key (-a) b (by omega)
    have h3:sgn a=-1:=by unfold sgn;rw [if_pos h]
    rw [h3,← h2,e]
    unfold sgn
    generalize -a*b=z
    split<;>(try split)<;>(try split)<;>omega
  · subst h;simp [sgn]
  · rw [key a b h,show sgn a=1 by unfold sgn;rw [if_neg (by omega),if_neg (by omega)],Int.one_mul]
theorem qsgn_mul {k:Int} (hk:k≠0) (n1 n2 n3 n4:Int):qsgn (k*n1) (k*n2) (k*n3) (k*n4)=sgn k*qsgn n1 n2 n3 n4:=by
  have z:∀ n:Int,k*n=0↔n=0:=fun n=>by simp [Int.mul_eq_zero,hk]
  unfold qsgn
  simp only [z,sgn_mulq]
  split
  · split
    · split<;>rfl
    · rfl
  · rfl
theorem sgn_natAbs (k:Int):k=(k.natAbs:Int)*sgn k:=by unfold sgn;split<;>(try split)<;>omega
theorem sgn_sq {k:Int} (hk:k≠0):sgn k*sgn k=1:=by unfold sgn;rw [if_neg hk];split<;>rfl
theorem qprim_mul {k:Int} (hk:k≠0) (n1 n2 n3 n4:Int) {n:Int} (h:qgcd n1 n2 n3 n4∣n):qprim (k*n1) (k*n2) (k*n3) (k*n4) (k*n)=qprim n1 n2 n3 n4 n:=by
  unfold qprim
  rw [qgcd_mul,qsgn_mul hk]
  obtain ⟨c,rfl⟩:=h
  generalize qgcd n1 n2 n3 n4=g
  generalize qsgn n1 n2 n3 n4=σ
  by_cases hg:g=0
  · subst hg;simp
  · have e:k*(g*c)=(k.natAbs:Int)*g*(sgn k*c):=by
      conv=>lhs;rw [sgn_natAbs k]
      rw [Int.mul_assoc,Int.mul_assoc,Int.mul_left_comm (sgn k)]
    rw [e,Int.mul_ediv_cancel_left _ (by simp [Int.mul_eq_zero];omega),Int.mul_ediv_cancel_left _ hg]
    rw [show sgn k*c*(sgn k*σ)=(sgn k*sgn k)*(c*σ) by rw [Int.mul_assoc,Int.mul_assoc,Int.mul_left_comm c],sgn_sq hk,Int.one_mul]
/-- the integers with the ratios of some rationals -/
def wm (a1 a2 a3 a4 x:Rat):Int:=x.num*(pden4 a1 a2 a3 a4/(x.den:Int))
theorem div_mul_natq (n:Int) {d:Nat} (hd:0<d):Rat.divInt n (d:Int)*((d:Int):Rat)=(n:Rat):=by
  rw [Rat.divInt_eq_div]
  have:((d:Int):Rat)≠0:=by
    intro e
    have:=Rat.intCast_inj.1 (e.trans rfl:((d:Int):Rat)=((0:Int):Rat))
    omega
  exact Rat.div_mul_cancel this
theorem rat_mul_denq (x:Rat):x*((x.den:Int):Rat)=(x.num:Rat):=by
  have:=div_mul_natq x.num x.den_pos
  rw [Rat.num_divInt_den] at this
  exact this
theorem wm_rat {a1 a2 a3 a4 x:Rat} (h:(x.den:Int)∣pden4 a1 a2 a3 a4):((wm a1 a2 a3 a4 x:Int):Rat)=x*((pden4 a1 a2 a3 a4:Int):Rat):=by
  unfold wm
  obtain ⟨c,hc⟩:=h
  have hd:=den_posI x
  rw [hc,Int.mul_ediv_cancel_left _ (by omega)]
  have e:x*((x.den:Int):Rat)=((x.num:Int):Rat):=rat_mul_denq x
  rw [Rat.intCast_mul,Rat.intCast_mul,← Rat.mul_assoc,e]
theorem wm_sgn (a1 a2 a3 a4 x:Rat) (h:(x.den:Int)∣pden4 a1 a2 a3 a4):sgn (wm a1 a2 a3 a4 x)=sgn x.num:=by
  unfold wm
  have:=div_pos_of (pden4_pos a1 a2 a3 a4) (den_posI x) h
  rw [sgn_mulq,show sgn (pden4 a1 a2 a3 a4/(x.den:Int))=1 by unfold sgn;rw [if_neg (by omega),if_neg (by omega)],Int.mul_one]
theorem wz_qprim (a1 a2 a3 a4:Rat) (h:¬(a1=0∧a2=0∧a3=0∧a4=0)) {x:Rat} (hx:x=a1∨x=a2∨x=a3∨x=a4):
    wz a1 a2 a3 a4 x=qprim (wm a1 a2 a3 a4 a1) (wm a1 a2 a3 a4 a2) (wm a1 a2 a3 a4 a3) (wm a1 a2 a3 a4 a4) (wm a1 a2 a3 a4 x):=by
  have hd:=pden4_dvd a1 a2 a3 a4
  have s1:=wm_sgn a1 a2 a3 a4 a1 hd.1
  have s2:=wm_sgn a1 a2 a3 a4 a2 hd.2.1
  have s3:=wm_sgn a1 a2 a3 a4 a3 hd.2.2.1
  have s4:=wm_sgn a1 a2 a3 a4 a4 hd.2.2.2
  have hs:wsgn a1 a2 a3 a4=qsgn (wm a1 a2 a3 a4 a1) (wm a1 a2 a3 a4 a2) (wm a1 a2 a3 a4 a3) (wm a1 a2 a3 a4 a4):=by
    unfold wsgn qsgn
    rw [← s1,← s2,← s3,← s4]
    simp only [sgn_eq_zero]
  have hne:wsgn a1 a2 a3 a4≠0:=by
    intro e
    have z:∀ a:Rat,sgn a.num=0→a=0:=fun a ha=>Rat.num_eq_zero.1 (sgn_eq_zero.1 ha)
    unfold wsgn at e
    split at e
    · next h1=>
      split at e
      · next h2=>
        split at e
        · next h3=>exact h ⟨z _ h1,z _ h2,z _ h3,z _ e⟩
        · contradiction
      · contradiction
    · contradiction
  have ho:∀ y,wout a1 a2 a3 a4 y=wsgn a1 a2 a3 a4*wm a1 a2 a3 a4 y:=fun y=>by unfold wout wm;rw [Int.mul_comm]
  have hab:((wsgn a1 a2 a3 a4).natAbs:Int)=1:=by
    have:wsgn a1 a2 a3 a4=-1∨wsgn a1 a2 a3 a4=0∨wsgn a1 a2 a3 a4=1:=by
      have k:∀ z,sgn z=-1∨sgn z=0∨sgn z=1:=fun z=>by unfold sgn;split<;>(try split)<;>omega
      unfold wsgn;split
      · split
        · split<;>exact k _
        · exact k _
      · exact k _
    omega
  have hg:wgcd a1 a2 a3 a4=qgcd (wm a1 a2 a3 a4 a1) (wm a1 a2 a3 a4 a2) (wm a1 a2 a3 a4 a3) (wm a1 a2 a3 a4 a4):=by
    show qgcd (wout a1 a2 a3 a4 a1) (wout a1 a2 a3 a4 a2) (wout a1 a2 a3 a4 a3) (wout a1 a2 a3 a4 a4)=_
    rw [ho,ho,ho,ho,qgcd_mul,hab,Int.one_mul]
  have hdv:qgcd (wm a1 a2 a3 a4 a1) (wm a1 a2 a3 a4 a2) (wm a1 a2 a3 a4 a3) (wm a1 a2 a3 a4 a4)∣wm a1 a2 a3 a4 x:=by
    obtain ⟨h1,h2,h3,h4⟩:=qgcd_dvd (wm a1 a2 a3 a4 a1) (wm a1 a2 a3 a4 a2) (wm a1 a2 a3 a4 a3) (wm a1 a2 a3 a4 a4)
    rcases hx with rfl | rfl | rfl | rfl<;>assumption
  unfold wz qprim
  rw [ho,hg,← hs]
  obtain ⟨c,hc⟩:=hdv
  rw [hc]
  generalize qgcd _ _ _ _=g
  by_cases h0:g=0
  · subst h0;simp
  · rw [Int.mul_left_comm,Int.mul_ediv_cancel_left _ h0,Int.mul_ediv_cancel_left _ h0,Int.mul_comm]
theorem wz_of {c:Rat} (hc:c≠0) {n1 n2 n3 n4 n:Int} (hn:¬(n1=0∧n2=0∧n3=0∧n4=0)) (hx:n=n1∨n=n2∨n=n3∨n=n4) {a1 a2 a3 a4 x:Rat}
    (h1:a1=c*((n1:Int):Rat)) (h2:a2=c*((n2:Int):Rat)) (h3:a3=c*((n3:Int):Rat)) (h4:a4=c*((n4:Int):Rat)) (h:x=c*((n:Int):Rat)):
    wz a1 a2 a3 a4 x=qprim n1 n2 n3 n4 n:=by
  have ha:¬(a1=0∧a2=0∧a3=0∧a4=0):=by
    rintro ⟨e1,e2,e3,e4⟩
    have z:∀ m:Int,c*((m:Int):Rat)=0→m=0:=fun m hm=>by
      rcases Rat.mul_eq_zero.1 hm with h | h
      · exact absurd h hc
      · exact Rat.intCast_eq_zero_iff.1 h
    exact hn ⟨z _ (h1 ▸ e1),z _ (h2 ▸ e2),z _ (h3 ▸ e3),z _ (h4 ▸ e4)⟩
  have hx':x=a1∨x=a2∨x=a3∨x=a4:=by
    rcases hx with rfl | rfl | rfl | rfl
    · exact .inl (h.trans h1.symm)
    · exact .inr (.inl (h.trans h2.symm))
    · exact .inr (.inr (.inl (h.trans h3.symm)))
    · exact .inr (.inr (.inr (h.trans h4.symm)))
  rw [wz_qprim a1 a2 a3 a4 ha hx']
  have hd:=pden4_dvd a1 a2 a3 a4
  have hD:=pden4_pos a1 a2 a3 a4
  -- each integer,times c's denominator,is n times c's numerator and the common denominator
  have key:∀ (y:Rat) (m:Int),(y.den:Int)∣pden4 a1 a2 a3 a4→y=c*((m:Int):Rat)→(c.den:Int)*wm a1 a2 a3 a4 y=(c.num*pden4 a1 a2 a3 a4)*m:=by
    intro y m hy e
    have e1:=wm_rat hy
    have e2:c*((c.den:Int):Rat)=((c.num:Int):Rat):=rat_mul_denq c
    have:(((c.den:Int)*wm a1 a2 a3 a4 y:Int):Rat)=(((c.num*pden4 a1 a2 a3 a4)*m:Int):Rat):=by
      rw [Rat.intCast_mul,Rat.intCast_mul,Rat.intCast_mul,e1,e,← e2]
      generalize ((pden4 a1 a2 a3 a4:Int):Rat)=D
      generalize ((c.den:Int):Rat)=d
      generalize ((m:Int):Rat)=mm
      grind
    exact Rat.intCast_inj.1 this
  have hdx:(x.den:Int)∣pden4 a1 a2 a3 a4:=by rcases hx' with rfl | rfl | rfl | rfl<;>first | exact hd.1 | exact hd.2.1 | exact hd.2.2.1 | exact hd.2.2.2
  have k1:=key a1 n1 hd.1 h1
  have k2:=key a2 n2 hd.2.1 h2
  have k3:=key a3 n3 hd.2.2.1 h3
  have k4:=key a4 n4 hd.2.2.2 h4
  have k:=key x n hdx h
  have hcd:=den_posI c
  have hcn:c.num≠0:=fun e=>hc (Rat.num_eq_zero.1 e)
  have ab:qgcd (wm a1 a2 a3 a4 a1) (wm a1 a2 a3 a4 a2) (wm a1 a2 a3 a4 a3) (wm a1 a2 a3 a4 a4)∣wm a1 a2 a3 a4 x:=by
    obtain ⟨h1,h2,h3,h4⟩:=qgcd_dvd (wm a1 a2 a3 a4 a1) (wm a1 a2 a3 a4 a2) (wm a1 a2 a3 a4 a3) (wm a1 a2 a3 a4 a4)
    rcases hx' with rfl | rfl | rfl | rfl<;>assumption
  have aa:qgcd n1 n2 n3 n4∣n:=by
    obtain ⟨h1,h2,h3,h4⟩:=qgcd_dvd n1 n2 n3 n4
    rcases hx with rfl | rfl | rfl | rfl<;>assumption
  rw [← qprim_mul (k:=(c.den:Int)) (by omega) _ _ _ _ ab,k1,k2,k3,k4,k]
  exact qprim_mul (Int.mul_ne_zero hcn (by omega)) _ _ _ _ aa
/-- the rows are the rotation of a quaternion -/
structure RotQ (a11 a12 a13 a21 a22 a23 a31 a32 a33 w x y z:Rat):Prop where
  e11:a11*(w*w+x*x+y*y+z*z)=w*w+x*x - y*y - z*z
  e12:a12*(w*w+x*x+y*y+z*z)=2*(x*y - w*z)
  e13:a13*(w*w+x*x+y*y+z*z)=2*(x*z+w*y)
  e21:a21*(w*w+x*x+y*y+z*z)=2*(x*y+w*z)
  e22:a22*(w*w+x*x+y*y+z*z)=w*w - x*x+y*y - z*z
  e23:a23*(w*w+x*x+y*y+z*z)=2*(y*z - w*x)
  e31:a31*(w*w+x*x+y*y+z*z)=2*(x*z - w*y)
  e32:a32*(w*w+x*x+y*y+z*z)=2*(y*z+w*x)
  e33:a33*(w*w+x*x+y*y+z*z)=w*w - x*x - y*y+z*z
theorem norm_mul (a b c d p q r s:Rat):
    (a*p - b*q - c*r - d*s)*(a*p - b*q - c*r - d*s)+(a*q+b*p+c*s - d*r)*(a*q+b*p+c*s - d*r)+(a*r - b*s+c*p+d*q)*(a*r - b*s+c*p+d*q)+(a*s+b*r - c*q+d*p)*(a*s+b*r - c*q+d*p)
    =(a*a+b*b+c*c+d*d)*(p*p+q*q+r*r+s*s):=by grind
theorem rotq_mul {a11 a12 a13 a21 a22 a23 a31 a32 a33 ab ah aj ad af aa ae ac ai a b c d p q r s:Rat}
    (h:RotQ a11 a12 a13 a21 a22 a23 a31 a32 a33 a b c d) (g:RotQ ab ah aj ad af aa ae ac ai p q r s):
    RotQ (0+a11*ab+a12*ad+a13*ae) (0+a11*ah+a12*af+a13*ac) (0+a11*aj+a12*aa+a13*ai)
      (0+a21*ab+a22*ad+a23*ae) (0+a21*ah+a22*af+a23*ac) (0+a21*aj+a22*aa+a23*ai)
      (0+a31*ab+a32*ad+a33*ae) (0+a31*ah+a32*af+a33*ac) (0+a31*aj+a32*aa+a33*ai)
      (a*p - b*q - c*r - d*s) (a*q+b*p+c*s - d*r) (a*r - b*s+c*p+d*q) (a*s+b*r - c*q+d*p):=by
  obtain ⟨av,ak,aH,aD,aA,aF,aG,al,aC⟩:=h
  obtain ⟨aB,ay,ax,aE,au,aq,aw,ar,az⟩:=g
  have key:∀ x y z u v t X Y Z U V T N M:Rat,x*N=X→y*N=Y→z*N=Z→u*M=U→v*M=V→t*M=T→
      (0+x*u+y*v+z*t)*(N*M)=X*U+Y*V+Z*T:=by
    intro x y z u v t X Y Z U V T N M h1 h2 h3 h4 h5 h6
    subst h1 h2 h3 h4 h5 h6
    grind
  constructor<;>rw [norm_mul]
  · rw [key _ _ _ _ _ _ _ _ _ _ _ _ _ _ av ak aH aB aE aw];grind
  · rw [key _ _ _ _ _ _ _ _ _ _ _ _ _ _ av ak aH ay au ar];grind
  · rw [key _ _ _ _ _ _ _ _ _ _ _ _ _ _ av ak aH ax aq az];grind
  · rw [key _ _ _ _ _ _ _ _ _ _ _ _ _ _ aD aA aF aB aE aw];grind
  · rw [key _ _ _ _ _ _ _ _ _ _ _ _ _ _ aD aA aF ay au ar];grind
  · rw [key _ _ _ _ _ _ _ _ _ _ _ _ _ _ aD aA aF ax aq az];grind
  · rw [key _ _ _ _ _ _ _ _ _ _ _ _ _ _ aG al aC aB aE aw];grind
  · rw [key _ _ _ _ _ _ _ _ _ _ _ _ _ _ aG al aC ay au ar];grind
  · rw [key _ _ _ _ _ _ _ _ _ _ _ _ _ _ aG al aC ax aq az];grind
theorem rotq_tr {a11 a12 a13 a21 a22 a23 a31 a32 a33 w x y z:Rat} (h:RotQ a11 a12 a13 a21 a22 a23 a31 a32 a33 w x y z):
    RotQ a11 a21 a31 a12 a22 a32 a13 a23 a33 w (-x) (-y) (-z):=by
  obtain ⟨h11,h12,h13,h21,h22,h23,h31,h32,h33⟩:=h
  have e:w*w+-x*-x+-y*-y+-z*-z=w*w+x*x+y*y+z*z:=by grind
  constructor<;>rw [e]<;>grind
theorem rotq_id:RotQ 1 0 0 0 1 0 0 0 1 1 0 0 0:=by constructor<;>grind
theorem nq_ne {w x y z:Rat} (h:¬(w=0∧x=0∧y=0∧z=0)):w*w+x*x+y*y+z*z≠0:=by
  intro e
  have sq:∀ t:Rat,0≤t*t:=fun t=>by
    rcases (Rat.le_total:(0:Rat)≤t∨t≤0) with ht | ht
    · exact Rat.mul_nonneg ht ht
    · have:=Rat.mul_nonneg (show (0:Rat)≤-t by grind) (show (0:Rat)≤-t by grind)
      grind
  have s1:=sq w;have s2:=sq x;have s3:=sq y;have s4:=sq z
  have z0:∀ t:Rat,t*t=0→t=0:=fun t ht=>by rcases Rat.mul_eq_zero.1 ht with h | h<;>exact h
  exact h ⟨z0 _ (by grind),z0 _ (by grind),z0 _ (by grind),z0 _ (by grind)⟩
theorem cancelN {N a b:Rat} (hN:N≠0) (h:a*N=b*N):a=b:=by grind
theorem rotq_smul {a11 a12 a13 a21 a22 a23 a31 a32 a33 w x y z k:Rat} (hk:k≠0) (h:RotQ a11 a12 a13 a21 a22 a23 a31 a32 a33 (k*w) (k*x) (k*y) (k*z)):
    RotQ a11 a12 a13 a21 a22 a23 a31 a32 a33 w x y z:=by
  obtain ⟨h11,h12,h13,h21,h22,h23,h31,h32,h33⟩:=h
  have hk2:k*k≠0:=fun e=>by rcases Rat.mul_eq_zero.1 e with h | h<;>exact hk h
  constructor<;>apply cancelN hk2<;>grind
theorem rotq_unique {a11 a12 a13 a21 a22 a23 a31 a32 a33 ad ae af ai ac aa aj ah ab w x y z:Rat} (h0:¬(w=0∧x=0∧y=0∧z=0))
    (h:RotQ a11 a12 a13 a21 a22 a23 a31 a32 a33 w x y z) (g:RotQ ad ae af ai ac aa aj ah ab w x y z):
    a11=ad∧a12=ae∧a13=af∧a21=ai∧a22=ac∧a23=aa∧a31=aj∧a32=ah∧a33=ab:=by
  have hN:=nq_ne h0
  exact ⟨cancelN hN (h.e11.trans g.e11.symm),cancelN hN (h.e12.trans g.e12.symm),cancelN hN (h.e13.trans g.e13.symm),cancelN hN (h.e21.trans g.e21.symm),cancelN hN (h.e22.trans g.e22.symm),cancelN hN (h.e23.trans g.e23.symm),cancelN hN (h.e31.trans g.e31.symm),cancelN hN (h.e32.trans g.e32.symm),cancelN hN (h.e33.trans g.e33.symm)⟩
/-- orthonormal:the rows times the columns of the transposed matrix -/
theorem rotq_orth {a11 a12 a13 a21 a22 a23 a31 a32 a33 w x y z:Rat} (h0:¬(w=0∧x=0∧y=0∧z=0))
    (h:RotQ a11 a12 a13 a21 a22 a23 a31 a32 a33 w x y z):
    0+a11*a11+a12*a12+a13*a13=1∧0+a11*a21+a12*a22+a13*a23=0∧0+a11*a31+a12*a32+a13*a33=0∧
    0+a21*a11+a22*a12+a23*a13=0∧0+a21*a21+a22*a22+a23*a23=1∧0+a21*a31+a22*a32+a23*a33=0∧
    0+a31*a11+a32*a12+a33*a13=0∧0+a31*a21+a32*a22+a33*a23=0∧0+a31*a31+a32*a32+a33*a33=1:=by
  have hN:=nq_ne h0
  have m:=rotq_mul h (rotq_tr h)
  have hk:w*w+x*x+y*y+z*z≠0:=hN
  have e1:w*w - x*-x - y*-y - z*-z=(w*w+x*x+y*y+z*z)*1:=by grind
  have e2:w*-x+x*w+y*-z - z*-y=(w*w+x*x+y*y+z*z)*0:=by grind
  have e3:w*-y - x*-z+y*w+z*-x=(w*w+x*x+y*y+z*z)*0:=by grind
  have e4:w*-z+x*-y - y*-x+z*w=(w*w+x*x+y*y+z*z)*0:=by grind
  rw [e1,e2,e3,e4] at m
  exact rotq_unique (by rintro ⟨h,_⟩;exact absurd h (by decide)) (rotq_smul hk m) rotq_id
theorem rotq_det {a11 a12 a13 a21 a22 a23 a31 a32 a33 w x y z:Rat} (h0:¬(w=0∧x=0∧y=0∧z=0))
    (h:RotQ a11 a12 a13 a21 a22 a23 a31 a32 a33 w x y z):
    a11*(a22*a33 - a23*a32)+a12*(a23*a31 - a21*a33)+a13*(a21*a32 - a22*a31)=1:=by
  have hN:=nq_ne h0
  obtain ⟨af,ab,aj,ae,aa,ah,ai,ad,ac⟩:=h
  generalize hM:w*w+x*x+y*y+z*z=N at*
  have cof:∀ p q r s P Q R S:Rat,p*N=P→q*N=Q→r*N=R→s*N=S→(p*q - r*s)*(N*N)=P*Q - R*S:=by
    intro p q r s P Q R S h1 h2 h3 h4;subst h1 h2 h3 h4;grind
  have c1:=cof _ _ _ _ _ _ _ _ aa ac ah ad
  have c2:=cof _ _ _ _ _ _ _ _ ah ai ae ac
  have c3:=cof _ _ _ _ _ _ _ _ ae ad aa ai
  have d1:(a22*a33 - a23*a32)*(N*N)=(w*w+x*x - y*y - z*z)*N:=by rw [c1,← hM];grind
  have d2:(a23*a31 - a21*a33)*(N*N)=(2*(x*y - w*z))*N:=by rw [c2,← hM];grind
  have d3:(a21*a32 - a22*a31)*(N*N)=(2*(x*z+w*y))*N:=by rw [c3,← hM];grind
  have f1:a22*a33 - a23*a32=a11:=by apply cancelN hN;apply cancelN hN;rw [af];grind
  have f2:a23*a31 - a21*a33=a12:=by apply cancelN hN;apply cancelN hN;rw [ab];grind
  have f3:a21*a32 - a22*a31=a13:=by apply cancelN hN;apply cancelN hN;rw [aj];grind
  rw [f1,f2,f3]
  have:(a11*a11+a12*a12+a13*a13)*(N*N)=1*(N*N):=by
    have k:(a11*a11+a12*a12+a13*a13)*(N*N)=(a11*N)*(a11*N)+(a12*N)*(a12*N)+(a13*N)*(a13*N):=by grind
    rw [k,af,ab,aj,← hM];grind
  exact cancelN (fun e=>by rcases Rat.mul_eq_zero.1 e with h | h<;>exact hN h) this
theorem sclN {N a m n:Rat} (hN:N≠0) (e:a*N=4*m*n):a=4*m/N*n:=by grind
theorem wzq_rot {a11 a12 a13 a21 a22 a23 a31 a32 a33:Rat} {n0 n1 n2 n3:Int} (hn:¬(n0=0∧n1=0∧n2=0∧n3=0))
    (h:RotQ a11 a12 a13 a21 a22 a23 a31 a32 a33 n0 n1 n2 n3):
    wzq (qrow a11 a12 a13 a21 a22 a23 a31 a32 a33) 0=qprim n0 n1 n2 n3 n0∧wzq (qrow a11 a12 a13 a21 a22 a23 a31 a32 a33) 1=qprim n0 n1 n2 n3 n1∧
    wzq (qrow a11 a12 a13 a21 a22 a23 a31 a32 a33) 2=qprim n0 n1 n2 n3 n2∧wzq (qrow a11 a12 a13 a21 a22 a23 a31 a32 a33) 3=qprim n0 n1 n2 n3 n3:=by
  have hq:¬((n0:Rat)=0∧(n1:Rat)=0∧(n2:Rat)=0∧(n3:Rat)=0):=by
    rintro ⟨h0,h1,h2,h3⟩
    exact hn ⟨Rat.intCast_eq_zero_iff.1 h0,Rat.intCast_eq_zero_iff.1 h1,Rat.intCast_eq_zero_iff.1 h2,Rat.intCast_eq_zero_iff.1 h3⟩
  have hN:=nq_ne hq
  have hz:∀ n:Int,(n:Rat)=0↔n=0:=fun n=>Rat.intCast_eq_zero_iff
  rw [← hz,← hz,← hz,← hz] at hn
  obtain ⟨ah,ac,ak,af,ab,ai,aj,ae,ad⟩:=h
  have fin:∀ (m:Int),(m:Rat)≠0→∀ a1 a2 a3 a4:Rat,
      a1*((n0:Rat)*n0+n1*n1+n2*n2+n3*n3)=4*m*n0→a2*((n0:Rat)*n0+n1*n1+n2*n2+n3*n3)=4*m*n1→
      a3*((n0:Rat)*n0+n1*n1+n2*n2+n3*n3)=4*m*n2→a4*((n0:Rat)*n0+n1*n1+n2*n2+n3*n3)=4*m*n3→
      wzq (a1,a2,a3,a4) 0=qprim n0 n1 n2 n3 n0∧wzq (a1,a2,a3,a4) 1=qprim n0 n1 n2 n3 n1∧wzq (a1,a2,a3,a4) 2=qprim n0 n1 n2 n3 n2∧wzq (a1,a2,a3,a4) 3=qprim n0 n1 n2 n3 n3:=by
    intro m hm a1 a2 a3 a4 e1 e2 e3 e4
    have hn':¬(n0=0∧n1=0∧n2=0∧n3=0):=by rw [← hz,← hz,← hz,← hz];exact hn
    generalize hM:(n0:Rat)*n0+n1*n1+n2*n2+n3*n3=N at*
    have hc:4*(m:Rat)/N≠0:=by grind
    have sc:∀ (a:Rat) (n:Int),a*N=4*m*n→a=4*(m:Rat)/N*((n:Int):Rat):=fun a n e=>sclN hN e
    have s1:=sc _ _ e1;have s2:=sc _ _ e2;have s3:=sc _ _ e3;have s4:=sc _ _ e4
    exact ⟨wz_of hc hn' (.inl rfl) s1 s2 s3 s4 s1,wz_of hc hn' (.inr (.inl rfl)) s1 s2 s3 s4 s2,wz_of hc hn' (.inr (.inr (.inl rfl))) s1 s2 s3 s4 s3,wz_of hc hn' (.inr (.inr (.inr rfl))) s1 s2 s3 s4 s4⟩
  have zz:∀ (a:Rat) (n:Int),a*((n0:Rat)*n0+n1*n1+n2*n2+n3*n3)=4*n*n→(sgn a.num=0↔(n:Rat)=0):=by
    intro a n e
    rw [sgn_eq_zero,Rat.num_eq_zero]
    constructor
    · intro ha;rw [ha] at e
      have:(n:Rat)*n=0:=by grind
      rcases Rat.mul_eq_zero.1 this with h | h<;>exact h
    · intro aa;rw [aa] at e;apply cancelN hN;rw [e];grind
  have d0:=zz ((((0+1)+a11)+a22)+a33) n0 (by grind)
  have d1:=zz ((1+a11) - (a22+a33)) n1 (by grind)
  have d2:=zz ((1+a22) - (a11+a33)) n2 (by grind)
  unfold qrow
  split
  · next c0=>
    have c0:=d0.1 c0
    split
    · next c1=>
      have c1:=d1.1 c1
      split
      · next c2=>
        have c2:=d2.1 c2
        exact fin n3 (fun e=>hn ⟨c0,c1,c2,e⟩) _ _ _ _ (by grind) (by grind) (by grind) (by grind)
      · next c2=>exact fin n2 (fun e=>c2 (d2.2 e)) _ _ _ _ (by grind) (by grind) (by grind) (by grind)
    · next c1=>exact fin n1 (fun e=>c1 (d1.2 e)) _ _ _ _ (by grind) (by grind) (by grind) (by grind)
  · next c0=>exact fin n0 (fun e=>c0 (d0.2 e)) _ _ _ _ (by grind) (by grind) (by grind) (by grind)
end Go.Proofs.YtaldbfflkpgfoaaGreatDoor
/- The sizes of a rotation of small integers;the integers of a valid turn;the error of a placement. -/
namespace Go.Proofs.YtaldbfflkpgfoaaGreatDoor
open Go.RowKit
theorem num_den_le {a:Rat} {n d:Int} (hd:0<d) (h:a*(d:Rat)=(n:Rat)):a.num.natAbs≤n.natAbs∧(a.den:Int)≤d:=by
  have e:=rat_mul_denq a
  have hp:=den_posI a
  have k:a.num*d=n*(a.den:Int):=by
    have:((a.num*d:Int):Rat)=((n*(a.den:Int):Int):Rat):=by
      rw [Rat.intCast_mul,Rat.intCast_mul,← h,← e]
      generalize ((a.den:Int):Rat)=x
      generalize (d:Rat)=y
      grind
    exact Rat.intCast_inj.1 this
  have hdvd:(a.den:Int)∣a.num*d:=⟨n,by rw [k,Int.mul_comm]⟩
  have h2:(a.den:Int)∣d:=by
    have h1:a.den∣a.num.natAbs*d.natAbs:=by
      have:=Int.natAbs_dvd_natAbs.2 hdvd
      rwa [Int.natAbs_mul] at this
    have h3:=Nat.Coprime.dvd_of_dvd_mul_left (Nat.coprime_comm.1 a.reduced) h1
    rcases Int.natAbs_eq d with e | e
    · rw [e];exact Int.ofNat_dvd.2 h3
    · rw [e];exact Int.dvd_neg.2 (Int.ofNat_dvd.2 h3)
  obtain ⟨c,hc⟩:=h2
  have hcp:0<c:=by
    rcases Int.lt_or_le 0 c with h | h
    · exact h
    · have:=Int.mul_nonpos_of_nonneg_of_nonpos (Int.le_of_lt hp) h;omega
  have hn:n=a.num*c:=by
    rw [hc,← Int.mul_assoc,Int.mul_right_comm] at k
    exact (Int.eq_of_mul_eq_mul_right (by omega) k).symm
  constructor
  · rw [hn,Int.natAbs_mul]
    exact Nat.le_mul_of_pos_right _ (by omega)
  · rw [hc]
    have:=Int.mul_le_mul_of_nonneg_left (show 1≤c by omega) (Int.le_of_lt hp)
    omega
theorem rs_of_mul {k:Nat} {a:Rat} {n d:Int} (hd:0<d) (h:a*(d:Rat)=(n:Rat)) (h1:n.natAbs<2 ^ k) (h2:d<2 ^ k):RS k a:=by
  obtain ⟨e1,e2⟩:=num_den_le hd h
  refine ⟨Nat.lt_of_le_of_lt e1 h1,?_⟩
  unfold Sz
  have:((2 ^ k:Nat):Int)=2 ^ k:=by simp
  have:=den_posI a
  omega
theorem sq_le {a b:Int} (h1:-b≤a) (h2:a≤b):0≤a*a∧a*a≤b*b:=by
  have hb:0≤b:=by omega
  refine ⟨?_,?_⟩
  · rcases Int.le_total 0 a with h | h
    · exact Int.mul_nonneg h h
    · exact Int.mul_nonneg_of_nonpos_of_nonpos h h
  · rcases Int.le_total 0 a with h | h
    · exact Int.mul_le_mul h2 h2 h hb
    · have:=Int.mul_le_mul (show -a≤b by omega) (show -a≤b by omega) (by omega) hb
      rwa [Int.neg_mul_neg] at this
/-- the rows of a rotation by small integers are small -/
theorem rotq_rs {a11 a12 a13 a21 a22 a23 a31 a32 a33:Rat} {w x y z:Int} (h0:¬(w=0∧x=0∧y=0∧z=0))
    (b0:-1000000≤w∧w≤1000000) (b1:-1000000≤x∧x≤1000000) (b2:-1000000≤y∧y≤1000000) (b3:-1000000≤z∧z≤1000000)
    (h:RotQ a11 a12 a13 a21 a22 a23 a31 a32 a33 w x y z):
    RS 50 a11∧RS 50 a12∧RS 50 a13∧RS 50 a21∧RS 50 a22∧RS 50 a23∧RS 50 a31∧RS 50 a32∧RS 50 a33:=by
  obtain ⟨ac,aa,aj,af,ad,ah,ai,ab,ae⟩:=h
  have sw:=sq_le b0.1 b0.2;have sx:=sq_le b1.1 b1.2;have sy:=sq_le b2.1 b2.2;have sz:=sq_le b3.1 b3.2
  have hN:0<w*w+x*x+y*y+z*z:=by
    have z0:∀ t:Int,t*t=0→t=0:=fun t ht=>by rcases Int.mul_eq_zero.1 ht with h | h<;>exact h
    rcases Int.lt_or_le 0 (w*w+x*x+y*y+z*z) with h | h
    · exact h
    · exact absurd ⟨z0 _ (by omega),z0 _ (by omega),z0 _ (by omega),z0 _ (by omega)⟩ h0
  have pr:∀ p q:Int,-1000000≤p∧p≤1000000→-1000000≤q∧q≤1000000→-1000000000000≤p*q∧p*q≤1000000000000:=by
    intro p q hp hq
    have s1:=sq_le (a:=p+q) (b:=2000000) (by omega) (by omega)
    have s2:=sq_le (a:=p - q) (b:=2000000) (by omega) (by omega)
    have e1:(p+q)*(p+q)=p*p+2*(p*q)+q*q:=by grind
    have e2:(p - q)*(p - q)=p*p - 2*(p*q)+q*q:=by grind
    have:=sq_le hp.1 hp.2
    have:=sq_le hq.1 hq.2
    have e3:(p+q)*(p+q) - (p - q)*(p - q)=4*(p*q):=by grind
    omega
  have wx:=pr w x b0 b1;have wy:=pr w y b0 b2;have wz:=pr w z b0 b3;have xy:=pr x y b1 b2;have xz:=pr x z b1 b3;have yz:=pr y z b2 b3
  have go:∀ (a:Rat) (n:Int),a*(w*w+x*x+y*y+z*z)=(n:Rat)→n.natAbs<2 ^ 50→RS 50 a:=by
    intro a n e hn
    refine rs_of_mul (n:=n) hN ?_ hn (by omega)
    rw [Rat.intCast_add,Rat.intCast_add,Rat.intCast_add,Rat.intCast_mul,Rat.intCast_mul,Rat.intCast_mul,Rat.intCast_mul];exact e
  refine ⟨go _ (w*w+x*x - y*y - z*z) (ac.trans ?_) (by omega),go _ (2*(x*y - w*z)) (aa.trans ?_) (by omega),go _ (2*(x*z+w*y)) (aj.trans ?_) (by omega),
    go _ (2*(x*y+w*z)) (af.trans ?_) (by omega),go _ (w*w - x*x+y*y - z*z) (ad.trans ?_) (by omega),go _ (2*(y*z - w*x)) (ah.trans ?_) (by omega),
    go _ (2*(x*z - w*y)) (ai.trans ?_) (by omega),go _ (2*(y*z+w*x)) (ab.trans ?_) (by omega),go _ (w*w - x*x - y*y+z*z) (ae.trans ?_) (by omega)⟩<;>
    simp only [Rat.intCast_add,Rat.intCast_sub,Rat.intCast_mul]<;>rfl
theorem rotq_mulI {a11 a12 a13 a21 a22 a23 a31 a32 a33 ad ae af ai ac aa aj ah ab:Rat} {a b c d p q r s n0 n1 n2 n3:Int}
    (h:RotQ a11 a12 a13 a21 a22 a23 a31 a32 a33 a b c d) (g:RotQ ad ae af ai ac aa aj ah ab p q r s)
    (h0:n0=a*p - b*q - c*r - d*s) (h1:n1=a*q+b*p+c*s - d*r) (h2:n2=a*r - b*s+c*p+d*q) (h3:n3=a*s+b*r - c*q+d*p):
    RotQ (0+a11*ad+a12*ai+a13*aj) (0+a11*ae+a12*ac+a13*ah) (0+a11*af+a12*aa+a13*ab)
      (0+a21*ad+a22*ai+a23*aj) (0+a21*ae+a22*ac+a23*ah) (0+a21*af+a22*aa+a23*ab)
      (0+a31*ad+a32*ai+a33*aj) (0+a31*ae+a32*ac+a33*ah) (0+a31*af+a32*aa+a33*ab)
      n0 n1 n2 n3:=by
  have m:=rotq_mul h g
  rw [h0,h1,h2,h3]
  simp only [Rat.intCast_add,Rat.intCast_sub,Rat.intCast_mul]
  exact m
theorem nq_int {w x y z:Int} (h:¬(w=0∧x=0∧y=0∧z=0)):¬((w:Rat)=0∧(x:Rat)=0∧(y:Rat)=0∧(z:Rat)=0):=by
  rintro ⟨h0,h1,h2,h3⟩
  exact h ⟨Rat.intCast_eq_zero_iff.1 h0,Rat.intCast_eq_zero_iff.1 h1,Rat.intCast_eq_zero_iff.1 h2,Rat.intCast_eq_zero_iff.1 h3⟩
theorem norm_mulI (a b c d p q r s:Int):
    (a*p - b*q - c*r - d*s)*(a*p - b*q - c*r - d*s)+(a*q+b*p+c*s - d*r)*(a*q+b*p+c*s - d*r)+(a*r - b*s+c*p+d*q)*(a*r - b*s+c*p+d*q)+(a*s+b*r - c*q+d*p)*(a*s+b*r - c*q+d*p)
    =(a*a+b*b+c*c+d*d)*(p*p+q*q+r*r+s*s):=by grind
theorem nq_posI {w x y z:Int} (h:¬(w=0∧x=0∧y=0∧z=0)):0<w*w+x*x+y*y+z*z:=by
  have sq:∀ t:Int,0≤t*t:=fun t=>by
    rcases Int.le_total 0 t with h | h
    · exact Int.mul_nonneg h h
    · exact Int.mul_nonneg_of_nonpos_of_nonpos h h
  have z0:∀ t:Int,t*t=0→t=0:=fun t ht=>by rcases Int.mul_eq_zero.1 ht with h | h<;>exact h
  have s1:=sq w;have s2:=sq x;have s3:=sq y;have s4:=sq z
  rcases Int.lt_or_le 0 (w*w+x*x+y*y+z*z) with hp | hp
  · exact hp
  · exact absurd ⟨z0 _ (by omega),z0 _ (by omega),z0 _ (by omega),z0 _ (by omega)⟩ h
theorem qmul_ne {a b c d p q r s n0 n1 n2 n3:Int} (h:¬(a=0∧b=0∧c=0∧d=0)) (g:¬(p=0∧q=0∧r=0∧s=0))
    (h0:n0=a*p - b*q - c*r - d*s) (h1:n1=a*q+b*p+c*s - d*r) (h2:n2=a*r - b*s+c*p+d*q) (h3:n3=a*s+b*r - c*q+d*p):
    ¬(n0=0∧n1=0∧n2=0∧n3=0):=by
  rintro ⟨e0,e1,e2,e3⟩
  have:=norm_mulI a b c d p q r s
  rw [← h0,← h1,← h2,← h3,e0,e1,e2,e3] at this
  have k:=Int.mul_pos (nq_posI h) (nq_posI g)
  rw [← this] at k
  exact absurd k (by decide)
/-- the integers of a valid placement's turn -/
structure VT (q0 q1 q2 q3:Int):Prop where
  b0:-12≤q0∧q0≤12
  b1:-12≤q1∧q1≤12
  b2:-12≤q2∧q2≤12
  b3:-12≤q3∧q3≤12
  g:qgcd q0 q1 q2 q3=1
  s:qsgn q0 q1 q2 q3=1
/-- the error of a placement;e:that of its shift -/
def chk (q0 q1 q2 q3 e:Int):Int:=
  if q0=0∧q1=0∧q2=0∧q3=0 then 19
  else if ¬((-12≤q0∧q0≤12)∧(-12≤q1∧q1≤12)∧(-12≤q2∧q2≤12)∧(-12≤q3∧q3≤12)) then 2
  else if ¬(qgcd q0 q1 q2 q3=1∧qsgn q0 q1 q2 q3=1) then 3 else e
theorem qsgn_cases {q0 q1 q2 q3:Int} (h:¬(q0=0∧q1=0∧q2=0∧q3=0)):qsgn q0 q1 q2 q3=1∨qsgn q0 q1 q2 q3=-1:=by
  have k:∀ z:Int,z≠0→sgn z=1∨sgn z=-1:=fun z hz=>by unfold sgn;split<;>(try split)<;>omega
  unfold qsgn
  split
  · split
    · split
      · exact k _ (by omega)
      · exact k _ (by omega)
    · exact k _ (by omega)
  · exact k _ (by omega)
theorem VT.ne {q0 q1 q2 q3:Int} (h:VT q0 q1 q2 q3):¬(q0=0∧q1=0∧q2=0∧q3=0):=by
  rintro ⟨rfl,rfl,rfl,rfl⟩;exact absurd h.s (by decide)
theorem VT.chk {q0 q1 q2 q3:Int} (h:VT q0 q1 q2 q3) (e:Int):chk q0 q1 q2 q3 e=e:=by
  unfold _root_.Go.Proofs.YtaldbfflkpgfoaaGreatDoor.chk
  rw [if_neg h.ne,if_neg (by simp only [Classical.not_not];exact ⟨h.b0,h.b1,h.b2,h.b3⟩),if_neg (by simp only [Classical.not_not];exact ⟨h.g,h.s⟩)]
theorem chk_ok {q0 q1 q2 q3 e:Int} (h:chk q0 q1 q2 q3 e=0):VT q0 q1 q2 q3∧e=0:=by
  unfold chk at h
  split at h
  · omega
  · split at h
    · omega
    · next h1 h2=>
      split at h
      · omega
      · next h3=>
        simp only [Classical.not_not] at h2 h3
        exact ⟨⟨h2.1,h2.2.1,h2.2.2.1,h2.2.2.2,h3.1,h3.2⟩,h⟩
theorem VT.prim {q0 q1 q2 q3:Int} (h:VT q0 q1 q2 q3) (n:Int):qprim q0 q1 q2 q3 n=n:=by
  unfold qprim;rw [h.g,h.s,Int.ediv_one,Int.mul_one]
theorem qprim_tdiv {q0 q1 q2 q3 n:Int} (h0:¬(q0=0∧q1=0∧q2=0∧q3=0)) (h:qgcd q0 q1 q2 q3∣n):Int.tdiv n (qgcd q0 q1 q2 q3*qsgn q0 q1 q2 q3)=qprim q0 q1 q2 q3 n:=by
  have hg:=qgcd_pos h0
  unfold qprim
  obtain ⟨c,rfl⟩:=h
  generalize qgcd q0 q1 q2 q3=g at*
  rw [Int.mul_ediv_cancel_left _ (by omega)]
  rcases qsgn_cases h0 with e | e
  · rw [e,Int.mul_one,Int.mul_one,Int.mul_tdiv_cancel_left _ (by omega)]
  · rw [e,Int.mul_neg,Int.mul_one,Int.tdiv_neg,Int.mul_tdiv_cancel_left _ (by omega)];omega
theorem qprim_ok {q0 q1 q2 q3:Int} (h0:¬(q0=0∧q1=0∧q2=0∧q3=0)):
    qgcd (qprim q0 q1 q2 q3 q0) (qprim q0 q1 q2 q3 q1) (qprim q0 q1 q2 q3 q2) (qprim q0 q1 q2 q3 q3)=1∧qsgn (qprim q0 q1 q2 q3 q0) (qprim q0 q1 q2 q3 q1) (qprim q0 q1 q2 q3 q2) (qprim q0 q1 q2 q3 q3)=1:=by
  have hg:=qgcd_pos h0
  obtain ⟨d0,d1,d2,d3⟩:=qgcd_dvd q0 q1 q2 q3
  have hs:=qsgn_cases h0
  have hk:qgcd q0 q1 q2 q3*qsgn q0 q1 q2 q3≠0:=Int.mul_ne_zero (by omega) (by omega)
  have go:∀ n,qgcd q0 q1 q2 q3∣n→n=qgcd q0 q1 q2 q3*qsgn q0 q1 q2 q3*qprim q0 q1 q2 q3 n:=by
    intro n ⟨c,hc⟩
    unfold qprim
    rw [hc]
    generalize qgcd q0 q1 q2 q3=g at*
    rw [Int.mul_ediv_cancel_left _ (by omega)]
    rcases hs with e | e<;>rw [e]<;>grind
  have e0:=go _ d0;have e1:=go _ d1;have e2:=go _ d2;have e3:=go _ d3
  generalize aa:qprim q0 q1 q2 q3 q0=p0 at*
  generalize ab:qprim q0 q1 q2 q3 q1=p1 at*
  generalize ac:qprim q0 q1 q2 q3 q2=p2 at*
  generalize ad:qprim q0 q1 q2 q3 q3=p3 at*
  have m1:=qgcd_mul (qgcd q0 q1 q2 q3*qsgn q0 q1 q2 q3) p0 p1 p2 p3
  have m2:=qsgn_mul hk p0 p1 p2 p3
  rw [← e0,← e1,← e2,← e3] at m1 m2
  have hab:((qgcd q0 q1 q2 q3*qsgn q0 q1 q2 q3).natAbs:Int)=qgcd q0 q1 q2 q3:=by
    rcases hs with e | e<;>rw [e]<;>omega
  have hsg:sgn (qgcd q0 q1 q2 q3*qsgn q0 q1 q2 q3)=qsgn q0 q1 q2 q3:=by
    rcases hs with e | e<;>rw [e]<;>unfold sgn<;>split<;>(try split)<;>omega
  rw [hab] at m1
  rw [hsg] at m2
  constructor
  · have:qgcd q0 q1 q2 q3*qgcd p0 p1 p2 p3=qgcd q0 q1 q2 q3*1:=by rw [← m1,Int.mul_one]
    exact Int.eq_of_mul_eq_mul_left (by omega) this
  · rcases hs with e | e<;>rw [e] at m2<;>omega
theorem qprim_le {q0 q1 q2 q3 n:Int} (h0:¬(q0=0∧q1=0∧q2=0∧q3=0)):(qprim q0 q1 q2 q3 n).natAbs≤n.natAbs:=by
  have hg:=qgcd_pos h0
  unfold qprim
  have:(n/qgcd q0 q1 q2 q3).natAbs≤n.natAbs:=by
    generalize qgcd q0 q1 q2 q3=g at*
    have h1:=Int.natAbs_ediv_le_natAbs n g
    exact h1
  rcases qsgn_cases h0 with e | e<;>rw [e]<;>omega
theorem IsInt.tight {w:World} {k m:Nat} {x y:Value} {z:Int} (h:IsInt w k x y z) (hs:Sz m z):IsInt w m x y z:=by
  obtain ⟨ao,len,cap,h1,h2,h3,_⟩:=h
  exact ⟨ao,len,cap,h1,h2,h3,hs⟩
theorem IsRat.tight {w:World} {k m:Nat} {c0 c1 c2 c3:Value} {q:Rat} (h:IsRat w k c0 c1 c2 c3 q) (hs:RS m q) (hm:64≤m):IsRat w m c0 c1 c2 c3 q:=by
  obtain ⟨h1,⟨D,h2,h3⟩,_⟩:=h
  refine ⟨h1.tight hs.1,⟨D,h2.tight ?_,h3⟩,hm⟩
  rcases h3 with rfl | ⟨rfl,_⟩
  · exact hs.2
  · exact Nat.two_pow_pos m
end Go.Proofs.YtaldbfflkpgfoaaGreatDoor
/- Printed by a program of the prover's:the check of a placement. -/
namespace Go.Proofs.YtaldbfflkpgfoaaGreatDoor
open Go.RowKit

section
variable {qq0 qq1 qq2 qq3:Int}
theorem qsgn0 (h:(qq0==(0:Int))=false):qsgn qq0 qq1 qq2 qq3=sgn qq0∧qq0≠0:=by
  have h:qq0≠0:=by simpa using h
  exact ⟨if_neg h,h⟩
theorem qsgn1 (h0:(qq0==(0:Int))=true) (h:(qq1==(0:Int))=false):qsgn qq0 qq1 qq2 qq3=sgn qq1∧qq1≠0:=by
  have h0:qq0=0:=by simpa using h0
  have h:qq1≠0:=by simpa using h
  refine ⟨?_,h⟩
  unfold qsgn;rw [if_pos h0,if_neg h]
theorem qsgn2 (h0:(qq0==(0:Int))=true) (h1:(qq1==(0:Int))=true) (h:(qq2==(0:Int))=false):qsgn qq0 qq1 qq2 qq3=sgn qq2∧qq2≠0:=by
  have h0:qq0=0:=by simpa using h0
  have h1:qq1=0:=by simpa using h1
  have h:qq2≠0:=by simpa using h
  refine ⟨?_,h⟩
  unfold qsgn;rw [if_pos h0,if_pos h1,if_neg h]
theorem qsgn3 (h0:(qq0==(0:Int))=true) (h1:(qq1==(0:Int))=true) (h2:(qq2==(0:Int))=true) (hz:¬(qq0=0∧qq1=0∧qq2=0∧qq3=0)):qsgn qq0 qq1 qq2 qq3=sgn qq3∧qq3≠0:=by
  have h0:qq0=0:=by simpa using h0
  have h1:qq1=0:=by simpa using h1
  have h2:qq2=0:=by simpa using h2
  refine ⟨?_,fun h3=>hz ⟨h0,h1,h2,h3⟩⟩
  unfold qsgn;rw [if_pos h0,if_pos h1,if_pos h2]
theorem chk_g {g E:Int} (hG:g=qgcd qq0 qq1 qq2 qq3) (h:(g !=(1:Int))=true):(3:Int)=(if ¬(qgcd qq0 qq1 qq2 qq3=1∧qsgn qq0 qq1 qq2 qq3=1) then 3 else E):=by
  rw [if_pos]
  rintro ⟨h1,_⟩
  rw [hG,h1] at h;exact absurd h (by decide)
theorem chk_s {s E:Int} (hS:qsgn qq0 qq1 qq2 qq3=sgn s∧s≠0) (h:decide (s<(0:Int))=true):(3:Int)=(if ¬(qgcd qq0 qq1 qq2 qq3=1∧qsgn qq0 qq1 qq2 qq3=1) then 3 else E):=by
  rw [if_pos]
  rintro ⟨_,h1⟩
  rw [hS.1] at h1
  have h:=of_decide_eq_true h
  unfold sgn at h1;rw [if_pos h] at h1;omega
theorem chk_e {g s E:Int} (hG:g=qgcd qq0 qq1 qq2 qq3) (hg:(g !=(1:Int))=false) (hS:qsgn qq0 qq1 qq2 qq3=sgn s∧s≠0) (h:decide (s<(0:Int))=false):E=(if ¬(qgcd qq0 qq1 qq2 qq3=1∧qsgn qq0 qq1 qq2 qq3=1) then 3 else E):=by
  rw [if_neg]
  simp only [Classical.not_not]
  have h:=of_decide_eq_false h
  have hs:=hS.2
  refine ⟨by rw [← hG];simpa using hg,?_⟩
  rw [hS.1];unfold sgn;rw [if_neg h,if_neg hs]
theorem chk_rr (hz:¬(qq0=0∧qq1=0∧qq2=0∧qq3=0)):((qq0==0&&qq1==0&&qq2==0&&qq3==0))=false:=by
  rw [Bool.eq_false_iff];intro h
  simp only [Bool.and_eq_true,beq_iff_eq] at h
  exact hz ⟨h.1.1.1,h.1.1.2,h.1.2,h.2⟩
end
set_option maxRecDepth 100000 in
set_option maxHeartbeats 1000000 in
theorem mcheckr_z {qq0 qq1 qq2 qq3:Int} (_j0:-9223372036854775808≤qq0∧qq0≤9223372036854775807) (_j1:-9223372036854775808≤qq1∧qq1≤9223372036854775807) (_j2:-9223372036854775808≤qq2∧qq2≤9223372036854775807) (_j3:-9223372036854775808≤qq3∧qq3≤9223372036854775807) (ab aa ac:Rat) (_hsa1:RS 64 ab) (_hsa2:RS 64 aa) (_hsa3:RS 64 ac) (_lsa1:((ratL ab).length:Int)≤400) (_lsa2:((ratL aa).length:Int)≤400) (_lsa3:((ratL ac).length:Int)≤400) (w:World) (_hm:Mx w) (hz:(qq0==0&&qq1==0&&qq2==0&&qq3==0)=true):
    Calls Tryz.prog 15 #[(.agg #[(.int .i64 (qq0)),(.int .i64 (qq1)),(.int .i64 (qq2)),(.int .i64 (qq3)),(.string ⟨(ratL (ab):List UInt8).toArray⟩),(.string ⟨(ratL (aa):List UInt8).toArray⟩),(.string ⟨(ratL (ac):List UInt8).toArray⟩)])] w fun e w'=>e=.returned (.int .i64 (19))∧Gr w w':=by
 go_enter Tryz.func15,Tryz.ntmps15
 have hB:=Gr.refl w
 refine wp_seq_k (fun K1 k1=>?_)
 refine rg [0,1] ?_
 refine se ?_
 refine eb 27 #[(.int .i64 (qq0)),(.int .i64 (qq1)),(.int .i64 (qq2)),(.int .i64 (qq3)),(.string ⟨(ratL (ab):List UInt8).toArray⟩),(.string ⟨(ratL (aa):List UInt8).toArray⟩),(.string ⟨(ratL (ac):List UInt8).toArray⟩)] 1 hB fun b2 w2 g2 L2 o2 q2 hB=>?_
 simp only [p3,p4]
 refine sv 2 (.int .i64 0) ?_
 refine sq_nil ?_
 refine k1 _ _ ?_
 try clear k1 K1
 refine wp_seq_k (fun K3 k3=>?_)
 refine wp_seq_k (fun K4 k4=>?_)
 refine rg [0,1,2,3] ?_
 refine sv 12 (.pointer (some ⟨b2,0,none⟩)) ?_
 refine sw 13 (.agg #[(.int .i64 (qq0)),(.int .i64 (qq1)),(.int .i64 (qq2)),(.int .i64 (qq3))]) rfl (rl 22 0 [(.int .i64 (qq0)),(.int .i64 (qq1)),(.int .i64 (qq2)),(.int .i64 (qq3))] L2) ?_
 refine sv 14 (.agg #[(.int .i64 0),(.int .i64 0),(.int .i64 0),(.int .i64 0)]) ?_
 refine sw 15 (.bool true) rfl (RunV.bool (x:=(qq0==0&&qq1==0&&qq2==0&&qq3==0)) (rv_arreq 22 22 3 (k:=.i64) _ _ [qq0,qq1,qq2,qq3] [0,0,0,0] rfl rfl rfl (by kernel_rfl) (by kernel_rfl) (by kernel_rfl)) hz) ?_
 refine sq_nil ?_
 refine k4 _ _ ?_
 try clear k4 K4
 refine wp_cond_true rfl ?_
 refine wp_seq_k (fun K5 k5=>?_)
 refine rg [0] ?_
 refine sv 2 (.int .i64 19) ?_
 refine sq_nil ?_
 refine k5 _ _ ?_
 try clear k5 K5
 refine wp_ret ?_
 simp only [Exit.then]
 refine bodyPost_ret (v:=(.int .i64 19)) (ret_tmp rfl rfl) rfl ⟨?_,hB⟩
 exact rfl

set_option maxRecDepth 100000 in
set_option maxHeartbeats 8000000 in
theorem mcheckr_f {qq0 qq1 qq2 qq3:Int} (_j0:-9223372036854775808≤qq0∧qq0≤9223372036854775807) (_j1:-9223372036854775808≤qq1∧qq1≤9223372036854775807) (_j2:-9223372036854775808≤qq2∧qq2≤9223372036854775807) (_j3:-9223372036854775808≤qq3∧qq3≤9223372036854775807) (aR aS aQ:Rat) (cx:RS 64 aR) (cB:RS 64 aS) (cE:RS 64 aQ) (cD:((ratL aR).length:Int)≤400) (cA:((ratL aS).length:Int)≤400) (cF:((ratL aQ).length:Int)≤400) (w:World) (hm:Mx w) (hz:(qq0==0&&qq1==0&&qq2==0&&qq3==0)=false) (hnz:¬(qq0=0∧qq1=0∧qq2=0∧qq3=0)) (_i0:(-12≤qq0∧qq0≤12)) (_i1:(-12≤qq1∧qq1≤12)) (_i2:(-12≤qq2∧qq2≤12)) (_i3:(-12≤qq3∧qq3≤12)):
    Calls Tryz.prog 15 #[(.agg #[(.int .i64 (qq0)),(.int .i64 (qq1)),(.int .i64 (qq2)),(.int .i64 (qq3)),(.string ⟨(ratL (aR):List UInt8).toArray⟩),(.string ⟨(ratL (aS):List UInt8).toArray⟩),(.string ⟨(ratL (aQ):List UInt8).toArray⟩)])] w fun e w'=>e=.returned (.int .i64 (if ¬(qgcd qq0 qq1 qq2 qq3=1∧qsgn qq0 qq1 qq2 qq3=1) then 3 else 0))∧Gr w w':=by
 have gy:decide (qq0<(-12:Int))=false∧decide ((12:Int)<qq0)=false:=⟨decide_eq_false (by omega),decide_eq_false (by omega)⟩
 have g7:decide (qq1<(-12:Int))=false∧decide ((12:Int)<qq1)=false:=⟨decide_eq_false (by omega),decide_eq_false (by omega)⟩
 have gM:decide (qq2<(-12:Int))=false∧decide ((12:Int)<qq2)=false:=⟨decide_eq_false (by omega),decide_eq_false (by omega)⟩
 have gu:decide (qq3<(-12:Int))=false∧decide ((12:Int)<qq3)=false:=⟨decide_eq_false (by omega),decide_eq_false (by omega)⟩
 go_enter Tryz.func15,Tryz.ntmps15
 have hB:=Gr.refl w
 refine wp_seq_k (fun K1 k1=>?_)
 refine rg [0,1] ?_
 refine se ?_
 refine eb 27 #[(.int .i64 (qq0)),(.int .i64 (qq1)),(.int .i64 (qq2)),(.int .i64 (qq3)),(.string ⟨(ratL (aR):List UInt8).toArray⟩),(.string ⟨(ratL (aS):List UInt8).toArray⟩),(.string ⟨(ratL (aQ):List UInt8).toArray⟩)] 1 hB fun b2 w2 g2 L2 o2 q2 hB=>?_
 simp only [p3,p4]
 refine sv 2 (.int .i64 0) ?_
 refine sq_nil ?_
 refine k1 _ _ ?_
 try clear k1 K1
 refine wp_seq_k (fun K3 k3=>?_)
 refine wp_seq_k (fun K4 k4=>?_)
 refine rg [0,1,2,3] ?_
 refine sv 12 (.pointer (some ⟨b2,0,none⟩)) ?_
 refine sw 13 (.agg #[(.int .i64 (qq0)),(.int .i64 (qq1)),(.int .i64 (qq2)),(.int .i64 (qq3))]) rfl (rl 22 0 [(.int .i64 (qq0)),(.int .i64 (qq1)),(.int .i64 (qq2)),(.int .i64 (qq3))] L2) ?_
 refine sv 14 (.agg #[(.int .i64 0),(.int .i64 0),(.int .i64 0),(.int .i64 0)]) ?_
 refine sw 15 (.bool false) rfl (RunV.bool (x:=(qq0==0&&qq1==0&&qq2==0&&qq3==0)) (rv_arreq 22 22 3 (k:=.i64) _ _ [qq0,qq1,qq2,qq3] [0,0,0,0] rfl rfl rfl (by kernel_rfl) (by kernel_rfl) (by kernel_rfl)) hz) ?_
 refine sq_nil ?_
 refine k4 _ _ ?_
 try clear k4 K4
 refine wp_cond_false rfl ?_
 refine wp_skip ?_
 refine k3 _ _ ?_
 try clear k3 K3
 refine wp_seq_k (fun K5 k5=>?_)
 refine wp_seq_k (fun K6 k6=>?_)
 refine rg [0,1,2] ?_
 refine sv 16 (.pointer (some ⟨b2,0,none⟩)) ?_
 refine sw 17 (.agg #[(.int .i64 (qq0)),(.int .i64 (qq1)),(.int .i64 (qq2)),(.int .i64 (qq3))]) rfl (rl 22 0 [(.int .i64 (qq0)),(.int .i64 (qq1)),(.int .i64 (qq2)),(.int .i64 (qq3))] L2) ?_
 refine sv 18 (.int .i64 0) ?_
 refine sq_nil ?_
 refine k6 _ _ ?_
 try clear k6 K6
 refine wp_block ?_
 refine wp_loop_rounds 6 ?_
 show Code.wp _ _ _ _ _
 refine wp_seq_k (fun K7 k7=>?_)
 refine rg [0] ?_
 refine sv 19 (.bool true) ?_
 refine sq_nil ?_
 refine k7 _ _ ?_
 try clear k7 K7
 refine wp_seq_k (fun K8 k8=>?_)
 refine wp_cond_true rfl ?_
 refine wp_skip ?_
 refine k8 _ _ ?_
 try clear k8 K8
 refine wp_seq_k (fun K9 k9=>?_)
 refine wp_block ?_
 refine wp_seq_k (fun i2 gR=>?_)
 refine rg [0,1] ?_
 refine sv 20 (.int .i64 (qq0)) ?_
 refine sv 4 (.int .i64 (qq0)) ?_
 refine sq_nil ?_
 refine gR _ _ ?_
 try clear gR i2
 refine wp_seq_k (fun iL g4=>?_)
 refine rg [0,1,2,3,4,5] ?_
 refine sv 21 (.int .i64 (qq0)) ?_
 refine sw 22 (.bool false) rfl (RunV.bool (x:=decide (qq0<(-12:Int))) (rvk (by kernel_rfl)) gy.1) ?_
 refine sv 23 (.bool false) ?_
 refine sv 24 (.int .i64 (qq0)) ?_
 refine sw 25 (.bool false) rfl (RunV.bool (x:=decide ((12:Int)<qq0)) (rvk (by kernel_rfl)) gy.2) ?_
 refine sv 26 (.bool false) ?_
 refine sq_nil ?_
 refine g4 _ _ ?_
 try clear g4 iL
 refine wp_cond_false rfl ?_
 refine wp_skip ?_
 refine k9 _ _ ?_
 try clear k9 K9
 refine rg [0,1] ?_
 refine sv 27 (.int .i64 1) ?_
 refine sv 18 (.int .i64 1) ?_
 refine sq_nil ?_
 show Code.rounds _ _ _ _ _ _
 show Code.wp _ _ _ _ _
 refine wp_seq_k (fun iA gz=>?_)
 refine rg [0] ?_
 refine sv 19 (.bool true) ?_
 refine sq_nil ?_
 refine gz _ _ ?_
 try clear gz iA
 refine wp_seq_k (fun iQ hh=>?_)
 refine wp_cond_true rfl ?_
 refine wp_skip ?_
 refine hh _ _ ?_
 try clear hh iQ
 refine wp_seq_k (fun iE gb=>?_)
 refine wp_block ?_
 refine wp_seq_k (fun iy gQ=>?_)
 refine rg [0,1] ?_
 refine sv 20 (.int .i64 (qq1)) ?_
 refine sv 4 (.int .i64 (qq1)) ?_
 refine sq_nil ?_
 refine gQ _ _ ?_
 try clear gQ iy
 refine wp_seq_k (fun h5 hk=>?_)
 refine rg [0,1,2,3,4,5] ?_
 refine sv 21 (.int .i64 (qq1)) ?_
 refine sw 22 (.bool false) rfl (RunV.bool (x:=decide (qq1<(-12:Int))) (rvk (by kernel_rfl)) g7.1) ?_
 refine sv 23 (.bool false) ?_
 refine sv 24 (.int .i64 (qq1)) ?_
 refine sw 25 (.bool false) rfl (RunV.bool (x:=decide ((12:Int)<qq1)) (rvk (by kernel_rfl)) g7.2) ?_
 refine sv 26 (.bool false) ?_
 refine sq_nil ?_
 refine hk _ _ ?_
 try clear hk h5
 refine wp_cond_false rfl ?_
 refine wp_skip ?_
 refine gb _ _ ?_
 try clear gb iE
 refine rg [0,1] ?_
 refine sv 27 (.int .i64 2) ?_
 refine sv 18 (.int .i64 2) ?_
 refine sq_nil ?_
 show Code.rounds _ _ _ _ _ _
 show Code.wp _ _ _ _ _
 refine wp_seq_k (fun jv gZ=>?_)
 refine rg [0] ?_
 refine sv 19 (.bool true) ?_
 refine sq_nil ?_
 refine gZ _ _ ?_
 try clear gZ jv
 refine wp_seq_k (fun ie hp=>?_)
 refine wp_cond_true rfl ?_
 refine wp_skip ?_
 refine hp _ _ ?_
 try clear hp ie
 refine wp_seq_k (fun i8 gl=>?_)
 refine wp_block ?_
 refine wp_seq_k (fun hI hv=>?_)
 refine rg [0,1] ?_
 refine sv 20 (.int .i64 (qq2)) ?_
 refine sv 4 (.int .i64 (qq2)) ?_
 refine sq_nil ?_
 refine hv _ _ ?_
 try clear hv hI
 refine wp_seq_k (fun iT hb=>?_)
 refine rg [0,1,2,3,4,5] ?_
 refine sv 21 (.int .i64 (qq2)) ?_
 refine sw 22 (.bool false) rfl (RunV.bool (x:=decide (qq2<(-12:Int))) (rvk (by kernel_rfl)) gM.1) ?_
 refine sv 23 (.bool false) ?_
 refine sv 24 (.int .i64 (qq2)) ?_
 refine sw 25 (.bool false) rfl (RunV.bool (x:=decide ((12:Int)<qq2)) (rvk (by kernel_rfl)) gM.2) ?_
 refine sv 26 (.bool false) ?_
 refine sq_nil ?_
 refine hb _ _ ?_
 try clear hb iT
 refine wp_cond_false rfl ?_
 refine wp_skip ?_
 refine gl _ _ ?_
 try clear gl i8
 refine rg [0,1] ?_
 refine sv 27 (.int .i64 3) ?_
 refine sv 18 (.int .i64 3) ?_
 refine sq_nil ?_
 show Code.rounds _ _ _ _ _ _
 show Code.wp _ _ _ _ _
 refine wp_seq_k (fun il gB=>?_)
 refine rg [0] ?_
 refine sv 19 (.bool true) ?_
 refine sq_nil ?_
 refine gB _ _ ?_
 try clear gB il
 refine wp_seq_k (fun iU gG=>?_)
 refine wp_cond_true rfl ?_
 refine wp_skip ?_
 refine gG _ _ ?_
 try clear gG iU
 refine wp_seq_k (fun iq hq=>?_)
 refine wp_block ?_
 refine wp_seq_k (fun h1 hn=>?_)
 refine rg [0,1] ?_
 refine sv 20 (.int .i64 (qq3)) ?_
 refine sv 4 (.int .i64 (qq3)) ?_
 refine sq_nil ?_
 refine hn _ _ ?_
 try clear hn h1
 refine wp_seq_k (fun iM ge=>?_)
 refine rg [0,1,2,3,4,5] ?_
 refine sv 21 (.int .i64 (qq3)) ?_
 refine sw 22 (.bool false) rfl (RunV.bool (x:=decide (qq3<(-12:Int))) (rvk (by kernel_rfl)) gu.1) ?_
 refine sv 23 (.bool false) ?_
 refine sv 24 (.int .i64 (qq3)) ?_
 refine sw 25 (.bool false) rfl (RunV.bool (x:=decide ((12:Int)<qq3)) (rvk (by kernel_rfl)) gu.2) ?_
 refine sv 26 (.bool false) ?_
 refine sq_nil ?_
 refine ge _ _ ?_
 try clear ge iM
 refine wp_cond_false rfl ?_
 refine wp_skip ?_
 refine hq _ _ ?_
 try clear hq iq
 refine rg [0,1] ?_
 refine sv 27 (.int .i64 4) ?_
 refine sv 18 (.int .i64 4) ?_
 refine sq_nil ?_
 show Code.rounds _ _ _ _ _ _
 show Code.wp _ _ _ _ _
 refine wp_seq_k (fun i1 gH=>?_)
 refine rg [0] ?_
 refine sv 19 (.bool false) ?_
 refine sq_nil ?_
 refine gH _ _ ?_
 try clear gH i1
 refine wp_seq_k (fun jE jH=>?_)
 refine wp_cond_false rfl ?_
 refine wp_exit ?_
 simp only [Exit.then,Exit.inBlock,↓reduceIte]
 refine k5 _ _ ?_
 try clear k5 K5
 refine wp_seq_k (fun im hr=>?_)
 refine rg [0,1] ?_
 refine sv 5 (.int .i64 0) ?_
 refine sv 6 (.int .i64 0) ?_
 refine sq_nil ?_
 refine hr _ _ ?_
 try clear hr im
 refine wp_seq_k (fun eP cG=>?_)
 refine wp_seq_k (fun iB gv=>?_)
 refine rg [0,1,2] ?_
 refine sv 28 (.pointer (some ⟨b2,0,none⟩)) ?_
 refine sw 29 (.agg #[(.int .i64 (qq0)),(.int .i64 (qq1)),(.int .i64 (qq2)),(.int .i64 (qq3))]) rfl (rl 22 0 [(.int .i64 (qq0)),(.int .i64 (qq1)),(.int .i64 (qq2)),(.int .i64 (qq3))] L2) ?_
 refine sv 30 (.int .i64 0) ?_
 refine sq_nil ?_
 refine gv _ _ ?_
 try clear gv iB
 refine wp_block ?_
 refine wp_loop_rounds 6 ?_
 show Code.wp _ _ _ _ _
 refine wp_seq_k (fun jc hd=>?_)
 refine rg [0] ?_
 refine sv 31 (.bool true) ?_
 refine sq_nil ?_
 refine hd _ _ ?_
 try clear hd jc
 refine wp_seq_k (fun hF gn=>?_)
 refine wp_cond_true rfl ?_
 refine wp_skip ?_
 refine gn _ _ ?_
 try clear gn hF
 refine wp_seq_k (fun iK gV=>?_)
 refine wp_block ?_
 refine wp_seq_k (fun hJ gA=>?_)
 refine rg [0,1] ?_
 refine sv 32 (.int .i64 (qq0)) ?_
 refine sv 8 (.int .i64 (qq0)) ?_
 refine sq_nil ?_
 refine gA _ _ ?_
 try clear gA hJ
 refine wp_seq_k (fun hV gS=>?_)
 refine wp_seq_k (fun jw gE=>?_)
 refine rg [0,1] ?_
 refine sv 33 (.int .i64 0) ?_
 refine sv 34 (.bool true) ?_
 refine sq_nil ?_
 refine gE _ _ ?_
 try clear gE jw
 refine wp_cond_true rfl ?_
 refine rg [0,1] ?_
 refine sv 35 (.int .i64 (qq0)) ?_
 refine sv 6 (.int .i64 (qq0)) ?_
 refine sq_nil ?_
 refine gS _ _ ?_
 try clear gS hV
 refine wp_seq_k (fun h8 gm=>?_)
 refine rg [0,1,2,3,4] ?_
 refine sv 36 (.int .i64 (qq0)) ?_
 refine sv 37 (.int .i64 (qq0)) ?_
 refine sw 38 (.int .i64 ((-qq0))) rfl (RunV.int (x:=IntKind.i64.wrap (0 - qq0)) (y:=(-qq0)) (rvk (by kernel_rfl)) (by first | rfl | (rw [IntKind.wrap_i64];omega))) ?_
 refine sv 39 (.int .i64 ((if (-qq0)>qq0 then (-qq0) else qq0))) ?_
 refine sv 9 (.int .i64 ((if (-qq0)>qq0 then (-qq0) else qq0))) ?_
 refine sq_nil ?_
 refine gm _ _ ?_
 try clear gm h8
 refine wp_block ?_
 refine wp_loop_inv (a:=⟨List.toArray ?l39,[]⟩) (fun n a w'=>∃ (aU:Int) (aB:Int) (aP:Nat→Value),aB.toNat=n∧a=⟨[(aP 0),(.pointer (some ⟨b2,0,none⟩)),(.int .i64 0),undef,(.int .i64 (qq3)),(.int .i64 (aU)),(.int .i64 (qq0)),undef,(.int .i64 (qq0)),(.int .i64 (aB)),undef,undef,(aP 12),(aP 13),(aP 14),(.bool false),(aP 16),(.agg #[(.int .i64 (qq0)),(.int .i64 (qq1)),(.int .i64 (qq2)),(.int .i64 (qq3))]),(.int .i64 4),(.bool false),(aP 20),(aP 21),(aP 22),(aP 23),(aP 24),(aP 25),(.bool false),(aP 27),(aP 28),(.agg #[(.int .i64 (qq0)),(.int .i64 (qq1)),(.int .i64 (qq2)),(.int .i64 (qq3))]),(.int .i64 0),(.bool true),(aP 32),(aP 33),(.bool true),(aP 35),(aP 36),(aP 37),(aP 38),(aP 39),(aP 40),(aP 41),(aP 42),(aP 43),(aP 44),(aP 45),undef,undef,undef,undef,undef,undef,undef,undef,undef,undef,undef,undef,undef,undef].toArray,[]⟩∧Int.gcd aU aB=Int.gcd (0:Int) (if (-qq0)>qq0 then (-qq0) else qq0)∧0≤aU∧0≤aB∧Lc w' b2 #[(.int .i64 (qq0)),(.int .i64 (qq1)),(.int .i64 (qq2)),(.int .i64 (qq3)),(.string ⟨(ratL (aR):List UInt8).toArray⟩),(.string ⟨(ratL (aS):List UInt8).toArray⟩),(.string ⟨(ratL (aQ):List UInt8).toArray⟩)] 27∧Gr w w') (Int.toNat (if (-qq0)>qq0 then (-qq0) else qq0)) ?_ ?_
 ·exact ⟨_,_,(fun i=>List.getD ?l39 i undef),rfl,rfl,rfl,(by omega),(by split<;>omega),L2,hB⟩
 rintro jB jM jk ⟨aU,aB,aP,rfl,rfl,ej,c6,hK,L2,hB⟩ jA hC
 refine wp_seq_k (fun jo gL=>?_)
 refine wp_seq_k (fun ig g6=>?_)
 refine rg [0,1] ?_
 refine sv 40 (.int .i64 (aB)) ?_
 refine sv 41 (.bool ((aB !=(0:Int)))) ?_
 refine sq_nil ?_
 refine g6 _ _ ?_
 try clear g6 ig
 refine wp_cond_split (t:=(aB !=(0:Int))) rfl (fun c5=>?_) (fun c5=>?_)
 ·have c8:0<aB:=by have h0:¬ aB=0:=(by simpa using c5);omega
  refine wp_skip ?_
  refine gL _ _ ?_
  try clear gL jo
  refine wp_block ?_
  have dm:=Gr.drew jk
  replace hB:=hB.trans dm
  refine wp_region_ord (fun _=>True) [(true,0),(true,1),(true,2),(true,3),(true,4),(true,5)] (by kernel_rfl) (by kernel_rfl) (by kernel_rfl) (by decide) (fun _ _ _ _ _ h=>h) trivial ?_
  refine ov 42 (.int .i64 (aB)) ?_
  refine ov 43 (.int .i64 (aU)) ?_
  refine ov 44 (.int .i64 (aB)) ?_
  refine ow 45 (.int .i64 ((aU % aB))) rfl (fun w' hS=>(rv_rem 3 3 _ _ aU aB rfl rfl rfl c6 c8)) ?_
  refine ov 5 (.int .i64 (aB)) ?_
  refine ov 9 (.int .i64 ((aU % aB))) ?_
  refine ord_nil ?_
  replace L2:=L2.gr dm
  refine hC ((aU % aB).toNat) ⟨List.toArray ?l46,[]⟩ _ (by have:=Int.emod_lt_of_pos aU c8;omega) ?_
  exact ⟨_,_,(fun i=>List.getD ?l46 i undef),rfl,rfl,(by rw [gcd_stepZ c6 c8];exact ej),(by omega),(Int.emod_nonneg _ (by omega)),L2,hB⟩
 ·have bG:=gcd_endZ (m:=qq0) ej c5 c6 (by split;exact .inr rfl;exact .inl rfl)
  refine wp_exit ?_
  simp only [Exit.then,Exit.inBlock,↓reduceIte]
  refine gV _ _ ?_
  try clear gV iK
  refine rg [0,1] ?_
  refine sv 46 (.int .i64 1) ?_
  refine sv 30 (.int .i64 1) ?_
  refine sq_nil ?_
  show Code.rounds _ _ _ _ _ _
  show Code.wp _ _ _ _ _
  refine wp_seq_k (fun jg gq=>?_)
  refine rg [0] ?_
  refine sv 31 (.bool true) ?_
  refine sq_nil ?_
  refine gq _ _ ?_
  try clear gq jg
  refine wp_seq_k (fun iX hj=>?_)
  refine wp_cond_true rfl ?_
  refine wp_skip ?_
  refine hj _ _ ?_
  try clear hj iX
  refine wp_seq_k (fun ho eQ=>?_)
  refine wp_block ?_
  refine wp_seq_k (fun iv gP=>?_)
  refine rg [0,1] ?_
  refine sv 32 (.int .i64 (qq1)) ?_
  refine sv 8 (.int .i64 (qq1)) ?_
  refine sq_nil ?_
  refine gP _ _ ?_
  try clear gP iv
  refine wp_seq_k (fun g0 eN=>?_)
  refine wp_seq_k (fun ii gK=>?_)
  refine rg [0,1] ?_
  refine sv 33 (.int .i64 (qq0)) ?_
  refine sv 34 (.bool ((qq0==(0:Int)))) ?_
  refine sq_nil ?_
  refine gK _ _ ?_
  try clear gK ii
  refine wp_cond_split (t:=(qq0==(0:Int))) rfl (fun bm=>?_) (fun bm=>?_)
  ·refine rg [0,1] ?_
   refine sv 35 (.int .i64 (qq1)) ?_
   refine sv 6 (.int .i64 (qq1)) ?_
   refine sq_nil ?_
   refine eN _ _ ?_
   try clear eN g0
   refine wp_seq_k (fun hN gh=>?_)
   refine rg [0,1,2,3,4] ?_
   refine sv 36 (.int .i64 (qq1)) ?_
   refine sv 37 (.int .i64 (qq1)) ?_
   refine sw 38 (.int .i64 ((-qq1))) rfl (RunV.int (x:=IntKind.i64.wrap (0 - qq1)) (y:=(-qq1)) (rvk (by kernel_rfl)) (by first | rfl | (rw [IntKind.wrap_i64];omega))) ?_
   refine sv 39 (.int .i64 ((if (-qq1)>qq1 then (-qq1) else qq1))) ?_
   refine sv 9 (.int .i64 ((if (-qq1)>qq1 then (-qq1) else qq1))) ?_
   refine sq_nil ?_
   refine gh _ _ ?_
   try clear gh hN
   refine wp_block ?_
   refine wp_loop_inv (a:=⟨List.toArray ?l55,[]⟩) (fun n a w'=>∃ (aT:Int) (aD:Int) (aM:Nat→Value),aD.toNat=n∧a=⟨[(aM 0),(.pointer (some ⟨b2,0,none⟩)),(.int .i64 0),undef,(.int .i64 (qq3)),(.int .i64 (aT)),(.int .i64 (qq1)),undef,(.int .i64 (qq1)),(.int .i64 (aD)),undef,undef,(aM 12),(aM 13),(aM 14),(.bool false),(aM 16),(.agg #[(.int .i64 (qq0)),(.int .i64 (qq1)),(.int .i64 (qq2)),(.int .i64 (qq3))]),(.int .i64 4),(.bool false),(aM 20),(aM 21),(aM 22),(aM 23),(aM 24),(aM 25),(.bool false),(aM 27),(aM 28),(.agg #[(.int .i64 (qq0)),(.int .i64 (qq1)),(.int .i64 (qq2)),(.int .i64 (qq3))]),(.int .i64 1),(.bool true),(aM 32),(aM 33),(.bool ((qq0==(0:Int)))),(aM 35),(aM 36),(aM 37),(aM 38),(aM 39),(aM 40),(aM 41),(aM 42),(aM 43),(aM 44),(aM 45),(aM 46),undef,undef,undef,undef,undef,undef,undef,undef,undef,undef,undef,undef,undef].toArray,[]⟩∧Int.gcd aT aD=Int.gcd (aU:Int) (if (-qq1)>qq1 then (-qq1) else qq1)∧0≤aT∧0≤aD∧Lc w' b2 #[(.int .i64 (qq0)),(.int .i64 (qq1)),(.int .i64 (qq2)),(.int .i64 (qq3)),(.string ⟨(ratL (aR):List UInt8).toArray⟩),(.string ⟨(ratL (aS):List UInt8).toArray⟩),(.string ⟨(ratL (aQ):List UInt8).toArray⟩)] 27∧Gr w w') (Int.toNat (if (-qq1)>qq1 then (-qq1) else qq1)) ?_ ?_
   ·exact ⟨_,_,(fun i=>List.getD ?l55 i undef),rfl,rfl,rfl,(by omega),(by split<;>omega),L2,hB⟩
   rintro jI jz h3 ⟨aT,aD,aM,rfl,rfl,eG,db,hM,L2,hB⟩ jJ jx
   refine wp_seq_k (fun jt gw=>?_)
   refine wp_seq_k (fun ip ht=>?_)
   refine rg [0,1] ?_
   refine sv 40 (.int .i64 (aD)) ?_
   refine sv 41 (.bool ((aD !=(0:Int)))) ?_
   refine sq_nil ?_
   refine ht _ _ ?_
   try clear ht ip
   refine wp_cond_split (t:=(aD !=(0:Int))) rfl (fun da=>?_) (fun da=>?_)
   ·have df:0<aD:=by have h0:¬ aD=0:=(by simpa using da);omega
    refine wp_skip ?_
    refine gw _ _ ?_
    try clear gw jt
    refine wp_block ?_
    have dL:=Gr.drew h3
    replace hB:=hB.trans dL
    refine wp_region_ord (fun _=>True) [(true,0),(true,1),(true,2),(true,3),(true,4),(true,5)] (by kernel_rfl) (by kernel_rfl) (by kernel_rfl) (by decide) (fun _ _ _ _ _ h=>h) trivial ?_
    refine ov 42 (.int .i64 (aD)) ?_
    refine ov 43 (.int .i64 (aT)) ?_
    refine ov 44 (.int .i64 (aD)) ?_
    refine ow 45 (.int .i64 ((aT % aD))) rfl (fun w' hS=>(rv_rem 3 3 _ _ aT aD rfl rfl rfl db df)) ?_
    refine ov 5 (.int .i64 (aD)) ?_
    refine ov 9 (.int .i64 ((aT % aD))) ?_
    refine ord_nil ?_
    replace L2:=L2.gr dL
    refine jx ((aT % aD).toNat) ⟨List.toArray ?l62,[]⟩ _ (by have:=Int.emod_lt_of_pos aT df;omega) ?_
    exact ⟨_,_,(fun i=>List.getD ?l62 i undef),rfl,rfl,(by rw [gcd_stepZ db df];exact eG),(by omega),(Int.emod_nonneg _ (by omega)),L2,hB⟩
   ·have bV:=gcd_endZ (m:=qq1) eG da db (by split;exact .inr rfl;exact .inl rfl)
    refine wp_exit ?_
    simp only [Exit.then,Exit.inBlock,↓reduceIte]
    refine eQ _ _ ?_
    try clear eQ ho
    refine rg [0,1] ?_
    refine sv 46 (.int .i64 2) ?_
    refine sv 30 (.int .i64 2) ?_
    refine sq_nil ?_
    show Code.rounds _ _ _ _ _ _
    show Code.wp _ _ _ _ _
    refine wp_seq_k (fun hP ga=>?_)
    refine rg [0] ?_
    refine sv 31 (.bool true) ?_
    refine sq_nil ?_
    refine ga _ _ ?_
    try clear ga hP
    refine wp_seq_k (fun h7 gY=>?_)
    refine wp_cond_true rfl ?_
    refine wp_skip ?_
    refine gY _ _ ?_
    try clear gY h7
    refine wp_seq_k (fun gJ eJ=>?_)
    refine wp_block ?_
    refine wp_seq_k (fun iN gk=>?_)
    refine rg [0,1] ?_
    refine sv 32 (.int .i64 (qq2)) ?_
    refine sv 8 (.int .i64 (qq2)) ?_
    refine sq_nil ?_
    refine gk _ _ ?_
    try clear gk iN
    refine wp_seq_k (fun gU eM=>?_)
    refine wp_seq_k (fun iu gi=>?_)
    refine rg [0,1] ?_
    refine sv 33 (.int .i64 (qq1)) ?_
    refine sv 34 (.bool ((qq1==(0:Int)))) ?_
    refine sq_nil ?_
    refine gi _ _ ?_
    try clear gi iu
    refine wp_cond_split (t:=(qq1==(0:Int))) rfl (fun bH=>?_) (fun bH=>?_)
    ·refine rg [0,1] ?_
     refine sv 35 (.int .i64 (qq2)) ?_
     refine sv 6 (.int .i64 (qq2)) ?_
     refine sq_nil ?_
     refine eM _ _ ?_
     try clear eM gU
     refine wp_seq_k (fun iz hl=>?_)
     refine rg [0,1,2,3,4] ?_
     refine sv 36 (.int .i64 (qq2)) ?_
     refine sv 37 (.int .i64 (qq2)) ?_
     refine sw 38 (.int .i64 ((-qq2))) rfl (RunV.int (x:=IntKind.i64.wrap (0 - qq2)) (y:=(-qq2)) (rvk (by kernel_rfl)) (by first | rfl | (rw [IntKind.wrap_i64];omega))) ?_
     refine sv 39 (.int .i64 ((if (-qq2)>qq2 then (-qq2) else qq2))) ?_
     refine sv 9 (.int .i64 ((if (-qq2)>qq2 then (-qq2) else qq2))) ?_
     refine sq_nil ?_
     refine hl _ _ ?_
     try clear hl iz
     refine wp_block ?_
     refine wp_loop_inv (a:=⟨List.toArray ?l71,[]⟩) (fun n a w'=>∃ (aV:Int) (aC:Int) (aO:Nat→Value),aC.toNat=n∧a=⟨[(aO 0),(.pointer (some ⟨b2,0,none⟩)),(.int .i64 0),undef,(.int .i64 (qq3)),(.int .i64 (aV)),(.int .i64 (qq2)),undef,(.int .i64 (qq2)),(.int .i64 (aC)),undef,undef,(aO 12),(aO 13),(aO 14),(.bool false),(aO 16),(.agg #[(.int .i64 (qq0)),(.int .i64 (qq1)),(.int .i64 (qq2)),(.int .i64 (qq3))]),(.int .i64 4),(.bool false),(aO 20),(aO 21),(aO 22),(aO 23),(aO 24),(aO 25),(.bool false),(aO 27),(aO 28),(.agg #[(.int .i64 (qq0)),(.int .i64 (qq1)),(.int .i64 (qq2)),(.int .i64 (qq3))]),(.int .i64 2),(.bool true),(aO 32),(aO 33),(.bool ((qq1==(0:Int)))),(aO 35),(aO 36),(aO 37),(aO 38),(aO 39),(aO 40),(aO 41),(aO 42),(aO 43),(aO 44),(aO 45),(aO 46),undef,undef,undef,undef,undef,undef,undef,undef,undef,undef,undef,undef,undef].toArray,[]⟩∧Int.gcd aV aC=Int.gcd (aT:Int) (if (-qq2)>qq2 then (-qq2) else qq2)∧0≤aV∧0≤aC∧Lc w' b2 #[(.int .i64 (qq0)),(.int .i64 (qq1)),(.int .i64 (qq2)),(.int .i64 (qq3)),(.string ⟨(ratL (aR):List UInt8).toArray⟩),(.string ⟨(ratL (aS):List UInt8).toArray⟩),(.string ⟨(ratL (aQ):List UInt8).toArray⟩)] 27∧Gr w w') (Int.toNat (if (-qq2)>qq2 then (-qq2) else qq2)) ?_ ?_
     ·exact ⟨_,_,(fun i=>List.getD ?l71 i undef),rfl,rfl,rfl,(by omega),(by split<;>omega),L2,hB⟩
     rintro jF jN iI ⟨aV,aC,aO,rfl,rfl,dE,c4,iC,L2,hB⟩ jD iO
     refine wp_seq_k (fun iS hw=>?_)
     refine wp_seq_k (fun hD gf=>?_)
     refine rg [0,1] ?_
     refine sv 40 (.int .i64 (aC)) ?_
     refine sv 41 (.bool ((aC !=(0:Int)))) ?_
     refine sq_nil ?_
     refine gf _ _ ?_
     try clear gf hD
     refine wp_cond_split (t:=(aC !=(0:Int))) rfl (fun c7=>?_) (fun c7=>?_)
     ·have de:0<aC:=by have h0:¬ aC=0:=(by simpa using c7);omega
      refine wp_skip ?_
      refine hw _ _ ?_
      try clear hw iS
      refine wp_block ?_
      have dt:=Gr.drew iI
      replace hB:=hB.trans dt
      refine wp_region_ord (fun _=>True) [(true,0),(true,1),(true,2),(true,3),(true,4),(true,5)] (by kernel_rfl) (by kernel_rfl) (by kernel_rfl) (by decide) (fun _ _ _ _ _ h=>h) trivial ?_
      refine ov 42 (.int .i64 (aC)) ?_
      refine ov 43 (.int .i64 (aV)) ?_
      refine ov 44 (.int .i64 (aC)) ?_
      refine ow 45 (.int .i64 ((aV % aC))) rfl (fun w' hS=>(rv_rem 3 3 _ _ aV aC rfl rfl rfl c4 de)) ?_
      refine ov 5 (.int .i64 (aC)) ?_
      refine ov 9 (.int .i64 ((aV % aC))) ?_
      refine ord_nil ?_
      replace L2:=L2.gr dt
      refine iO ((aV % aC).toNat) ⟨List.toArray ?l78,[]⟩ _ (by have:=Int.emod_lt_of_pos aV de;omega) ?_
      exact ⟨_,_,(fun i=>List.getD ?l78 i undef),rfl,rfl,(by rw [gcd_stepZ c4 de];exact dE),(by omega),(Int.emod_nonneg _ (by omega)),L2,hB⟩
     ·have cu:=gcd_endZ (m:=qq2) dE c7 c4 (by split;exact .inr rfl;exact .inl rfl)
      refine wp_exit ?_
      simp only [Exit.then,Exit.inBlock,↓reduceIte]
      refine eJ _ _ ?_
      try clear eJ gJ
      refine rg [0,1] ?_
      refine sv 46 (.int .i64 3) ?_
      refine sv 30 (.int .i64 3) ?_
      refine sq_nil ?_
      show Code.rounds _ _ _ _ _ _
      show Code.wp _ _ _ _ _
      refine wp_seq_k (fun iF g8=>?_)
      refine rg [0] ?_
      refine sv 31 (.bool true) ?_
      refine sq_nil ?_
      refine g8 _ _ ?_
      try clear g8 iF
      refine wp_seq_k (fun h2 g1=>?_)
      refine wp_cond_true rfl ?_
      refine wp_skip ?_
      refine g1 _ _ ?_
      try clear g1 h2
      refine wp_seq_k (fun hc eK=>?_)
      refine wp_block ?_
      refine wp_seq_k (fun ih gc=>?_)
      refine rg [0,1] ?_
      refine sv 32 (.int .i64 (qq3)) ?_
      refine sv 8 (.int .i64 (qq3)) ?_
      refine sq_nil ?_
      refine gc _ _ ?_
      try clear gc ih
      refine wp_seq_k (fun g5 eL=>?_)
      refine wp_seq_k (fun jj gt=>?_)
      refine rg [0,1] ?_
      refine sv 33 (.int .i64 (qq2)) ?_
      refine sv 34 (.bool ((qq2==(0:Int)))) ?_
      refine sq_nil ?_
      refine gt _ _ ?_
      try clear gt jj
      refine wp_cond_split (t:=(qq2==(0:Int))) rfl (fun ce=>?_) (fun ce=>?_)
      ·refine rg [0,1] ?_
       refine sv 35 (.int .i64 (qq3)) ?_
       refine sv 6 (.int .i64 (qq3)) ?_
       refine sq_nil ?_
       refine eL _ _ ?_
       try clear eL g5
       refine wp_seq_k (fun ja gj=>?_)
       refine rg [0,1,2,3,4] ?_
       refine sv 36 (.int .i64 (qq3)) ?_
       refine sv 37 (.int .i64 (qq3)) ?_
       refine sw 38 (.int .i64 ((-qq3))) rfl (RunV.int (x:=IntKind.i64.wrap (0 - qq3)) (y:=(-qq3)) (rvk (by kernel_rfl)) (by first | rfl | (rw [IntKind.wrap_i64];omega))) ?_
       refine sv 39 (.int .i64 ((if (-qq3)>qq3 then (-qq3) else qq3))) ?_
       refine sv 9 (.int .i64 ((if (-qq3)>qq3 then (-qq3) else qq3))) ?_
       refine sq_nil ?_
       refine gj _ _ ?_
       try clear gj ja
       refine wp_block ?_
       refine wp_loop_inv (a:=⟨List.toArray ?l87,[]⟩) (fun n a w'=>∃ (ax:Int) (az:Int) (aN:Nat→Value),az.toNat=n∧a=⟨[(aN 0),(.pointer (some ⟨b2,0,none⟩)),(.int .i64 0),undef,(.int .i64 (qq3)),(.int .i64 (ax)),(.int .i64 (qq3)),undef,(.int .i64 (qq3)),(.int .i64 (az)),undef,undef,(aN 12),(aN 13),(aN 14),(.bool false),(aN 16),(.agg #[(.int .i64 (qq0)),(.int .i64 (qq1)),(.int .i64 (qq2)),(.int .i64 (qq3))]),(.int .i64 4),(.bool false),(aN 20),(aN 21),(aN 22),(aN 23),(aN 24),(aN 25),(.bool false),(aN 27),(aN 28),(.agg #[(.int .i64 (qq0)),(.int .i64 (qq1)),(.int .i64 (qq2)),(.int .i64 (qq3))]),(.int .i64 3),(.bool true),(aN 32),(aN 33),(.bool ((qq2==(0:Int)))),(aN 35),(aN 36),(aN 37),(aN 38),(aN 39),(aN 40),(aN 41),(aN 42),(aN 43),(aN 44),(aN 45),(aN 46),undef,undef,undef,undef,undef,undef,undef,undef,undef,undef,undef,undef,undef].toArray,[]⟩∧Int.gcd ax az=Int.gcd (aV:Int) (if (-qq3)>qq3 then (-qq3) else qq3)∧0≤ax∧0≤az∧Lc w' b2 #[(.int .i64 (qq0)),(.int .i64 (qq1)),(.int .i64 (qq2)),(.int .i64 (qq3)),(.string ⟨(ratL (aR):List UInt8).toArray⟩),(.string ⟨(ratL (aS):List UInt8).toArray⟩),(.string ⟨(ratL (aQ):List UInt8).toArray⟩)] 27∧Gr w w') (Int.toNat (if (-qq3)>qq3 then (-qq3) else qq3)) ?_ ?_
       ·exact ⟨_,_,(fun i=>List.getD ?l87 i undef),rfl,rfl,rfl,(by omega),(by split<;>omega),L2,hB⟩
       rintro jG jK ij ⟨ax,az,aN,rfl,rfl,dQ,c9,hT,L2,hB⟩ jL jh
       refine wp_seq_k (fun h9 ha=>?_)
       refine wp_seq_k (fun ib hg=>?_)
       refine rg [0,1] ?_
       refine sv 40 (.int .i64 (az)) ?_
       refine sv 41 (.bool ((az !=(0:Int)))) ?_
       refine sq_nil ?_
       refine hg _ _ ?_
       try clear hg ib
       refine wp_cond_split (t:=(az !=(0:Int))) rfl (fun dd=>?_) (fun dd=>?_)
       ·have dc:0<az:=by have h0:¬ az=0:=(by simpa using dd);omega
        refine wp_skip ?_
        refine ha _ _ ?_
        try clear ha h9
        refine wp_block ?_
        have dH:=Gr.drew ij
        replace hB:=hB.trans dH
        refine wp_region_ord (fun _=>True) [(true,0),(true,1),(true,2),(true,3),(true,4),(true,5)] (by kernel_rfl) (by kernel_rfl) (by kernel_rfl) (by decide) (fun _ _ _ _ _ h=>h) trivial ?_
        refine ov 42 (.int .i64 (az)) ?_
        refine ov 43 (.int .i64 (ax)) ?_
        refine ov 44 (.int .i64 (az)) ?_
        refine ow 45 (.int .i64 ((ax % az))) rfl (fun w' hS=>(rv_rem 3 3 _ _ ax az rfl rfl rfl c9 dc)) ?_
        refine ov 5 (.int .i64 (az)) ?_
        refine ov 9 (.int .i64 ((ax % az))) ?_
        refine ord_nil ?_
        replace L2:=L2.gr dH
        refine jh ((ax % az).toNat) ⟨List.toArray ?l94,[]⟩ _ (by have:=Int.emod_lt_of_pos ax dc;omega) ?_
        exact ⟨_,_,(fun i=>List.getD ?l94 i undef),rfl,rfl,(by rw [gcd_stepZ c9 dc];exact dQ),(by omega),(Int.emod_nonneg _ (by omega)),L2,hB⟩
       ·have dO:=gcd_endZ (m:=qq3) dQ dd c9 (by split;exact .inr rfl;exact .inl rfl)
        refine wp_exit ?_
        simp only [Exit.then,Exit.inBlock,↓reduceIte]
        refine eK _ _ ?_
        try clear eK hc
        refine rg [0,1] ?_
        refine sv 46 (.int .i64 4) ?_
        refine sv 30 (.int .i64 4) ?_
        refine sq_nil ?_
        show Code.rounds _ _ _ _ _ _
        show Code.wp _ _ _ _ _
        refine wp_seq_k (fun ji gg=>?_)
        refine rg [0] ?_
        refine sv 31 (.bool false) ?_
        refine sq_nil ?_
        refine gg _ _ ?_
        try clear gg ji
        refine wp_seq_k (fun jy jC=>?_)
        refine wp_cond_false rfl ?_
        refine wp_exit ?_
        simp only [Exit.then,Exit.inBlock,↓reduceIte]
        refine cG _ _ ?_
        try clear cG eP
        refine wp_seq_k (fun iw g3=>?_)
        refine wp_seq_k (fun g9 eO=>?_)
        refine rg [0,1,2,3,4,5] ?_
        refine sv 47 (.int .i64 (ax)) ?_
        refine sv 48 (.bool ((ax !=(1:Int)))) ?_
        rcases Bool.eq_false_or_eq_true ((ax !=(1:Int))) with hb99 | hb99
        ·refine sw 49 (.bool true) rfl (RunV.bool (x:=(ax !=(1:Int))) (rvk (by kernel_rfl)) hb99) ?_
         refine ss 50 ?_
         refine ss 51 ?_
         refine sv 52 (.bool true) ?_
         refine sq_nil ?_
         refine eO _ _ ?_
         try clear eO g9
         refine wp_cond_true rfl ?_
         refine wp_seq_k (fun eX eu=>?_)
         refine rg [0] ?_
         refine sv 2 (.int .i64 3) ?_
         refine sq_nil ?_
         refine eu _ _ ?_
         try clear eu eX
         refine wp_ret ?_
         simp only [Exit.then]
         refine bodyPost_ret (v:=(.int .i64 3)) (ret_tmp rfl rfl) rfl ⟨?_,hB⟩
         exact (congrArg (fun z=>Ending.returned (.int .i64 z)) (chk_g (g:=ax) (by rw [dO,cu,bV,bG];rfl) hb99))
        ·refine sw 49 (.bool false) rfl (RunV.bool (x:=(ax !=(1:Int))) (rvk (by kernel_rfl)) hb99) ?_
         refine sv 50 (.int .i64 (qq3)) ?_
         refine sv 51 (.bool (decide (qq3<(0:Int)))) ?_
         refine sv 52 (.bool (decide (qq3<(0:Int)))) ?_
         refine sq_nil ?_
         refine eO _ _ ?_
         try clear eO g9
         refine wp_cond_split (t:=decide (qq3<(0:Int))) rfl (fun cj=>?_) (fun cj=>?_)
         ·refine wp_seq_k (fun e2 ey=>?_)
          refine rg [0] ?_
          refine sv 2 (.int .i64 3) ?_
          refine sq_nil ?_
          refine ey _ _ ?_
          try clear ey e2
          refine wp_ret ?_
          simp only [Exit.then]
          refine bodyPost_ret (v:=(.int .i64 3)) (ret_tmp rfl rfl) rfl ⟨?_,hB⟩
          exact (congrArg (fun z=>Ending.returned (.int .i64 z)) (chk_s (qsgn3 bm bH ce hnz) cj))
         ·refine wp_skip ?_
          refine g3 _ _ ?_
          try clear g3 iw
          refine wp_seq_k (fun fU dw=>?_)
          refine rg [0,1,2,3,4,5,6,7,8] ?_
          refine sv 54 (.pointer (some ⟨b2,4,none⟩)) ?_
          refine sw 55 (.agg #[(.string ⟨(ratL (aR):List UInt8).toArray⟩),(.string ⟨(ratL (aS):List UInt8).toArray⟩),(.string ⟨(ratL (aQ):List UInt8).toArray⟩)]) rfl (rl 25 4 [(.string ⟨(ratL (aR):List UInt8).toArray⟩),(.string ⟨(ratL (aS):List UInt8).toArray⟩),(.string ⟨(ratL (aQ):List UInt8).toArray⟩)] L2) ?_
          refine se ?_
          refine ec 56 (vparse_v aR aS aQ cx cB cE (by omega) (by omega) cD cA cF _ (hm.gr hB)) ?_
          rintro je i9 ⟨⟨bh,a5,bv,a6,bd,bE,a3,bF,bn,a0,aG,aH,rfl,bR,bJ,bU⟩,du⟩
          refine ⟨_,rfl,?_⟩
          replace hB:=hB.trans du
          simp only [p3,p4]
          refine sv 53 (.tuple #[(.agg #[bh,a5,bv,a6,bd,bE,a3,bF,bn,a0,aG,aH]),(.int .i64 0)]) ?_
          refine sv 57 (.agg #[bh,a5,bv,a6,bd,bE,a3,bF,bn,a0,aG,aH]) ?_
          refine sv 58 (.int .i64 0) ?_
          refine se ?_
          refine ea 38 #[(.bool false),(.slice none 0 0),(.bool false),(.slice none 0 0),(.bool false),(.slice none 0 0),(.bool false),(.slice none 0 0),(.bool false),(.slice none 0 0),(.bool false),(.slice none 0 0)] 10 hB fun jr i7 hQ d5 iJ fE hB=>?_
          replace L2:=L2.gr du
          simp only [p3,p4]
          refine se ?_
          refine es 38 0 (.agg #[bh,a5,bv,a6,bd,bE,a3,bF,bn,a0,aG,aH]) [bh,a5,bv,a6,bd,bE,a3,bF,bn,a0,aG,aH] #[bh,a5,bv,a6,bd,bE,a3,bF,bn,a0,aG,aH] d5 hB fE ⟨bR.one0,bR.one1,bR.one2,bR.one3,bJ.one0,bJ.one1,bJ.one2,bJ.one3,bU.one0,bU.one1,bU.one2,bU.one3,trivial⟩ fun hA gd gF d5 hB=>?_
          refine sv 11 (.int .i64 0) ?_
          refine sq_nil ?_
          refine dw _ _ ?_
          try clear dw fU
          refine wp_seq_k (fun fA dR=>?_)
          refine rg [0,1] ?_
          refine sv 59 (.int .i64 0) ?_
          refine sv 2 (.int .i64 0) ?_
          refine sq_nil ?_
          refine dR _ _ ?_
          try clear dR fA
          refine wp_ret ?_
          refine bodyPost_ret (v:=(.int .i64 0)) (ret_tmp rfl rfl) rfl ⟨?_,hB⟩
          exact (congrArg (fun z=>Ending.returned (.int .i64 z)) (chk_e (g:=ax) (by rw [dO,cu,bV,bG];rfl) hb99 (qsgn3 bm bH ce hnz) cj))
      ·refine wp_skip ?_
       refine eL _ _ ?_
       try clear eL g5
       refine wp_seq_k (fun e4 dC=>?_)
       refine rg [0,1,2,3,4] ?_
       refine sv 36 (.int .i64 (qq3)) ?_
       refine sv 37 (.int .i64 (qq3)) ?_
       refine sw 38 (.int .i64 ((-qq3))) rfl (RunV.int (x:=IntKind.i64.wrap (0 - qq3)) (y:=(-qq3)) (rvk (by kernel_rfl)) (by first | rfl | (rw [IntKind.wrap_i64];omega))) ?_
       refine sv 39 (.int .i64 ((if (-qq3)>qq3 then (-qq3) else qq3))) ?_
       refine sv 9 (.int .i64 ((if (-qq3)>qq3 then (-qq3) else qq3))) ?_
       refine sq_nil ?_
       refine dC _ _ ?_
       try clear dC e4
       refine wp_block ?_
       refine wp_loop_inv (a:=⟨List.toArray ?l109,[]⟩) (fun n a w'=>∃ (ak:Int) (aj:Int) (ae:Nat→Value),aj.toNat=n∧a=⟨[(ae 0),(.pointer (some ⟨b2,0,none⟩)),(.int .i64 0),undef,(.int .i64 (qq3)),(.int .i64 (ak)),(.int .i64 (qq2)),undef,(.int .i64 (qq3)),(.int .i64 (aj)),undef,undef,(ae 12),(ae 13),(ae 14),(.bool false),(ae 16),(.agg #[(.int .i64 (qq0)),(.int .i64 (qq1)),(.int .i64 (qq2)),(.int .i64 (qq3))]),(.int .i64 4),(.bool false),(ae 20),(ae 21),(ae 22),(ae 23),(ae 24),(ae 25),(.bool false),(ae 27),(ae 28),(.agg #[(.int .i64 (qq0)),(.int .i64 (qq1)),(.int .i64 (qq2)),(.int .i64 (qq3))]),(.int .i64 3),(.bool true),(ae 32),(ae 33),(.bool ((qq2==(0:Int)))),(ae 35),(ae 36),(ae 37),(ae 38),(ae 39),(ae 40),(ae 41),(ae 42),(ae 43),(ae 44),(ae 45),(ae 46),undef,undef,undef,undef,undef,undef,undef,undef,undef,undef,undef,undef,undef].toArray,[]⟩∧Int.gcd ak aj=Int.gcd (aV:Int) (if (-qq3)>qq3 then (-qq3) else qq3)∧0≤ak∧0≤aj∧Lc w' b2 #[(.int .i64 (qq0)),(.int .i64 (qq1)),(.int .i64 (qq2)),(.int .i64 (qq3)),(.string ⟨(ratL (aR):List UInt8).toArray⟩),(.string ⟨(ratL (aS):List UInt8).toArray⟩),(.string ⟨(ratL (aQ):List UInt8).toArray⟩)] 27∧Gr w w') (Int.toNat (if (-qq3)>qq3 then (-qq3) else qq3)) ?_ ?_
       ·exact ⟨_,_,(fun i=>List.getD ?l109 i undef),rfl,rfl,rfl,(by omega),(by split<;>omega),L2,hB⟩
       rintro hX i4 e8 ⟨ak,aj,ae,rfl,rfl,cP,cd,gT,L2,hB⟩ ju fW
       refine wp_seq_k (fun eY d6=>?_)
       refine wp_seq_k (fun eS eB=>?_)
       refine rg [0,1] ?_
       refine sv 40 (.int .i64 (aj)) ?_
       refine sv 41 (.bool ((aj !=(0:Int)))) ?_
       refine sq_nil ?_
       refine eB _ _ ?_
       try clear eB eS
       refine wp_cond_split (t:=(aj !=(0:Int))) rfl (fun cn=>?_) (fun cn=>?_)
       ·have bY:0<aj:=by have h0:¬ aj=0:=(by simpa using cn);omega
        refine wp_skip ?_
        refine d6 _ _ ?_
        try clear d6 eY
        refine wp_block ?_
        have cN:=Gr.drew e8
        replace hB:=hB.trans cN
        refine wp_region_ord (fun _=>True) [(true,0),(true,1),(true,2),(true,3),(true,4),(true,5)] (by kernel_rfl) (by kernel_rfl) (by kernel_rfl) (by decide) (fun _ _ _ _ _ h=>h) trivial ?_
        refine ov 42 (.int .i64 (aj)) ?_
        refine ov 43 (.int .i64 (ak)) ?_
        refine ov 44 (.int .i64 (aj)) ?_
        refine ow 45 (.int .i64 ((ak % aj))) rfl (fun w' hS=>(rv_rem 3 3 _ _ ak aj rfl rfl rfl cd bY)) ?_
        refine ov 5 (.int .i64 (aj)) ?_
        refine ov 9 (.int .i64 ((ak % aj))) ?_
        refine ord_nil ?_
        replace L2:=L2.gr cN
        refine fW ((ak % aj).toNat) ⟨List.toArray ?l116,[]⟩ _ (by have:=Int.emod_lt_of_pos ak bY;omega) ?_
        exact ⟨_,_,(fun i=>List.getD ?l116 i undef),rfl,rfl,(by rw [gcd_stepZ cd bY];exact cP),(by omega),(Int.emod_nonneg _ (by omega)),L2,hB⟩
       ·have cZ:=gcd_endZ (m:=qq3) cP cn cd (by split;exact .inr rfl;exact .inl rfl)
        refine wp_exit ?_
        simp only [Exit.then,Exit.inBlock,↓reduceIte]
        refine eK _ _ ?_
        try clear eK hc
        refine rg [0,1] ?_
        refine sv 46 (.int .i64 4) ?_
        refine sv 30 (.int .i64 4) ?_
        refine sq_nil ?_
        show Code.rounds _ _ _ _ _ _
        show Code.wp _ _ _ _ _
        refine wp_seq_k (fun fL d2=>?_)
        refine rg [0] ?_
        refine sv 31 (.bool false) ?_
        refine sq_nil ?_
        refine d2 _ _ ?_
        try clear d2 fL
        refine wp_seq_k (fun ix jn=>?_)
        refine wp_cond_false rfl ?_
        refine wp_exit ?_
        simp only [Exit.then,Exit.inBlock,↓reduceIte]
        refine cG _ _ ?_
        try clear cG eP
        refine wp_seq_k (fun fY em=>?_)
        refine wp_seq_k (fun dk cy=>?_)
        refine rg [0,1,2,3,4,5] ?_
        refine sv 47 (.int .i64 (ak)) ?_
        refine sv 48 (.bool ((ak !=(1:Int)))) ?_
        rcases Bool.eq_false_or_eq_true ((ak !=(1:Int))) with hb121 | hb121
        ·refine sw 49 (.bool true) rfl (RunV.bool (x:=(ak !=(1:Int))) (rvk (by kernel_rfl)) hb121) ?_
         refine ss 50 ?_
         refine ss 51 ?_
         refine sv 52 (.bool true) ?_
         refine sq_nil ?_
         refine cy _ _ ?_
         try clear cy dk
         refine wp_cond_true rfl ?_
         refine wp_seq_k (fun fB eF=>?_)
         refine rg [0] ?_
         refine sv 2 (.int .i64 3) ?_
         refine sq_nil ?_
         refine eF _ _ ?_
         try clear eF fB
         refine wp_ret ?_
         simp only [Exit.then]
         refine bodyPost_ret (v:=(.int .i64 3)) (ret_tmp rfl rfl) rfl ⟨?_,hB⟩
         exact (congrArg (fun z=>Ending.returned (.int .i64 z)) (chk_g (g:=ak) (by rw [cZ,cu,bV,bG];rfl) hb121))
        ·refine sw 49 (.bool false) rfl (RunV.bool (x:=(ak !=(1:Int))) (rvk (by kernel_rfl)) hb121) ?_
         refine sv 50 (.int .i64 (qq2)) ?_
         refine sv 51 (.bool (decide (qq2<(0:Int)))) ?_
         refine sv 52 (.bool (decide (qq2<(0:Int)))) ?_
         refine sq_nil ?_
         refine cy _ _ ?_
         try clear cy dk
         refine wp_cond_split (t:=decide (qq2<(0:Int))) rfl (fun b5=>?_) (fun b5=>?_)
         ·refine wp_seq_k (fun eR ex=>?_)
          refine rg [0] ?_
          refine sv 2 (.int .i64 3) ?_
          refine sq_nil ?_
          refine ex _ _ ?_
          try clear ex eR
          refine wp_ret ?_
          simp only [Exit.then]
          refine bodyPost_ret (v:=(.int .i64 3)) (ret_tmp rfl rfl) rfl ⟨?_,hB⟩
          exact (congrArg (fun z=>Ending.returned (.int .i64 z)) (chk_s (qsgn2 bm bH ce) b5))
         ·refine wp_skip ?_
          refine em _ _ ?_
          try clear em fY
          refine wp_seq_k (fun fy dF=>?_)
          refine rg [0,1,2,3,4,5,6,7,8] ?_
          refine sv 54 (.pointer (some ⟨b2,4,none⟩)) ?_
          refine sw 55 (.agg #[(.string ⟨(ratL (aR):List UInt8).toArray⟩),(.string ⟨(ratL (aS):List UInt8).toArray⟩),(.string ⟨(ratL (aQ):List UInt8).toArray⟩)]) rfl (rl 25 4 [(.string ⟨(ratL (aR):List UInt8).toArray⟩),(.string ⟨(ratL (aS):List UInt8).toArray⟩),(.string ⟨(ratL (aQ):List UInt8).toArray⟩)] L2) ?_
          refine se ?_
          refine ec 56 (vparse_v aR aS aQ cx cB cE (by omega) (by omega) cD cA cF _ (hm.gr hB)) ?_
          rintro h6 hZ ⟨⟨bz,bo,bc,bb,bu,bt,ba,a7,bq,bi,aF,aE,rfl,bS,bO,bN⟩,dv⟩
          refine ⟨_,rfl,?_⟩
          replace hB:=hB.trans dv
          simp only [p3,p4]
          refine sv 53 (.tuple #[(.agg #[bz,bo,bc,bb,bu,bt,ba,a7,bq,bi,aF,aE]),(.int .i64 0)]) ?_
          refine sv 57 (.agg #[bz,bo,bc,bb,bu,bt,ba,a7,bq,bi,aF,aE]) ?_
          refine sv 58 (.int .i64 0) ?_
          refine se ?_
          refine ea 38 #[(.bool false),(.slice none 0 0),(.bool false),(.slice none 0 0),(.bool false),(.slice none 0 0),(.bool false),(.slice none 0 0),(.bool false),(.slice none 0 0),(.bool false),(.slice none 0 0)] 10 hB fun hG jq hH dK iY f1 hB=>?_
          replace L2:=L2.gr dv
          simp only [p3,p4]
          refine se ?_
          refine es 38 0 (.agg #[bz,bo,bc,bb,bu,bt,ba,a7,bq,bi,aF,aE]) [bz,bo,bc,bb,bu,bt,ba,a7,bq,bi,aF,aE] #[bz,bo,bc,bb,bu,bt,ba,a7,bq,bi,aF,aE] dK hB f1 ⟨bS.one0,bS.one1,bS.one2,bS.one3,bO.one0,bO.one1,bO.one2,bO.one3,bN.one0,bN.one1,bN.one2,bN.one3,trivial⟩ fun iH hu gN dK hB=>?_
          refine sv 11 (.int .i64 0) ?_
          refine sq_nil ?_
          refine dF _ _ ?_
          try clear dF fy
          refine wp_seq_k (fun fz dA=>?_)
          refine rg [0,1] ?_
          refine sv 59 (.int .i64 0) ?_
          refine sv 2 (.int .i64 0) ?_
          refine sq_nil ?_
          refine dA _ _ ?_
          try clear dA fz
          refine wp_ret ?_
          refine bodyPost_ret (v:=(.int .i64 0)) (ret_tmp rfl rfl) rfl ⟨?_,hB⟩
          exact (congrArg (fun z=>Ending.returned (.int .i64 z)) (chk_e (g:=ak) (by rw [cZ,cu,bV,bG];rfl) hb121 (qsgn2 bm bH ce) b5))
    ·refine wp_skip ?_
     refine eM _ _ ?_
     try clear eM gU
     refine wp_seq_k (fun f5 dM=>?_)
     refine rg [0,1,2,3,4] ?_
     refine sv 36 (.int .i64 (qq2)) ?_
     refine sv 37 (.int .i64 (qq2)) ?_
     refine sw 38 (.int .i64 ((-qq2))) rfl (RunV.int (x:=IntKind.i64.wrap (0 - qq2)) (y:=(-qq2)) (rvk (by kernel_rfl)) (by first | rfl | (rw [IntKind.wrap_i64];omega))) ?_
     refine sv 39 (.int .i64 ((if (-qq2)>qq2 then (-qq2) else qq2))) ?_
     refine sv 9 (.int .i64 ((if (-qq2)>qq2 then (-qq2) else qq2))) ?_
     refine sq_nil ?_
     refine dM _ _ ?_
     try clear dM f5
     refine wp_block ?_
     refine wp_loop_inv (a:=⟨List.toArray ?l131,[]⟩) (fun n a w'=>∃ (ay:Int) (al:Int) (ab:Nat→Value),al.toNat=n∧a=⟨[(ab 0),(.pointer (some ⟨b2,0,none⟩)),(.int .i64 0),undef,(.int .i64 (qq3)),(.int .i64 (ay)),(.int .i64 (qq1)),undef,(.int .i64 (qq2)),(.int .i64 (al)),undef,undef,(ab 12),(ab 13),(ab 14),(.bool false),(ab 16),(.agg #[(.int .i64 (qq0)),(.int .i64 (qq1)),(.int .i64 (qq2)),(.int .i64 (qq3))]),(.int .i64 4),(.bool false),(ab 20),(ab 21),(ab 22),(ab 23),(ab 24),(ab 25),(.bool false),(ab 27),(ab 28),(.agg #[(.int .i64 (qq0)),(.int .i64 (qq1)),(.int .i64 (qq2)),(.int .i64 (qq3))]),(.int .i64 2),(.bool true),(ab 32),(ab 33),(.bool ((qq1==(0:Int)))),(ab 35),(ab 36),(ab 37),(ab 38),(ab 39),(ab 40),(ab 41),(ab 42),(ab 43),(ab 44),(ab 45),(ab 46),undef,undef,undef,undef,undef,undef,undef,undef,undef,undef,undef,undef,undef].toArray,[]⟩∧Int.gcd ay al=Int.gcd (aT:Int) (if (-qq2)>qq2 then (-qq2) else qq2)∧0≤ay∧0≤al∧Lc w' b2 #[(.int .i64 (qq0)),(.int .i64 (qq1)),(.int .i64 (qq2)),(.int .i64 (qq3)),(.string ⟨(ratL (aR):List UInt8).toArray⟩),(.string ⟨(ratL (aS):List UInt8).toArray⟩),(.string ⟨(ratL (aQ):List UInt8).toArray⟩)] 27∧Gr w w') (Int.toNat (if (-qq2)>qq2 then (-qq2) else qq2)) ?_ ?_
     ·exact ⟨_,_,(fun i=>List.getD ?l131 i undef),rfl,rfl,rfl,(by omega),(by split<;>omega),L2,hB⟩
     rintro i3 hx eU ⟨ay,al,ab,rfl,rfl,cO,ck,gX,L2,hB⟩ ic fG
     refine wp_seq_k (fun eW dn=>?_)
     refine wp_seq_k (fun e7 eg=>?_)
     refine rg [0,1] ?_
     refine sv 40 (.int .i64 (al)) ?_
     refine sv 41 (.bool ((al !=(0:Int)))) ?_
     refine sq_nil ?_
     refine eg _ _ ?_
     try clear eg e7
     refine wp_cond_split (t:=(al !=(0:Int))) rfl (fun co=>?_) (fun co=>?_)
     ·have ca:0<al:=by have h0:¬ al=0:=(by simpa using co);omega
      refine wp_skip ?_
      refine dn _ _ ?_
      try clear dn eW
      refine wp_block ?_
      have cK:=Gr.drew eU
      replace hB:=hB.trans cK
      refine wp_region_ord (fun _=>True) [(true,0),(true,1),(true,2),(true,3),(true,4),(true,5)] (by kernel_rfl) (by kernel_rfl) (by kernel_rfl) (by decide) (fun _ _ _ _ _ h=>h) trivial ?_
      refine ov 42 (.int .i64 (al)) ?_
      refine ov 43 (.int .i64 (ay)) ?_
      refine ov 44 (.int .i64 (al)) ?_
      refine ow 45 (.int .i64 ((ay % al))) rfl (fun w' hS=>(rv_rem 3 3 _ _ ay al rfl rfl rfl ck ca)) ?_
      refine ov 5 (.int .i64 (al)) ?_
      refine ov 9 (.int .i64 ((ay % al))) ?_
      refine ord_nil ?_
      replace L2:=L2.gr cK
      refine fG ((ay % al).toNat) ⟨List.toArray ?l138,[]⟩ _ (by have:=Int.emod_lt_of_pos ay ca;omega) ?_
      exact ⟨_,_,(fun i=>List.getD ?l138 i undef),rfl,rfl,(by rw [gcd_stepZ ck ca];exact cO),(by omega),(Int.emod_nonneg _ (by omega)),L2,hB⟩
     ·have cH:=gcd_endZ (m:=qq2) cO co ck (by split;exact .inr rfl;exact .inl rfl)
      refine wp_exit ?_
      simp only [Exit.then,Exit.inBlock,↓reduceIte]
      refine eJ _ _ ?_
      try clear eJ gJ
      refine rg [0,1] ?_
      refine sv 46 (.int .i64 3) ?_
      refine sv 30 (.int .i64 3) ?_
      refine sq_nil ?_
      show Code.rounds _ _ _ _ _ _
      show Code.wp _ _ _ _ _
      refine wp_seq_k (fun fQ dG=>?_)
      refine rg [0] ?_
      refine sv 31 (.bool true) ?_
      refine sq_nil ?_
      refine dG _ _ ?_
      try clear dG fQ
      refine wp_seq_k (fun f9 di=>?_)
      refine wp_cond_true rfl ?_
      refine wp_skip ?_
      refine di _ _ ?_
      try clear di f9
      refine wp_seq_k (fun eV dY=>?_)
      refine wp_block ?_
      refine wp_seq_k (fun f7 dq=>?_)
      refine rg [0,1] ?_
      refine sv 32 (.int .i64 (qq3)) ?_
      refine sv 8 (.int .i64 (qq3)) ?_
      refine sq_nil ?_
      refine dq _ _ ?_
      try clear dq f7
      refine wp_seq_k (fun fV dV=>?_)
      refine wp_seq_k (fun fR dT=>?_)
      refine rg [0,1] ?_
      refine sv 33 (.int .i64 (qq1)) ?_
      refine sw 34 (.bool false) rfl (RunV.bool (x:=(qq1==(0:Int))) (rvk (by kernel_rfl)) bH) ?_
      refine sq_nil ?_
      refine dT _ _ ?_
      try clear dT fR
      refine wp_cond_false rfl ?_
      refine wp_skip ?_
      refine dV _ _ ?_
      try clear dV fV
      refine wp_seq_k (fun fx eC=>?_)
      refine rg [0,1,2,3,4] ?_
      refine sv 36 (.int .i64 (qq3)) ?_
      refine sv 37 (.int .i64 (qq3)) ?_
      refine sw 38 (.int .i64 ((-qq3))) rfl (RunV.int (x:=IntKind.i64.wrap (0 - qq3)) (y:=(-qq3)) (rvk (by kernel_rfl)) (by first | rfl | (rw [IntKind.wrap_i64];omega))) ?_
      refine sv 39 (.int .i64 ((if (-qq3)>qq3 then (-qq3) else qq3))) ?_
      refine sv 9 (.int .i64 ((if (-qq3)>qq3 then (-qq3) else qq3))) ?_
      refine sq_nil ?_
      refine eC _ _ ?_
      try clear eC fx
      refine wp_block ?_
      refine wp_loop_inv (a:=⟨List.toArray ?l146,[]⟩) (fun n a w'=>∃ (au:Int) (aq:Int) (ac:Nat→Value),aq.toNat=n∧a=⟨[(ac 0),(.pointer (some ⟨b2,0,none⟩)),(.int .i64 0),undef,(.int .i64 (qq3)),(.int .i64 (au)),(.int .i64 (qq1)),undef,(.int .i64 (qq3)),(.int .i64 (aq)),undef,undef,(ac 12),(ac 13),(ac 14),(.bool false),(ac 16),(.agg #[(.int .i64 (qq0)),(.int .i64 (qq1)),(.int .i64 (qq2)),(.int .i64 (qq3))]),(.int .i64 4),(.bool false),(ac 20),(ac 21),(ac 22),(ac 23),(ac 24),(ac 25),(.bool false),(ac 27),(ac 28),(.agg #[(.int .i64 (qq0)),(.int .i64 (qq1)),(.int .i64 (qq2)),(.int .i64 (qq3))]),(.int .i64 3),(.bool true),(ac 32),(ac 33),(.bool false),(ac 35),(ac 36),(ac 37),(ac 38),(ac 39),(ac 40),(ac 41),(ac 42),(ac 43),(ac 44),(ac 45),(ac 46),undef,undef,undef,undef,undef,undef,undef,undef,undef,undef,undef,undef,undef].toArray,[]⟩∧Int.gcd au aq=Int.gcd (ay:Int) (if (-qq3)>qq3 then (-qq3) else qq3)∧0≤au∧0≤aq∧Lc w' b2 #[(.int .i64 (qq0)),(.int .i64 (qq1)),(.int .i64 (qq2)),(.int .i64 (qq3)),(.string ⟨(ratL (aR):List UInt8).toArray⟩),(.string ⟨(ratL (aS):List UInt8).toArray⟩),(.string ⟨(ratL (aQ):List UInt8).toArray⟩)] 27∧Gr w w') (Int.toNat (if (-qq3)>qq3 then (-qq3) else qq3)) ?_ ?_
      ·exact ⟨_,_,(fun i=>List.getD ?l146 i undef),rfl,rfl,rfl,(by omega),(by split<;>omega),L2,hB⟩
      rintro i5 hy fC ⟨au,aq,ac,rfl,rfl,cQ,cl,gW,L2,hB⟩ iV fH
      refine wp_seq_k (fun e0 dX=>?_)
      refine wp_seq_k (fun fN dB=>?_)
      refine rg [0,1] ?_
      refine sv 40 (.int .i64 (aq)) ?_
      refine sv 41 (.bool ((aq !=(0:Int)))) ?_
      refine sq_nil ?_
      refine dB _ _ ?_
      try clear dB fN
      refine wp_cond_split (t:=(aq !=(0:Int))) rfl (fun b7=>?_) (fun b7=>?_)
      ·have bW:0<aq:=by have h0:¬ aq=0:=(by simpa using b7);omega
       refine wp_skip ?_
       refine dX _ _ ?_
       try clear dX e0
       refine wp_block ?_
       have cY:=Gr.drew fC
       replace hB:=hB.trans cY
       refine wp_region_ord (fun _=>True) [(true,0),(true,1),(true,2),(true,3),(true,4),(true,5)] (by kernel_rfl) (by kernel_rfl) (by kernel_rfl) (by decide) (fun _ _ _ _ _ h=>h) trivial ?_
       refine ov 42 (.int .i64 (aq)) ?_
       refine ov 43 (.int .i64 (au)) ?_
       refine ov 44 (.int .i64 (aq)) ?_
       refine ow 45 (.int .i64 ((au % aq))) rfl (fun w' hS=>(rv_rem 3 3 _ _ au aq rfl rfl rfl cl bW)) ?_
       refine ov 5 (.int .i64 (aq)) ?_
       refine ov 9 (.int .i64 ((au % aq))) ?_
       refine ord_nil ?_
       replace L2:=L2.gr cY
       refine fH ((au % aq).toNat) ⟨List.toArray ?l153,[]⟩ _ (by have:=Int.emod_lt_of_pos au bW;omega) ?_
       exact ⟨_,_,(fun i=>List.getD ?l153 i undef),rfl,rfl,(by rw [gcd_stepZ cl bW];exact cQ),(by omega),(Int.emod_nonneg _ (by omega)),L2,hB⟩
      ·have cL:=gcd_endZ (m:=qq3) cQ b7 cl (by split;exact .inr rfl;exact .inl rfl)
       refine wp_exit ?_
       simp only [Exit.then,Exit.inBlock,↓reduceIte]
       refine dY _ _ ?_
       try clear dY eV
       refine rg [0,1] ?_
       refine sv 46 (.int .i64 4) ?_
       refine sv 30 (.int .i64 4) ?_
       refine sq_nil ?_
       show Code.rounds _ _ _ _ _ _
       show Code.wp _ _ _ _ _
       refine wp_seq_k (fun fg ee=>?_)
       refine rg [0] ?_
       refine sv 31 (.bool false) ?_
       refine sq_nil ?_
       refine ee _ _ ?_
       try clear ee fg
       refine wp_seq_k (fun jd iZ=>?_)
       refine wp_cond_false rfl ?_
       refine wp_exit ?_
       simp only [Exit.then,Exit.inBlock,↓reduceIte]
       refine cG _ _ ?_
       try clear cG eP
       refine wp_seq_k (fun fc ei=>?_)
       refine wp_seq_k (fun dx cC=>?_)
       refine rg [0,1,2,3,4,5] ?_
       refine sv 47 (.int .i64 (au)) ?_
       refine sv 48 (.bool ((au !=(1:Int)))) ?_
       rcases Bool.eq_false_or_eq_true ((au !=(1:Int))) with hb158 | hb158
       ·refine sw 49 (.bool true) rfl (RunV.bool (x:=(au !=(1:Int))) (rvk (by kernel_rfl)) hb158) ?_
        refine ss 50 ?_
        refine ss 51 ?_
        refine sv 52 (.bool true) ?_
        refine sq_nil ?_
        refine cC _ _ ?_
        try clear cC dx
        refine wp_cond_true rfl ?_
        refine wp_seq_k (fun eT dj=>?_)
        refine rg [0] ?_
        refine sv 2 (.int .i64 3) ?_
        refine sq_nil ?_
        refine dj _ _ ?_
        try clear dj eT
        refine wp_ret ?_
        simp only [Exit.then]
        refine bodyPost_ret (v:=(.int .i64 3)) (ret_tmp rfl rfl) rfl ⟨?_,hB⟩
        exact (congrArg (fun z=>Ending.returned (.int .i64 z)) (chk_g (g:=au) (by rw [cL,cH,bV,bG];rfl) hb158))
       ·refine sw 49 (.bool false) rfl (RunV.bool (x:=(au !=(1:Int))) (rvk (by kernel_rfl)) hb158) ?_
        refine sv 50 (.int .i64 (qq1)) ?_
        refine sv 51 (.bool (decide (qq1<(0:Int)))) ?_
        refine sv 52 (.bool (decide (qq1<(0:Int)))) ?_
        refine sq_nil ?_
        refine cC _ _ ?_
        try clear cC dx
        refine wp_cond_split (t:=decide (qq1<(0:Int))) rfl (fun bZ=>?_) (fun bZ=>?_)
        ·refine wp_seq_k (fun fm ep=>?_)
         refine rg [0] ?_
         refine sv 2 (.int .i64 3) ?_
         refine sq_nil ?_
         refine ep _ _ ?_
         try clear ep fm
         refine wp_ret ?_
         simp only [Exit.then]
         refine bodyPost_ret (v:=(.int .i64 3)) (ret_tmp rfl rfl) rfl ⟨?_,hB⟩
         exact (congrArg (fun z=>Ending.returned (.int .i64 z)) (chk_s (qsgn1 bm bH) bZ))
        ·refine wp_skip ?_
         refine ei _ _ ?_
         try clear ei fc
         refine wp_seq_k (fun eZ ef=>?_)
         refine rg [0,1,2,3,4,5,6,7,8] ?_
         refine sv 54 (.pointer (some ⟨b2,4,none⟩)) ?_
         refine sw 55 (.agg #[(.string ⟨(ratL (aR):List UInt8).toArray⟩),(.string ⟨(ratL (aS):List UInt8).toArray⟩),(.string ⟨(ratL (aQ):List UInt8).toArray⟩)]) rfl (rl 25 4 [(.string ⟨(ratL (aR):List UInt8).toArray⟩),(.string ⟨(ratL (aS):List UInt8).toArray⟩),(.string ⟨(ratL (aQ):List UInt8).toArray⟩)] L2) ?_
         refine se ?_
         refine ec 56 (vparse_v aR aS aQ cx cB cE (by omega) (by omega) cD cA cF _ (hm.gr hB)) ?_
         rintro io jp ⟨⟨bj,aZ,a8,aW,bk,bx,bg,bB,bD,a2,aK,aJ,rfl,bT,bP,bK⟩,eI⟩
         refine ⟨_,rfl,?_⟩
         replace hB:=hB.trans eI
         simp only [p3,p4]
         refine sv 53 (.tuple #[(.agg #[bj,aZ,a8,aW,bk,bx,bg,bB,bD,a2,aK,aJ]),(.int .i64 0)]) ?_
         refine sv 57 (.agg #[bj,aZ,a8,aW,bk,bx,bg,bB,bD,a2,aK,aJ]) ?_
         refine sv 58 (.int .i64 0) ?_
         refine se ?_
         refine ea 38 #[(.bool false),(.slice none 0 0),(.bool false),(.slice none 0 0),(.bool false),(.slice none 0 0),(.bool false),(.slice none 0 0),(.bool false),(.slice none 0 0),(.bool false),(.slice none 0 0)] 10 hB fun i0 ir jf eo hR fF hB=>?_
         replace L2:=L2.gr eI
         simp only [p3,p4]
         refine se ?_
         refine es 38 0 (.agg #[bj,aZ,a8,aW,bk,bx,bg,bB,bD,a2,aK,aJ]) [bj,aZ,a8,aW,bk,bx,bg,bB,bD,a2,aK,aJ] #[bj,aZ,a8,aW,bk,bx,bg,bB,bD,a2,aK,aJ] eo hB fF ⟨bT.one0,bT.one1,bT.one2,bT.one3,bP.one0,bP.one1,bP.one2,bP.one3,bK.one0,bK.one1,bK.one2,bK.one3,trivial⟩ fun hU gs gp eo hB=>?_
         refine sv 11 (.int .i64 0) ?_
         refine sq_nil ?_
         refine ef _ _ ?_
         try clear ef eZ
         refine wp_seq_k (fun e1 dS=>?_)
         refine rg [0,1] ?_
         refine sv 59 (.int .i64 0) ?_
         refine sv 2 (.int .i64 0) ?_
         refine sq_nil ?_
         refine dS _ _ ?_
         try clear dS e1
         refine wp_ret ?_
         refine bodyPost_ret (v:=(.int .i64 0)) (ret_tmp rfl rfl) rfl ⟨?_,hB⟩
         exact (congrArg (fun z=>Ending.returned (.int .i64 z)) (chk_e (g:=au) (by rw [cL,cH,bV,bG];rfl) hb158 (qsgn1 bm bH) bZ))
  ·refine wp_skip ?_
   refine eN _ _ ?_
   try clear eN g0
   refine wp_seq_k (fun fM ew=>?_)
   refine rg [0,1,2,3,4] ?_
   refine sv 36 (.int .i64 (qq1)) ?_
   refine sv 37 (.int .i64 (qq1)) ?_
   refine sw 38 (.int .i64 ((-qq1))) rfl (RunV.int (x:=IntKind.i64.wrap (0 - qq1)) (y:=(-qq1)) (rvk (by kernel_rfl)) (by first | rfl | (rw [IntKind.wrap_i64];omega))) ?_
   refine sv 39 (.int .i64 ((if (-qq1)>qq1 then (-qq1) else qq1))) ?_
   refine sv 9 (.int .i64 ((if (-qq1)>qq1 then (-qq1) else qq1))) ?_
   refine sq_nil ?_
   refine ew _ _ ?_
   try clear ew fM
   refine wp_block ?_
   refine wp_loop_inv (a:=⟨List.toArray ?l168,[]⟩) (fun n a w'=>∃ (aA:Int) (av:Int) (af:Nat→Value),av.toNat=n∧a=⟨[(af 0),(.pointer (some ⟨b2,0,none⟩)),(.int .i64 0),undef,(.int .i64 (qq3)),(.int .i64 (aA)),(.int .i64 (qq0)),undef,(.int .i64 (qq1)),(.int .i64 (av)),undef,undef,(af 12),(af 13),(af 14),(.bool false),(af 16),(.agg #[(.int .i64 (qq0)),(.int .i64 (qq1)),(.int .i64 (qq2)),(.int .i64 (qq3))]),(.int .i64 4),(.bool false),(af 20),(af 21),(af 22),(af 23),(af 24),(af 25),(.bool false),(af 27),(af 28),(.agg #[(.int .i64 (qq0)),(.int .i64 (qq1)),(.int .i64 (qq2)),(.int .i64 (qq3))]),(.int .i64 1),(.bool true),(af 32),(af 33),(.bool ((qq0==(0:Int)))),(af 35),(af 36),(af 37),(af 38),(af 39),(af 40),(af 41),(af 42),(af 43),(af 44),(af 45),(af 46),undef,undef,undef,undef,undef,undef,undef,undef,undef,undef,undef,undef,undef].toArray,[]⟩∧Int.gcd aA av=Int.gcd (aU:Int) (if (-qq1)>qq1 then (-qq1) else qq1)∧0≤aA∧0≤av∧Lc w' b2 #[(.int .i64 (qq0)),(.int .i64 (qq1)),(.int .i64 (qq2)),(.int .i64 (qq3)),(.string ⟨(ratL (aR):List UInt8).toArray⟩),(.string ⟨(ratL (aS):List UInt8).toArray⟩),(.string ⟨(ratL (aQ):List UInt8).toArray⟩)] 27∧Gr w w') (Int.toNat (if (-qq1)>qq1 then (-qq1) else qq1)) ?_ ?_
   ·exact ⟨_,_,(fun i=>List.getD ?l168 i undef),rfl,rfl,rfl,(by omega),(by split<;>omega),L2,hB⟩
   rintro hL i6 fi ⟨aA,av,af,rfl,rfl,cR,b9,gx,L2,hB⟩ ik fk
   refine wp_seq_k (fun f2 el=>?_)
   refine wp_seq_k (fun e5 dJ=>?_)
   refine rg [0,1] ?_
   refine sv 40 (.int .i64 (av)) ?_
   refine sv 41 (.bool ((av !=(0:Int)))) ?_
   refine sq_nil ?_
   refine dJ _ _ ?_
   try clear dJ e5
   refine wp_cond_split (t:=(av !=(0:Int))) rfl (fun cg=>?_) (fun cg=>?_)
   ·have b4:0<av:=by have h0:¬ av=0:=(by simpa using cg);omega
    refine wp_skip ?_
    refine el _ _ ?_
    try clear el f2
    refine wp_block ?_
    have cT:=Gr.drew fi
    replace hB:=hB.trans cT
    refine wp_region_ord (fun _=>True) [(true,0),(true,1),(true,2),(true,3),(true,4),(true,5)] (by kernel_rfl) (by kernel_rfl) (by kernel_rfl) (by decide) (fun _ _ _ _ _ h=>h) trivial ?_
    refine ov 42 (.int .i64 (av)) ?_
    refine ov 43 (.int .i64 (aA)) ?_
    refine ov 44 (.int .i64 (av)) ?_
    refine ow 45 (.int .i64 ((aA % av))) rfl (fun w' hS=>(rv_rem 3 3 _ _ aA av rfl rfl rfl b9 b4)) ?_
    refine ov 5 (.int .i64 (av)) ?_
    refine ov 9 (.int .i64 ((aA % av))) ?_
    refine ord_nil ?_
    replace L2:=L2.gr cT
    refine fk ((aA % av).toNat) ⟨List.toArray ?l175,[]⟩ _ (by have:=Int.emod_lt_of_pos aA b4;omega) ?_
    exact ⟨_,_,(fun i=>List.getD ?l175 i undef),rfl,rfl,(by rw [gcd_stepZ b9 b4];exact cR),(by omega),(Int.emod_nonneg _ (by omega)),L2,hB⟩
   ·have cX:=gcd_endZ (m:=qq1) cR cg b9 (by split;exact .inr rfl;exact .inl rfl)
    refine wp_exit ?_
    simp only [Exit.then,Exit.inBlock,↓reduceIte]
    refine eQ _ _ ?_
    try clear eQ ho
    refine rg [0,1] ?_
    refine sv 46 (.int .i64 2) ?_
    refine sv 30 (.int .i64 2) ?_
    refine sq_nil ?_
    show Code.rounds _ _ _ _ _ _
    show Code.wp _ _ _ _ _
    refine wp_seq_k (fun ff dl=>?_)
    refine rg [0] ?_
    refine sv 31 (.bool true) ?_
    refine sq_nil ?_
    refine dl _ _ ?_
    try clear dl ff
    refine wp_seq_k (fun e9 d8=>?_)
    refine wp_cond_true rfl ?_
    refine wp_skip ?_
    refine d8 _ _ ?_
    try clear d8 e9
    refine wp_seq_k (fun e6 ez=>?_)
    refine wp_block ?_
    refine wp_seq_k (fun fp dh=>?_)
    refine rg [0,1] ?_
    refine sv 32 (.int .i64 (qq2)) ?_
    refine sv 8 (.int .i64 (qq2)) ?_
    refine sq_nil ?_
    refine dh _ _ ?_
    try clear dh fp
    refine wp_seq_k (fun fo ek=>?_)
    refine wp_seq_k (fun fS d1=>?_)
    refine rg [0,1] ?_
    refine sv 33 (.int .i64 (qq0)) ?_
    refine sw 34 (.bool false) rfl (RunV.bool (x:=(qq0==(0:Int))) (rvk (by kernel_rfl)) bm) ?_
    refine sq_nil ?_
    refine d1 _ _ ?_
    try clear d1 fS
    refine wp_cond_false rfl ?_
    refine wp_skip ?_
    refine ek _ _ ?_
    try clear ek fo
    refine wp_seq_k (fun ft d4=>?_)
    refine rg [0,1,2,3,4] ?_
    refine sv 36 (.int .i64 (qq2)) ?_
    refine sv 37 (.int .i64 (qq2)) ?_
    refine sw 38 (.int .i64 ((-qq2))) rfl (RunV.int (x:=IntKind.i64.wrap (0 - qq2)) (y:=(-qq2)) (rvk (by kernel_rfl)) (by first | rfl | (rw [IntKind.wrap_i64];omega))) ?_
    refine sv 39 (.int .i64 ((if (-qq2)>qq2 then (-qq2) else qq2))) ?_
    refine sv 9 (.int .i64 ((if (-qq2)>qq2 then (-qq2) else qq2))) ?_
    refine sq_nil ?_
    refine d4 _ _ ?_
    try clear d4 ft
    refine wp_block ?_
    refine wp_loop_inv (a:=⟨List.toArray ?l183,[]⟩) (fun n a w'=>∃ (aw:Int) (ai:Int) (ad:Nat→Value),ai.toNat=n∧a=⟨[(ad 0),(.pointer (some ⟨b2,0,none⟩)),(.int .i64 0),undef,(.int .i64 (qq3)),(.int .i64 (aw)),(.int .i64 (qq0)),undef,(.int .i64 (qq2)),(.int .i64 (ai)),undef,undef,(ad 12),(ad 13),(ad 14),(.bool false),(ad 16),(.agg #[(.int .i64 (qq0)),(.int .i64 (qq1)),(.int .i64 (qq2)),(.int .i64 (qq3))]),(.int .i64 4),(.bool false),(ad 20),(ad 21),(ad 22),(ad 23),(ad 24),(ad 25),(.bool false),(ad 27),(ad 28),(.agg #[(.int .i64 (qq0)),(.int .i64 (qq1)),(.int .i64 (qq2)),(.int .i64 (qq3))]),(.int .i64 2),(.bool true),(ad 32),(ad 33),(.bool false),(ad 35),(ad 36),(ad 37),(ad 38),(ad 39),(ad 40),(ad 41),(ad 42),(ad 43),(ad 44),(ad 45),(ad 46),undef,undef,undef,undef,undef,undef,undef,undef,undef,undef,undef,undef,undef].toArray,[]⟩∧Int.gcd aw ai=Int.gcd (aA:Int) (if (-qq2)>qq2 then (-qq2) else qq2)∧0≤aw∧0≤ai∧Lc w' b2 #[(.int .i64 (qq0)),(.int .i64 (qq1)),(.int .i64 (qq2)),(.int .i64 (qq3)),(.string ⟨(ratL (aR):List UInt8).toArray⟩),(.string ⟨(ratL (aS):List UInt8).toArray⟩),(.string ⟨(ratL (aQ):List UInt8).toArray⟩)] 27∧Gr w w') (Int.toNat (if (-qq2)>qq2 then (-qq2) else qq2)) ?_ ?_
    ·exact ⟨_,_,(fun i=>List.getD ?l183 i undef),rfl,rfl,rfl,(by omega),(by split<;>omega),L2,hB⟩
    rintro jl h4 fa ⟨aw,ai,ad,rfl,rfl,cW,cc,gD,L2,hB⟩ iW fI
    refine wp_seq_k (fun fZ dy=>?_)
    refine wp_seq_k (fun fK eH=>?_)
    refine rg [0,1] ?_
    refine sv 40 (.int .i64 (ai)) ?_
    refine sv 41 (.bool ((ai !=(0:Int)))) ?_
    refine sq_nil ?_
    refine eH _ _ ?_
    try clear eH fK
    refine wp_cond_split (t:=(ai !=(0:Int))) rfl (fun b6=>?_) (fun b6=>?_)
    ·have cm:0<ai:=by have h0:¬ ai=0:=(by simpa using b6);omega
     refine wp_skip ?_
     refine dy _ _ ?_
     try clear dy fZ
     refine wp_block ?_
     have cM:=Gr.drew fa
     replace hB:=hB.trans cM
     refine wp_region_ord (fun _=>True) [(true,0),(true,1),(true,2),(true,3),(true,4),(true,5)] (by kernel_rfl) (by kernel_rfl) (by kernel_rfl) (by decide) (fun _ _ _ _ _ h=>h) trivial ?_
     refine ov 42 (.int .i64 (ai)) ?_
     refine ov 43 (.int .i64 (aw)) ?_
     refine ov 44 (.int .i64 (ai)) ?_
     refine ow 45 (.int .i64 ((aw % ai))) rfl (fun w' hS=>(rv_rem 3 3 _ _ aw ai rfl rfl rfl cc cm)) ?_
     refine ov 5 (.int .i64 (ai)) ?_
     refine ov 9 (.int .i64 ((aw % ai))) ?_
     refine ord_nil ?_
     replace L2:=L2.gr cM
     refine fI ((aw % ai).toNat) ⟨List.toArray ?l190,[]⟩ _ (by have:=Int.emod_lt_of_pos aw cm;omega) ?_
     exact ⟨_,_,(fun i=>List.getD ?l190 i undef),rfl,rfl,(by rw [gcd_stepZ cc cm];exact cW),(by omega),(Int.emod_nonneg _ (by omega)),L2,hB⟩
    ·have cU:=gcd_endZ (m:=qq2) cW b6 cc (by split;exact .inr rfl;exact .inl rfl)
     refine wp_exit ?_
     simp only [Exit.then,Exit.inBlock,↓reduceIte]
     refine ez _ _ ?_
     try clear ez e6
     refine rg [0,1] ?_
     refine sv 46 (.int .i64 3) ?_
     refine sv 30 (.int .i64 3) ?_
     refine sq_nil ?_
     show Code.rounds _ _ _ _ _ _
     show Code.wp _ _ _ _ _
     refine wp_seq_k (fun e3 dD=>?_)
     refine rg [0] ?_
     refine sv 31 (.bool true) ?_
     refine sq_nil ?_
     refine dD _ _ ?_
     try clear dD e3
     refine wp_seq_k (fun fu dp=>?_)
     refine wp_cond_true rfl ?_
     refine wp_skip ?_
     refine dp _ _ ?_
     try clear dp fu
     refine wp_seq_k (fun fe dI=>?_)
     refine wp_block ?_
     refine wp_seq_k (fun f4 d0=>?_)
     refine rg [0,1] ?_
     refine sv 32 (.int .i64 (qq3)) ?_
     refine sv 8 (.int .i64 (qq3)) ?_
     refine sq_nil ?_
     refine d0 _ _ ?_
     try clear d0 f4
     refine wp_seq_k (fun fb eh=>?_)
     refine wp_seq_k (fun fX dU=>?_)
     refine rg [0,1] ?_
     refine sv 33 (.int .i64 (qq0)) ?_
     refine sw 34 (.bool false) rfl (RunV.bool (x:=(qq0==(0:Int))) (rvk (by kernel_rfl)) bm) ?_
     refine sq_nil ?_
     refine dU _ _ ?_
     try clear dU fX
     refine wp_cond_false rfl ?_
     refine wp_skip ?_
     refine eh _ _ ?_
     try clear eh fb
     refine wp_seq_k (fun fJ d7=>?_)
     refine rg [0,1,2,3,4] ?_
     refine sv 36 (.int .i64 (qq3)) ?_
     refine sv 37 (.int .i64 (qq3)) ?_
     refine sw 38 (.int .i64 ((-qq3))) rfl (RunV.int (x:=IntKind.i64.wrap (0 - qq3)) (y:=(-qq3)) (rvk (by kernel_rfl)) (by first | rfl | (rw [IntKind.wrap_i64];omega))) ?_
     refine sv 39 (.int .i64 ((if (-qq3)>qq3 then (-qq3) else qq3))) ?_
     refine sv 9 (.int .i64 ((if (-qq3)>qq3 then (-qq3) else qq3))) ?_
     refine sq_nil ?_
     refine d7 _ _ ?_
     try clear d7 fJ
     refine wp_block ?_
     refine wp_loop_inv (a:=⟨List.toArray ?l198,[]⟩) (fun n a w'=>∃ (ar:Int) (ah:Int) (aa:Nat→Value),ah.toNat=n∧a=⟨[(aa 0),(.pointer (some ⟨b2,0,none⟩)),(.int .i64 0),undef,(.int .i64 (qq3)),(.int .i64 (ar)),(.int .i64 (qq0)),undef,(.int .i64 (qq3)),(.int .i64 (ah)),undef,undef,(aa 12),(aa 13),(aa 14),(.bool false),(aa 16),(.agg #[(.int .i64 (qq0)),(.int .i64 (qq1)),(.int .i64 (qq2)),(.int .i64 (qq3))]),(.int .i64 4),(.bool false),(aa 20),(aa 21),(aa 22),(aa 23),(aa 24),(aa 25),(.bool false),(aa 27),(aa 28),(.agg #[(.int .i64 (qq0)),(.int .i64 (qq1)),(.int .i64 (qq2)),(.int .i64 (qq3))]),(.int .i64 3),(.bool true),(aa 32),(aa 33),(.bool false),(aa 35),(aa 36),(aa 37),(aa 38),(aa 39),(aa 40),(aa 41),(aa 42),(aa 43),(aa 44),(aa 45),(aa 46),undef,undef,undef,undef,undef,undef,undef,undef,undef,undef,undef,undef,undef].toArray,[]⟩∧Int.gcd ar ah=Int.gcd (aw:Int) (if (-qq3)>qq3 then (-qq3) else qq3)∧0≤ar∧0≤ah∧Lc w' b2 #[(.int .i64 (qq0)),(.int .i64 (qq1)),(.int .i64 (qq2)),(.int .i64 (qq3)),(.string ⟨(ratL (aR):List UInt8).toArray⟩),(.string ⟨(ratL (aS):List UInt8).toArray⟩),(.string ⟨(ratL (aQ):List UInt8).toArray⟩)] 27∧Gr w w') (Int.toNat (if (-qq3)>qq3 then (-qq3) else qq3)) ?_ ?_
     ·exact ⟨_,_,(fun i=>List.getD ?l198 i undef),rfl,rfl,rfl,(by omega),(by split<;>omega),L2,hB⟩
     rintro jb ia fT ⟨ar,ah,aa,rfl,rfl,cS,bX,gO,L2,hB⟩ hE fj
     refine wp_seq_k (fun fd eA=>?_)
     refine wp_seq_k (fun fs eE=>?_)
     refine rg [0,1] ?_
     refine sv 40 (.int .i64 (ah)) ?_
     refine sv 41 (.bool ((ah !=(0:Int)))) ?_
     refine sq_nil ?_
     refine eE _ _ ?_
     try clear eE fs
     refine wp_cond_split (t:=(ah !=(0:Int))) rfl (fun cq=>?_) (fun cq=>?_)
     ·have ch:0<ah:=by have h0:¬ ah=0:=(by simpa using cq);omega
      refine wp_skip ?_
      refine eA _ _ ?_
      try clear eA fd
      refine wp_block ?_
      have cJ:=Gr.drew fT
      replace hB:=hB.trans cJ
      refine wp_region_ord (fun _=>True) [(true,0),(true,1),(true,2),(true,3),(true,4),(true,5)] (by kernel_rfl) (by kernel_rfl) (by kernel_rfl) (by decide) (fun _ _ _ _ _ h=>h) trivial ?_
      refine ov 42 (.int .i64 (ah)) ?_
      refine ov 43 (.int .i64 (ar)) ?_
      refine ov 44 (.int .i64 (ah)) ?_
      refine ow 45 (.int .i64 ((ar % ah))) rfl (fun w' hS=>(rv_rem 3 3 _ _ ar ah rfl rfl rfl bX ch)) ?_
      refine ov 5 (.int .i64 (ah)) ?_
      refine ov 9 (.int .i64 ((ar % ah))) ?_
      refine ord_nil ?_
      replace L2:=L2.gr cJ
      refine fj ((ar % ah).toNat) ⟨List.toArray ?l205,[]⟩ _ (by have:=Int.emod_lt_of_pos ar ch;omega) ?_
      exact ⟨_,_,(fun i=>List.getD ?l205 i undef),rfl,rfl,(by rw [gcd_stepZ bX ch];exact cS),(by omega),(Int.emod_nonneg _ (by omega)),L2,hB⟩
     ·have cV:=gcd_endZ (m:=qq3) cS cq bX (by split;exact .inr rfl;exact .inl rfl)
      refine wp_exit ?_
      simp only [Exit.then,Exit.inBlock,↓reduceIte]
      refine dI _ _ ?_
      try clear dI fe
      refine rg [0,1] ?_
      refine sv 46 (.int .i64 4) ?_
      refine sv 30 (.int .i64 4) ?_
      refine sq_nil ?_
      show Code.rounds _ _ _ _ _ _
      show Code.wp _ _ _ _ _
      refine wp_seq_k (fun fh ed=>?_)
      refine rg [0] ?_
      refine sv 31 (.bool false) ?_
      refine sq_nil ?_
      refine ed _ _ ?_
      try clear ed fh
      refine wp_seq_k (fun hY iR=>?_)
      refine wp_cond_false rfl ?_
      refine wp_exit ?_
      simp only [Exit.then,Exit.inBlock,↓reduceIte]
      refine cG _ _ ?_
      try clear cG eP
      refine wp_seq_k (fun fO dP=>?_)
      refine wp_seq_k (fun dZ ct=>?_)
      refine rg [0,1,2,3,4,5] ?_
      refine sv 47 (.int .i64 (ar)) ?_
      refine sv 48 (.bool ((ar !=(1:Int)))) ?_
      rcases Bool.eq_false_or_eq_true ((ar !=(1:Int))) with hb210 | hb210
      ·refine sw 49 (.bool true) rfl (RunV.bool (x:=(ar !=(1:Int))) (rvk (by kernel_rfl)) hb210) ?_
       refine ss 50 ?_
       refine ss 51 ?_
       refine sv 52 (.bool true) ?_
       refine sq_nil ?_
       refine ct _ _ ?_
       try clear ct dZ
       refine wp_cond_true rfl ?_
       refine wp_seq_k (fun fD en=>?_)
       refine rg [0] ?_
       refine sv 2 (.int .i64 3) ?_
       refine sq_nil ?_
       refine en _ _ ?_
       try clear en fD
       refine wp_ret ?_
       simp only [Exit.then]
       refine bodyPost_ret (v:=(.int .i64 3)) (ret_tmp rfl rfl) rfl ⟨?_,hB⟩
       exact (congrArg (fun z=>Ending.returned (.int .i64 z)) (chk_g (g:=ar) (by rw [cV,cU,cX,bG];rfl) hb210))
      ·refine sw 49 (.bool false) rfl (RunV.bool (x:=(ar !=(1:Int))) (rvk (by kernel_rfl)) hb210) ?_
       refine sv 50 (.int .i64 (qq0)) ?_
       refine sv 51 (.bool (decide (qq0<(0:Int)))) ?_
       refine sv 52 (.bool (decide (qq0<(0:Int)))) ?_
       refine sq_nil ?_
       refine ct _ _ ?_
       try clear ct dZ
       refine wp_cond_split (t:=decide (qq0<(0:Int))) rfl (fun b8=>?_) (fun b8=>?_)
       ·refine wp_seq_k (fun fq dW=>?_)
        refine rg [0] ?_
        refine sv 2 (.int .i64 3) ?_
        refine sq_nil ?_
        refine dW _ _ ?_
        try clear dW fq
        refine wp_ret ?_
        simp only [Exit.then]
        refine bodyPost_ret (v:=(.int .i64 3)) (ret_tmp rfl rfl) rfl ⟨?_,hB⟩
        exact (congrArg (fun z=>Ending.returned (.int .i64 z)) (chk_s (qsgn0 bm) b8))
       ·refine wp_skip ?_
        refine dP _ _ ?_
        try clear dP fO
        refine wp_seq_k (fun f8 eD=>?_)
        refine rg [0,1,2,3,4,5,6,7,8] ?_
        refine sv 54 (.pointer (some ⟨b2,4,none⟩)) ?_
        refine sw 55 (.agg #[(.string ⟨(ratL (aR):List UInt8).toArray⟩),(.string ⟨(ratL (aS):List UInt8).toArray⟩),(.string ⟨(ratL (aQ):List UInt8).toArray⟩)]) rfl (rl 25 4 [(.string ⟨(ratL (aR):List UInt8).toArray⟩),(.string ⟨(ratL (aS):List UInt8).toArray⟩),(.string ⟨(ratL (aQ):List UInt8).toArray⟩)] L2) ?_
        refine se ?_
        refine ec 56 (vparse_v aR aS aQ cx cB cE (by omega) (by omega) cD cA cF _ (hm.gr hB)) ?_
        rintro iP js ⟨⟨bC,aX,bw,bA,a9,bp,aY,a1,bf,a4,aL,aI,rfl,bM,bL,bQ⟩,fP⟩
        refine ⟨_,rfl,?_⟩
        replace hB:=hB.trans fP
        simp only [p3,p4]
        refine sv 53 (.tuple #[(.agg #[bC,aX,bw,bA,a9,bp,aY,a1,bf,a4,aL,aI]),(.int .i64 0)]) ?_
        refine sv 57 (.agg #[bC,aX,bw,bA,a9,bp,aY,a1,bf,a4,aL,aI]) ?_
        refine sv 58 (.int .i64 0) ?_
        refine se ?_
        refine ea 38 #[(.bool false),(.slice none 0 0),(.bool false),(.slice none 0 0),(.bool false),(.slice none 0 0),(.bool false),(.slice none 0 0),(.bool false),(.slice none 0 0),(.bool false),(.slice none 0 0)] 10 hB fun jm iD iG et hW f0 hB=>?_
        simp only [p3,p4]
        refine se ?_
        refine es 38 0 (.agg #[bC,aX,bw,bA,a9,bp,aY,a1,bf,a4,aL,aI]) [bC,aX,bw,bA,a9,bp,aY,a1,bf,a4,aL,aI] #[bC,aX,bw,bA,a9,bp,aY,a1,bf,a4,aL,aI] et hB f0 ⟨bM.one0,bM.one1,bM.one2,bM.one3,bL.one0,bL.one1,bL.one2,bL.one3,bQ.one0,bQ.one1,bQ.one2,bQ.one3,trivial⟩ fun hO gC hf et hB=>?_
        refine sv 11 (.int .i64 0) ?_
        refine sq_nil ?_
        refine eD _ _ ?_
        try clear eD f8
        refine wp_seq_k (fun f6 dN=>?_)
        refine rg [0,1] ?_
        refine sv 59 (.int .i64 0) ?_
        refine sv 2 (.int .i64 0) ?_
        refine sq_nil ?_
        refine dN _ _ ?_
        try clear dN f6
        refine wp_ret ?_
        refine bodyPost_ret (v:=(.int .i64 0)) (ret_tmp rfl rfl) rfl ⟨?_,hB⟩
        exact (congrArg (fun z=>Ending.returned (.int .i64 z)) (chk_e (g:=ar) (by rw [cV,cU,cX,bG];rfl) hb210 (qsgn0 bm) b8))

theorem mcheckr {qq0 qq1 qq2 qq3:Int} (i0:(-12≤qq0∧qq0≤12)) (i1:(-12≤qq1∧qq1≤12)) (i2:(-12≤qq2∧qq2≤12)) (i3:(-12≤qq3∧qq3≤12)) (ah ae aj:Rat) (ad:RS 64 ah) (aa:RS 64 ae) (ab:RS 64 aj) (ac:((ratL ah).length:Int)≤400) (af:((ratL ae).length:Int)≤400) (ai:((ratL aj).length:Int)≤400) (w:World) (hm:Mx w):
    Calls Tryz.prog 15 #[(.agg #[(.int .i64 (qq0)),(.int .i64 (qq1)),(.int .i64 (qq2)),(.int .i64 (qq3)),(.string ⟨(ratL (ah):List UInt8).toArray⟩),(.string ⟨(ratL (ae):List UInt8).toArray⟩),(.string ⟨(ratL (aj):List UInt8).toArray⟩)])] w fun e w'=>e=.returned (.int .i64 (chk qq0 qq1 qq2 qq3 0))∧Gr w w':=by
  unfold chk
  by_cases hz:qq0=0∧qq1=0∧qq2=0∧qq3=0
  · rw [if_pos hz]
    obtain ⟨rfl,rfl,rfl,rfl⟩:=hz
    exact mcheckr_z (by omega) (by omega) (by omega) (by omega) ah ae aj ad aa ab ac af ai w hm rfl
  · rw [if_neg hz,if_neg (by simp only [Classical.not_not];exact ⟨i0,i1,i2,i3⟩)]
    exact mcheckr_f (by omega) (by omega) (by omega) (by omega) ah ae aj ad aa ab ac af ai w hm (chk_rr hz) hz i0 i1 i2 i3

end Go.Proofs.YtaldbfflkpgfoaaGreatDoor
/- Placements compared;what a placement's function answers. -/
namespace Go.Proofs.YtaldbfflkpgfoaaGreatDoor
open Go.RowKit
section
variable {P:Program} {a:Act} {o:Oper} {w:World}
theorem rv_quon (t t2:TypeId) (x y:Operand) (A B C:Int) (hop:o.op=.binOp .quo t x y t2) (hx:a.eval x=.int .i64 A) (hy:a.eval y=.int .i64 B) (hC:Int.tdiv A B=C) (h1:-9223372036854775808≤C) (h2:C≤9223372036854775807) (hB:B≠0):RunV P a o w (.int .i64 C):=by
  have e2:IntKind.i64.wrap C=C:=by rw [IntKind.wrap_i64];omega
  unfold RunV execOp
  simp only [hop,hx,hy]
  simp [go_sem,binOp,eqGuard,Op.intDiv,hB,hC,e2]
end
section
variable {q0 q1 q2 q3:Int}
theorem gcd_end0 {g n a b:Int} (h:Int.gcd g n=Int.gcd a b) (hb:decide ((0:Int)<n)=false) (hg:0≤g) (hn:0≤n):g=(Int.gcd a b:Int):=by
  have:=of_decide_eq_false hb
  have h0:n=0:=by omega
  rw [h0,Int.gcd_zero_right] at h
  omega
theorem common_eq:(Int.gcd (Int.gcd (Int.gcd (Int.gcd 0 (q0.natAbs:Int):Int) (q1.natAbs:Int):Int) (q2.natAbs:Int):Int) (q3.natAbs:Int):Int)=qgcd q0 q1 q2 q3:=by
  unfold qgcd;simp [Int.gcd]
theorem pos_sgn {z:Int} (hz:z≠0):decide ((0:Int)<z)=decide (sgn z=1):=by
  unfold sgn
  rw [Bool.eq_iff_iff,decide_eq_true_eq,decide_eq_true_eq]
  split<;>(try split)<;>omega
theorem posq0 (h0:(q0 !=(0:Int))=true):decide ((0:Int)<q0)=decide (qsgn q0 q1 q2 q3=1):=by
  have h0:q0≠0:=by simpa using h0
  rw [show qsgn q0 q1 q2 q3=sgn q0 from if_neg h0];exact pos_sgn h0
theorem posq1 (h0:(q0 !=(0:Int))=false) (h1:(q1 !=(0:Int))=true):decide ((0:Int)<q1)=decide (qsgn q0 q1 q2 q3=1):=by
  have h0:q0=0:=by simpa using h0
  have h1:q1≠0:=by simpa using h1
  rw [show qsgn q0 q1 q2 q3=sgn q1 by unfold qsgn;rw [if_pos h0,if_neg h1]];exact pos_sgn h1
theorem posq2 (h0:(q0 !=(0:Int))=false) (h1:(q1 !=(0:Int))=false) (h2:(q2 !=(0:Int))=true):decide ((0:Int)<q2)=decide (qsgn q0 q1 q2 q3=1):=by
  have h0:q0=0:=by simpa using h0
  have h1:q1=0:=by simpa using h1
  have h2:q2≠0:=by simpa using h2
  rw [show qsgn q0 q1 q2 q3=sgn q2 by unfold qsgn;rw [if_pos h0,if_pos h1,if_neg h2]];exact pos_sgn h2
theorem posq3 (h0:(q0 !=(0:Int))=false) (h1:(q1 !=(0:Int))=false) (h2:(q2 !=(0:Int))=false) (h3:(q3 !=(0:Int))=true):decide ((0:Int)<q3)=decide (qsgn q0 q1 q2 q3=1):=by
  have h0:q0=0:=by simpa using h0
  have h1:q1=0:=by simpa using h1
  have h2:q2=0:=by simpa using h2
  have h3:q3≠0:=by simpa using h3
  rw [show qsgn q0 q1 q2 q3=sgn q3 by unfold qsgn;rw [if_pos h0,if_pos h1,if_pos h2]];exact pos_sgn h3
theorem posq4 (h0:(q0 !=(0:Int))=false) (h1:(q1 !=(0:Int))=false) (h2:(q2 !=(0:Int))=false) (h3:(q3 !=(0:Int))=false):false=decide (qsgn q0 q1 q2 q3=1):=by
  have h0:q0=0:=by simpa using h0
  have h1:q1=0:=by simpa using h1
  have h2:q2=0:=by simpa using h2
  have h3:q3=0:=by simpa using h3
  subst h0 h1 h2 h3;rfl
theorem prim_td {n:Int} (h0:¬(q0=0∧q1=0∧q2=0∧q3=0)) (hd:qgcd q0 q1 q2 q3∣n) (hs:qsgn q0 q1 q2 q3=1):Int.tdiv n (qgcd q0 q1 q2 q3)=qprim q0 q1 q2 q3 n:=by
  have:=qprim_tdiv h0 hd
  rwa [hs,Int.mul_one] at this
theorem prim_tm {n:Int} (h0:¬(q0=0∧q1=0∧q2=0∧q3=0)) (hd:qgcd q0 q1 q2 q3∣n) (hs:qsgn q0 q1 q2 q3=-1):Int.tdiv n (0 - qgcd q0 q1 q2 q3)=qprim q0 q1 q2 q3 n:=by
  have:=qprim_tdiv h0 hd
  rwa [hs,Int.mul_neg,Int.mul_one,← Int.zero_sub] at this
end
theorem zero_mul3 (a b c:Rat):((0+a*0+b*0+c*0)+0:Rat)=0:=by grind
/-- rows that are a rotation -/
def rigidB (ai ah aj ad aa ac ae af ab:Rat):Bool:=decide ([(0+ai*ai+ah*ah+aj*aj),(0+ai*ad+ah*aa+aj*ac),(0+ai*ae+ah*af+aj*ab),(0+ad*ai+aa*ah+ac*aj),(0+ad*ad+aa*aa+ac*ac),(0+ad*ae+aa*af+ac*ab),(0+ae*ai+af*ah+ab*aj),(0+ae*ad+af*aa+ab*ac),(0+ae*ae+af*af+ab*ab),((0+ai*0+ah*0+aj*0)+0),((0+ad*0+aa*0+ac*0)+0),((0+ae*0+af*0+ab*0)+0)]=[1,0,0,0,1,0,0,0,1,0,0,0])&&decide ((0:Int)<sgn (0+ai*(aa*ab - ac*af)+ah*(ac*ae - ad*ab)+aj*(ad*af - aa*ae)).num)
theorem rigid_rot {a11 a12 a13 a21 a22 a23 a31 a32 a33 w x y z:Rat} (h0:¬(w=0∧x=0∧y=0∧z=0)) (h:RotQ a11 a12 a13 a21 a22 a23 a31 a32 a33 w x y z):rigidB a11 a12 a13 a21 a22 a23 a31 a32 a33=true:=by
  obtain ⟨ai,af,aj,aa,ad,ab,ah,ac,ae⟩:=rotq_orth h0 h
  have hd:=rotq_det h0 h
  unfold rigidB
  rw [Bool.and_eq_true,decide_eq_true_eq,decide_eq_true_eq,ai,af,aj,aa,ad,ab,ah,ac,ae,zero_mul3,zero_mul3,zero_mul3]
  refine ⟨rfl,?_⟩
  have e:(0+a11*(a22*a33 - a23*a32)+a12*(a23*a31 - a21*a33)+a13*(a21*a32 - a22*a31):Rat)=1:=by rw [← hd];grind
  rw [e];decide
/-- the error of a motion's placement -/
def perr (rg:Bool) (z0 z1 z2 z3:Int) (x y t:List UInt8):Int:=
  if rg=true then (if (-12≤z0∧z0≤12)∧(-12≤z1∧z1≤12)∧(-12≤z2∧z2≤12)∧(-12≤z3∧z3≤12) then (if ((x.length:Int)≤400)∧((y.length:Int)≤400)∧((t.length:Int)≤400) then 0 else 5) else 2) else 3
def pif (e z:Int):Int:=if e=0 then z else 0
def pit (e:Int) (x:List UInt8):List UInt8:=if e=0 then x else []
end Go.Proofs.YtaldbfflkpgfoaaGreatDoor
/- What rational.read meets at any text:the library's functions,integer.Parse at texts out of their form. -/
namespace Go.Proofs.YtaldbfflkpgfoaaGreatDoor
open Go.RowKit

end Go.Proofs.YtaldbfflkpgfoaaGreatDoor
/- Printed by a program of the prover's:rational.read at any text. -/
namespace Go.Proofs.YtaldbfflkpgfoaaGreatDoor
open Go.RowKit

end Go.Proofs.YtaldbfflkpgfoaaGreatDoor
/- Printed by a program of the prover's:VectorParses. -/
namespace Go.Proofs.YtaldbfflkpgfoaaGreatDoor
open Go.RowKit

end Go.Proofs.YtaldbfflkpgfoaaGreatDoor
/- Printed by a program of the prover's:the reference of layer 7,its integers. -/
namespace Go.Proofs.YtaldbfflkpgfoaaGreatDoor
open Go.RowKit

set_option maxRecDepth 100000 in
set_option maxHeartbeats 1000000 in
theorem r7_mag (z:Int) (_hz:-4611686018427387904≤z∧z≤4611686018427387904) (w:World):
    Calls Tryz.prog 72 #[(.int .i64 (z))] w fun e w'=>e=.returned (.int .i64 ((z.natAbs:Int)))∧Gr w w':=by
 go_enter Tryz.func72,Tryz.ntmps72
 have hB:=Gr.refl w
 refine wp_seq_k (fun K1 k1=>?_)
 refine rg [0] ?_
 refine sv 2 (.int .i64 0) ?_
 refine sq_nil ?_
 refine k1 _ _ ?_
 try clear k1 K1
 refine wp_seq_k (fun K2 k2=>?_)
 refine wp_seq_k (fun K3 k3=>?_)
 refine rg [0,1] ?_
 refine sv 3 (.int .i64 (z)) ?_
 refine sv 4 (.bool (decide (z<(0:Int)))) ?_
 refine sq_nil ?_
 refine k3 _ _ ?_
 try clear k3 K3
 refine wp_cond_split (t:=decide (z<(0:Int))) rfl (fun aa=>?_) (fun aa=>?_)
 ·refine wp_seq_k (fun K5 k5=>?_)
  refine rg [0,1,2] ?_
  refine sv 5 (.int .i64 (z)) ?_
  refine sw 6 (.int .i64 ((0 - z))) rfl (RunV.int (x:=IntKind.i64.wrap ((0 - z))) (y:=(0 - z)) (rvk (by kernel_rfl)) (by first | rfl | (rw [IntKind.wrap_i64];omega))) ?_
  refine sv 2 (.int .i64 ((0 - z))) ?_
  refine sq_nil ?_
  refine k5 _ _ ?_
  try clear k5 K5
  refine wp_ret ?_
  simp only [Exit.then]
  refine bodyPost_ret (v:=(.int .i64 ((0 - z)))) (ret_tmp rfl rfl) rfl ⟨?_,hB⟩
  exact (congrArg (fun z=>Ending.returned (.int .i64 z)) (by have:=of_decide_eq_true aa;omega))
 ·refine wp_skip ?_
  refine k2 _ _ ?_
  try clear k2 K2
  refine wp_seq_k (fun K6 k6=>?_)
  refine rg [0,1] ?_
  refine sv 7 (.int .i64 (z)) ?_
  refine sv 2 (.int .i64 (z)) ?_
  refine sq_nil ?_
  refine k6 _ _ ?_
  try clear k6 K6
  refine wp_ret ?_
  refine bodyPost_ret (v:=(.int .i64 (z))) (ret_tmp rfl rfl) rfl ⟨?_,hB⟩
  exact (congrArg (fun z=>Ending.returned (.int .i64 z)) (by have:=of_decide_eq_false aa;omega))

set_option maxRecDepth 100000 in
set_option maxHeartbeats 1000000 in
theorem r7_gcd (ga gb:Int) (h1:0≤ga) (h2:0≤gb) (w:World):
    Calls Tryz.prog 91 #[(.int .i64 (ga)),(.int .i64 (gb))] w fun e w'=>e=.returned (.int .i64 ((Int.gcd ga gb:Int)))∧Gr w w':=by
 go_enter Tryz.func91,Tryz.ntmps91
 have hB:=Gr.refl w
 refine wp_seq_k (fun K1 k1=>?_)
 refine rg [0] ?_
 refine sv 4 (.int .i64 0) ?_
 refine sq_nil ?_
 refine k1 _ _ ?_
 try clear k1 K1
 refine wp_seq_k (fun K2 k2=>?_)
 refine wp_block ?_
 refine wp_loop_inv (a:=⟨List.toArray ?l3,[]⟩) (fun n a w'=>∃ (ab:Int) (aa:Int) (u3:Nat→Value),aa.toNat=n∧a=⟨[(.int .i64 (ab)),(.int .i64 (aa)),undef,undef,(.int .i64 0),(u3 5),(u3 6),(u3 7),(u3 8),(u3 9),(u3 10),undef].toArray,[]⟩∧Int.gcd ab aa=Int.gcd ga gb∧0≤ab∧0≤aa∧Gr w w') (gb.toNat) ?_ ?_
 ·exact ⟨_,_,(fun i=>List.getD ?l3 i undef),rfl,rfl,rfl,h1,h2,hB⟩
 rintro n3 a3 w3 ⟨ab,aa,u3,rfl,rfl,ah,ac,ak,hB⟩ K3 k3
 refine wp_seq_k (fun K5 k5=>?_)
 refine wp_seq_k (fun K6 k6=>?_)
 refine rg [0,1] ?_
 refine sv 5 (.int .i64 (aa)) ?_
 refine sv 6 (.bool (decide ((0:Int)<aa))) ?_
 refine sq_nil ?_
 refine k6 _ _ ?_
 try clear k6 K6
 refine wp_cond_split (t:=decide ((0:Int)<aa)) rfl (fun ae=>?_) (fun ae=>?_)
 ·have af:=of_decide_eq_true ae
  refine wp_skip ?_
  refine k5 _ _ ?_
  try clear k5 K5
  refine wp_block ?_
  have al:=Gr.drew w3
  replace hB:=hB.trans al
  refine wp_region_ord (fun _=>True) [(true,0),(true,1),(true,2),(true,3),(true,4),(true,5)] (by kernel_rfl) (by kernel_rfl) (by kernel_rfl) (by decide) (fun _ _ _ _ _ h=>h) trivial ?_
  refine ov 7 (.int .i64 (aa)) ?_
  refine ov 8 (.int .i64 (ab)) ?_
  refine ov 9 (.int .i64 (aa)) ?_
  refine ow 10 (.int .i64 ((ab % aa))) rfl (fun w' hS=>(rv_rem 3 3 _ _ ab aa rfl rfl rfl ac af)) ?_
  refine ov 0 (.int .i64 (aa)) ?_
  refine ov 1 (.int .i64 ((ab % aa))) ?_
  refine ord_nil ?_
  refine k3 ((ab % aa).toNat) ⟨List.toArray ?l10,[]⟩ _ (by have:=Int.emod_lt_of_pos ab af;omega) ?_
  exact ⟨_,_,(fun i=>List.getD ?l10 i undef),rfl,rfl,(by rw [gcd_stepZ ac af];exact ah),(by omega),(Int.emod_nonneg _ (by omega)),hB⟩
 ·have ad:=gcd_end0 ah ae ac ak
  refine wp_exit ?_
  simp only [Exit.then,Exit.inBlock,↓reduceIte]
  refine k2 _ _ ?_
  try clear k2 K2
  refine wp_seq_k (fun aj ai=>?_)
  refine rg [0,1] ?_
  refine sv 11 (.int .i64 (ab)) ?_
  refine sv 4 (.int .i64 (ab)) ?_
  refine sq_nil ?_
  refine ai _ _ ?_
  try clear ai aj
  refine wp_ret ?_
  refine bodyPost_ret (v:=(.int .i64 (ab))) (ret_tmp rfl rfl) rfl ⟨?_,hB⟩
  exact (congrArg (fun z=>Ending.returned (.int .i64 z)) ad)

set_option maxRecDepth 100000 in
set_option maxHeartbeats 1000000 in
theorem r7_common (qq0 qq1 qq2 qq3:Int) (_j0:-1099511627776≤qq0∧qq0≤1099511627776) (_j1:-1099511627776≤qq1∧qq1≤1099511627776) (_j2:-1099511627776≤qq2∧qq2≤1099511627776) (_j3:-1099511627776≤qq3∧qq3≤1099511627776) (w:World):
    Calls Tryz.prog 54 #[(.agg #[(.int .i64 (qq0)),(.int .i64 (qq1)),(.int .i64 (qq2)),(.int .i64 (qq3))])] w fun e w'=>e=.returned (.int .i64 (qgcd qq0 qq1 qq2 qq3))∧Gr w w':=by
 go_enter Tryz.func54,Tryz.ntmps54
 have hB:=Gr.refl w
 refine wp_seq_k (fun K1 k1=>?_)
 refine rg [0,1] ?_
 refine se ?_
 refine eb 22 #[(.int .i64 (qq0)),(.int .i64 (qq1)),(.int .i64 (qq2)),(.int .i64 (qq3))] 1 hB fun b2 w2 g2 L2 o2 q2 hB=>?_
 simp only [p3,p4]
 refine sv 2 (.int .i64 0) ?_
 refine sq_nil ?_
 refine k1 _ _ ?_
 try clear k1 K1
 refine wp_seq_k (fun K3 k3=>?_)
 refine rg [0] ?_
 refine sv 3 (.int .i64 0) ?_
 refine sq_nil ?_
 refine k3 _ _ ?_
 try clear k3 K3
 refine wp_seq_k (fun K4 k4=>?_)
 refine wp_seq_k (fun K5 k5=>?_)
 refine rg [0] ?_
 refine sv 4 (.int .i64 0) ?_
 refine sq_nil ?_
 refine k5 _ _ ?_
 try clear k5 K5
 refine wp_block ?_
 refine wp_loop_rounds 6 ?_
 show Code.wp _ _ _ _ _
 refine wp_seq_k (fun K6 k6=>?_)
 refine wp_seq_k (fun K7 k7=>?_)
 refine rg [0,1] ?_
 refine sv 5 (.int .i64 0) ?_
 refine sv 6 (.bool true) ?_
 refine sq_nil ?_
 refine k7 _ _ ?_
 try clear k7 K7
 refine wp_cond_true rfl ?_
 refine wp_skip ?_
 refine k6 _ _ ?_
 try clear k6 K6
 refine wp_seq_k (fun K8 k8=>?_)
 refine wp_block ?_
 refine rg [0,1,2,3,4,5,6] ?_
 refine sv 9 (.int .i64 0) ?_
 refine sv 10 (.int .i64 0) ?_
 refine sv 11 (.pointer (some ⟨b2,0,none⟩)) ?_
 refine sw 12 (.int .i64 (qq0)) rfl (rk 3 0 L2) ?_
 refine se ?_
 refine ec 13 (r7_mag (qq0) (by omega) _) ?_
 rintro e9 w9 ⟨rfl,g9⟩
 refine ⟨_,rfl,?_⟩
 replace hB:=hB.trans g9
 simp only [p3,p4]
 refine se ?_
 refine ec 14 (r7_gcd (0:Int) (((qq0).natAbs:Int)) (by omega) (by omega) _) ?_
 rintro aO aT ⟨rfl,ak⟩
 refine ⟨_,rfl,?_⟩
 replace hB:=hB.trans ak
 simp only [p3,p4]
 refine sv 3 (.int .i64 ((Int.gcd (0:Int) (((qq0).natAbs:Int)):Int))) ?_
 refine sq_nil ?_
 refine k8 _ _ ?_
 try clear k8 K8
 refine rg [0,1,2] ?_
 refine sv 7 (.int .i64 0) ?_
 refine sv 8 (.int .i64 1) ?_
 refine sv 4 (.int .i64 1) ?_
 refine sq_nil ?_
 show Code.rounds _ _ _ _ _ _
 show Code.wp _ _ _ _ _
 refine wp_seq_k (fun ax ad=>?_)
 refine wp_seq_k (fun aI ae=>?_)
 refine rg [0,1] ?_
 refine sv 5 (.int .i64 1) ?_
 refine sv 6 (.bool true) ?_
 refine sq_nil ?_
 refine ae _ _ ?_
 try clear ae aI
 refine wp_cond_true rfl ?_
 refine wp_skip ?_
 refine ad _ _ ?_
 try clear ad ax
 refine wp_seq_k (fun ay aj=>?_)
 refine wp_block ?_
 refine rg [0,1,2,3,4,5,6] ?_
 refine sv 9 (.int .i64 ((Int.gcd (0:Int) (((qq0).natAbs:Int)):Int))) ?_
 refine sv 10 (.int .i64 1) ?_
 refine sv 11 (.pointer (some ⟨b2,1,none⟩)) ?_
 replace L2:=L2.gr (g9.trans ak)
 refine sw 12 (.int .i64 (qq1)) rfl (rk 3 1 L2) ?_
 refine se ?_
 refine ec 13 (r7_mag (qq1) (by omega) _) ?_
 rintro aS aP ⟨rfl,ac⟩
 refine ⟨_,rfl,?_⟩
 replace hB:=hB.trans ac
 simp only [p3,p4]
 refine se ?_
 refine ec 14 (r7_gcd ((Int.gcd (0:Int) (((qq0).natAbs:Int)):Int)) (((qq1).natAbs:Int)) (by omega) (by omega) _) ?_
 rintro aR aQ ⟨rfl,av⟩
 refine ⟨_,rfl,?_⟩
 replace hB:=hB.trans av
 simp only [p3,p4]
 refine sv 3 (.int .i64 ((Int.gcd ((Int.gcd (0:Int) (((qq0).natAbs:Int)):Int)) (((qq1).natAbs:Int)):Int))) ?_
 refine sq_nil ?_
 refine aj _ _ ?_
 try clear aj ay
 refine rg [0,1,2] ?_
 refine sv 7 (.int .i64 1) ?_
 refine sv 8 (.int .i64 2) ?_
 refine sv 4 (.int .i64 2) ?_
 refine sq_nil ?_
 show Code.rounds _ _ _ _ _ _
 show Code.wp _ _ _ _ _
 refine wp_seq_k (fun aD al=>?_)
 refine wp_seq_k (fun aJ aa=>?_)
 refine rg [0,1] ?_
 refine sv 5 (.int .i64 2) ?_
 refine sv 6 (.bool true) ?_
 refine sq_nil ?_
 refine aa _ _ ?_
 try clear aa aJ
 refine wp_cond_true rfl ?_
 refine wp_skip ?_
 refine al _ _ ?_
 try clear al aD
 refine wp_seq_k (fun aE ar=>?_)
 refine wp_block ?_
 refine rg [0,1,2,3,4,5,6] ?_
 refine sv 9 (.int .i64 ((Int.gcd ((Int.gcd (0:Int) (((qq0).natAbs:Int)):Int)) (((qq1).natAbs:Int)):Int))) ?_
 refine sv 10 (.int .i64 2) ?_
 refine sv 11 (.pointer (some ⟨b2,2,none⟩)) ?_
 replace L2:=L2.gr (ac.trans av)
 refine sw 12 (.int .i64 (qq2)) rfl (rk 3 2 L2) ?_
 refine se ?_
 refine ec 13 (r7_mag (qq2) (by omega) _) ?_
 rintro aU aM ⟨rfl,aw⟩
 refine ⟨_,rfl,?_⟩
 replace hB:=hB.trans aw
 simp only [p3,p4]
 refine se ?_
 refine ec 14 (r7_gcd ((Int.gcd ((Int.gcd (0:Int) (((qq0).natAbs:Int)):Int)) (((qq1).natAbs:Int)):Int)) (((qq2).natAbs:Int)) (by omega) (by omega) _) ?_
 rintro aW aZ ⟨rfl,ai⟩
 refine ⟨_,rfl,?_⟩
 replace hB:=hB.trans ai
 simp only [p3,p4]
 refine sv 3 (.int .i64 ((Int.gcd ((Int.gcd ((Int.gcd (0:Int) (((qq0).natAbs:Int)):Int)) (((qq1).natAbs:Int)):Int)) (((qq2).natAbs:Int)):Int))) ?_
 refine sq_nil ?_
 refine ar _ _ ?_
 try clear ar aE
 refine rg [0,1,2] ?_
 refine sv 7 (.int .i64 2) ?_
 refine sv 8 (.int .i64 3) ?_
 refine sv 4 (.int .i64 3) ?_
 refine sq_nil ?_
 show Code.rounds _ _ _ _ _ _
 show Code.wp _ _ _ _ _
 refine wp_seq_k (fun az af=>?_)
 refine wp_seq_k (fun aG ah=>?_)
 refine rg [0,1] ?_
 refine sv 5 (.int .i64 3) ?_
 refine sv 6 (.bool true) ?_
 refine sq_nil ?_
 refine ah _ _ ?_
 try clear ah aG
 refine wp_cond_true rfl ?_
 refine wp_skip ?_
 refine af _ _ ?_
 try clear af az
 refine wp_seq_k (fun aA aq=>?_)
 refine wp_block ?_
 refine rg [0,1,2,3,4,5,6] ?_
 refine sv 9 (.int .i64 ((Int.gcd ((Int.gcd ((Int.gcd (0:Int) (((qq0).natAbs:Int)):Int)) (((qq1).natAbs:Int)):Int)) (((qq2).natAbs:Int)):Int))) ?_
 refine sv 10 (.int .i64 3) ?_
 refine sv 11 (.pointer (some ⟨b2,3,none⟩)) ?_
 replace L2:=L2.gr (aw.trans ai)
 refine sw 12 (.int .i64 (qq3)) rfl (rk 3 3 L2) ?_
 refine se ?_
 refine ec 13 (r7_mag (qq3) (by omega) _) ?_
 rintro aX aY ⟨rfl,aB⟩
 refine ⟨_,rfl,?_⟩
 replace hB:=hB.trans aB
 simp only [p3,p4]
 refine se ?_
 refine ec 14 (r7_gcd ((Int.gcd ((Int.gcd ((Int.gcd (0:Int) (((qq0).natAbs:Int)):Int)) (((qq1).natAbs:Int)):Int)) (((qq2).natAbs:Int)):Int)) (((qq3).natAbs:Int)) (by omega) (by omega) _) ?_
 rintro aL aV ⟨rfl,aH⟩
 refine ⟨_,rfl,?_⟩
 replace hB:=hB.trans aH
 simp only [p3,p4]
 refine sv 3 (.int .i64 ((Int.gcd ((Int.gcd ((Int.gcd ((Int.gcd (0:Int) (((qq0).natAbs:Int)):Int)) (((qq1).natAbs:Int)):Int)) (((qq2).natAbs:Int)):Int)) (((qq3).natAbs:Int)):Int))) ?_
 refine sq_nil ?_
 refine aq _ _ ?_
 try clear aq aA
 refine rg [0,1,2] ?_
 refine sv 7 (.int .i64 3) ?_
 refine sv 8 (.int .i64 4) ?_
 refine sv 4 (.int .i64 4) ?_
 refine sq_nil ?_
 show Code.rounds _ _ _ _ _ _
 show Code.wp _ _ _ _ _
 refine wp_seq_k (fun aN aK=>?_)
 refine wp_seq_k (fun aC au=>?_)
 refine rg [0,1] ?_
 refine sv 5 (.int .i64 4) ?_
 refine sv 6 (.bool false) ?_
 refine sq_nil ?_
 refine au _ _ ?_
 try clear au aC
 refine wp_cond_false rfl ?_
 refine wp_exit ?_
 simp only [Exit.then,Exit.inBlock,↓reduceIte]
 refine k4 _ _ ?_
 try clear k4 K4
 refine wp_seq_k (fun aF ab=>?_)
 refine rg [0,1] ?_
 refine sv 15 (.int .i64 ((Int.gcd ((Int.gcd ((Int.gcd ((Int.gcd (0:Int) (((qq0).natAbs:Int)):Int)) (((qq1).natAbs:Int)):Int)) (((qq2).natAbs:Int)):Int)) (((qq3).natAbs:Int)):Int))) ?_
 refine sv 2 (.int .i64 ((Int.gcd ((Int.gcd ((Int.gcd ((Int.gcd (0:Int) (((qq0).natAbs:Int)):Int)) (((qq1).natAbs:Int)):Int)) (((qq2).natAbs:Int)):Int)) (((qq3).natAbs:Int)):Int))) ?_
 refine sq_nil ?_
 refine ab _ _ ?_
 try clear ab aF
 refine wp_ret ?_
 refine bodyPost_ret (v:=(.int .i64 ((Int.gcd ((Int.gcd ((Int.gcd ((Int.gcd (0:Int) (((qq0).natAbs:Int)):Int)) (((qq1).natAbs:Int)):Int)) (((qq2).natAbs:Int)):Int)) (((qq3).natAbs:Int)):Int)))) (ret_tmp rfl rfl) rfl ⟨?_,hB⟩
 exact (congrArg (fun z=>Ending.returned (.int .i64 z)) common_eq)

set_option maxRecDepth 100000 in
set_option maxHeartbeats 1000000 in
theorem r7_positive (qq0 qq1 qq2 qq3:Int) (w:World):
    Calls Tryz.prog 55 #[(.agg #[(.int .i64 (qq0)),(.int .i64 (qq1)),(.int .i64 (qq2)),(.int .i64 (qq3))])] w fun e w'=>e=.returned (.bool (decide (qsgn qq0 qq1 qq2 qq3=1)))∧Gr w w':=by
 go_enter Tryz.func55,Tryz.ntmps55
 have hB:=Gr.refl w
 refine wp_seq_k (fun K1 k1=>?_)
 refine rg [0,1] ?_
 refine se ?_
 refine eb 22 #[(.int .i64 (qq0)),(.int .i64 (qq1)),(.int .i64 (qq2)),(.int .i64 (qq3))] 1 hB fun b2 w2 g2 L2 o2 q2 hB=>?_
 simp only [p3,p4]
 refine sv 2 (.bool false) ?_
 refine sq_nil ?_
 refine k1 _ _ ?_
 try clear k1 K1
 refine wp_seq_k (fun K3 k3=>?_)
 refine wp_seq_k (fun K4 k4=>?_)
 refine rg [0] ?_
 refine sv 3 (.int .i64 0) ?_
 refine sq_nil ?_
 refine k4 _ _ ?_
 try clear k4 K4
 refine wp_block ?_
 refine wp_loop_rounds 6 ?_
 show Code.wp _ _ _ _ _
 refine wp_seq_k (fun K5 k5=>?_)
 refine wp_seq_k (fun K6 k6=>?_)
 refine rg [0,1] ?_
 refine sv 4 (.int .i64 0) ?_
 refine sv 5 (.bool true) ?_
 refine sq_nil ?_
 refine k6 _ _ ?_
 try clear k6 K6
 refine wp_cond_true rfl ?_
 refine wp_skip ?_
 refine k5 _ _ ?_
 try clear k5 K5
 refine wp_seq_k (fun K7 k7=>?_)
 refine wp_block ?_
 refine wp_seq_k (fun K8 k8=>?_)
 refine rg [0,1,2,3] ?_
 refine sv 8 (.int .i64 0) ?_
 refine sv 9 (.pointer (some ⟨b2,0,none⟩)) ?_
 refine sw 10 (.int .i64 (qq0)) rfl (rk 3 0 L2) ?_
 refine sv 11 (.bool ((qq0 !=(0:Int)))) ?_
 refine sq_nil ?_
 refine k8 _ _ ?_
 try clear k8 K8
 refine wp_cond_split (t:=(qq0 !=(0:Int))) rfl (fun ad=>?_) (fun ad=>?_)
 ·refine wp_seq_k (fun aD ai=>?_)
  refine rg [0,1,2,3,4] ?_
  refine sv 12 (.int .i64 0) ?_
  refine sv 13 (.pointer (some ⟨b2,0,none⟩)) ?_
  refine sw 14 (.int .i64 (qq0)) rfl (rk 3 0 L2) ?_
  refine sv 15 (.bool (decide ((0:Int)<qq0))) ?_
  refine sv 2 (.bool (decide ((0:Int)<qq0))) ?_
  refine sq_nil ?_
  refine ai _ _ ?_
  try clear ai aD
  refine wp_ret ?_
  simp only [Exit.then,Exit.inBlock]
  refine bodyPost_ret (v:=(.bool (decide ((0:Int)<qq0)))) (ret_tmp rfl rfl) rfl ⟨?_,hB⟩
  exact (congrArg (fun z=>Ending.returned (.bool z)) (posq0 ad))
 ·refine wp_skip ?_
  refine k7 _ _ ?_
  try clear k7 K7
  refine rg [0,1,2] ?_
  refine sv 6 (.int .i64 0) ?_
  refine sv 7 (.int .i64 1) ?_
  refine sv 3 (.int .i64 1) ?_
  refine sq_nil ?_
  show Code.rounds _ _ _ _ _ _
  show Code.wp _ _ _ _ _
  refine wp_seq_k (fun aH aA=>?_)
  refine wp_seq_k (fun aQ ae=>?_)
  refine rg [0,1] ?_
  refine sv 4 (.int .i64 1) ?_
  refine sv 5 (.bool true) ?_
  refine sq_nil ?_
  refine ae _ _ ?_
  try clear ae aQ
  refine wp_cond_true rfl ?_
  refine wp_skip ?_
  refine aA _ _ ?_
  try clear aA aH
  refine wp_seq_k (fun aL aq=>?_)
  refine wp_block ?_
  refine wp_seq_k (fun aU af=>?_)
  refine rg [0,1,2,3] ?_
  refine sv 8 (.int .i64 1) ?_
  refine sv 9 (.pointer (some ⟨b2,1,none⟩)) ?_
  refine sw 10 (.int .i64 (qq1)) rfl (rk 3 1 L2) ?_
  refine sv 11 (.bool ((qq1 !=(0:Int)))) ?_
  refine sq_nil ?_
  refine af _ _ ?_
  try clear af aU
  refine wp_cond_split (t:=(qq1 !=(0:Int))) rfl (fun aa=>?_) (fun aa=>?_)
  ·refine wp_seq_k (fun aE av=>?_)
   refine rg [0,1,2,3,4] ?_
   refine sv 12 (.int .i64 1) ?_
   refine sv 13 (.pointer (some ⟨b2,1,none⟩)) ?_
   refine sw 14 (.int .i64 (qq1)) rfl (rk 3 1 L2) ?_
   refine sv 15 (.bool (decide ((0:Int)<qq1))) ?_
   refine sv 2 (.bool (decide ((0:Int)<qq1))) ?_
   refine sq_nil ?_
   refine av _ _ ?_
   try clear av aE
   refine wp_ret ?_
   simp only [Exit.then,Exit.inBlock]
   refine bodyPost_ret (v:=(.bool (decide ((0:Int)<qq1)))) (ret_tmp rfl rfl) rfl ⟨?_,hB⟩
   exact (congrArg (fun z=>Ending.returned (.bool z)) (posq1 ad aa))
  ·refine wp_skip ?_
   refine aq _ _ ?_
   try clear aq aL
   refine rg [0,1,2] ?_
   refine sv 6 (.int .i64 1) ?_
   refine sv 7 (.int .i64 2) ?_
   refine sv 3 (.int .i64 2) ?_
   refine sq_nil ?_
   show Code.rounds _ _ _ _ _ _
   show Code.wp _ _ _ _ _
   refine wp_seq_k (fun aT ar=>?_)
   refine wp_seq_k (fun aJ ay=>?_)
   refine rg [0,1] ?_
   refine sv 4 (.int .i64 2) ?_
   refine sv 5 (.bool true) ?_
   refine sq_nil ?_
   refine ay _ _ ?_
   try clear ay aJ
   refine wp_cond_true rfl ?_
   refine wp_skip ?_
   refine ar _ _ ?_
   try clear ar aT
   refine wp_seq_k (fun aG al=>?_)
   refine wp_block ?_
   refine wp_seq_k (fun aK aC=>?_)
   refine rg [0,1,2,3] ?_
   refine sv 8 (.int .i64 2) ?_
   refine sv 9 (.pointer (some ⟨b2,2,none⟩)) ?_
   refine sw 10 (.int .i64 (qq2)) rfl (rk 3 2 L2) ?_
   refine sv 11 (.bool ((qq2 !=(0:Int)))) ?_
   refine sq_nil ?_
   refine aC _ _ ?_
   try clear aC aK
   refine wp_cond_split (t:=(qq2 !=(0:Int))) rfl (fun ab=>?_) (fun ab=>?_)
   ·refine wp_seq_k (fun aN ak=>?_)
    refine rg [0,1,2,3,4] ?_
    refine sv 12 (.int .i64 2) ?_
    refine sv 13 (.pointer (some ⟨b2,2,none⟩)) ?_
    refine sw 14 (.int .i64 (qq2)) rfl (rk 3 2 L2) ?_
    refine sv 15 (.bool (decide ((0:Int)<qq2))) ?_
    refine sv 2 (.bool (decide ((0:Int)<qq2))) ?_
    refine sq_nil ?_
    refine ak _ _ ?_
    try clear ak aN
    refine wp_ret ?_
    simp only [Exit.then,Exit.inBlock]
    refine bodyPost_ret (v:=(.bool (decide ((0:Int)<qq2)))) (ret_tmp rfl rfl) rfl ⟨?_,hB⟩
    exact (congrArg (fun z=>Ending.returned (.bool z)) (posq2 ad aa ab))
   ·refine wp_skip ?_
    refine al _ _ ?_
    try clear al aG
    refine rg [0,1,2] ?_
    refine sv 6 (.int .i64 2) ?_
    refine sv 7 (.int .i64 3) ?_
    refine sv 3 (.int .i64 3) ?_
    refine sq_nil ?_
    show Code.rounds _ _ _ _ _ _
    show Code.wp _ _ _ _ _
    refine wp_seq_k (fun aO ax=>?_)
    refine wp_seq_k (fun aP az=>?_)
    refine rg [0,1] ?_
    refine sv 4 (.int .i64 3) ?_
    refine sv 5 (.bool true) ?_
    refine sq_nil ?_
    refine az _ _ ?_
    try clear az aP
    refine wp_cond_true rfl ?_
    refine wp_skip ?_
    refine ax _ _ ?_
    try clear ax aO
    refine wp_seq_k (fun aR aw=>?_)
    refine wp_block ?_
    refine wp_seq_k (fun aI ah=>?_)
    refine rg [0,1,2,3] ?_
    refine sv 8 (.int .i64 3) ?_
    refine sv 9 (.pointer (some ⟨b2,3,none⟩)) ?_
    refine sw 10 (.int .i64 (qq3)) rfl (rk 3 3 L2) ?_
    refine sv 11 (.bool ((qq3 !=(0:Int)))) ?_
    refine sq_nil ?_
    refine ah _ _ ?_
    try clear ah aI
    refine wp_cond_split (t:=(qq3 !=(0:Int))) rfl (fun ac=>?_) (fun ac=>?_)
    ·refine wp_seq_k (fun aM au=>?_)
     refine rg [0,1,2,3,4] ?_
     refine sv 12 (.int .i64 3) ?_
     refine sv 13 (.pointer (some ⟨b2,3,none⟩)) ?_
     refine sw 14 (.int .i64 (qq3)) rfl (rk 3 3 L2) ?_
     refine sv 15 (.bool (decide ((0:Int)<qq3))) ?_
     refine sv 2 (.bool (decide ((0:Int)<qq3))) ?_
     refine sq_nil ?_
     refine au _ _ ?_
     try clear au aM
     refine wp_ret ?_
     simp only [Exit.then,Exit.inBlock]
     refine bodyPost_ret (v:=(.bool (decide ((0:Int)<qq3)))) (ret_tmp rfl rfl) rfl ⟨?_,hB⟩
     exact (congrArg (fun z=>Ending.returned (.bool z)) (posq3 ad aa ab ac))
    ·refine wp_skip ?_
     refine aw _ _ ?_
     try clear aw aR
     refine rg [0,1,2] ?_
     refine sv 6 (.int .i64 3) ?_
     refine sv 7 (.int .i64 4) ?_
     refine sv 3 (.int .i64 4) ?_
     refine sq_nil ?_
     show Code.rounds _ _ _ _ _ _
     show Code.wp _ _ _ _ _
     refine wp_seq_k (fun aV aW=>?_)
     refine wp_seq_k (fun aF aj=>?_)
     refine rg [0,1] ?_
     refine sv 4 (.int .i64 4) ?_
     refine sv 5 (.bool false) ?_
     refine sq_nil ?_
     refine aj _ _ ?_
     try clear aj aF
     refine wp_cond_false rfl ?_
     refine wp_exit ?_
     simp only [Exit.then,Exit.inBlock,↓reduceIte]
     refine k3 _ _ ?_
     try clear k3 K3
     refine wp_seq_k (fun aS aB=>?_)
     refine rg [0] ?_
     refine sv 2 (.bool false) ?_
     refine sq_nil ?_
     refine aB _ _ ?_
     try clear aB aS
     refine wp_ret ?_
     refine bodyPost_ret (v:=(.bool false)) (ret_tmp rfl rfl) rfl ⟨?_,hB⟩
     exact (congrArg (fun z=>Ending.returned (.bool z)) (posq4 ad aa ab ac))

set_option maxRecDepth 100000 in
set_option maxHeartbeats 1000000 in
theorem r7_prim_p (qq0 qq1 qq2 qq3:Int) (j0:-1099511627776≤qq0∧qq0≤1099511627776) (j1:-1099511627776≤qq1∧qq1≤1099511627776) (j2:-1099511627776≤qq2∧qq2≤1099511627776) (j3:-1099511627776≤qq3∧qq3≤1099511627776) (hn:¬(qq0=0∧qq1=0∧qq2=0∧qq3=0)) (hs:qsgn qq0 qq1 qq2 qq3=1) (w:World):
    Calls Tryz.prog 66 #[(.agg #[(.int .i64 (qq0)),(.int .i64 (qq1)),(.int .i64 (qq2)),(.int .i64 (qq3))])] w fun e w'=>e=.returned (.agg #[.int .i64 (qprim qq0 qq1 qq2 qq3 qq0),.int .i64 (qprim qq0 qq1 qq2 qq3 qq1),.int .i64 (qprim qq0 qq1 qq2 qq3 qq2),.int .i64 (qprim qq0 qq1 qq2 qq3 qq3)])∧Gr w w':=by
 have hsb:decide (qsgn qq0 qq1 qq2 qq3=1)=true:=by rw [hs];rfl
 have hd:=qgcd_dvd qq0 qq1 qq2 qq3
 have hgp:=qgcd_pos hn
 have a0:=qprim_le (n:=qq0) hn
 have a2:=qprim_le (n:=qq1) hn
 have a1:=qprim_le (n:=qq2) hn
 have a6:=qprim_le (n:=qq3) hn
 have hgm:qgcd qq0 qq1 qq2 qq3≤1099511627776:=by
    have h1:=hd.1;have h2:=hd.2.1;have h3:=hd.2.2.1;have h4:=hd.2.2.2
    have le:∀ x:Int,x≠0→-1099511627776≤x∧x≤1099511627776→qgcd qq0 qq1 qq2 qq3∣x→qgcd qq0 qq1 qq2 qq3≤1099511627776:=by
      intro x hx hb hdx
      have:=Nat.le_of_dvd (by omega) (Int.natAbs_dvd_natAbs.2 hdx)
      omega
    by_cases z0:qq0=0
    · by_cases z1:qq1=0
      · by_cases z2:qq2=0
        · exact le qq3 (fun z3=>hn ⟨z0,z1,z2,z3⟩) j3 h4
        · exact le qq2 z2 j2 h3
      · exact le qq1 z1 j1 h2
    · exact le qq0 z0 j0 h1
 go_enter Tryz.func66,Tryz.ntmps66
 have hB:=Gr.refl w
 refine wp_seq_k (fun K1 k1=>?_)
 refine rg [0,1] ?_
 refine se ?_
 refine eb 22 #[(.int .i64 (qq0)),(.int .i64 (qq1)),(.int .i64 (qq2)),(.int .i64 (qq3))] 1 hB fun b2 w2 g2 L2 o2 q2 hB=>?_
 simp only [p3,p4]
 refine se ?_
 refine ea 22 #[(.int .i64 0),(.int .i64 0),(.int .i64 0),(.int .i64 0)] 2 hB fun b3 w3 g3 L3 o3 q3 hB=>?_
 have aa:=L2.ne o3
 simp only [p3,p4]
 refine sq_nil ?_
 refine k1 _ _ ?_
 try clear k1 K1
 refine wp_seq_k (fun K4 k4=>?_)
 refine rg [0,1,2] ?_
 replace L2:=L2.gr g3
 refine sw 5 (.agg #[(.int .i64 (qq0)),(.int .i64 (qq1)),(.int .i64 (qq2)),(.int .i64 (qq3))]) rfl (rl 22 0 [(.int .i64 (qq0)),(.int .i64 (qq1)),(.int .i64 (qq2)),(.int .i64 (qq3))] L2) ?_
 refine se ?_
 refine ec 6 (r7_common qq0 qq1 qq2 qq3 (by omega) (by omega) (by omega) (by omega) _) ?_
 rintro e5 w5 ⟨rfl,g5⟩
 refine ⟨_,rfl,?_⟩
 replace hB:=hB.trans g5
 simp only [p3,p4]
 refine sv 3 (.int .i64 (qgcd qq0 qq1 qq2 qq3)) ?_
 refine sq_nil ?_
 refine k4 _ _ ?_
 try clear k4 K4
 refine wp_seq_k (fun K6 k6=>?_)
 refine wp_seq_k (fun K7 k7=>?_)
 refine rg [0,1,2] ?_
 replace L2:=L2.gr g5
 refine sw 7 (.agg #[(.int .i64 (qq0)),(.int .i64 (qq1)),(.int .i64 (qq2)),(.int .i64 (qq3))]) rfl (rl 22 0 [(.int .i64 (qq0)),(.int .i64 (qq1)),(.int .i64 (qq2)),(.int .i64 (qq3))] L2) ?_
 refine se ?_
 refine ec 8 (r7_positive qq0 qq1 qq2 qq3 _) ?_
 rintro e8 w8 ⟨rfl,g8⟩
 refine ⟨_,rfl,?_⟩
 replace hB:=hB.trans g8
 simp only [p3,p4]
 refine sw 9 (.bool false) rfl (RunV.bool (x:=!(decide (qsgn qq0 qq1 qq2 qq3=1))) (rvk (by kernel_rfl)) (show (!(decide (qsgn qq0 qq1 qq2 qq3=1)))=false by rw [hsb];rfl)) ?_
 refine sq_nil ?_
 refine k7 _ _ ?_
 try clear k7 K7
 refine wp_cond_false rfl ?_
 refine wp_skip ?_
 refine k6 _ _ ?_
 try clear k6 K6
 refine wp_seq_k (fun K9 k9=>?_)
 refine wp_seq_k (fun aL ah=>?_)
 refine rg [0] ?_
 refine sv 4 (.int .i64 0) ?_
 refine sq_nil ?_
 refine ah _ _ ?_
 try clear ah aL
 refine wp_block ?_
 refine wp_loop_rounds 6 ?_
 show Code.wp _ _ _ _ _
 refine wp_seq_k (fun aB al=>?_)
 refine wp_seq_k (fun aU aq=>?_)
 refine rg [0,1] ?_
 refine sv 12 (.int .i64 0) ?_
 refine sv 13 (.bool true) ?_
 refine sq_nil ?_
 refine aq _ _ ?_
 try clear aq aU
 refine wp_cond_true rfl ?_
 refine wp_skip ?_
 refine al _ _ ?_
 try clear al aB
 refine wp_seq_k (fun aD au=>?_)
 refine wp_block ?_
 refine rg [0,1,2,3,4,5,6,7] ?_
 refine sv 16 (.int .i64 0) ?_
 refine sv 17 (.int .i64 0) ?_
 refine sv 18 (.pointer (some ⟨b2,0,none⟩)) ?_
 replace L2:=L2.gr g8
 refine sw 19 (.int .i64 (qq0)) rfl (rk 3 0 L2) ?_
 refine sv 20 (.int .i64 (qgcd qq0 qq1 qq2 qq3)) ?_
 refine sw 21 (.int .i64 (qprim qq0 qq1 qq2 qq3 qq0)) rfl (rv_quon 3 3 _ _ qq0 (qgcd qq0 qq1 qq2 qq3) (qprim qq0 qq1 qq2 qq3 qq0) rfl rfl rfl (prim_td hn hd.1 hs) (by omega) (by omega) (by omega)) ?_
 refine sv 22 (.pointer (some ⟨b2,0,none⟩)) ?_
 refine se ?_
 refine es 3 0 (.int .i64 (qprim qq0 qq1 qq2 qq3 qq0)) [(.int .i64 (qprim qq0 qq1 qq2 qq3 qq0))] #[(.int .i64 (qprim qq0 qq1 qq2 qq3 qq0)),(.int .i64 (qq1)),(.int .i64 (qq2)),(.int .i64 (qq3))] L2 hB q2 ⟨rfl,trivial⟩ fun aY ab aI L2 hB=>?_
 refine sq_nil ?_
 refine au _ _ ?_
 try clear au aD
 refine rg [0,1,2] ?_
 refine sv 14 (.int .i64 0) ?_
 refine sv 15 (.int .i64 1) ?_
 refine sv 4 (.int .i64 1) ?_
 refine sq_nil ?_
 show Code.rounds _ _ _ _ _ _
 show Code.wp _ _ _ _ _
 refine wp_seq_k (fun aT af=>?_)
 refine wp_seq_k (fun aK av=>?_)
 refine rg [0,1] ?_
 refine sv 12 (.int .i64 1) ?_
 refine sv 13 (.bool true) ?_
 refine sq_nil ?_
 refine av _ _ ?_
 try clear av aK
 refine wp_cond_true rfl ?_
 refine wp_skip ?_
 refine af _ _ ?_
 try clear af aT
 refine wp_seq_k (fun aV aj=>?_)
 refine wp_block ?_
 refine rg [0,1,2,3,4,5,6,7] ?_
 refine sv 16 (.int .i64 1) ?_
 refine sv 17 (.int .i64 1) ?_
 refine sv 18 (.pointer (some ⟨b2,1,none⟩)) ?_
 refine sw 19 (.int .i64 (qq1)) rfl (rk 3 1 L2) ?_
 refine sv 20 (.int .i64 (qgcd qq0 qq1 qq2 qq3)) ?_
 refine sw 21 (.int .i64 (qprim qq0 qq1 qq2 qq3 qq1)) rfl (rv_quon 3 3 _ _ qq1 (qgcd qq0 qq1 qq2 qq3) (qprim qq0 qq1 qq2 qq3 qq1) rfl rfl rfl (prim_td hn hd.2.1 hs) (by omega) (by omega) (by omega)) ?_
 refine sv 22 (.pointer (some ⟨b2,1,none⟩)) ?_
 refine se ?_
 refine es 3 1 (.int .i64 (qprim qq0 qq1 qq2 qq3 qq1)) [(.int .i64 (qprim qq0 qq1 qq2 qq3 qq1))] #[(.int .i64 (qprim qq0 qq1 qq2 qq3 qq0)),(.int .i64 (qprim qq0 qq1 qq2 qq3 qq1)),(.int .i64 (qq2)),(.int .i64 (qq3))] L2 hB q2 ⟨rfl,trivial⟩ fun aW ad aO L2 hB=>?_
 refine sq_nil ?_
 refine aj _ _ ?_
 try clear aj aV
 refine rg [0,1,2] ?_
 refine sv 14 (.int .i64 1) ?_
 refine sv 15 (.int .i64 2) ?_
 refine sv 4 (.int .i64 2) ?_
 refine sq_nil ?_
 show Code.rounds _ _ _ _ _ _
 show Code.wp _ _ _ _ _
 refine wp_seq_k (fun aP ai=>?_)
 refine wp_seq_k (fun aC aA=>?_)
 refine rg [0,1] ?_
 refine sv 12 (.int .i64 2) ?_
 refine sv 13 (.bool true) ?_
 refine sq_nil ?_
 refine aA _ _ ?_
 try clear aA aC
 refine wp_cond_true rfl ?_
 refine wp_skip ?_
 refine ai _ _ ?_
 try clear ai aP
 refine wp_seq_k (fun aE ar=>?_)
 refine wp_block ?_
 refine rg [0,1,2,3,4,5,6,7] ?_
 refine sv 16 (.int .i64 2) ?_
 refine sv 17 (.int .i64 2) ?_
 refine sv 18 (.pointer (some ⟨b2,2,none⟩)) ?_
 refine sw 19 (.int .i64 (qq2)) rfl (rk 3 2 L2) ?_
 refine sv 20 (.int .i64 (qgcd qq0 qq1 qq2 qq3)) ?_
 refine sw 21 (.int .i64 (qprim qq0 qq1 qq2 qq3 qq2)) rfl (rv_quon 3 3 _ _ qq2 (qgcd qq0 qq1 qq2 qq3) (qprim qq0 qq1 qq2 qq3 qq2) rfl rfl rfl (prim_td hn hd.2.2.1 hs) (by omega) (by omega) (by omega)) ?_
 refine sv 22 (.pointer (some ⟨b2,2,none⟩)) ?_
 refine se ?_
 refine es 3 2 (.int .i64 (qprim qq0 qq1 qq2 qq3 qq2)) [(.int .i64 (qprim qq0 qq1 qq2 qq3 qq2))] #[(.int .i64 (qprim qq0 qq1 qq2 qq3 qq0)),(.int .i64 (qprim qq0 qq1 qq2 qq3 qq1)),(.int .i64 (qprim qq0 qq1 qq2 qq3 qq2)),(.int .i64 (qq3))] L2 hB q2 ⟨rfl,trivial⟩ fun a3 ac aM L2 hB=>?_
 refine sq_nil ?_
 refine ar _ _ ?_
 try clear ar aE
 refine rg [0,1,2] ?_
 refine sv 14 (.int .i64 2) ?_
 refine sv 15 (.int .i64 3) ?_
 refine sv 4 (.int .i64 3) ?_
 refine sq_nil ?_
 show Code.rounds _ _ _ _ _ _
 show Code.wp _ _ _ _ _
 refine wp_seq_k (fun aF ax=>?_)
 refine wp_seq_k (fun aS ay=>?_)
 refine rg [0,1] ?_
 refine sv 12 (.int .i64 3) ?_
 refine sv 13 (.bool true) ?_
 refine sq_nil ?_
 refine ay _ _ ?_
 try clear ay aS
 refine wp_cond_true rfl ?_
 refine wp_skip ?_
 refine ax _ _ ?_
 try clear ax aF
 refine wp_seq_k (fun aJ aw=>?_)
 refine wp_block ?_
 refine rg [0,1,2,3,4,5,6,7] ?_
 refine sv 16 (.int .i64 3) ?_
 refine sv 17 (.int .i64 3) ?_
 refine sv 18 (.pointer (some ⟨b2,3,none⟩)) ?_
 refine sw 19 (.int .i64 (qq3)) rfl (rk 3 3 L2) ?_
 refine sv 20 (.int .i64 (qgcd qq0 qq1 qq2 qq3)) ?_
 refine sw 21 (.int .i64 (qprim qq0 qq1 qq2 qq3 qq3)) rfl (rv_quon 3 3 _ _ qq3 (qgcd qq0 qq1 qq2 qq3) (qprim qq0 qq1 qq2 qq3 qq3) rfl rfl rfl (prim_td hn hd.2.2.2 hs) (by omega) (by omega) (by omega)) ?_
 refine sv 22 (.pointer (some ⟨b2,3,none⟩)) ?_
 refine se ?_
 refine es 3 3 (.int .i64 (qprim qq0 qq1 qq2 qq3 qq3)) [(.int .i64 (qprim qq0 qq1 qq2 qq3 qq3))] #[(.int .i64 (qprim qq0 qq1 qq2 qq3 qq0)),(.int .i64 (qprim qq0 qq1 qq2 qq3 qq1)),(.int .i64 (qprim qq0 qq1 qq2 qq3 qq2)),(.int .i64 (qprim qq0 qq1 qq2 qq3 qq3))] L2 hB q2 ⟨rfl,trivial⟩ fun a5 ae aG L2 hB=>?_
 refine sq_nil ?_
 refine aw _ _ ?_
 try clear aw aJ
 refine rg [0,1,2] ?_
 refine sv 14 (.int .i64 3) ?_
 refine sv 15 (.int .i64 4) ?_
 refine sv 4 (.int .i64 4) ?_
 refine sq_nil ?_
 show Code.rounds _ _ _ _ _ _
 show Code.wp _ _ _ _ _
 refine wp_seq_k (fun aZ a4=>?_)
 refine wp_seq_k (fun aQ ak=>?_)
 refine rg [0,1] ?_
 refine sv 12 (.int .i64 4) ?_
 refine sv 13 (.bool false) ?_
 refine sq_nil ?_
 refine ak _ _ ?_
 try clear ak aQ
 refine wp_cond_false rfl ?_
 refine wp_exit ?_
 simp only [Exit.then,Exit.inBlock,↓reduceIte]
 refine k9 _ _ ?_
 try clear k9 K9
 refine wp_seq_k (fun aR az=>?_)
 refine rg [0,1] ?_
 refine sw 23 (.agg #[(.int .i64 (qprim qq0 qq1 qq2 qq3 qq0)),(.int .i64 (qprim qq0 qq1 qq2 qq3 qq1)),(.int .i64 (qprim qq0 qq1 qq2 qq3 qq2)),(.int .i64 (qprim qq0 qq1 qq2 qq3 qq3))]) rfl (rl 22 0 [(.int .i64 (qprim qq0 qq1 qq2 qq3 qq0)),(.int .i64 (qprim qq0 qq1 qq2 qq3 qq1)),(.int .i64 (qprim qq0 qq1 qq2 qq3 qq2)),(.int .i64 (qprim qq0 qq1 qq2 qq3 qq3))] L2) ?_
 refine se ?_
 replace L3:=ae.lc (ac.lc (ad.lc (ab.lc (L3.gr (g5.trans g8)) (Ne.symm aa)) (Ne.symm aa)) (Ne.symm aa)) (Ne.symm aa)
 refine es 22 0 (.agg #[(.int .i64 (qprim qq0 qq1 qq2 qq3 qq0)),(.int .i64 (qprim qq0 qq1 qq2 qq3 qq1)),(.int .i64 (qprim qq0 qq1 qq2 qq3 qq2)),(.int .i64 (qprim qq0 qq1 qq2 qq3 qq3))]) [(.int .i64 (qprim qq0 qq1 qq2 qq3 qq0)),(.int .i64 (qprim qq0 qq1 qq2 qq3 qq1)),(.int .i64 (qprim qq0 qq1 qq2 qq3 qq2)),(.int .i64 (qprim qq0 qq1 qq2 qq3 qq3))] #[(.int .i64 (qprim qq0 qq1 qq2 qq3 qq0)),(.int .i64 (qprim qq0 qq1 qq2 qq3 qq1)),(.int .i64 (qprim qq0 qq1 qq2 qq3 qq2)),(.int .i64 (qprim qq0 qq1 qq2 qq3 qq3))] L3 hB q3 ⟨rfl,rfl,rfl,rfl,trivial⟩ fun aX aN aH L3 hB=>?_
 refine sq_nil ?_
 refine az _ _ ?_
 try clear az aR
 refine wp_ret ?_
 refine bodyPost_ret (v:=(.agg #[(.int .i64 (qprim qq0 qq1 qq2 qq3 qq0)),(.int .i64 (qprim qq0 qq1 qq2 qq3 qq1)),(.int .i64 (qprim qq0 qq1 qq2 qq3 qq2)),(.int .i64 (qprim qq0 qq1 qq2 qq3 qq3))])) (ret_cell _ _ _ rfl rfl L3 (by kernel_rfl)) rfl ⟨?_,hB⟩
 exact rfl

set_option maxRecDepth 100000 in
set_option maxHeartbeats 1000000 in
theorem r7_prim_m (qq0 qq1 qq2 qq3:Int) (j0:-1099511627776≤qq0∧qq0≤1099511627776) (j1:-1099511627776≤qq1∧qq1≤1099511627776) (j2:-1099511627776≤qq2∧qq2≤1099511627776) (j3:-1099511627776≤qq3∧qq3≤1099511627776) (hn:¬(qq0=0∧qq1=0∧qq2=0∧qq3=0)) (hs:qsgn qq0 qq1 qq2 qq3=-1) (w:World):
    Calls Tryz.prog 66 #[(.agg #[(.int .i64 (qq0)),(.int .i64 (qq1)),(.int .i64 (qq2)),(.int .i64 (qq3))])] w fun e w'=>e=.returned (.agg #[.int .i64 (qprim qq0 qq1 qq2 qq3 qq0),.int .i64 (qprim qq0 qq1 qq2 qq3 qq1),.int .i64 (qprim qq0 qq1 qq2 qq3 qq2),.int .i64 (qprim qq0 qq1 qq2 qq3 qq3)])∧Gr w w':=by
 have hsb:decide (qsgn qq0 qq1 qq2 qq3=1)=false:=by rw [hs];rfl
 have hd:=qgcd_dvd qq0 qq1 qq2 qq3
 have hgp:=qgcd_pos hn
 have a0:=qprim_le (n:=qq0) hn
 have a2:=qprim_le (n:=qq1) hn
 have a1:=qprim_le (n:=qq2) hn
 have a6:=qprim_le (n:=qq3) hn
 have hgm:qgcd qq0 qq1 qq2 qq3≤1099511627776:=by
    have h1:=hd.1;have h2:=hd.2.1;have h3:=hd.2.2.1;have h4:=hd.2.2.2
    have le:∀ x:Int,x≠0→-1099511627776≤x∧x≤1099511627776→qgcd qq0 qq1 qq2 qq3∣x→qgcd qq0 qq1 qq2 qq3≤1099511627776:=by
      intro x hx hb hdx
      have:=Nat.le_of_dvd (by omega) (Int.natAbs_dvd_natAbs.2 hdx)
      omega
    by_cases z0:qq0=0
    · by_cases z1:qq1=0
      · by_cases z2:qq2=0
        · exact le qq3 (fun z3=>hn ⟨z0,z1,z2,z3⟩) j3 h4
        · exact le qq2 z2 j2 h3
      · exact le qq1 z1 j1 h2
    · exact le qq0 z0 j0 h1
 go_enter Tryz.func66,Tryz.ntmps66
 have hB:=Gr.refl w
 refine wp_seq_k (fun K1 k1=>?_)
 refine rg [0,1] ?_
 refine se ?_
 refine eb 22 #[(.int .i64 (qq0)),(.int .i64 (qq1)),(.int .i64 (qq2)),(.int .i64 (qq3))] 1 hB fun b2 w2 g2 L2 o2 q2 hB=>?_
 simp only [p3,p4]
 refine se ?_
 refine ea 22 #[(.int .i64 0),(.int .i64 0),(.int .i64 0),(.int .i64 0)] 2 hB fun b3 w3 g3 L3 o3 q3 hB=>?_
 have aa:=L2.ne o3
 simp only [p3,p4]
 refine sq_nil ?_
 refine k1 _ _ ?_
 try clear k1 K1
 refine wp_seq_k (fun K4 k4=>?_)
 refine rg [0,1,2] ?_
 replace L2:=L2.gr g3
 refine sw 5 (.agg #[(.int .i64 (qq0)),(.int .i64 (qq1)),(.int .i64 (qq2)),(.int .i64 (qq3))]) rfl (rl 22 0 [(.int .i64 (qq0)),(.int .i64 (qq1)),(.int .i64 (qq2)),(.int .i64 (qq3))] L2) ?_
 refine se ?_
 refine ec 6 (r7_common qq0 qq1 qq2 qq3 (by omega) (by omega) (by omega) (by omega) _) ?_
 rintro e5 w5 ⟨rfl,g5⟩
 refine ⟨_,rfl,?_⟩
 replace hB:=hB.trans g5
 simp only [p3,p4]
 refine sv 3 (.int .i64 (qgcd qq0 qq1 qq2 qq3)) ?_
 refine sq_nil ?_
 refine k4 _ _ ?_
 try clear k4 K4
 refine wp_seq_k (fun K6 k6=>?_)
 refine wp_seq_k (fun K7 k7=>?_)
 refine rg [0,1,2] ?_
 replace L2:=L2.gr g5
 refine sw 7 (.agg #[(.int .i64 (qq0)),(.int .i64 (qq1)),(.int .i64 (qq2)),(.int .i64 (qq3))]) rfl (rl 22 0 [(.int .i64 (qq0)),(.int .i64 (qq1)),(.int .i64 (qq2)),(.int .i64 (qq3))] L2) ?_
 refine se ?_
 refine ec 8 (r7_positive qq0 qq1 qq2 qq3 _) ?_
 rintro e8 w8 ⟨rfl,g8⟩
 refine ⟨_,rfl,?_⟩
 replace hB:=hB.trans g8
 simp only [p3,p4]
 refine sw 9 (.bool true) rfl (RunV.bool (x:=!(decide (qsgn qq0 qq1 qq2 qq3=1))) (rvk (by kernel_rfl)) (show (!(decide (qsgn qq0 qq1 qq2 qq3=1)))=true by rw [hsb];rfl)) ?_
 refine sq_nil ?_
 refine k7 _ _ ?_
 try clear k7 K7
 refine wp_cond_true rfl ?_
 refine rg [0,1,2] ?_
 refine sv 10 (.int .i64 (qgcd qq0 qq1 qq2 qq3)) ?_
 refine sw 11 (.int .i64 ((0 - qgcd qq0 qq1 qq2 qq3))) rfl (RunV.int (x:=IntKind.i64.wrap ((0 - qgcd qq0 qq1 qq2 qq3))) (y:=(0 - qgcd qq0 qq1 qq2 qq3)) (rvk (by kernel_rfl)) (by first | rfl | (rw [IntKind.wrap_i64];omega))) ?_
 refine sv 3 (.int .i64 ((0 - qgcd qq0 qq1 qq2 qq3))) ?_
 refine sq_nil ?_
 refine k6 _ _ ?_
 try clear k6 K6
 refine wp_seq_k (fun K9 k9=>?_)
 refine wp_seq_k (fun aL ah=>?_)
 refine rg [0] ?_
 refine sv 4 (.int .i64 0) ?_
 refine sq_nil ?_
 refine ah _ _ ?_
 try clear ah aL
 refine wp_block ?_
 refine wp_loop_rounds 6 ?_
 show Code.wp _ _ _ _ _
 refine wp_seq_k (fun aB al=>?_)
 refine wp_seq_k (fun aU aq=>?_)
 refine rg [0,1] ?_
 refine sv 12 (.int .i64 0) ?_
 refine sv 13 (.bool true) ?_
 refine sq_nil ?_
 refine aq _ _ ?_
 try clear aq aU
 refine wp_cond_true rfl ?_
 refine wp_skip ?_
 refine al _ _ ?_
 try clear al aB
 refine wp_seq_k (fun aD au=>?_)
 refine wp_block ?_
 refine rg [0,1,2,3,4,5,6,7] ?_
 refine sv 16 (.int .i64 0) ?_
 refine sv 17 (.int .i64 0) ?_
 refine sv 18 (.pointer (some ⟨b2,0,none⟩)) ?_
 replace L2:=L2.gr g8
 refine sw 19 (.int .i64 (qq0)) rfl (rk 3 0 L2) ?_
 refine sv 20 (.int .i64 ((0 - qgcd qq0 qq1 qq2 qq3))) ?_
 refine sw 21 (.int .i64 (qprim qq0 qq1 qq2 qq3 qq0)) rfl (rv_quon 3 3 _ _ qq0 ((0 - qgcd qq0 qq1 qq2 qq3)) (qprim qq0 qq1 qq2 qq3 qq0) rfl rfl rfl (prim_tm hn hd.1 hs) (by omega) (by omega) (by omega)) ?_
 refine sv 22 (.pointer (some ⟨b2,0,none⟩)) ?_
 refine se ?_
 refine es 3 0 (.int .i64 (qprim qq0 qq1 qq2 qq3 qq0)) [(.int .i64 (qprim qq0 qq1 qq2 qq3 qq0))] #[(.int .i64 (qprim qq0 qq1 qq2 qq3 qq0)),(.int .i64 (qq1)),(.int .i64 (qq2)),(.int .i64 (qq3))] L2 hB q2 ⟨rfl,trivial⟩ fun aY ab aI L2 hB=>?_
 refine sq_nil ?_
 refine au _ _ ?_
 try clear au aD
 refine rg [0,1,2] ?_
 refine sv 14 (.int .i64 0) ?_
 refine sv 15 (.int .i64 1) ?_
 refine sv 4 (.int .i64 1) ?_
 refine sq_nil ?_
 show Code.rounds _ _ _ _ _ _
 show Code.wp _ _ _ _ _
 refine wp_seq_k (fun aT af=>?_)
 refine wp_seq_k (fun aK av=>?_)
 refine rg [0,1] ?_
 refine sv 12 (.int .i64 1) ?_
 refine sv 13 (.bool true) ?_
 refine sq_nil ?_
 refine av _ _ ?_
 try clear av aK
 refine wp_cond_true rfl ?_
 refine wp_skip ?_
 refine af _ _ ?_
 try clear af aT
 refine wp_seq_k (fun aV aj=>?_)
 refine wp_block ?_
 refine rg [0,1,2,3,4,5,6,7] ?_
 refine sv 16 (.int .i64 1) ?_
 refine sv 17 (.int .i64 1) ?_
 refine sv 18 (.pointer (some ⟨b2,1,none⟩)) ?_
 refine sw 19 (.int .i64 (qq1)) rfl (rk 3 1 L2) ?_
 refine sv 20 (.int .i64 ((0 - qgcd qq0 qq1 qq2 qq3))) ?_
 refine sw 21 (.int .i64 (qprim qq0 qq1 qq2 qq3 qq1)) rfl (rv_quon 3 3 _ _ qq1 ((0 - qgcd qq0 qq1 qq2 qq3)) (qprim qq0 qq1 qq2 qq3 qq1) rfl rfl rfl (prim_tm hn hd.2.1 hs) (by omega) (by omega) (by omega)) ?_
 refine sv 22 (.pointer (some ⟨b2,1,none⟩)) ?_
 refine se ?_
 refine es 3 1 (.int .i64 (qprim qq0 qq1 qq2 qq3 qq1)) [(.int .i64 (qprim qq0 qq1 qq2 qq3 qq1))] #[(.int .i64 (qprim qq0 qq1 qq2 qq3 qq0)),(.int .i64 (qprim qq0 qq1 qq2 qq3 qq1)),(.int .i64 (qq2)),(.int .i64 (qq3))] L2 hB q2 ⟨rfl,trivial⟩ fun aW ad aO L2 hB=>?_
 refine sq_nil ?_
 refine aj _ _ ?_
 try clear aj aV
 refine rg [0,1,2] ?_
 refine sv 14 (.int .i64 1) ?_
 refine sv 15 (.int .i64 2) ?_
 refine sv 4 (.int .i64 2) ?_
 refine sq_nil ?_
 show Code.rounds _ _ _ _ _ _
 show Code.wp _ _ _ _ _
 refine wp_seq_k (fun aP ai=>?_)
 refine wp_seq_k (fun aC aA=>?_)
 refine rg [0,1] ?_
 refine sv 12 (.int .i64 2) ?_
 refine sv 13 (.bool true) ?_
 refine sq_nil ?_
 refine aA _ _ ?_
 try clear aA aC
 refine wp_cond_true rfl ?_
 refine wp_skip ?_
 refine ai _ _ ?_
 try clear ai aP
 refine wp_seq_k (fun aE ar=>?_)
 refine wp_block ?_
 refine rg [0,1,2,3,4,5,6,7] ?_
 refine sv 16 (.int .i64 2) ?_
 refine sv 17 (.int .i64 2) ?_
 refine sv 18 (.pointer (some ⟨b2,2,none⟩)) ?_
 refine sw 19 (.int .i64 (qq2)) rfl (rk 3 2 L2) ?_
 refine sv 20 (.int .i64 ((0 - qgcd qq0 qq1 qq2 qq3))) ?_
 refine sw 21 (.int .i64 (qprim qq0 qq1 qq2 qq3 qq2)) rfl (rv_quon 3 3 _ _ qq2 ((0 - qgcd qq0 qq1 qq2 qq3)) (qprim qq0 qq1 qq2 qq3 qq2) rfl rfl rfl (prim_tm hn hd.2.2.1 hs) (by omega) (by omega) (by omega)) ?_
 refine sv 22 (.pointer (some ⟨b2,2,none⟩)) ?_
 refine se ?_
 refine es 3 2 (.int .i64 (qprim qq0 qq1 qq2 qq3 qq2)) [(.int .i64 (qprim qq0 qq1 qq2 qq3 qq2))] #[(.int .i64 (qprim qq0 qq1 qq2 qq3 qq0)),(.int .i64 (qprim qq0 qq1 qq2 qq3 qq1)),(.int .i64 (qprim qq0 qq1 qq2 qq3 qq2)),(.int .i64 (qq3))] L2 hB q2 ⟨rfl,trivial⟩ fun a3 ac aM L2 hB=>?_
 refine sq_nil ?_
 refine ar _ _ ?_
 try clear ar aE
 refine rg [0,1,2] ?_
 refine sv 14 (.int .i64 2) ?_
 refine sv 15 (.int .i64 3) ?_
 refine sv 4 (.int .i64 3) ?_
 refine sq_nil ?_
 show Code.rounds _ _ _ _ _ _
 show Code.wp _ _ _ _ _
 refine wp_seq_k (fun aF ax=>?_)
 refine wp_seq_k (fun aS ay=>?_)
 refine rg [0,1] ?_
 refine sv 12 (.int .i64 3) ?_
 refine sv 13 (.bool true) ?_
 refine sq_nil ?_
 refine ay _ _ ?_
 try clear ay aS
 refine wp_cond_true rfl ?_
 refine wp_skip ?_
 refine ax _ _ ?_
 try clear ax aF
 refine wp_seq_k (fun aJ aw=>?_)
 refine wp_block ?_
 refine rg [0,1,2,3,4,5,6,7] ?_
 refine sv 16 (.int .i64 3) ?_
 refine sv 17 (.int .i64 3) ?_
 refine sv 18 (.pointer (some ⟨b2,3,none⟩)) ?_
 refine sw 19 (.int .i64 (qq3)) rfl (rk 3 3 L2) ?_
 refine sv 20 (.int .i64 ((0 - qgcd qq0 qq1 qq2 qq3))) ?_
 refine sw 21 (.int .i64 (qprim qq0 qq1 qq2 qq3 qq3)) rfl (rv_quon 3 3 _ _ qq3 ((0 - qgcd qq0 qq1 qq2 qq3)) (qprim qq0 qq1 qq2 qq3 qq3) rfl rfl rfl (prim_tm hn hd.2.2.2 hs) (by omega) (by omega) (by omega)) ?_
 refine sv 22 (.pointer (some ⟨b2,3,none⟩)) ?_
 refine se ?_
 refine es 3 3 (.int .i64 (qprim qq0 qq1 qq2 qq3 qq3)) [(.int .i64 (qprim qq0 qq1 qq2 qq3 qq3))] #[(.int .i64 (qprim qq0 qq1 qq2 qq3 qq0)),(.int .i64 (qprim qq0 qq1 qq2 qq3 qq1)),(.int .i64 (qprim qq0 qq1 qq2 qq3 qq2)),(.int .i64 (qprim qq0 qq1 qq2 qq3 qq3))] L2 hB q2 ⟨rfl,trivial⟩ fun a5 ae aG L2 hB=>?_
 refine sq_nil ?_
 refine aw _ _ ?_
 try clear aw aJ
 refine rg [0,1,2] ?_
 refine sv 14 (.int .i64 3) ?_
 refine sv 15 (.int .i64 4) ?_
 refine sv 4 (.int .i64 4) ?_
 refine sq_nil ?_
 show Code.rounds _ _ _ _ _ _
 show Code.wp _ _ _ _ _
 refine wp_seq_k (fun aZ a4=>?_)
 refine wp_seq_k (fun aQ ak=>?_)
 refine rg [0,1] ?_
 refine sv 12 (.int .i64 4) ?_
 refine sv 13 (.bool false) ?_
 refine sq_nil ?_
 refine ak _ _ ?_
 try clear ak aQ
 refine wp_cond_false rfl ?_
 refine wp_exit ?_
 simp only [Exit.then,Exit.inBlock,↓reduceIte]
 refine k9 _ _ ?_
 try clear k9 K9
 refine wp_seq_k (fun aR az=>?_)
 refine rg [0,1] ?_
 refine sw 23 (.agg #[(.int .i64 (qprim qq0 qq1 qq2 qq3 qq0)),(.int .i64 (qprim qq0 qq1 qq2 qq3 qq1)),(.int .i64 (qprim qq0 qq1 qq2 qq3 qq2)),(.int .i64 (qprim qq0 qq1 qq2 qq3 qq3))]) rfl (rl 22 0 [(.int .i64 (qprim qq0 qq1 qq2 qq3 qq0)),(.int .i64 (qprim qq0 qq1 qq2 qq3 qq1)),(.int .i64 (qprim qq0 qq1 qq2 qq3 qq2)),(.int .i64 (qprim qq0 qq1 qq2 qq3 qq3))] L2) ?_
 refine se ?_
 replace L3:=ae.lc (ac.lc (ad.lc (ab.lc (L3.gr (g5.trans g8)) (Ne.symm aa)) (Ne.symm aa)) (Ne.symm aa)) (Ne.symm aa)
 refine es 22 0 (.agg #[(.int .i64 (qprim qq0 qq1 qq2 qq3 qq0)),(.int .i64 (qprim qq0 qq1 qq2 qq3 qq1)),(.int .i64 (qprim qq0 qq1 qq2 qq3 qq2)),(.int .i64 (qprim qq0 qq1 qq2 qq3 qq3))]) [(.int .i64 (qprim qq0 qq1 qq2 qq3 qq0)),(.int .i64 (qprim qq0 qq1 qq2 qq3 qq1)),(.int .i64 (qprim qq0 qq1 qq2 qq3 qq2)),(.int .i64 (qprim qq0 qq1 qq2 qq3 qq3))] #[(.int .i64 (qprim qq0 qq1 qq2 qq3 qq0)),(.int .i64 (qprim qq0 qq1 qq2 qq3 qq1)),(.int .i64 (qprim qq0 qq1 qq2 qq3 qq2)),(.int .i64 (qprim qq0 qq1 qq2 qq3 qq3))] L3 hB q3 ⟨rfl,rfl,rfl,rfl,trivial⟩ fun aX aN aH L3 hB=>?_
 refine sq_nil ?_
 refine az _ _ ?_
 try clear az aR
 refine wp_ret ?_
 refine bodyPost_ret (v:=(.agg #[(.int .i64 (qprim qq0 qq1 qq2 qq3 qq0)),(.int .i64 (qprim qq0 qq1 qq2 qq3 qq1)),(.int .i64 (qprim qq0 qq1 qq2 qq3 qq2)),(.int .i64 (qprim qq0 qq1 qq2 qq3 qq3))])) (ret_cell _ _ _ rfl rfl L3 (by kernel_rfl)) rfl ⟨?_,hB⟩
 exact rfl

theorem r7_primitive (qq0 qq1 qq2 qq3:Int) (j0:-1099511627776≤qq0∧qq0≤1099511627776) (j1:-1099511627776≤qq1∧qq1≤1099511627776) (j2:-1099511627776≤qq2∧qq2≤1099511627776) (j3:-1099511627776≤qq3∧qq3≤1099511627776) (hn:¬(qq0=0∧qq1=0∧qq2=0∧qq3=0)) (w:World):
    Calls Tryz.prog 66 #[(.agg #[(.int .i64 (qq0)),(.int .i64 (qq1)),(.int .i64 (qq2)),(.int .i64 (qq3))])] w fun e w'=>e=.returned (.agg #[.int .i64 (qprim qq0 qq1 qq2 qq3 qq0),.int .i64 (qprim qq0 qq1 qq2 qq3 qq1),.int .i64 (qprim qq0 qq1 qq2 qq3 qq2),.int .i64 (qprim qq0 qq1 qq2 qq3 qq3)])∧Gr w w':=by
  rcases qsgn_cases hn with hs | hs
  · exact r7_prim_p qq0 qq1 qq2 qq3 j0 j1 j2 j3 hn hs w
  · exact r7_prim_m qq0 qq1 qq2 qq3 j0 j1 j2 j3 hn hs w

end Go.Proofs.YtaldbfflkpgfoaaGreatDoor
