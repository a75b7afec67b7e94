/- Joined of: Gen143, RowMotionPlaces. -/
import Derived.Test.YtaldbfflkpgfoaaGreatDoorPartH
import Derived.Test.YtaldbfflkpgfoaaGreatDoorCards
import Derived.Test.YtaldbfflkpgfoaaGreatDoorTie
import Derived.Test.YtaldbfflkpgfoaaGreatDoorPartA
import Derived.Test.YtaldbfflkpgfoaaGreatDoorPartB
namespace Go.Proofs.YtaldbfflkpgfoaaGreatDoor
open Go.RowKit

noncomputable def tabCo:List (Nat × List (Nat × Ent)):=[(24,[(9,.ord [(true,0),(true,1),(true,2),(true,3),(true,5),(true,6),(false,4),(true,7),(false,8)] [5])]),
 (36,[]),
 (38,[]),
 (43,[(1,.ord [(true,0),(true,1),(true,3),(true,4),(false,2),(false,5),(false,6)] [4])]),
 (69,[(8,.ord [(true,0),(true,1),(true,2),(true,3),(true,4),(false,5)] [3])]),
 (74,[(5,.ord [(true,0),(true,1),(true,2),(true,3),(true,4),(true,5),(true,6),(true,7),(false,8),(true,9),(false,10)] [7])]),
 (83,[]),
 (86,[])]
noncomputable def conCo:List (Nat × ConT):=[(103,zj6 100000 (fun k m=>k+m+1) (fun a b=>a+b)),
 (75,zj6 100000 (fun k m=>k+m+1) (fun a b=>a - b)),
 (82,zj6 100000 (fun k m=>k+m) (fun a b=>a*b)),
 (108,cNeg),
 (59,zY8),
 (37,zY9),
 (76,zS9),
 (87,zZ0),
 (130,cNum),
 (81,cDen),
 (58,cDiv),
 (96,zy6),
 (80,zT0),
 (122,zT1),
 (123,zT2),
 (68,zZ1),
 (105,cTT (fun k m=>k+m+1) fun a b=>a+b),
 (132,cTT (fun k m=>k+m+1) fun a b=>a - b),
 (106,cTT (fun k m=>k+m) fun a b=>a*b),
 (64,zZ2),
 (115,zZ3),
 (65,zD1),
 (94,zt8 400),
 (107,zt8 65536),
 (15,cChk),
 (66,zT5),
 (14,cOf),
 (16,cMEq),
 (67,yl8),
 (21,cPlc),
 (11,zM5)]
noncomputable def sysCo:Sys:=⟨Tryz.prog,2,199,tabCo,conCo,fun w=>Tab w∧Mx w⟩
theorem sysCo_ok:sysCo.OK where
 mixed:=by kernel_rfl
 calls:=fun f h0 h1=>by
  have:(List.range 199).all (fun f=>Nat.blt f 2||okCall Tryz.prog f)=true:=by kernel_rfl
  have:=List.all_eq_true.1 this f (List.mem_range.2 h1)
  simp only [Bool.or_eq_true] at this
  exact this.resolve_left (fun e=>by have:=ze6 e;exact absurd h0 (by show ¬ 2≤f;omega))
 tab:=by
  have:tabCo.all (okTab Tryz.prog)=true:=by kernel_rfl
  exact fun x hx=>List.all_eq_true.1 this x hx
 lps:=zy1 (by kernel_rfl)
 con:=fun x hx=>by
  simp only [sysCo,conCo,List.mem_cons,List.not_mem_nil,or_false] at hx
  rcases hx with rfl | rfl | rfl | rfl | rfl | rfl | rfl | rfl | rfl | rfl | rfl | rfl | rfl | rfl | rfl | rfl | rfl | rfl | rfl | rfl | rfl | rfl | rfl | rfl | rfl | rfl | rfl | rfl | rfl | rfl | rfl
  ·exact zc4 fun h1 h2 h3=>zi7 h1 h2 h3
  ·exact zc4 fun h1 h2 h3=>zt6 h1 h2 h3
  ·exact zc4 fun h1 h2 h3=>yb2 h1 h2 h3
  ·exact zu9
  ·exact zo0
  ·exact zo1
  ·exact zl1
  ·exact zo2 fun w h=>h.1
  ·exact zs0
  ·exact zs1
  ·exact zv0
  ·exact zh9
  ·exact zl2
  ·exact zl3
  ·exact zl4
  ·exact zo3
  ·exact zo4
  ·exact zo5
  ·exact zo6
  ·exact zo7
  ·exact zo8
  ·exact zj8
  ·exact zo9 fun w h=>h.2
  ·exact zp0 fun w h=>h.2
  ·exact zB1 fun w h=>h.2
  ·exact zp1
  ·exact yg2 fun w h=>h
  ·exact zG4
  ·exact zv9
  ·exact zP7 fun w h=>h
  ·exact zw0 fun w h=>h
 inv:=fun w w' h g=>⟨h.1.gr g,h.2.gr g⟩
def rsB (k:Nat) (x:Rat):Bool:=decide (x.num.natAbs<2 ^ k∧(x.den:Int).natAbs<2 ^ k)
theorem zp5 {k:Nat} {x:Rat} (h:rsB k x=true):RS k x:=(of_decide_eq_true h:_∧_)
theorem rsB_of {k:Nat} {x:Rat} (h:RS k x):rsB k x=true:=decide_eq_true ⟨h.1,h.2⟩
def rs12 (A:Mo):Bool:=rsB 64 (A 0)&&rsB 64 (A 1)&&rsB 64 (A 2)&&rsB 64 (A 3)&&rsB 64 (A 4)&&rsB 64 (A 5)&&rsB 64 (A 6)&&rsB 64 (A 7)&&rsB 64 (A 8)&&rsB 5000 (A 9)&&rsB 5000 (A 10)&&rsB 5000 (A 11)
def coL (A:Mo):List (Nat × Rat):=[(64,A 0),(64,A 1),(64,A 2),(64,A 3),(64,A 4),(64,A 5),(64,A 6),(64,A 7),(64,A 8),(5000,A 9),(5000,A 10),(5000,A 11)]
def coR (A:Mo):List (Nat × Rat):=[(451,A 0),(451,A 1),(451,A 2),(451,A 3),(451,A 4),(451,A 5),(451,A 6),(451,A 7),(451,A 8),(5452,A 9),(5452,A 10),(5452,A 11)]
def ys7:Rs→Option (List (Nat × Rat))
 | some (.ret (.so (.vg l)))=>rats l
 | _=>none
theorem yb0 {r:Rs} {x:List (Nat × Rat)} (h:ys7 r=some x):∃ l,r=some (.ret (.so (.vg l)))∧rats l=some x:=by
 unfold ys7 at h
 split at h
 ·exact ⟨_,rfl,h⟩
 ·cases h
theorem runCo (a0 a1 a2 a3 a4 a5 a6 a7 a8 a9 aa a11 b0 b1 b2 b3 b4 b5 b6 b7 b8 b9 ab ac:Rat):ys7 (zP0 sysCo 24 [.so (.vg [.cr 0 0 64 a0,.cr 0 1 64 a0,.cr 0 2 64 a0,.cr 0 3 64 a0,.cr 1 0 64 a1,.cr 1 1 64 a1,.cr 1 2 64 a1,.cr 1 3 64 a1,.cr 2 0 64 a2,.cr 2 1 64 a2,.cr 2 2 64 a2,.cr 2 3 64 a2,.cr 3 0 64 a3,.cr 3 1 64 a3,.cr 3 2 64 a3,.cr 3 3 64 a3,.cr 4 0 64 a4,.cr 4 1 64 a4,.cr 4 2 64 a4,.cr 4 3 64 a4,.cr 5 0 64 a5,.cr 5 1 64 a5,.cr 5 2 64 a5,.cr 5 3 64 a5,.cr 6 0 64 a6,.cr 6 1 64 a6,.cr 6 2 64 a6,.cr 6 3 64 a6,.cr 7 0 64 a7,.cr 7 1 64 a7,.cr 7 2 64 a7,.cr 7 3 64 a7,.cr 8 0 64 a8,.cr 8 1 64 a8,.cr 8 2 64 a8,.cr 8 3 64 a8,.cr 9 0 5000 a9,.cr 9 1 5000 a9,.cr 9 2 5000 a9,.cr 9 3 5000 a9,.cr 10 0 5000 aa,.cr 10 1 5000 aa,.cr 10 2 5000 aa,.cr 10 3 5000 aa,.cr 11 0 5000 a11,.cr 11 1 5000 a11,.cr 11 2 5000 a11,.cr 11 3 5000 a11]),.so (.vg [.cr 12 0 64 b0,.cr 12 1 64 b0,.cr 12 2 64 b0,.cr 12 3 64 b0,.cr 13 0 64 b1,.cr 13 1 64 b1,.cr 13 2 64 b1,.cr 13 3 64 b1,.cr 14 0 64 b2,.cr 14 1 64 b2,.cr 14 2 64 b2,.cr 14 3 64 b2,.cr 15 0 64 b3,.cr 15 1 64 b3,.cr 15 2 64 b3,.cr 15 3 64 b3,.cr 16 0 64 b4,.cr 16 1 64 b4,.cr 16 2 64 b4,.cr 16 3 64 b4,.cr 17 0 64 b5,.cr 17 1 64 b5,.cr 17 2 64 b5,.cr 17 3 64 b5,.cr 18 0 64 b6,.cr 18 1 64 b6,.cr 18 2 64 b6,.cr 18 3 64 b6,.cr 19 0 64 b7,.cr 19 1 64 b7,.cr 19 2 64 b7,.cr 19 3 64 b7,.cr 20 0 64 b8,.cr 20 1 64 b8,.cr 20 2 64 b8,.cr 20 3 64 b8,.cr 21 0 64 b9,.cr 21 1 64 b9,.cr 21 2 64 b9,.cr 21 3 64 b9,.cr 22 0 64 ab,.cr 22 1 64 ab,.cr 22 2 64 ab,.cr 22 3 64 ab,.cr 23 0 64 ac,.cr 23 1 64 ac,.cr 23 2 64 ac,.cr 23 3 64 ac])] 24 0 .e)=some (coR (mc (mo12 a0 a1 a2 a3 a4 a5 a6 a7 a8 a9 aa a11) (mo12 b0 b1 b2 b3 b4 b5 b6 b7 b8 b9 ab ac))):=by kernel_rfl
def cMcp:ConT:=yC9 zy7 zy7 fun
 | [(ka0,a0),(ka1,a1),(ka2,a2),(ka3,a3),(ka4,a4),(ka5,a5),(ka6,a6),(ka7,a7),(ka8,a8),(ka9,a9),(ka10,a10),(ka11,a11)],[(kb0,b0),(kb1,b1),(kb2,b2),(kb3,b3),(kb4,b4),(kb5,b5),(kb6,b6),(kb7,b7),(kb8,b8),(kb9,b9),(kb10,b10),(kb11,b11)],nr,_=>tr (Nat.ble ka0 64&&Nat.ble ka1 64&&Nat.ble ka2 64&&Nat.ble ka3 64&&Nat.ble ka4 64&&Nat.ble ka5 64&&Nat.ble ka6 64&&Nat.ble ka7 64&&Nat.ble ka8 64&&Nat.ble ka9 5000&&Nat.ble ka10 5000&&Nat.ble ka11 5000&&Nat.ble kb0 64&&Nat.ble kb1 64&&Nat.ble kb2 64&&Nat.ble kb3 64&&Nat.ble kb4 64&&Nat.ble kb5 64&&Nat.ble kb6 64&&Nat.ble kb7 64&&Nat.ble kb8 64&&Nat.ble kb9 64&&Nat.ble kb10 64&&Nat.ble kb11 64) (.as (rs12 (mc (mo12 a0 a1 a2 a3 a4 a5 a6 a7 a8 a9 a10 a11) (mo12 b0 b1 b2 b3 b4 b5 b6 b7 b8 b9 b10 b11))) (.leaf (.so (.vg (zi0 nr (coL (mc (mo12 a0 a1 a2 a3 a4 a5 a6 a7 a8 a9 a10 a11) (mo12 b0 b1 b2 b3 b4 b5 b6 b7 b8 b9 b10 b11)))))) 12 0))
 | _,_,_,_=>none
theorem cMcp_ok {I:World→Prop} (hI:∀ w,I w→Tab w∧Mx w):ConOK Tryz.prog I 24 cMcp:=zj7 fun _ _ _ _ n X w _ hw h1 h2 o1 o2 hT hp=>by
 split at hT
 ·obtain ⟨hb,rfl⟩:=zd1 hT
  simp only [Bool.and_eq_true,Nat.ble_eq] at hb
  obtain ⟨vs,e1,hA⟩:=zj9 h1 o1
  obtain ⟨us,e2,hB⟩:=zj9 h2 o2
  rw [e1,e2]
  obtain ⟨a6,b7,a9,bB,cx,rfl,af,hA⟩:=hA.cons
  obtain ⟨pa1,bD,a4,aU,cP,rfl,al,hA⟩:=hA.cons
  obtain ⟨cc,b4,bo,b8,cJ,rfl,aq,hA⟩:=hA.cons
  obtain ⟨bn,bi,aW,bC,cB,rfl,ak,hA⟩:=hA.cons
  obtain ⟨bE,cm,bu,bT,cA,rfl,ap,hA⟩:=hA.cons
  obtain ⟨bM,bp,bG,bd,cM,rfl,ai,hA⟩:=hA.cons
  obtain ⟨bk,bX,bS,co,cQ,rfl,aj,hA⟩:=hA.cons
  obtain ⟨bU,bq,bO,bz,cN,rfl,aC,hA⟩:=hA.cons
  obtain ⟨bx,bY,ce,bt,cK,rfl,au,hA⟩:=hA.cons
  obtain ⟨bb,cq,cd,bm,cR,rfl,aA,hA⟩:=hA.cons
  obtain ⟨aJ,aP,aG,aT,bF,rfl,ab,hA⟩:=hA.cons
  obtain ⟨aH,aI,aS,aE,bw,rfl,ac,hA⟩:=hA.cons
  obtain rfl:=hA.nil
  replace af:=af.mono (m:=64) (by omega)
  replace al:=al.mono (m:=64) (by omega)
  replace aq:=aq.mono (m:=64) (by omega)
  replace ak:=ak.mono (m:=64) (by omega)
  replace ap:=ap.mono (m:=64) (by omega)
  replace ai:=ai.mono (m:=64) (by omega)
  replace aj:=aj.mono (m:=64) (by omega)
  replace aC:=aC.mono (m:=64) (by omega)
  replace au:=au.mono (m:=64) (by omega)
  replace aA:=aA.mono (m:=5000) (by omega)
  replace ab:=ab.mono (m:=5000) (by omega)
  replace ac:=ac.mono (m:=5000) (by omega)
  obtain ⟨ct,bP,cg,a7,cS,rfl,ay,hB⟩:=hB.cons
  obtain ⟨ca,bj,bA,bV,cO,rfl,aw,hB⟩:=hB.cons
  obtain ⟨cu,aX,bJ,bK,cD,rfl,aB,hB⟩:=hB.cons
  obtain ⟨ck,aY,bH,bQ,cy,rfl,ar,hB⟩:=hB.cons
  obtain ⟨bv,cl,aV,b9,cE,rfl,av,hB⟩:=hB.cons
  obtain ⟨b5,a8,ba,bN,cG,rfl,ae,hB⟩:=hB.cons
  obtain ⟨aZ,bL,cj,b6,cL,rfl,az,hB⟩:=hB.cons
  obtain ⟨a0,a3,bW,bf,cH,rfl,ax,hB⟩:=hB.cons
  obtain ⟨bZ,bc,a1,cn,cC,rfl,ah,hB⟩:=hB.cons
  obtain ⟨a5,bh,bR,ch,cF,rfl,aD,hB⟩:=hB.cons
  obtain ⟨aO,aK,aM,aR,a2,rfl,aa,hB⟩:=hB.cons
  obtain ⟨aN,aF,aQ,aL,bg,rfl,ad,hB⟩:=hB.cons
  obtain rfl:=hB.nil
  replace ay:=ay.mono (m:=64) (by omega)
  replace aw:=aw.mono (m:=64) (by omega)
  replace aB:=aB.mono (m:=64) (by omega)
  replace ar:=ar.mono (m:=64) (by omega)
  replace av:=av.mono (m:=64) (by omega)
  replace ae:=ae.mono (m:=64) (by omega)
  replace az:=az.mono (m:=64) (by omega)
  replace ax:=ax.mono (m:=64) (by omega)
  replace ah:=ah.mono (m:=64) (by omega)
  replace aD:=aD.mono (m:=64) (by omega)
  replace aa:=aa.mono (m:=64) (by omega)
  replace ad:=ad.mono (m:=64) (by omega)
  have hr:=hp.1
  unfold rs12 at hr
  simp only [Bool.and_eq_true] at hr
  obtain ⟨l,hl,hrl⟩:=yb0 (runCo _ _ _ _ _ _ _ _ _ _ _ _ _ _ _ _ _ _ _ _ _ _ _ _)
  refine (ze7 sysCo sysCo_ok hl (X:=zF1 [a6,b7,a9,bB,pa1,bD,a4,aU,cc,b4,bo,b8,bn,bi,aW,bC,bE,cm,bu,bT,bM,bp,bG,bd,bk,bX,bS,co,bU,bq,bO,bz,bx,bY,ce,bt,bb,cq,cd,bm,aJ,aP,aG,aT,aH,aI,aS,aE,ct,bP,cg,a7,ca,bj,bA,bV,cu,aX,bJ,bK,ck,aY,bH,bQ,bv,cl,aV,b9,b5,a8,ba,bN,aZ,bL,cj,b6,a0,a3,bW,bf,bZ,bc,a1,cn,a5,bh,bR,ch,aO,aK,aM,aR,aN,aF,aQ,aL]) (hI w hw) (okF2 (zi1 ⟨⟨rfl,af⟩,⟨rfl,af⟩,⟨rfl,af⟩,⟨rfl,af⟩,⟨rfl,al⟩,⟨rfl,al⟩,⟨rfl,al⟩,⟨rfl,al⟩,⟨rfl,aq⟩,⟨rfl,aq⟩,⟨rfl,aq⟩,⟨rfl,aq⟩,⟨rfl,ak⟩,⟨rfl,ak⟩,⟨rfl,ak⟩,⟨rfl,ak⟩,⟨rfl,ap⟩,⟨rfl,ap⟩,⟨rfl,ap⟩,⟨rfl,ap⟩,⟨rfl,ai⟩,⟨rfl,ai⟩,⟨rfl,ai⟩,⟨rfl,ai⟩,⟨rfl,aj⟩,⟨rfl,aj⟩,⟨rfl,aj⟩,⟨rfl,aj⟩,⟨rfl,aC⟩,⟨rfl,aC⟩,⟨rfl,aC⟩,⟨rfl,aC⟩,⟨rfl,au⟩,⟨rfl,au⟩,⟨rfl,au⟩,⟨rfl,au⟩,⟨rfl,aA⟩,⟨rfl,aA⟩,⟨rfl,aA⟩,⟨rfl,aA⟩,⟨rfl,ab⟩,⟨rfl,ab⟩,⟨rfl,ab⟩,⟨rfl,ab⟩,⟨rfl,ac⟩,⟨rfl,ac⟩,⟨rfl,ac⟩,⟨rfl,ac⟩,trivial⟩) (zi1 ⟨⟨rfl,ay⟩,⟨rfl,ay⟩,⟨rfl,ay⟩,⟨rfl,ay⟩,⟨rfl,aw⟩,⟨rfl,aw⟩,⟨rfl,aw⟩,⟨rfl,aw⟩,⟨rfl,aB⟩,⟨rfl,aB⟩,⟨rfl,aB⟩,⟨rfl,aB⟩,⟨rfl,ar⟩,⟨rfl,ar⟩,⟨rfl,ar⟩,⟨rfl,ar⟩,⟨rfl,av⟩,⟨rfl,av⟩,⟨rfl,av⟩,⟨rfl,av⟩,⟨rfl,ae⟩,⟨rfl,ae⟩,⟨rfl,ae⟩,⟨rfl,ae⟩,⟨rfl,az⟩,⟨rfl,az⟩,⟨rfl,az⟩,⟨rfl,az⟩,⟨rfl,ax⟩,⟨rfl,ax⟩,⟨rfl,ax⟩,⟨rfl,ax⟩,⟨rfl,ah⟩,⟨rfl,ah⟩,⟨rfl,ah⟩,⟨rfl,ah⟩,⟨rfl,aD⟩,⟨rfl,aD⟩,⟨rfl,aD⟩,⟨rfl,aD⟩,⟨rfl,aa⟩,⟨rfl,aa⟩,⟨rfl,aa⟩,⟨rfl,aa⟩,⟨rfl,ad⟩,⟨rfl,ad⟩,⟨rfl,ad⟩,⟨rfl,ad⟩,trivial⟩)) (Post:=fun v=>v=.so (.vg l)) rfl).mono fun e w' he=>?_
  obtain ⟨v,X',m,rfl,g,_,hv,rfl⟩:=he
  have hh:=zB3 hrl hv
  exact yo6 (l:=coL _) ⟨⟨_,rfl,hh.conv ⟨⟨rfl,zp5 hr.1.1.1.1.1.1.1.1.1.1.1,by decide⟩,⟨rfl,zp5 hr.1.1.1.1.1.1.1.1.1.1.2,by decide⟩,⟨rfl,zp5 hr.1.1.1.1.1.1.1.1.1.2,by decide⟩,⟨rfl,zp5 hr.1.1.1.1.1.1.1.1.2,by decide⟩,⟨rfl,zp5 hr.1.1.1.1.1.1.1.2,by decide⟩,⟨rfl,zp5 hr.1.1.1.1.1.1.2,by decide⟩,⟨rfl,zp5 hr.1.1.1.1.1.2,by decide⟩,⟨rfl,zp5 hr.1.1.1.1.2,by decide⟩,⟨rfl,zp5 hr.1.1.1.2,by decide⟩,⟨rfl,zp5 hr.1.1.2,by decide⟩,⟨rfl,zp5 hr.1.2,by decide⟩,⟨rfl,zp5 hr.2,by decide⟩,trivial⟩⟩,g⟩
 ·cases hT
noncomputable def tabMp:List (Nat × List (Nat × Ent)):=[(4,[(11,.ort [(true,0),(true,1),(true,2),(true,3),(true,4),(true,7),(true,8),(true,9),(true,11),(true,12),(false,5),(false,6),(false,10),(false,13),(false,14),(false,15),(false,16),(false,17)] [3,4,5] [([15],3),([16],4),([17],5)])]),
 (18,[(1,.ord [(true,0),(true,1),(true,3),(true,4),(false,2),(false,5),(true,6),(false,7)] [2])]),
 (19,[(5,.ord [(true,0),(true,1),(true,3),(true,4),(false,2),(true,5),(false,6)] [1])]),
 (20,[]),
 (23,[]),
 (26,[(9,.ord [(true,0),(true,1),(true,2),(true,3),(true,4),(true,5),(true,6),(true,7),(true,8),(true,10),(true,11),(false,9),(true,12),(false,13)] [6])]),
 (46,[(1,.ord [(true,0),(true,1),(true,3),(true,4),(false,2),(false,5),(false,6)] [4])]),
 (47,[(1,.ord [(true,0),(true,1),(true,2),(true,3),(true,5),(true,6),(true,7),(true,8),(true,10),(true,11),(true,12),(true,13),(false,4),(false,9),(false,14),(true,15),(false,16)] [4])]),
 (62,[(1,.ord [(true,0),(true,1),(true,2),(true,3),(true,4),(true,5),(true,6),(true,7),(true,8),(true,9),(true,10),(true,11)] []),(11,.ord [(true,0),(true,1),(true,2),(true,3),(true,4),(true,5),(true,6),(true,8),(true,10),(false,7),(false,9),(true,11),(false,12)] [9])]),
 (63,[]),
 (70,[(8,.ord [(true,0),(true,1),(true,2),(true,3),(true,4),(true,5),(true,6),(true,7),(true,8),(false,9)] [3])]),
 (71,[(1,.ord [(true,0),(true,1),(true,2),(true,3),(true,5),(true,6),(true,7),(true,8),(true,11),(true,12),(true,13),(true,14),(false,4),(false,9),(false,10),(false,15),(false,16),(true,17)] [])]),
 (88,[(1,.ord [(true,0),(true,1),(true,2),(true,3),(true,5),(true,6),(true,7),(true,8),(true,10),(true,11),(true,12),(true,13),(false,4),(false,9),(false,14),(true,15),(false,16)] [4])])]
noncomputable def conMp:List (Nat × ConT):=[(103,zj6 100000 (fun k m=>k+m+1) (fun a b=>a+b)),
 (75,zj6 100000 (fun k m=>k+m+1) (fun a b=>a - b)),
 (82,zj6 100000 (fun k m=>k+m) (fun a b=>a*b)),
 (108,cNeg),
 (59,zY8),
 (37,zY9),
 (76,zS9),
 (87,zZ0),
 (130,cNum),
 (81,cDen),
 (58,cDiv),
 (96,zy6),
 (80,zT0),
 (122,zT1),
 (123,zT2),
 (68,zZ1),
 (105,cTT (fun k m=>k+m+1) fun a b=>a+b),
 (132,cTT (fun k m=>k+m+1) fun a b=>a - b),
 (106,cTT (fun k m=>k+m) fun a b=>a*b),
 (64,zZ2),
 (115,zZ3),
 (65,zD1),
 (94,zt8 400),
 (107,zt8 65536),
 (15,cChk),
 (66,zT5),
 (14,cOf),
 (16,cMEq),
 (67,yl8),
 (21,cPlc),
 (11,zM5),
 (22,cPlace),
 (25,cProd),
 (27,cPlcd),
 (24,cMcp)]
noncomputable def sysMp:Sys:=⟨Tryz.prog,2,199,tabMp,conMp,fun w=>Tab w∧Mx w⟩
theorem sysMp_ok:sysMp.OK where
 mixed:=by kernel_rfl
 calls:=fun f h0 h1=>by
  have:(List.range 199).all (fun f=>Nat.blt f 2||okCall Tryz.prog f)=true:=by kernel_rfl
  have:=List.all_eq_true.1 this f (List.mem_range.2 h1)
  simp only [Bool.or_eq_true] at this
  exact this.resolve_left (fun e=>by have:=ze6 e;exact absurd h0 (by show ¬ 2≤f;omega))
 tab:=by
  have:tabMp.all (okTab Tryz.prog)=true:=by kernel_rfl
  exact fun x hx=>List.all_eq_true.1 this x hx
 lps:=zy1 (by kernel_rfl)
 con:=fun x hx=>by
  simp only [sysMp,conMp,List.mem_cons,List.not_mem_nil,or_false] at hx
  rcases hx with rfl | rfl | rfl | rfl | rfl | rfl | rfl | rfl | rfl | rfl | rfl | rfl | rfl | rfl | rfl | rfl | rfl | rfl | rfl | rfl | rfl | rfl | rfl | rfl | rfl | rfl | rfl | rfl | rfl | rfl | rfl | rfl | rfl | rfl | rfl
  ·exact zc4 fun h1 h2 h3=>zi7 h1 h2 h3
  ·exact zc4 fun h1 h2 h3=>zt6 h1 h2 h3
  ·exact zc4 fun h1 h2 h3=>yb2 h1 h2 h3
  ·exact zu9
  ·exact zo0
  ·exact zo1
  ·exact zl1
  ·exact zo2 fun w h=>h.1
  ·exact zs0
  ·exact zs1
  ·exact zv0
  ·exact zh9
  ·exact zl2
  ·exact zl3
  ·exact zl4
  ·exact zo3
  ·exact zo4
  ·exact zo5
  ·exact zo6
  ·exact zo7
  ·exact zo8
  ·exact zj8
  ·exact zo9 fun w h=>h.2
  ·exact zp0 fun w h=>h.2
  ·exact zB1 fun w h=>h.2
  ·exact zp1
  ·exact yg2 fun w h=>h
  ·exact zG4
  ·exact zv9
  ·exact zP7 fun w h=>h
  ·exact zw0 fun w h=>h
  ·exact yr9 fun w h=>h
  ·exact cProd_ok
  ·exact cPlcd_ok fun w h=>h
  ·exact cMcp_ok fun w h=>h
 inv:=fun w w' h g=>⟨h.1.gr g,h.2.gr g⟩
def ksP:List IntKind:=[.i8,.i8,.i8,.i8,.i8,.i8,.i8,.u8]
def oneB (A:Mo) (q0 q1 q2 q3:Int) (x1 x2 x3:Rat):Bool:=zj1 [pif (ePl A) (zwM A 0),pif (ePl A) (zwM A 1),pif (ePl A) (zwM A 2),pif (ePl A) (zwM A 3)] [q0,q1,q2,q3]&&sEq [pit (ePl A) (za1 (A 9)),pit (ePl A) (za1 (A 10)),pit (ePl A) (za1 (A 11))] [za1 x1,za1 x2,za1 x3]
def yb1:List (List Int)→Mo→Int→Int→Int→Int→Mo→Lf
 | [],M,a,b,c,d,R=>.as (eqP M a b c d (R 9) (R 10) (R 11)) true (.as (ePl M==ePd a b c d (R 9) (R 10) (R 11)) true (.ret (.so (.vc (.cb (ePl M==ePd a b c d (R 9) (R 10) (R 11)) (some true))))))
 | [t0,t1,t2,t3,i1,i2,i3,e]::l,M,a,b,c,d,R=>.as (decide (chk (qd t0 t1 t2 t3 0) (qd t0 t1 t2 t3 1) (qd t0 t1 t2 t3 2) (qd t0 t1 t2 t3 3) 0=0)) true (.as (ePl (m12 (pm (roE (qd t0 t1 t2 t3 0) (qd t0 t1 t2 t3 1) (qd t0 t1 t2 t3 2) (qd t0 t1 t2 t3 3)) (sq i1 e) (sq i2 e) (sq i3 e))) !=0) false (.as (!oneB (m12 (pm (roE (qd t0 t1 t2 t3 0) (qd t0 t1 t2 t3 1) (qd t0 t1 t2 t3 2) (qd t0 t1 t2 t3 3)) (sq i1 e) (sq i2 e) (sq i3 e))) (qd t0 t1 t2 t3 0) (qd t0 t1 t2 t3 1) (qd t0 t1 t2 t3 2) (qd t0 t1 t2 t3 3) (sq i1 e) (sq i2 e) (sq i3 e)) false (.as (decide (chk (qd t0 t1 t2 t3 0) (qd t0 t1 t2 t3 1) (qd t0 t1 t2 t3 2) (qd t0 t1 t2 t3 3) 0=0)) true (.as (rs12 (mc M (m12 (pm (roE (qd t0 t1 t2 t3 0) (qd t0 t1 t2 t3 1) (qd t0 t1 t2 t3 2) (qd t0 t1 t2 t3 3)) (sq i1 e) (sq i2 e) (sq i3 e))))) true (.as (smB 1000000 a b c d (qd t0 t1 t2 t3 0) (qd t0 t1 t2 t3 1) (qd t0 t1 t2 t3 2) (qd t0 t1 t2 t3 3)) true (asN 9 (nN (qd t0 t1 t2 t3 0) (qd t0 t1 t2 t3 1) (qd t0 t1 t2 t3 2) (qd t0 t1 t2 t3 3))
  (yb1 l (m12 (mc M (m12 (pm (roE (qd t0 t1 t2 t3 0) (qd t0 t1 t2 t3 1) (qd t0 t1 t2 t3 2) (qd t0 t1 t2 t3 3)) (sq i1 e) (sq i2 e) (sq i3 e))))) (qmp a b c d (qd t0 t1 t2 t3 0) (qd t0 t1 t2 t3 1) (qd t0 t1 t2 t3 2) (qd t0 t1 t2 t3 3) 0) (qmp a b c d (qd t0 t1 t2 t3 0) (qd t0 t1 t2 t3 1) (qd t0 t1 t2 t3 2) (qd t0 t1 t2 t3 3) 1) (qmp a b c d (qd t0 t1 t2 t3 0) (qd t0 t1 t2 t3 1) (qd t0 t1 t2 t3 2) (qd t0 t1 t2 t3 3) 2) (qmp a b c d (qd t0 t1 t2 t3 0) (qd t0 t1 t2 t3 1) (qd t0 t1 t2 t3 2) (qd t0 t1 t2 t3 3) 3) (m12 (mf R (m12 (pm (roE (qd t0 t1 t2 t3 0) (qd t0 t1 t2 t3 1) (qd t0 t1 t2 t3 2) (qd t0 t1 t2 t3 3)) (sq i1 e) (sq i2 e) (sq i3 e))))))))))))
 | _::_,_,_,_,_,_,_=>.ret .su
def zU9 (l:List (List Int)):Lf:=asN 9 (nN 1 0 0 0) (yb1 l (m12 idm) 1 0 0 0 (m12 (pm (roE 1 0 0 0) 0 0 0)))
theorem runMp0 (v:Value):zP0 sysMp 4 [.fs v 0 8 []] 0 0 (.t (.t .e))=some (zU9 []):=by kernel_rfl
theorem runMp1 (v:Value) (t0a t1a t2a t3a i1a i2a i3a da:Int):zP0 sysMp 4 [.fs v 1 8 [[.ci .i8 t0a (-128) 127,.ci .i8 t1a (-128) 127,.ci .i8 t2a (-128) 127,.ci .i8 t3a (-128) 127,.ci .i8 i1a (-128) 127,.ci .i8 i2a (-128) 127,.ci .i8 i3a (-128) 127,.ci .u8 da 0 255]]] 0 0 (.f (.f (.t (.t .e))))=some (zU9 [[t0a,t1a,t2a,t3a,i1a,i2a,i3a,da]]):=by kernel_rfl
theorem runMp2 (v:Value) (aa ai af ac al aq ah da ak ar aj ae ab ap ad db:Int):zP0 sysMp 4 [.fs v 2 8 [[.ci .i8 aa (-128) 127,.ci .i8 ai (-128) 127,.ci .i8 af (-128) 127,.ci .i8 ac (-128) 127,.ci .i8 al (-128) 127,.ci .i8 aq (-128) 127,.ci .i8 ah (-128) 127,.ci .u8 da 0 255],[.ci .i8 ak (-128) 127,.ci .i8 ar (-128) 127,.ci .i8 aj (-128) 127,.ci .i8 ae (-128) 127,.ci .i8 ab (-128) 127,.ci .i8 ap (-128) 127,.ci .i8 ad (-128) 127,.ci .u8 db 0 255]]] 0 0 (.f (.f (.f (.f (.t (.t .e))))))=some (zU9 [[aa,ai,af,ac,al,aq,ah,da],[ak,ar,aj,ae,ab,ap,ad,db]]):=by kernel_rfl
theorem runMp3 (v:Value) (ab al ah ad aw ay ak da au az aq af ac ax ae db ar ap aA av ai aj aa dc:Int):zP0 sysMp 4 [.fs v 3 8 [[.ci .i8 ab (-128) 127,.ci .i8 al (-128) 127,.ci .i8 ah (-128) 127,.ci .i8 ad (-128) 127,.ci .i8 aw (-128) 127,.ci .i8 ay (-128) 127,.ci .i8 ak (-128) 127,.ci .u8 da 0 255],[.ci .i8 au (-128) 127,.ci .i8 az (-128) 127,.ci .i8 aq (-128) 127,.ci .i8 af (-128) 127,.ci .i8 ac (-128) 127,.ci .i8 ax (-128) 127,.ci .i8 ae (-128) 127,.ci .u8 db 0 255],[.ci .i8 ar (-128) 127,.ci .i8 ap (-128) 127,.ci .i8 aA (-128) 127,.ci .i8 av (-128) 127,.ci .i8 ai (-128) 127,.ci .i8 aj (-128) 127,.ci .i8 aa (-128) 127,.ci .u8 dc 0 255]]] 0 0 (.f (.f (.f (.f (.f (.f (.t (.t .e))))))))=some (zU9 [[ab,al,ah,ad,aw,ay,ak,da],[au,az,aq,af,ac,ax,ae,db],[ar,ap,aA,av,ai,aj,aa,dc]]):=by kernel_rfl
theorem runMp4 (v:Value) (m:Nat):zP0 sysMp 4 [.fs v (m+4) 8 []] 0 0 .e=some (.ret (.so (.vc (.cb true (some true))))):=by kernel_rfl
set_option maxRecDepth 100000
theorem rs00 (k:Nat) (hk:0<k):RS k (0:Rat):=⟨Nat.two_pow_pos k,Nat.one_lt_two_pow (by omega)⟩
theorem one_pl {q0 q1 q2 q3:Int} (hv:VT q0 q1 q2 q3) {x1 x2 x3:Rat} (s1:RS 64 x1) (s2:RS 64 x2) (s3:RS 64 x3):(ePl (m12 (pm (roE q0 q1 q2 q3) x1 x2 x3)) !=0)=false∧oneB (m12 (pm (roE q0 q1 q2 q3) x1 x2 x3)) q0 q1 q2 q3 x1 x2 x3=true:=by
 obtain ⟨h1,h2⟩:=ys6 (A:=pm (roE q0 q1 q2 q3) x1 x2 x3) (x1:=x1) (x2:=x2) (x3:=x3) hv.ne (ye6 hv) (hv.prim q0).symm (hv.prim q1).symm (hv.prim q2).symm (hv.prim q3).symm rfl rfl rfl
 have ln:∀ {x:Rat},RS 64 x→((za1 x).length:Int)≤400:=fun h=>by have:=zn4 h.1 h.2;omega
 have e0:ePd q0 q1 q2 q3 x1 x2 x3=0:=by unfold ePd yv6;rw [if_pos rfl,if_pos ⟨hv.b0,hv.b1,hv.b2,hv.b3⟩,if_pos ⟨ln s1,ln s2,ln s3⟩]
 have p:∀ z,pif 0 z=z:=fun z=>if_pos rfl
 have t:∀ x,pit 0 x=x:=fun x=>if_pos rfl
 refine ⟨by rw [h1,e0];rfl,?_⟩
 unfold eqP at h2
 rw [e0] at h2
 simp only [p,t] at h2
 exact h2
theorem smul_rot {A:Mo} {n0 n1 n2 n3:Int} (hn:¬(n0=0∧n1=0∧n2=0∧n3=0)) (h:RotM A n0 n1 n2 n3):RotM A (qprim n0 n1 n2 n3 n0) (qprim n0 n1 n2 n3 n1) (qprim n0 n1 n2 n3 n2) (qprim n0 n1 n2 n3 n3)∧¬(qprim n0 n1 n2 n3 n0=0∧qprim n0 n1 n2 n3 n1=0∧qprim n0 n1 n2 n3 n2=0∧qprim n0 n1 n2 n3 n3=0):=by
 obtain ⟨d0,d1,d2,d3⟩:=zk5 n0 n1 n2 n3
 have hs:qsgn n0 n1 n2 n3*qsgn n0 n1 n2 n3=1:=by rcases zm3 hn with e | e<;>rw [e]<;>rfl
 have hg:=zs8 hn
 have key:∀ {n:Int},qgcd n0 n1 n2 n3∣n→n=(qgcd n0 n1 n2 n3*qsgn n0 n1 n2 n3)*qprim n0 n1 n2 n3 n:=fun {n} hd=>by
  obtain ⟨m,rfl⟩:=hd
  unfold qprim
  rw [Int.mul_ediv_cancel_left _ (by omega)]
  have:qgcd n0 n1 n2 n3*qsgn n0 n1 n2 n3*(m*qsgn n0 n1 n2 n3)=qgcd n0 n1 n2 n3*m*(qsgn n0 n1 n2 n3*qsgn n0 n1 n2 n3):=by grind
  rw [this,hs,Int.mul_one]
 have k0:=key d0;have k1:=key d1;have k2:=key d2;have k3:=key d3
 have hk:((qgcd n0 n1 n2 n3*qsgn n0 n1 n2 n3:Int):Rat)≠0:=fun e=>by
  have e:qgcd n0 n1 n2 n3*qsgn n0 n1 n2 n3=0:=by exact_mod_cast e
  rw [e] at k0 k1 k2 k3
  exact hn ⟨by rw [k0];omega,by rw [k1];omega,by rw [k2];omega,by rw [k3];omega⟩
 have c:∀ {n:Int},qgcd n0 n1 n2 n3∣n→(n:Rat)=((qgcd n0 n1 n2 n3*qsgn n0 n1 n2 n3:Int):Rat)*((qprim n0 n1 n2 n3 n:Int):Rat):=fun {n} hd=>by
  have:=congrArg (fun z:Int=>(z:Rat)) (key hd)
  simp only [Rat.intCast_mul] at this ⊢
  exact this
 refine ⟨?_,fun e=>hn ⟨by rw [k0,e.1];omega,by rw [k1,e.2.1];omega,by rw [k2,e.2.2.1];omega,by rw [k3,e.2.2.2];omega⟩⟩
 unfold RotM at h ⊢
 rw [c d0,c d1,c d2,c d3] at h
 exact zW6 hk h
structure PlI (A R:Mo) (a b c d:Int) (B:Int) (k:Nat):Prop where
 ex:∃ n0 n1 n2 n3:Int,¬(n0=0∧n1=0∧n2=0∧n3=0)∧RotM A n0 n1 n2 n3∧a=qprim n0 n1 n2 n3 n0∧b=qprim n0 n1 n2 n3 n1∧c=qprim n0 n1 n2 n3 n2∧d=qprim n0 n1 n2 n3 n3
 e:∀ i,i<12→R i=A i
 s:RS k (A 9)∧RS k (A 10)∧RS k (A 11)
 b:(-B≤a∧a≤B)∧(-B≤b∧b≤B)∧(-B≤c∧c≤B)∧(-B≤d∧d≤B)
theorem zM7:∀ (l:List (List Int)) (A R:Mo) (a b c d B:Int) (k:Nat),(∀ x ∈ l,x.length=8∧∀ (i:Nat) (k:IntKind),ksP[i]?=some k→k.has (x.getD i 0))→PlI A R a b c d B k→0≤B→B*48 ^ l.length≤1000000→k+400*l.length≤5000→LOK isT (yb1 l (m12 A) a b c d R)
 | [],A,R,a,b,c,d,B,k,_,h,_,_,_=>by
  obtain ⟨n0,n1,n2,n3,hn,hr,e0,e1,e2,e3⟩:=h.ex
  obtain ⟨p1,p2⟩:=ys6 (x1:=R 9) (x2:=R 10) (x3:=R 11) hn hr e0 e1 e2 e3 (h.e 9 (by decide)).symm (h.e 10 (by decide)).symm (h.e 11 (by decide)).symm
  have p3:(ePl (m12 A)==ePd a b c d (R 9) (R 10) (R 11))=true:=by rw [p1];exact eqj _
  exact ⟨p2,p3,isT_of p3⟩
 | x::l,A,R,a,b,c,d,B,k,hx,h,hB0,hB,hk=>by
  obtain ⟨hl,hh⟩:=hx x (by simp)
  obtain ⟨t0,t1,t2,t3,i1,i2,i3,e,rfl⟩:∃ t0 t1 t2 t3 i1 i2 i3 e,x=[t0,t1,t2,t3,i1,i2,i3,e]:=by
   match x,hl with
   | [t0,t1,t2,t3,i1,i2,i3,e],_=>exact ⟨_,_,_,_,_,_,_,_,rfl⟩
  have g1:=yu4 (hh 4 .i8 rfl);have g2:=yu4 (hh 5 .i8 rfl);have g3:=yu4 (hh 6 .i8 rfl);have g4:=yu4 (hh 7 .u8 rfl)
  have s1:RS 16 (sq i1 e):=zE8 g1 g4 rfl
  have s2:RS 16 (sq i2 e):=zE8 g2 g4 rfl
  have s3:RS 16 (sq i3 e):=zE8 g3 g4 rfl
  have hv:=qd_vt t0 t1 t2 t3
  obtain ⟨o1,o2⟩:=one_pl hv (s1.mono (show 16≤64 by decide)) (s2.mono (show 16≤64 by decide)) (s3.mono (show 16≤64 by decide))
  obtain ⟨n0,n1,n2,n3,hn,hr,e0,e1,e2,e3⟩:=h.ex
  obtain ⟨hr',hn'⟩:=smul_rot hn hr
  rw [← e0,← e1,← e2,← e3] at hr' hn'
  have hm:¬((qm a b c d (qd t0 t1 t2 t3 0) (qd t0 t1 t2 t3 1) (qd t0 t1 t2 t3 2) (qd t0 t1 t2 t3 3) 0)=0∧(qm a b c d (qd t0 t1 t2 t3 0) (qd t0 t1 t2 t3 1) (qd t0 t1 t2 t3 2) (qd t0 t1 t2 t3 3) 1)=0∧(qm a b c d (qd t0 t1 t2 t3 0) (qd t0 t1 t2 t3 1) (qd t0 t1 t2 t3 2) (qd t0 t1 t2 t3 3) 2)=0∧(qm a b c d (qd t0 t1 t2 t3 0) (qd t0 t1 t2 t3 1) (qd t0 t1 t2 t3 2) (qd t0 t1 t2 t3 3) 3)=0):=qmul_ne hn' hv.ne rfl rfl rfl rfl
  have hp:RotM (m12 (pm (roE (qd t0 t1 t2 t3 0) (qd t0 t1 t2 t3 1) (qd t0 t1 t2 t3 2) (qd t0 t1 t2 t3 3)) (sq i1 e) (sq i2 e) (sq i3 e))) (qd t0 t1 t2 t3 0) (qd t0 t1 t2 t3 1) (qd t0 t1 t2 t3 2) (qd t0 t1 t2 t3 3):=ye6 hv
  have hc:RotM (mc (m12 A) (m12 (pm (roE (qd t0 t1 t2 t3 0) (qd t0 t1 t2 t3 1) (qd t0 t1 t2 t3 2) (qd t0 t1 t2 t3 3)) (sq i1 e) (sq i2 e) (sq i3 e)))) (qm a b c d (qd t0 t1 t2 t3 0) (qd t0 t1 t2 t3 1) (qd t0 t1 t2 t3 2) (qd t0 t1 t2 t3 3) 0) (qm a b c d (qd t0 t1 t2 t3 0) (qd t0 t1 t2 t3 1) (qd t0 t1 t2 t3 2) (qd t0 t1 t2 t3 3) 1) (qm a b c d (qd t0 t1 t2 t3 0) (qd t0 t1 t2 t3 1) (qd t0 t1 t2 t3 2) (qd t0 t1 t2 t3 3) 2) (qm a b c d (qd t0 t1 t2 t3 0) (qd t0 t1 t2 t3 1) (qd t0 t1 t2 t3 2) (qd t0 t1 t2 t3 3) 3):=mc_rot (A:=m12 A) hr' hp rfl rfl rfl rfl
  have af:B*48≤1000000:=by
   have ad:(1:Int)≤48 ^ l.length:=Int.pow_pos (by decide)
   have:B*48*1≤B*48*48 ^ l.length:=Int.mul_le_mul_of_nonneg_left ad (by omega)
   rw [List.length_cons,Int.pow_succ,Int.mul_comm (48 ^ l.length) 48,← Int.mul_assoc] at hB
   omega
  obtain ⟨b0,b1,b2,b3⟩:=h.b
  have v0:=hv.b0;have v1:=hv.b1;have v2:=hv.b2;have v3:=hv.b3
  have m:∀ {p q:Int},-B≤p∧p≤B→-12≤q∧q≤12→-(B*12)≤p*q∧p*q≤B*12:=fun h g=>ze8 h g
  have u0:-(B*48)≤(qm a b c d (qd t0 t1 t2 t3 0) (qd t0 t1 t2 t3 1) (qd t0 t1 t2 t3 2) (qd t0 t1 t2 t3 3) 0)∧(qm a b c d (qd t0 t1 t2 t3 0) (qd t0 t1 t2 t3 1) (qd t0 t1 t2 t3 2) (qd t0 t1 t2 t3 3) 0)≤B*48:=by
   have:=m b0 v0;have:=m b1 v1;have:=m b2 v2;have:=m b3 v3
   simp only [qm];omega
  have u1:-(B*48)≤(qm a b c d (qd t0 t1 t2 t3 0) (qd t0 t1 t2 t3 1) (qd t0 t1 t2 t3 2) (qd t0 t1 t2 t3 3) 1)∧(qm a b c d (qd t0 t1 t2 t3 0) (qd t0 t1 t2 t3 1) (qd t0 t1 t2 t3 2) (qd t0 t1 t2 t3 3) 1)≤B*48:=by
   have:=m b0 v1;have:=m b1 v0;have:=m b2 v3;have:=m b3 v2
   simp only [qm];omega
  have u2:-(B*48)≤(qm a b c d (qd t0 t1 t2 t3 0) (qd t0 t1 t2 t3 1) (qd t0 t1 t2 t3 2) (qd t0 t1 t2 t3 3) 2)∧(qm a b c d (qd t0 t1 t2 t3 0) (qd t0 t1 t2 t3 1) (qd t0 t1 t2 t3 2) (qd t0 t1 t2 t3 3) 2)≤B*48:=by
   have:=m b0 v2;have:=m b1 v3;have:=m b2 v0;have:=m b3 v1
   simp only [qm];omega
  have u3:-(B*48)≤(qm a b c d (qd t0 t1 t2 t3 0) (qd t0 t1 t2 t3 1) (qd t0 t1 t2 t3 2) (qd t0 t1 t2 t3 3) 3)∧(qm a b c d (qd t0 t1 t2 t3 0) (qd t0 t1 t2 t3 1) (qd t0 t1 t2 t3 2) (qd t0 t1 t2 t3 3) 3)≤B*48:=by
   have:=m b0 v3;have:=m b1 v2;have:=m b2 v1;have:=m b3 v0
   simp only [qm];omega
  obtain ⟨w0,w1,w2,w3,w4,w5,w6,w7,w8⟩:=yb9 hm (by omega) (by omega) (by omega) (by omega) hc
  obtain ⟨r0,r1,r2,r3,r4,r5,r6,r7,r8⟩:=yb9 hn' (by omega) (by omega) (by omega) (by omega) hr'
  have z0:RS 1 (0:Rat):=rs00 1 (by decide)
  have sh:∀ {x y z t:Rat},RS 50 x→RS 50 y→RS 50 z→RS k t→RS (k+400) (d3 x y z (sq i1 e) (sq i2 e) (sq i3 e)+t):=fun hx hy hz ht=>by
   unfold d3
   exact (((((z0.add (hx.mul s1)).add (hy.mul s2)).add (hz.mul s3)).add ht)).mono (by omega)
  simp only [List.length_cons] at hk hB
  have c9:RS (k+400) (mc (m12 A) (m12 (pm (roE (qd t0 t1 t2 t3 0) (qd t0 t1 t2 t3 1) (qd t0 t1 t2 t3 2) (qd t0 t1 t2 t3 3)) (sq i1 e) (sq i2 e) (sq i3 e))) 9):=sh r0 r1 r2 h.s.1
  have ab:RS (k+400) (mc (m12 A) (m12 (pm (roE (qd t0 t1 t2 t3 0) (qd t0 t1 t2 t3 1) (qd t0 t1 t2 t3 2) (qd t0 t1 t2 t3 3)) (sq i1 e) (sq i2 e) (sq i3 e))) 10):=sh r3 r4 r5 h.s.2.1
  have aa:RS (k+400) (mc (m12 A) (m12 (pm (roE (qd t0 t1 t2 t3 0) (qd t0 t1 t2 t3 1) (qd t0 t1 t2 t3 2) (qd t0 t1 t2 t3 3)) (sq i1 e) (sq i2 e) (sq i3 e))) 11):=sh r6 r7 r8 h.s.2.2
  have hrs:rs12 (mc (m12 A) (m12 (pm (roE (qd t0 t1 t2 t3 0) (qd t0 t1 t2 t3 1) (qd t0 t1 t2 t3 2) (qd t0 t1 t2 t3 3)) (sq i1 e) (sq i2 e) (sq i3 e))))=true:=by
   unfold rs12
   have tu:∀ {x:Rat},RS 50 x→rsB 64 x=true:=fun h=>rsB_of (RS.mono h (show 50≤64 by decide))
   have tv:∀ {x:Rat},RS (k+400) x→rsB 5000 x=true:=fun h=>rsB_of (RS.mono h (show _≤5000 by omega))
   simp only [Bool.and_eq_true]
   exact ⟨⟨⟨⟨⟨⟨⟨⟨⟨⟨⟨tu w0,tu w1⟩,tu w2⟩,tu w3⟩,tu w4⟩,tu w5⟩,tu w6⟩,tu w7⟩,tu w8⟩,tv c9⟩,tv ab⟩,tv aa⟩
  have hsm:smB 1000000 a b c d (qd t0 t1 t2 t3 0) (qd t0 t1 t2 t3 1) (qd t0 t1 t2 t3 2) (qd t0 t1 t2 t3 3)=true:=decide_eq_true ⟨⟨by omega,by omega,by omega,by omega⟩,⟨by omega,by omega,by omega,by omega⟩,hm⟩
  have ql:∀ k,(qmp a b c d (qd t0 t1 t2 t3 0) (qd t0 t1 t2 t3 1) (qd t0 t1 t2 t3 2) (qd t0 t1 t2 t3 3) k).natAbs≤(qm a b c d (qd t0 t1 t2 t3 0) (qd t0 t1 t2 t3 1) (qd t0 t1 t2 t3 2) (qd t0 t1 t2 t3 3) k).natAbs:=fun k=>ze3 hm
  have l0:=ql 0;have l1:=ql 1;have l2:=ql 2;have l3:=ql 3
  refine ⟨decide_eq_true (hv.chk 0),o1,by rw [o2];rfl,decide_eq_true (hv.chk 0),hrs,hsm,asN_ok (nn_ne hv) (zM7 l (mc (m12 A) (m12 (pm (roE (qd t0 t1 t2 t3 0) (qd t0 t1 t2 t3 1) (qd t0 t1 t2 t3 2) (qd t0 t1 t2 t3 3)) (sq i1 e) (sq i2 e) (sq i3 e)))) (m12 (mf R (m12 (pm (roE (qd t0 t1 t2 t3 0) (qd t0 t1 t2 t3 1) (qd t0 t1 t2 t3 2) (qd t0 t1 t2 t3 3)) (sq i1 e) (sq i2 e) (sq i3 e))))) _ _ _ _ (B*48) (k+400) (fun x hm=>hx x (by simp [hm])) ⟨⟨_,_,_,_,hm,hc,rfl,rfl,rfl,rfl⟩,fun i hi=>?_,⟨c9,ab,aa⟩,⟨by omega,by omega,by omega,by omega⟩⟩ (by omega) ?_ (by omega))⟩
  ·have hi':m12 (mf R (m12 (pm (roE (qd t0 t1 t2 t3 0) (qd t0 t1 t2 t3 1) (qd t0 t1 t2 t3 2) (qd t0 t1 t2 t3 3)) (sq i1 e) (sq i2 e) (sq i3 e)))) i=mf R (m12 (pm (roE (qd t0 t1 t2 t3 0) (qd t0 t1 t2 t3 1) (qd t0 t1 t2 t3 2) (qd t0 t1 t2 t3 3)) (sq i1 e) (sq i2 e) (sq i3 e))) i:=by
    match i,hi with
    | 0,_ | 1,_ | 2,_ | 3,_ | 4,_ | 5,_ | 6,_ | 7,_ | 8,_ | 9,_ | 10,_ | 11,_=>rfl
   have g:∀ i,i<12→R i=m12 A i:=fun i hi=>by
    rw [h.e i hi]
    match i,hi with
    | 0,_ | 1,_ | 2,_ | 3,_ | 4,_ | 5,_ | 6,_ | 7,_ | 8,_ | 9,_ | 10,_ | 11,_=>rfl
   rw [hi',mc_mf]
   have g0:=g 0 (by decide);have g1:=g 1 (by decide);have g2:=g 2 (by decide);have g3:=g 3 (by decide);have g4:=g 4 (by decide);have g5:=g 5 (by decide);have g6:=g 6 (by decide);have g7:=g 7 (by decide);have g8:=g 8 (by decide);have g9:=g 9 (by decide);have ac:=g 10 (by decide);have ae:=g 11 (by decide)
   unfold mf
   rw [g0,g1,g2,g3,g4,g5,g6,g7,g8,g9,ac,ae]
  ·rw [Int.pow_succ,Int.mul_comm (48 ^ l.length) 48,← Int.mul_assoc] at hB
   exact hB
theorem zw1 {l:List (List Int)} (h:∀ x ∈ l,x.length=8∧∀ (i:Nat) (k:IntKind),ksP[i]?=some k→k.has (x.getD i 0)) (hl:l.length≤3):LOK isT (zU9 l):=by
 refine asN_ok (by decide+kernel) (zM7 l idm _ 1 0 0 0 1 64 h ⟨⟨1,0,0,0,by decide,yw1,by decide+kernel,by decide+kernel,by decide+kernel,by decide+kernel⟩,fun i hi=>?_,⟨rs00 64 (by decide),rs00 64 (by decide),rs00 64 (by decide)⟩,by decide⟩ (by decide) ?_ (by omega))
 ·match i,hi with
  | 0,_ | 1,_ | 2,_ | 3,_ | 4,_ | 5,_ | 6,_ | 7,_ | 8,_ | 9,_ | 10,_ | 11,_=>decide+kernel
 ·match l.length,hl with
  | 0,_ | 1,_ | 2,_ | 3,_=>decide
theorem sl_has {ks:List IntKind} {T:TypeId} {w:World} {v:Value} {xs:List (List Int)} (h:Sl (EK ks) T ks.length w v xs):∀ x ∈ xs,x.length=ks.length∧∀ (i:Nat) (k:IntKind),ks[i]?=some k→k.has (x.getD i 0):=fun x hx=>by
 obtain ⟨ys,_,hl,he⟩:=h
 obtain ⟨i,hi⟩:=List.getElem?_of_mem hx
 have:=he i x hi
 exact ⟨this.1,this.2.2⟩
theorem ym1 {x:List Int} (h:x.length=8):∃ t0 t1 t2 t3 i1 i2 i3 e,x=[t0,t1,t2,t3,i1,i2,i3,e]:=by
 match x,h with
 | [t0,t1,t2,t3,i1,i2,i3,e],_=>exact ⟨_,_,_,_,_,_,_,_,rfl⟩
theorem zQ1 {T:TypeId} {v:Value} {xs:List (List Int)} {w:World} (hs:Sl (EK ksP) T 8 w v xs) (ht:Tab w) (hm:Mx w):
  Calls Tryz.prog 4 #[v] w fun e w'=>e=.returned (.bool true)∧Gr w w':=by
 obtain ⟨K,hK,hok⟩:=sl_fs (ks:=ksP) hs (by decide)
 have hh:=sl_has (ks:=ksP) hs
 have fin:∀ {e:Ending} {w':World} {X:Env},(∃ v X' n,e=.returned (v.den X')∧Gr w w'∧Agr ⟨0,0,0⟩ X X'∧v.ok n X' w'∧isT v)→e=.returned (.bool true)∧Gr w w':=fun ⟨v,X',n,e1,g,_,_,hp⟩=>⟨by rw [e1,hp],g⟩
 have go:∀ {L:Lf} {s:SV} {ds:Dt},zP0 sysMp 4 [s] 0 0 ds=some L→s.den ((zF1 []).wk K)=v→s.ok ⟨0,0,0⟩ ((zF1 []).wk K) w→LOK isT L→Calls Tryz.prog 4 #[v] w fun e w'=>e=.returned (.bool true)∧Gr w w':=fun hr e ho hL=>by
  have:=zP1 sysMp sysMp_ok hr (X:=(zF1 []).wk K) ⟨ht,hm⟩ hK (okF1 ho) hL
  rw [show [_].map (SV.den ((zF1 []).wk K))=[v] from congrArg (fun x=>[x]) e] at this
  exact this.mono fun e w' he=>fin he
 rcases xs with _ | ⟨a,_ | ⟨b,_ | ⟨c,_ | ⟨d,l⟩⟩⟩⟩
 ·exact go (runMp0 v) rfl (hok _ _ rfl) (zw1 hh (by simp))
 ·obtain ⟨ae,ab,ah,af,ac,ad,aa,da,rfl⟩:=ym1 (hh a (by simp)).1
  exact go (runMp1 v ..) rfl (hok _ _ rfl) (zw1 hh (by simp))
 ·obtain ⟨ae,ab,ah,af,ac,ad,aa,da,rfl⟩:=ym1 (hh a (by simp)).1
  obtain ⟨ak,ar,al,ap,ai,aq,aj,db,rfl⟩:=ym1 (hh b (by simp)).1
  exact go (runMp2 v ..) rfl (hok _ _ rfl) (zw1 hh (by simp))
 ·obtain ⟨ae,ab,ah,af,ac,ad,aa,da,rfl⟩:=ym1 (hh a (by simp)).1
  obtain ⟨ak,ar,al,ap,ai,aq,aj,db,rfl⟩:=ym1 (hh b (by simp)).1
  obtain ⟨av,ay,aA,az,ax,au,aw,dc,rfl⟩:=ym1 (hh c (by simp)).1
  exact go (runMp3 v ..) rfl (hok _ _ rfl) (zw1 hh (by simp))
 ·exact go (runMp4 v l.length) rfl ⟨(hok ⟨0,0,0⟩ ((zF1 []).wk K) rfl).1,fun i cs hi=>(by cases hi)⟩ (isT_of rfl)
end Go.Proofs.YtaldbfflkpgfoaaGreatDoor
namespace Go.Proofs.YtaldbfflkpgfoaaGreatDoor
open Go.ChangeShapes Go.WideShapes Go.ChangeAt Go.RowKit

theorem zx0 {W : World} (h : laidMetH Tryz.prog Rows.motionPlacesRow.laid W) : Tab W :=
 Lib.tabIs_of_head (rest := _) (g := 1) (t := 254) (e := 160) (n := 20) (by kernel_rfl) (by kernel_rfl) (by kernel_rfl) (by kernel_rfl) (by kernel_rfl) (by kernel_rfl) ((show laidMet Tryz.prog Rows.motionPlacesRow.laid W from (MakeChecks.laidMetH_plain _ _ _ (by kernel_rfl)) ▸ h).tail.tail)
theorem zu7 {W : World} (h : W.ShapedOpen Tryz.prog) : Mx W :=
 Go.Proofs.cell_of_shapedOpen_int (zero := #[.int .i64 0]) (g := 0) (t := 3) h (of_decide_eq_true (by kernel_rfl)) (by kernel_rfl) rfl (by kernel_rfl) (by kernel_rfl) Tryz.underlying3
set_option maxRecDepth 100000 in
theorem zr7 (H : Type) (enc : TypeId × Value → H) (W : World) (base : Nat) (args : Array Value) (ds gs : List (DataW H)) (before : List MemPlace)
  (hval : ∀ (j : Nat) t v, Tryz.f4.params[j]? = some t → args[j]? = some v → Value.okWide Tryz.prog W .any base t v)
  (hW : DataW.Whole enc Tryz.prog Tryz.f4.params.toList Rows.motionPlacesSpec.vars false W args.toList ds gs before) (hL : laidMetH Tryz.prog Rows.motionPlacesRow.laid W) (hsh : W.ShapedOpen Tryz.prog) :
  Calls Tryz.prog 4 args W fun e W' => ∃ v, e = .returned v ∧ Rows.motionPlacesSpec.post enc Tryz.prog Tryz.f4 false true false false W args v W' := by
 have hW' := hW
 obtain ⟨p, q, aa, hV, rfl, hfz, hnd⟩ := hW
 have hA : DataW.TrodAll enc Tryz.prog W 0 (fun _ => true) true Tryz.f4.params.toList args.toList ds p := aa
 rw [Tryz.params4] at hA hval
 obtain ⟨v0, ac, d0, ad, p0, q0, hargs, rfl, rfl, h0, r0⟩ := trodAll_cons hA
 obtain ⟨rfl, rfl, rfl⟩ := trodAll_nil r0
 obtain rfl : args = #[v0] := by cases args; simp_all
 obtain ⟨rfl, rfl⟩ := trodVars_none hV
 obtain ⟨T0, ab, o0⟩ := yv0 5 (ks := [.i8, .i8, .i8, .i8, .i8, .i8, .i8, .u8]) (e := 62) (by kernel_rfl) (by kernel_rfl) (by kernel_rfl) (by decide) (hval 0 52 v0 rfl rfl) h0
 refine ((fun _ => zQ1 o0)  W (zx0 hL) (zu7 hsh)).mono fun e W' ⟨he, hg⟩ => ?_
 subst he
 exact ⟨_, rfl, law_post (tb := 4) laidOut (by kernel_rfl) (by kernel_rfl) (by kernel_rfl) rfl hW' rfl hg⟩
noncomputable def zg2 (os : Os) : World := World.laidAll Tryz.prog os Rows.motionPlacesRow.laid
theorem zD8 (os : Os) : laidMet Tryz.prog Rows.motionPlacesRow.laid ((zg2 os).forCall (fun _ _ => 0) ⟨#[], #[.slice none 0 0], []⟩).memory :=
 laidMet_laidAll _ (by kernel_rfl) (by kernel_rfl)
theorem zx1 (os : Os) {H : Type} (enc : TypeId × Value → H) : ∃ places, DataW.whole enc Tryz.prog ((zg2 os).forCall (fun _ _ => 0) ⟨#[], #[.slice none 0 0], []⟩).memory Tryz.f4.params.toList Rows.motionPlacesSpec.vars false (#[.slice none 0 0] : Array Value).toList 8 = some ([.nil], [], places) :=
 ⟨[], by kernel_rfl⟩
set_option maxRecDepth 100000 in
theorem zu8 (os : Os) (started : os.Started) (H : Type) (enc : TypeId × Value → H) (F : Stop.Interp) :
  ReturnsInHanded {} Tryz.checked os 4 .any ((OpenSpec.ofChange Rows.motionPlacesSpec).preRow enc Tryz.prog Tryz.f4 Rows.motionPlacesRow.domain false Rows.motionPlacesRow.laid) (((OpenSpec.ofChange Rows.motionPlacesSpec).at F).post enc Tryz.prog Tryz.f4 false true false false) := by
 obtain ⟨places, hx⟩ := zx1 os enc
 refine returnsInHanded_of_row (C := Tryz.checked) (s := OpenSpec.ofChange Rows.motionPlacesSpec) own started (by kernel_rfl) Tryz.func4
  (zL8 (enc := enc) (C := Tryz.checked) false (zg2 os) #[.slice none 0 0] (World.laidAll_os _ _ _) (World.shaped_of_ZipB (by kernel_rfl) (by kernel_rfl)) (by kernel_rfl)
   (OpenSpec.preRow_of_cond 8 hx (by kernel_rfl) (fun k hk => by cases hk) (by kernel_rfl) (by rw [MakeChecks.laidMetH_plain _ _ _ (by kernel_rfl)]; exact zD8 os))) ?_
 intro W base args ds gs before hval hW _ _ _ hL hsh _
 exact zr7 H enc W base args ds gs before hval hW hL hsh
theorem zA3 : Rows.MotionPlacesSaid :=
 OpenClaim.holds_of_cond 4 Tryz.f4 rfl rfl rfl rfl rfl rfl rfl ⟨rfl, rfl, rfl, rfl, rfl⟩ rfl rfl rfl rfl rfl (by kernel_rfl) Tryz.func4 (by kernel_rfl)
  (of_decide_eq_true (by kernel_rfl)) (by unfold Func.isWrapper; first | (rw [if_pos (by decide +kernel)]; kernel_rfl) | (rw [if_neg (by decide +kernel)]; exact ⟨rfl, rfl⟩))
  (fun os started H enc _ F => by rw [OpenClaim.pre_eq_preRow]; exact zu8 os started H enc F)
theorem zx2 (f : FuncId) (fn : Func) (hf : Tryz.pinned.checked.prog.funcNamed "dowel/dowellaw07.MotionPlaces" = some f) (hfn : Tryz.pinned.checked.prog.funcs[f]? = some fn) :
  true = Tryz.pinned.checked.prog.looks [] ∧ ∀ (j : Nat) t, fn.params[j]? = some t → Tryz.pinned.checked.prog.wantsStandIn t = false := by
 obtain rfl : f = 4 := Option.some.inj ((show Tryz.prog.funcNamed "dowel/dowellaw07.MotionPlaces" = some 4 by kernel_rfl).symm.trans hf) |>.symm
 obtain rfl : fn = Tryz.f4 := (Option.some.inj (Tryz.func4.symm.trans hfn)).symm
 refine ⟨by kernel_rfl, fun j t ht => ?_⟩
 rw [Tryz.params4] at ht
 have hm := Array.mem_of_getElem? ht
 have hall : (#[52] : Array TypeId).toList.all (fun t => !Tryz.prog.wantsStandIn t) = true := by kernel_rfl
 have := List.all_eq_true.1 hall t (Array.mem_toList_iff.2 hm)
 have h3 : Tryz.prog.wantsStandIn t = false := by simpa using this
 exact h3
theorem motionPlaces_card : Rows.MotionPlacesCardSaid :=
 Claim7.holds_tied_plain_at .later [] _ _ _ _ zA3 (fun _ h => by cases h) (by kernel_rfl) (fun _ h => by cases h) motionPlaces_row_tie rfl ⟨rfl, rfl⟩ (by kernel_rfl) rfl zx2 (by kernel_rfl)
end Go.Proofs.YtaldbfflkpgfoaaGreatDoor
