/- Joined of: Gen32, Rat2, Gen33, Gen34, Lit2, Gen37, Mk, Rd1, Rd2, Rd3, Ok2, Ars, Arr, Peq, Gen5, Gen6, Gen60, Rord, Gen7, Gen8, Prim, Vec, Inti, Gen52, Vin, Sy2, Sy3, Sy4, Sy5, Sy6, Sy7, Sy8, Sy9, Sya, Syb. -/
import Derived.Test.YtaldbfflkpgfoaaGreatDoorPartC
import Derived.Shelf.Strings.SlTrimAscii
import Derived.Test.YtaldbfflkpgfoaaGreatDoorPartA
import Derived.ChangeKeysEq
import Derived.Laws.StructEq
import Derived.Test.YtaldbfflkpgfoaaGreatDoorPartB
namespace Go.Proofs.YtaldbfflkpgfoaaGreatDoor
open Go.RowKit

set_option maxRecDepth 100000 in
set_option maxHeartbeats 1000000 in
theorem ym4 {k:Nat} {n0 n1 d0 d1:Value} {N D:Int} {w:World} (hn:IsInt w k n0 n1 N) (hd:IsInt w k d0 d1 D) (_hk:k+k+k+k+k+k+66≤1000000) (_h0:D<0) (hg:(sgn ((Int.gcd ((-N)) ((-D)):Int) - 1) !=0)=false):
    Calls Tryz.prog 95 #[(.agg #[n0,n1]),(.agg #[d0,d1])] w fun e w'=>(∃ x y x2 y2,e=.returned (.agg #[x,y,x2,y2])∧IsInt w' k x y ((-N))∧IsInt w' k x2 y2 ((-D)))∧Gr w w':=by
 go_enter Tryz.func95,Tryz.ntmps95
 have hB:=Gr.refl w
 refine wp_seq_k (fun K1 k1=>?_)
 refine rg [0,1,2] ?_
 refine se ?_
 refine eb 34 #[n0,n1] 2 hB fun b2 w2 g2 L2 o2 q2 hB=>?_
 simp only [p3,p4]
 refine se ?_
 refine eb 34 #[d0,d1] 3 hB fun b3 w3 g3 L3 o3 q3 hB=>?_
 have ak:=L2.ne o3
 simp only [p3,p4]
 refine se ?_
 refine ea 36 #[.bool false,.slice none 0 0,.bool false,.slice none 0 0] 4 hB fun b4 w4 g4 L4 o4 q4 hB=>?_
 replace L2:=L2.gr g3
 have aE:=L2.ne o4
 have aJ:=L3.ne o4
 simp only [p3,p4]
 refine za0 ?_
 refine k1 _ _ ?_
 try clear k1 K1
 refine wp_seq_k (fun K5 k5=>?_)
 refine wp_seq_k (fun K6 k6=>?_)
 refine rg [0,1,2] ?_
 replace L3:=L3.gr g4
 refine sw 6 (.agg #[d0,d1]) rfl (rl 34 0 [d0,d1] L3) ?_
 refine se ?_
 have a0:=g2.kp.trans (g3.kp.trans g4.kp)
 replace hd:=hd.kp a0
 refine ec 7 (zQ5 hd (by omega)) ?_
 rintro e7 w7 ⟨rfl,g7⟩
 refine ⟨_,rfl,?_⟩
 replace hB:=hB.trans g7
 simp only [p3,p4]
 refine sv 8 (.bool true) ?_
 refine za0 ?_
 refine k6 _ _ ?_
 try clear k6 K6
 refine wp_cond_true rfl ?_
 have ab:=Gr.drew w7
 replace hB:=hB.trans ab
 replace L2:=L2.gr (g4.trans (g7.trans ab))
 replace L3:=L3.gr (g7.trans ab)
 refine ze2 (fun _=>True) [([4],(fun w'=>Lc w' b2 #[n0,n1] 34)),([5],(fun w'=>Lc w' b3 #[d0,d1] 34))] [(true,0),(true,2),(false,1),(false,3),(false,4),(false,5)] (by kernel_rfl) (by kernel_rfl) (by kernel_rfl) (by decide) (fun _ _ _ _ _ h=>h) trivial ⟨fun _=>L2,fun _=>L3,trivial⟩ ?_
 refine tw 9 (.agg #[n0,n1]) rfl (fun w' hS=>(rl 34 0 [n0,n1] (hS.2.1 (by kernel_rfl)))) ?_
 refine tw 11 (.agg #[d0,d1]) rfl (fun w' hS=>(rl 34 0 [d0,d1] (hS.2.2.1 (by kernel_rfl)))) ?_
 refine te ?_
 have aR:=g2.kp.trans (g3.kp.trans (g4.kp.trans (g7.kp.trans ab.kp)))
 replace hn:=hn.kp aR
 refine ec 10 (ym9 hn) ?_
 rintro e12 a6 ⟨⟨ad,af,rfl,ai⟩,aH⟩
 refine ⟨_,rfl,?_⟩
 replace hB:=hB.trans aH
 replace L2:=L2.gr aH
 replace L3:=L3.gr aH
 refine ⟨trivial,⟨fun _=>L2,fun _=>L3,trivial⟩,?_⟩
 simp only [p3,p4]
 refine te ?_
 have aQ:=g7.kp.trans (ab.kp.trans aH.kp)
 replace hd:=hd.kp aQ
 refine ec 12 (ym9 hd) ?_
 rintro bf bc ⟨⟨ac,ae,rfl,aj⟩,aF⟩
 refine ⟨_,rfl,?_⟩
 replace hB:=hB.trans aF
 replace L2:=L2.gr aF
 replace L3:=L3.gr aF
 refine ⟨trivial,⟨fun _=>L2,fun _=>L3,trivial⟩,?_⟩
 simp only [p3,p4]
 refine te ?_
 refine es 34 0 (.agg #[ad,af]) [ad,af] #[ad,af] L2 hB q2 ⟨ai.one0,ai.one1,trivial⟩ fun bg aK ay L2 hB=>?_
 replace L3:=aK.lc L3 (Ne.symm ak)
 refine ⟨trivial,⟨zp9 (by kernel_rfl),fun _=>L3,trivial⟩,?_⟩
 refine te ?_
 refine es 34 0 (.agg #[ac,ae]) [ac,ae] #[ac,ae] L3 hB q3 ⟨aj.one0,aj.one1,trivial⟩ fun bj aI aC L3 hB=>?_
 refine ⟨trivial,⟨zp9 (by kernel_rfl),zp9 (by kernel_rfl),trivial⟩,?_⟩
 refine zA0 ?_
 refine k5 _ _ ?_
 try clear k5 K5
 refine wp_seq_k (fun a1 aU=>?_)
 refine rg [0,1,2,3,4] ?_
 replace L2:=aI.lc L2 ak
 refine sw 13 (.agg #[ad,af]) rfl (rl 34 0 [ad,af] L2) ?_
 refine sw 14 (.agg #[ac,ae]) rfl (rl 34 0 [ac,ae] L3) ?_
 refine se ?_
 have aN:=aF.kp.trans (ay.trans aC)
 replace ai:=ai.kp aN
 have aP:=ay.trans aC
 replace aj:=aj.kp aP
 refine ec 15 (yb5 ai aj (by omega)) ?_
 rintro e22 a9 ⟨⟨av,aw,rfl,az⟩,aD⟩
 refine ⟨_,rfl,?_⟩
 replace hB:=hB.trans aD
 simp only [p3,p4]
 refine se ?_
 refine ea 34 #[.bool false,.slice none 0 0] 5 hB fun aW bh aA ah aM a4 hB=>?_
 replace L2:=L2.gr aD
 have al:=L2.ne aM
 replace L3:=L3.gr aD
 have ap:=L3.ne aM
 replace L4:=(aI.lc (aK.lc (L4.gr (g7.trans (ab.trans (aH.trans aF)))) (Ne.symm aE)) (Ne.symm aJ)).gr aD
 have ar:=L4.ne aM
 simp only [p3,p4]
 refine se ?_
 refine es 34 0 (.agg #[av,aw]) [av,aw] #[av,aw] ah hB a4 ⟨az.one0,az.one1,trivial⟩ fun aZ aq aB ah hB=>?_
 refine za0 ?_
 refine aU _ _ ?_
 try clear aU a1
 refine wp_seq_k (fun aX aV=>?_)
 refine wp_seq_k (fun a2 aS=>?_)
 have aa:=Gr.drew aZ
 replace hB:=hB.trans aa
 replace ah:=ah.gr aa
 refine za2 (fun w'=>Lc w' aW #[av,aw] 34) [(true,0),(false,1),(false,2),(true,3)] (by kernel_rfl) (by kernel_rfl) (by kernel_rfl) (by decide) (fun _ _ _ _ _ h=>h) ah ?_
 refine ow 16 (.agg #[av,aw]) rfl (fun w' hS=>(rl 34 0 [av,aw] hS)) ?_
 refine oe ?_
 refine ec 17 (zG7 _) ?_
 rintro bd ba ⟨⟨bk,bb,rfl,aY⟩,au⟩
 refine ⟨_,rfl,?_⟩
 replace hB:=hB.trans au
 replace ah:=ah.gr au
 refine ⟨ah,?_⟩
 simp only [p3,p4]
 refine oe ?_
 have aL:=aA.kp.trans (aB.trans (aa.kp.trans au.kp))
 replace az:=az.kp aL
 refine ec 18 (ze0 az aY (by omega) (by omega)) ?_
 rintro a8 a7 ⟨rfl,ax⟩
 refine ⟨_,rfl,?_⟩
 replace hB:=hB.trans ax
 replace ah:=ah.gr ax
 refine ⟨ah,?_⟩
 simp only [p3,p4]
 refine ow 19 (.bool false) rfl (fun w' hS=>(RunV.bool (x:=(sgn ((Int.gcd ((-N)) ((-D)):Int) - 1) !=(0:Int))) (rvk (by kernel_rfl)) hg)) ?_
 refine zb8 ?_
 refine aS _ _ ?_
 try clear aS a2
 refine wp_cond_false rfl ?_
 refine wp_skip ?_
 refine aV _ _ ?_
 try clear aV aX
 refine wp_seq_k (fun a3 aT=>?_)
 refine rg [0,1,2,3] ?_
 replace L2:=(aq.lc (L2.gr aA) al).gr (aa.trans (au.trans ax))
 refine sw 34 (.agg #[ad,af]) rfl (rl 34 0 [ad,af] L2) ?_
 replace L3:=(aq.lc (L3.gr aA) ap).gr (aa.trans (au.trans ax))
 refine sw 35 (.agg #[ac,ae]) rfl (rl 34 0 [ac,ae] L3) ?_
 refine sv 36 (.agg #[ad,af,ac,ae]) ?_
 refine se ?_
 replace L4:=(aq.lc (L4.gr aA) ar).gr (aa.trans (au.trans ax))
 refine es 36 0 (.agg #[ad,af,ac,ae]) [ad,af,ac,ae] #[ad,af,ac,ae] L4 hB q4 ⟨ai.one0,ai.one1,aj.one0,aj.one1,trivial⟩ fun bi a5 aO L4 hB=>?_
 refine za0 ?_
 refine aT _ _ ?_
 try clear aT a3
 refine wp_ret ?_
 refine bodyPost_ret (v:=(.agg #[ad,af,ac,ae])) (za9 _ _ _ rfl rfl L4 (by kernel_rfl)) rfl ⟨?_,hB⟩
 have aG:=aD.kp.trans (aA.kp.trans (aB.trans (aa.kp.trans (au.kp.trans (ax.kp.trans aO)))))
 replace ai:=ai.kp aG
 replace aj:=aj.kp aG
 exact ⟨_,_,_,_,rfl,ai,aj⟩

set_option maxRecDepth 100000 in
set_option maxHeartbeats 1000000 in
theorem ym5 {k:Nat} {n0 n1 d0 d1:Value} {N D:Int} {w:World} (hn:IsInt w k n0 n1 N) (hd:IsInt w k d0 d1 D) (_hk:k+k+k+k+k+k+66≤1000000) (_h0:D<0) (hg:(sgn ((Int.gcd ((-N)) ((-D)):Int) - 1) !=0)=true) (hxn:0<(Int.gcd ((-N)) ((-D)):Int)∧(Int.gcd ((-N)) ((-D)):Int)∣(-N)) (_hxd:0<(Int.gcd ((-N)) ((-D)):Int)∧(Int.gcd ((-N)) ((-D)):Int)∣(-D)):
    Calls Tryz.prog 95 #[(.agg #[n0,n1]),(.agg #[d0,d1])] w fun e w'=>(∃ x y x2 y2,e=.returned (.agg #[x,y,x2,y2])∧IsInt w' k x y ((-N)/(Int.gcd ((-N)) ((-D)):Int))∧IsInt w' k x2 y2 ((-D)/(Int.gcd ((-N)) ((-D)):Int)))∧Gr w w':=by
 go_enter Tryz.func95,Tryz.ntmps95
 have hB:=Gr.refl w
 refine wp_seq_k (fun K1 k1=>?_)
 refine rg [0,1,2] ?_
 refine se ?_
 refine eb 34 #[n0,n1] 2 hB fun b2 w2 g2 L2 o2 q2 hB=>?_
 simp only [p3,p4]
 refine se ?_
 refine eb 34 #[d0,d1] 3 hB fun b3 w3 g3 L3 o3 q3 hB=>?_
 have ac:=L2.ne o3
 simp only [p3,p4]
 refine se ?_
 refine ea 36 #[.bool false,.slice none 0 0,.bool false,.slice none 0 0] 4 hB fun b4 w4 g4 L4 o4 q4 hB=>?_
 replace L2:=L2.gr g3
 have au:=L2.ne o4
 have aw:=L3.ne o4
 simp only [p3,p4]
 refine za0 ?_
 refine k1 _ _ ?_
 try clear k1 K1
 refine wp_seq_k (fun K5 k5=>?_)
 refine wp_seq_k (fun K6 k6=>?_)
 refine rg [0,1,2] ?_
 replace L3:=L3.gr g4
 refine sw 6 (.agg #[d0,d1]) rfl (rl 34 0 [d0,d1] L3) ?_
 refine se ?_
 have bt:=g2.kp.trans (g3.kp.trans g4.kp)
 replace hd:=hd.kp bt
 refine ec 7 (zQ5 hd (by omega)) ?_
 rintro e7 w7 ⟨rfl,g7⟩
 refine ⟨_,rfl,?_⟩
 replace hB:=hB.trans g7
 simp only [p3,p4]
 refine sv 8 (.bool true) ?_
 refine za0 ?_
 refine k6 _ _ ?_
 try clear k6 K6
 refine wp_cond_true rfl ?_
 have ad:=Gr.drew w7
 replace hB:=hB.trans ad
 replace L2:=L2.gr (g4.trans (g7.trans ad))
 replace L3:=L3.gr (g7.trans ad)
 refine ze2 (fun _=>True) [([4],(fun w'=>Lc w' b2 #[n0,n1] 34)),([5],(fun w'=>Lc w' b3 #[d0,d1] 34))] [(true,0),(true,2),(false,1),(false,3),(false,4),(false,5)] (by kernel_rfl) (by kernel_rfl) (by kernel_rfl) (by decide) (fun _ _ _ _ _ h=>h) trivial ⟨fun _=>L2,fun _=>L3,trivial⟩ ?_
 refine tw 9 (.agg #[n0,n1]) rfl (fun w' hS=>(rl 34 0 [n0,n1] (hS.2.1 (by kernel_rfl)))) ?_
 refine tw 11 (.agg #[d0,d1]) rfl (fun w' hS=>(rl 34 0 [d0,d1] (hS.2.2.1 (by kernel_rfl)))) ?_
 refine te ?_
 have ba:=g2.kp.trans (g3.kp.trans (g4.kp.trans (g7.kp.trans ad.kp)))
 replace hn:=hn.kp ba
 refine ec 10 (ym9 hn) ?_
 rintro e12 bA ⟨⟨aG,aK,rfl,aq⟩,aX⟩
 refine ⟨_,rfl,?_⟩
 replace hB:=hB.trans aX
 replace L2:=L2.gr aX
 replace L3:=L3.gr aX
 refine ⟨trivial,⟨fun _=>L2,fun _=>L3,trivial⟩,?_⟩
 simp only [p3,p4]
 refine te ?_
 have a9:=g7.kp.trans (ad.kp.trans aX.kp)
 replace hd:=hd.kp a9
 refine ec 12 (ym9 hd) ?_
 rintro bN bL ⟨⟨aE,aI,rfl,ax⟩,aU⟩
 refine ⟨_,rfl,?_⟩
 replace hB:=hB.trans aU
 replace L2:=L2.gr aU
 replace L3:=L3.gr aU
 refine ⟨trivial,⟨fun _=>L2,fun _=>L3,trivial⟩,?_⟩
 simp only [p3,p4]
 refine te ?_
 refine es 34 0 (.agg #[aG,aK]) [aG,aK] #[aG,aK] L2 hB q2 ⟨aq.one0,aq.one1,trivial⟩ fun bO a0 aN L2 hB=>?_
 replace L3:=a0.lc L3 (Ne.symm ac)
 refine ⟨trivial,⟨zp9 (by kernel_rfl),fun _=>L3,trivial⟩,?_⟩
 refine te ?_
 refine es 34 0 (.agg #[aE,aI]) [aE,aI] #[aE,aI] L3 hB q3 ⟨ax.one0,ax.one1,trivial⟩ fun bS aY aQ L3 hB=>?_
 refine ⟨trivial,⟨zp9 (by kernel_rfl),zp9 (by kernel_rfl),trivial⟩,?_⟩
 refine zA0 ?_
 refine k5 _ _ ?_
 try clear k5 K5
 refine wp_seq_k (fun bu bf=>?_)
 refine rg [0,1,2,3,4] ?_
 replace L2:=aY.lc L2 ac
 refine sw 13 (.agg #[aG,aK]) rfl (rl 34 0 [aG,aK] L2) ?_
 refine sw 14 (.agg #[aE,aI]) rfl (rl 34 0 [aE,aI] L3) ?_
 refine se ?_
 have a3:=aU.kp.trans (aN.trans aQ)
 replace aq:=aq.kp a3
 have a8:=aN.trans aQ
 replace ax:=ax.kp a8
 refine ec 15 (yb5 aq ax (by omega)) ?_
 rintro e22 bE ⟨⟨al,ap,rfl,aj⟩,aM⟩
 refine ⟨_,rfl,?_⟩
 replace hB:=hB.trans aM
 simp only [p3,p4]
 refine se ?_
 refine ea 34 #[.bool false,.slice none 0 0] 5 hB fun bj bP aL ab a2 bx hB=>?_
 replace L2:=L2.gr aM
 have ak:=L2.ne a2
 replace L3:=L3.gr aM
 have aB:=L3.ne a2
 replace L4:=(aY.lc (a0.lc (L4.gr (g7.trans (ad.trans (aX.trans aU)))) (Ne.symm au)) (Ne.symm aw)).gr aM
 have aD:=L4.ne a2
 simp only [p3,p4]
 refine se ?_
 refine es 34 0 (.agg #[al,ap]) [al,ap] #[al,ap] ab hB bx ⟨aj.one0,aj.one1,trivial⟩ fun bq aC aA ab hB=>?_
 refine za0 ?_
 refine bf _ _ ?_
 try clear bf bu
 refine wp_seq_k (fun bm bg=>?_)
 refine wp_seq_k (fun bv bc=>?_)
 have aa:=Gr.drew bq
 replace hB:=hB.trans aa
 replace ab:=ab.gr aa
 refine za2 (fun w'=>Lc w' bj #[al,ap] 34) [(true,0),(false,1),(false,2),(true,3)] (by kernel_rfl) (by kernel_rfl) (by kernel_rfl) (by decide) (fun _ _ _ _ _ h=>h) ab ?_
 refine ow 16 (.agg #[al,ap]) rfl (fun w' hS=>(rl 34 0 [al,ap] hS)) ?_
 refine oe ?_
 refine ec 17 (zG7 _) ?_
 rintro bM bG ⟨⟨bT,bJ,rfl,bo⟩,av⟩
 refine ⟨_,rfl,?_⟩
 replace hB:=hB.trans av
 replace ab:=ab.gr av
 refine ⟨ab,?_⟩
 simp only [p3,p4]
 refine oe ?_
 have a1:=aL.kp.trans (aA.trans (aa.kp.trans av.kp))
 replace aj:=aj.kp a1
 refine ec 18 (ze0 aj bo (by omega) (by omega)) ?_
 rintro bD bC ⟨rfl,ar⟩
 refine ⟨_,rfl,?_⟩
 replace hB:=hB.trans ar
 replace ab:=ab.gr ar
 refine ⟨ab,?_⟩
 simp only [p3,p4]
 refine ow 19 (.bool true) rfl (fun w' hS=>(RunV.bool (x:=(sgn ((Int.gcd ((-N)) ((-D)):Int) - 1) !=(0:Int))) (rvk (by kernel_rfl)) hg)) ?_
 refine zb8 ?_
 refine bc _ _ ?_
 try clear bc bv
 refine wp_cond_true rfl ?_
 refine wp_seq_k (fun bw bd=>?_)
 refine rg [0,1,2,3,4,5,6,7] ?_
 replace L2:=(aC.lc (L2.gr aL) ak).gr (aa.trans (av.trans ar))
 refine sw 21 (.agg #[aG,aK]) rfl (rl 34 0 [aG,aK] L2) ?_
 refine sw 22 (.agg #[al,ap]) rfl (rl 34 0 [al,ap] ab) ?_
 refine se ?_
 have a7:=aM.kp.trans (aL.kp.trans (aA.trans (aa.kp.trans (av.kp.trans ar.kp))))
 replace aq:=aq.kp a7
 replace aj:=aj.kp ar.kp
 refine ec 23 (zw5 aq aj hxn.1 (by omega)) ?_
 rintro bz bR ⟨⟨ah,ai,aP,aS,rfl,az,bp⟩,ay⟩
 refine ⟨_,rfl,?_⟩
 replace hB:=hB.trans ay
 simp only [p3,p4]
 refine sv 20 (.tuple #[(.agg #[ah,ai]),(.agg #[aP,aS]),.int .i64 0]) ?_
 refine sv 24 (.agg #[ah,ai]) ?_
 refine sv 25 (.agg #[aP,aS]) ?_
 refine sv 26 (.int .i64 0) ?_
 refine se ?_
 replace L2:=L2.gr ay
 refine es 34 0 (.agg #[ah,ai]) [ah,ai] #[ah,ai] L2 hB q2 ⟨az.one0,az.one1,trivial⟩ fun bQ aH aJ L2 hB=>?_
 refine za0 ?_
 refine bd _ _ ?_
 try clear bd bw
 refine rg [0,1,2,3,4,5,6,7] ?_
 replace L3:=aH.lc ((aC.lc (L3.gr aL) aB).gr (aa.trans (av.trans (ar.trans ay)))) (Ne.symm ac)
 refine sw 28 (.agg #[aE,aI]) rfl (rl 34 0 [aE,aI] L3) ?_
 replace ab:=aH.lc (ab.gr ay) (Ne.symm ak)
 refine sw 29 (.agg #[al,ap]) rfl (rl 34 0 [al,ap] ab) ?_
 refine se ?_
 have a4:=aM.kp.trans (aL.kp.trans (aA.trans (aa.kp.trans (av.kp.trans (ar.kp.trans (ay.kp.trans aJ))))))
 replace ax:=ax.kp a4
 have bb:=ay.kp.trans aJ
 replace aj:=aj.kp bb
 refine ec 30 (zw5 ax aj hxn.1 (by omega)) ?_
 rintro bK bH ⟨⟨ae,af,aZ,aT,rfl,aF,bn⟩,aO⟩
 refine ⟨_,rfl,?_⟩
 replace hB:=hB.trans aO
 simp only [p3,p4]
 refine sv 27 (.tuple #[(.agg #[ae,af]),(.agg #[aZ,aT]),.int .i64 0]) ?_
 refine sv 31 (.agg #[ae,af]) ?_
 refine sv 32 (.agg #[aZ,aT]) ?_
 refine sv 33 (.int .i64 0) ?_
 refine se ?_
 replace L3:=L3.gr aO
 refine es 34 0 (.agg #[ae,af]) [ae,af] #[ae,af] L3 hB q3 ⟨aF.one0,aF.one1,trivial⟩ fun bB aR aW L3 hB=>?_
 refine za0 ?_
 refine bg _ _ ?_
 try clear bg bm
 refine wp_seq_k (fun bk bh=>?_)
 refine rg [0,1,2,3] ?_
 replace L2:=aR.lc (L2.gr aO) ac
 refine sw 34 (.agg #[ah,ai]) rfl (rl 34 0 [ah,ai] L2) ?_
 refine sw 35 (.agg #[ae,af]) rfl (rl 34 0 [ae,af] L3) ?_
 refine sv 36 (.agg #[ah,ai,ae,af]) ?_
 refine se ?_
 replace L4:=aR.lc ((aH.lc ((aC.lc (L4.gr aL) aD).gr (aa.trans (av.trans (ar.trans ay)))) (Ne.symm au)).gr aO) (Ne.symm aw)
 refine es 36 0 (.agg #[ah,ai,ae,af]) [ah,ai,ae,af] #[ah,ai,ae,af] L4 hB q4 ⟨az.one0,az.one1,aF.one0,aF.one1,trivial⟩ fun bF bi aV L4 hB=>?_
 refine za0 ?_
 refine bh _ _ ?_
 try clear bh bk
 refine wp_ret ?_
 refine bodyPost_ret (v:=(.agg #[ah,ai,ae,af])) (za9 _ _ _ rfl rfl L4 (by kernel_rfl)) rfl ⟨?_,hB⟩
 have a5:=aJ.trans (aO.kp.trans (aW.trans aV))
 replace az:=az.kp a5
 have a6:=aW.trans aV
 replace aF:=aF.kp a6
 exact ⟨_,_,_,_,rfl,az,aF⟩

theorem yx7 {k m:Nat} (K:Nat) {n0 n1 d0 d1:Value} {N D:Int} {w:World} (hn:IsInt w k n0 n1 N) (hd:IsInt w m d0 d1 D) (h0:D≠0) (h1:k≤K) (h2:m≤K) (h3:64≤K) (h4:8*K≤1000000):
  Calls Tryz.prog 95 #[.agg #[n0,n1],.agg #[d0,d1]] w fun e w'=>(∃ c0 c1 c2 c3,e=.returned (.agg #[c0,c1,c2,c3])∧IsRat w' K c0 c1 c2 c3 (Rat.divInt N D))∧Gr w w':=by
 rcases Int.lt_or_gt_of_ne h0 with hneg | hpos
 ·have hN:=hn.mono h1
  have hD:=hd.mono h2
  have hp:0< -D:=by omega
  have e0:Rat.divInt N D=Rat.divInt (-N) (-D):=(Rat.neg_divInt_neg N D).symm
  have en:(Rat.divInt N D).num=(-N)/(Int.gcd (-N) (-D):Int):=by
   rw [e0,Rat.num_divInt,Int.sign_eq_one_of_pos hp,Int.one_mul,Int.gcd_comm]
  have ed:((Rat.divInt N D).den:Int)=(-D)/(Int.gcd (-N) (-D):Int):=by
   rw [e0,Rat.den_divInt,if_neg (by omega),Int.gcd_comm,Int.natCast_ediv]
   congr 1
   omega
  have ab:0<(Int.gcd (-N) (-D):Int):=by
   have:Int.gcd (-N) (-D)≠0:=by rw [Ne,Int.gcd_eq_zero_iff];omega
   omega
  by_cases hg:(Int.gcd (-N) (-D):Int)=1
  ·refine (ym4 hN hD (by omega) hneg (by rw [hg];rfl)).mono ?_
   rintro e w1 ⟨⟨x,y,x2,y2,he,hi,aa⟩,g⟩
   rw [hg,Int.ediv_one] at en ed
   exact ⟨⟨x,y,x2,y2,he,by rw [en];exact hi,⟨_,aa,.inl ed.symm⟩,h3⟩,g⟩
  ·have hb:(sgn ((Int.gcd (-N) (-D):Int) - 1) !=0)=true:=by
    have:sgn ((Int.gcd (-N) (-D):Int) - 1)≠0:=fun h=>hg (by have:=zc2.1 h;omega)
    simpa using this
   refine (ym5 hN hD (by omega) hneg hb ⟨ab,Int.gcd_dvd_left ..⟩ ⟨ab,Int.gcd_dvd_right ..⟩).mono ?_
   rintro e w1 ⟨⟨x,y,x2,y2,he,hi,aa⟩,g⟩
   exact ⟨⟨x,y,x2,y2,he,by rw [en];exact hi,⟨_,aa,.inl ed.symm⟩,h3⟩,g⟩
 ·exact zr5 K hn hd hpos h1 h2 h3 h4
set_option maxRecDepth 100000 in
set_option maxHeartbeats 1000000 in
theorem number_w {k:Nat} {u0 u1 u2 u3:Value} {a:Rat} {w:World} (ha:IsRat w k u0 u1 u2 u3 a) (_hk:k≤800000) (ht:Tab w) (hw:a.den=1):
    Calls Tryz.prog 87 #[(.agg #[u0,u1,u2,u3])] w fun e w'=>e=.returned (.string ⟨(za1 a).toArray⟩)∧Gr w w':=by
 go_enter Tryz.func87,Tryz.ntmps87
 have hB:=Gr.refl w
 refine wp_seq_k (fun K1 k1=>?_)
 refine rg [0,1] ?_
 refine se ?_
 refine eb 36 #[u0,u1,u2,u3] 1 hB fun b2 w2 g2 L2 o2 q2 hB=>?_
 simp only [p3,p4]
 refine sv 2 (.string ⟨([]:List UInt8).toArray⟩) ?_
 refine za0 ?_
 refine k1 _ _ ?_
 try clear k1 K1
 refine wp_seq_k (fun K3 k3=>?_)
 refine wp_seq_k (fun K4 k4=>?_)
 refine rg [0,1] ?_
 refine sw 3 (.agg #[u0,u1,u2,u3]) rfl (rl 36 0 [u0,u1,u2,u3] L2) ?_
 refine se ?_
 replace ha:=ha.kp g2.kp
 refine ec 4 (zl9 ha (by omega) hw) ?_
 rintro e5 w5 ⟨rfl,g5⟩
 refine ⟨_,rfl,?_⟩
 replace hB:=hB.trans g5
 simp only [p3,p4]
 refine za0 ?_
 refine k4 _ _ ?_
 try clear k4 K4
 refine wp_cond_true rfl ?_
 refine wp_seq_k (fun K6 k6=>?_)
 refine rg [0,1,2,3] ?_
 refine sv 5 (.pointer (some ⟨b2,0,none⟩)) ?_
 replace L2:=L2.gr g5
 refine sw 6 (.agg #[u0,u1]) rfl (rl 34 0 [u0,u1] L2) ?_
 refine se ?_
 replace ha:=ha.kp g5.kp
 refine ec 7 (yr1 ha.num (by omega) (ht.gr hB)) ?_
 rintro e7 w7 ⟨rfl,g7⟩
 refine ⟨_,rfl,?_⟩
 replace hB:=hB.trans g7
 simp only [p3,p4]
 refine sv 2 (.string ⟨(Lib.itoa (a.num):List UInt8).toArray⟩) ?_
 refine za0 ?_
 refine k6 _ _ ?_
 try clear k6 K6
 refine wp_ret ?_
 simp only [Exit.then]
 refine bodyPost_ret (v:=(.string ⟨(Lib.itoa (a.num):List UInt8).toArray⟩)) (zb0 rfl rfl) rfl ⟨?_,hB⟩
 exact (by rw [zM2 hw])

set_option maxRecDepth 100000 in
set_option maxHeartbeats 1000000 in
theorem number_d {k:Nat} {u0 u1 u2 u3:Value} {a:Rat} {w:World} (ha:IsRat w k u0 u1 u2 u3 a) (_hk:k≤800000) (ht:Tab w) (hd:IsInt w k u2 u3 (a.den:Int)) (hw:¬ a.den=1):
    Calls Tryz.prog 87 #[(.agg #[u0,u1,u2,u3])] w fun e w'=>e=.returned (.string ⟨(za1 a).toArray⟩)∧Gr w w':=by
 have ai:=zk3 ha.num.sz
 have ak:=zk3 hd.sz
 go_enter Tryz.func87,Tryz.ntmps87
 have hB:=Gr.refl w
 refine wp_seq_k (fun K1 k1=>?_)
 refine rg [0,1] ?_
 refine se ?_
 refine eb 36 #[u0,u1,u2,u3] 1 hB fun b2 w2 g2 L2 o2 q2 hB=>?_
 simp only [p3,p4]
 refine sv 2 (.string ⟨([]:List UInt8).toArray⟩) ?_
 refine za0 ?_
 refine k1 _ _ ?_
 try clear k1 K1
 refine wp_seq_k (fun K3 k3=>?_)
 refine wp_seq_k (fun K4 k4=>?_)
 refine rg [0,1] ?_
 refine sw 3 (.agg #[u0,u1,u2,u3]) rfl (rl 36 0 [u0,u1,u2,u3] L2) ?_
 refine se ?_
 replace ha:=ha.kp g2.kp
 refine ec 4 (zu5 ha (by omega) hw) ?_
 rintro e5 w5 ⟨rfl,g5⟩
 refine ⟨_,rfl,?_⟩
 replace hB:=hB.trans g5
 simp only [p3,p4]
 refine za0 ?_
 refine k4 _ _ ?_
 try clear k4 K4
 refine wp_cond_false rfl ?_
 refine wp_skip ?_
 refine k3 _ _ ?_
 try clear k3 K3
 refine wp_seq_k (fun K6 k6=>?_)
 have aa:=Gr.drew w5
 replace hB:=hB.trans aa
 replace L2:=L2.gr (g5.trans aa)
 refine za2 (fun w'=>Lc w' b2 #[u0,u1,u2,u3] 36) [(true,0),(true,1),(true,4),(true,5),(false,2),(true,3),(false,6),(true,7),(true,8)] (by kernel_rfl) (by kernel_rfl) (by kernel_rfl) (by decide) (fun _ _ _ _ _ h=>h) L2 ?_
 refine ov 8 (.pointer (some ⟨b2,0,none⟩)) ?_
 refine ow 9 (.agg #[u0,u1]) rfl (fun w' hS=>(rl 34 0 [u0,u1] hS)) ?_
 refine ov 12 (.pointer (some ⟨b2,2,none⟩)) ?_
 refine ow 13 (.agg #[u2,u3]) rfl (fun w' hS=>(rl 34 2 [u2,u3] hS)) ?_
 refine oe ?_
 have ac:=g5.kp.trans aa.kp
 replace ha:=ha.kp ac
 refine ec 10 (yr1 ha.num (by omega) (ht.gr hB)) ?_
 rintro aj af ⟨rfl,ab⟩
 refine ⟨_,rfl,?_⟩
 replace hB:=hB.trans ab
 replace L2:=L2.gr ab
 refine ⟨L2,?_⟩
 simp only [p3,p4]
 refine ow 11 (.string ⟨((Lib.itoa (a.num))++([47]):List UInt8).toArray⟩) rfl (fun w' hS=>(zC2 9 9 _ _ (Lib.itoa (a.num)) ([47]) rfl rfl rfl (by simp only [List.length_cons,List.length_nil];omega))) ?_
 refine oe ?_
 have ad:=g2.kp.trans (g5.kp.trans (aa.kp.trans ab.kp))
 replace hd:=hd.kp ad
 refine ec 14 (yr1 hd (by omega) (ht.gr hB)) ?_
 rintro ah al ⟨rfl,ae⟩
 refine ⟨_,rfl,?_⟩
 replace hB:=hB.trans ae
 replace L2:=L2.gr ae
 refine ⟨L2,?_⟩
 simp only [p3,p4]
 refine ow 15 (.string ⟨(((Lib.itoa (a.num))++([47]))++(Lib.itoa ((a.den:Int))):List UInt8).toArray⟩) rfl (fun w' hS=>(zC2 9 9 _ _ ((Lib.itoa (a.num))++([47])) (Lib.itoa ((a.den:Int))) rfl rfl rfl (by simp only [List.length_append,List.length_cons,List.length_nil];omega))) ?_
 refine ov 2 (.string ⟨(((Lib.itoa (a.num))++([47]))++(Lib.itoa ((a.den:Int))):List UInt8).toArray⟩) ?_
 refine zb8 ?_
 refine k6 _ _ ?_
 try clear k6 K6
 refine wp_ret ?_
 refine bodyPost_ret (v:=(.string ⟨(((Lib.itoa (a.num))++([47]))++(Lib.itoa ((a.den:Int))):List UInt8).toArray⟩)) (zb0 rfl rfl) rfl ⟨?_,hB⟩
 exact (by rw [zU4 hw])

theorem zE2 {k:Nat} {u0 u1 u2 u3:Value} {a:Rat} {w:World} (ha:IsRat w k u0 u1 u2 u3 a) (hk:k≤800000) (ht:Tab w):
  Calls Tryz.prog 87 #[.agg #[u0,u1,u2,u3]] w fun e w'=>e=.returned (.string ⟨(za1 a).toArray⟩)∧Gr w w':=by
 by_cases hw:a.den=1
 ·exact number_w ha hk ht hw
 ·obtain ⟨D,h2,h3⟩:=ha.den
  rcases h3 with h3 | ⟨_,h4⟩
  ·subst h3;exact number_d ha hk ht h2 hw
  ·exact absurd h4 hw

theorem zh4 {x:Int} (z:Nat) (e:x=(z:Int)) (h1:z<10):Lib.itoa x=[UInt8.ofNat (48+z)]:=by
 unfold Lib.itoa
 rw [e,if_neg (by omega),Int.toNat_natCast,zc0 h1]
theorem yt7 {x:Int} (z:Nat) (e:x=-(z:Int)) (h0:0<z) (h1:z<10):Lib.itoa x=[45,UInt8.ofNat (48+z)]:=by
 unfold Lib.itoa
 rw [e,if_pos (by omega)]
 have:(-(z:Int)).natAbs=z:=by omega
 rw [this,zc0 h1]
theorem yh7 {X Y:List UInt8} (h:X=Y):(X==Y)=true:=by rw [h];exact beq_self_eq_true _
theorem zq6 {q:Rat} {Y:List UInt8} (h:(q.den==1)=true) (e:Lib.itoa q.num=Y):(za1 q==Y)=true:=by
 rw [zM2 (by simpa using h)];exact yh7 e
theorem zV4 {q:Rat} {X Z Y:List UInt8} (h:(q.den==1)=false) (e:Lib.itoa q.num=X) (f:Lib.itoa (q.den:Int)=Z) (g:X++[47]++Z=Y):(za1 q==Y)=true:=by
 rw [zU4 (by simpa using h),e,f];exact yh7 g
theorem zH3 {k:Nat} {x y:Int} (hx:Sz k x) (hy:Sz k y) (h0:y≠0):Sz k (Rat.divInt x y).num∧Sz k ((Rat.divInt x y).den:Int):=by
 have key:∀ {x y:Int},Sz k x→Sz k y→0<y→Sz k (Rat.divInt x y).num∧Sz k ((Rat.divInt x y).den:Int):=by
  intro x y hx hy h0
  obtain ⟨h1,h2,h3⟩:=zh6 (N:=x) h0
  rw [h1,h2]
  exact ⟨zO0 hx h3,zO0 hy h3⟩
 rcases Int.lt_or_gt_of_ne h0 with h | h
 ·have:=key hx.neg hy.neg (by omega)
  rwa [Rat.neg_divInt_neg] at this
 ·exact key hx hy h
theorem yt8 {k:Nat} (x y:Int) (q:Rat) (e:q=Rat.divInt x y) (hx:Sz k x) (hy:Sz k y) (h0:y≠0) (hk:k≤30000) (w:World):
  Calls Tryz.prog 100 #[.string ⟨(Lib.itoa x).toArray⟩,.string ⟨(Lib.itoa y).toArray⟩] w fun e w'=>e=.returned (.string ⟨(za1 q).toArray⟩)∧Gr w w':=by
 subst e
 rcases Int.lt_or_gt_of_ne h0 with h | h
 ·exact ys9 x y hx hy h (by omega) w
 ·exact zw2 x y hx hy h (by omega) w
-- LEFT OUT:r1_check r1_check_l
theorem zX0:∀ (l:List UInt8),Lib.index l [47]=(match (zg5 l).2 with | none=>-1 | some _=>((zg5 l).1.length:Int))
 | []=>rfl
 | c::l=>by
  have ih:=zX0 l
  unfold Lib.index
  by_cases h:c=47
  ·subst h
   have e:zg5 (47::l)=([],some l):=by simp [zg5]
   rw [e]
   simp [List.isPrefixOf]
  ·have e:zg5 (c::l)=(c::(zg5 l).1,(zg5 l).2):=by
    conv=>lhs;unfold zg5
    rw [if_neg h]
   have h2:¬ (47:UInt8)=c:=fun x=>h x.symm
   have h3:[47].isPrefixOf (c::l)=false:=by simp [List.isPrefixOf,h2]
   rw [e,h3,ih]
   cases hd:(zg5 l).2 with
   | none=>simp
   | some d=>
    have:¬ (((zg5 l).1.length:Int)==-1)=true:=by simp
    simp [this]
theorem zX1 (l:List UInt8):Lib.cut l [47]=(zm0 l,((zg5 l).2.getD [],(zg5 l).2.isSome)):=by
 have h1:=zX0 l
 have h2:=zz5 l
 unfold Lib.cut zm0
 cases hd:(zg5 l).2 with
 | none=>
  rw [hd] at h1 h2;dsimp only at h1 h2
  rw [h1,if_neg (by omega)]
  simp [← h2]
 | some d=>
  rw [hd] at h1 h2;dsimp only at h1 h2
  rw [h1,if_pos (Int.natCast_nonneg _)]
  generalize (zg5 l).1=a at*
  subst h2
  simp
def Mx (w:World):Prop:=∃ m:Int,w.cell? ⟨0,0,none⟩=some (.int .i64 m)
theorem Mx.gr {w w':World} (h:Mx w) (g:Gr w w'):Mx w':=by
 obtain ⟨m,hm⟩:=h
 exact ⟨m,(Below.cell g (World.block_lt_of_cell? w _ hm)).trans hm⟩
theorem cut_q (q:Rat) {k:Nat} (h1:Sz k q.num) (h2:Sz k (q.den:Int)) (hk:k≤400000) {w:World} (hm:Mx w):
  Calls Tryz.prog 139 #[.string ⟨(za1 q).toArray⟩,.string ⟨#[47]⟩] w fun e w'=>e=.returned (.tuple #[.string ⟨(Lib.itoa q.num).toArray⟩,.string ⟨(if q.den=1 then [] else Lib.itoa (q.den:Int)).toArray⟩,.bool (decide (q.den≠1))])∧Gr w w':=by
 obtain ⟨m,hm⟩:=hm
 have hl:=zn4 h1 h2
 refine (Tryz.strings_Cut ⟨(za1 q).toArray⟩ ⟨#[47]⟩ m w (by show (za1 q).toArray.size<_;simp;omega) hm).mono ?_
 rintro e w1 ⟨he,n,rfl⟩
 refine ⟨?_,(Below.refl _ _).drewN _⟩
 rw [he]
 have e1:(⟨(za1 q).toArray⟩:ByteArray).data.toList=za1 q:=by simp
 rw [e1,show (⟨#[47]⟩:ByteArray).data.toList=[47] from rfl,zX1,zv3,zF6]
 by_cases h:q.den=1<;>simp [h]
theorem zp6 (z:Int) (w:World):Calls Tryz.prog 141 #[.string ⟨(Lib.itoa z).toArray⟩,.string ⟨#[45]⟩] w fun e w'=>e=.returned (.string ⟨(Lib.decDigits z.natAbs).toArray⟩)∧Gr w w':=by
 refine (Tryz.strings_TrimPrefix _ _ _).mono ?_
 rintro e w1 ⟨he,rfl⟩
 refine ⟨?_,Gr.refl _⟩
 rw [he]
 show Ending.returned (.string ⟨(Lib.trimPrefix (Lib.itoa z) [45]).toArray⟩)=_
 by_cases h:z<0
 ·have h1:Lib.hasPrefix (Lib.itoa z) [45]=true:=by rw [zd3 h];simp [Lib.hasPrefix]
  rw [Lib.trimPrefix,h1,if_pos rfl,zd3 h];rfl
 ·have h1:Lib.hasPrefix (Lib.itoa z) [45]=false:=by
   rw [za8 (by omega)]
   rcases hd:Lib.decDigits z.natAbs with _ | ⟨c,l⟩
   ·rfl
   ·have hc:=zk0 z.natAbs c (by rw [hd];simp)
    have hne:¬ (45:UInt8)=c:=fun e=>by rw [← e] at hc;simp at hc
    simp [Lib.hasPrefix,List.isPrefixOf,hne]
  rw [Lib.trimPrefix,h1,if_neg (by decide),za8 (by omega)]
theorem zX2 {l cs:List UInt8} (h:∀ c ∈ l,cs.contains c=true):Lib.trimS l cs=[]:=by
 have key:∀ {l:List UInt8},(∀ c ∈ l,cs.contains c=true)→l.dropWhile (cs.contains ·)=[]:=by
  intro l
  induction l with
  | nil=>intro _;rfl
  | cons c l ih=>intro h;rw [List.dropWhile_cons,if_pos (h c (by simp))];exact ih (fun x hx=>h x (by simp [hx]))
 unfold Lib.trimS Lib.trimRightS Lib.trimLeftS
 rw [key (l:=l.reverse) (fun c hc=>h c (by simpa using hc))]
 rfl
theorem yj5 {c:UInt8} (h:48≤c.toNat∧c.toNat≤57):[48,49,50,51,52,53,54,55,56,57].contains c=true:=by
 have:c=48∨c=49∨c=50∨c=51∨c=52∨c=53∨c=54∨c=55∨c=56∨c=57:=by
  simp only [← UInt8.toNat_inj]
  simp
  omega
 rcases this with rfl | rfl | rfl | rfl | rfl | rfl | rfl | rfl | rfl | rfl<;>decide
theorem yc9 (n:Nat) (hn:(Lib.decDigits n).length≤1000000) (w:World):
  Calls Tryz.prog 142 #[.string ⟨(Lib.decDigits n).toArray⟩,.string ⟨#[48,49,50,51,52,53,54,55,56,57]⟩] w fun e w'=>e=.returned (.string ⟨#[]⟩)∧Gr w w':=by
 refine (Any.strings_Trim_laid Tryz.lays160 (by kernel_rfl) ⟨(Lib.decDigits n).toArray⟩ ⟨#[48,49,50,51,52,53,54,55,56,57]⟩ w (by show (Lib.decDigits n).toArray.size≤_;simp;omega) (by decide) (ascii_of_all (by decide))).mono ?_
 rintro e w1 ⟨he,g⟩
 refine ⟨?_,g⟩
 rw [he,zX2 (l:=(⟨(Lib.decDigits n).toArray⟩:ByteArray).data.toList) (fun c hc=>yj5 (zk0 n c (by simpa using hc)))]
set_option maxHeartbeats 1000000 in
theorem yx8 (n:Nat) (hn:(Lib.decDigits n).length≤1000000) (w:World):
  Calls Tryz.prog 140 #[.string ⟨(Lib.decDigits n).toArray⟩] w fun e w'=>e=.returned (.bool true)∧Gr w w':=by
 obtain ⟨D,hD⟩:∃ D:ByteArray,D=⟨(Lib.decDigits n).toArray⟩:=⟨_,rfl⟩
 have hc:=yc9 n hn
 have hne:(D.toList==[])=false:=by
  rw [beq_eq_false_iff_ne,ByteArray.toList_eq,hD]
  simpa using yc6 n
 rw [← hD] at hc ⊢
 clear hD
 go_enter Tryz.func140,Tryz.ntmps140
 go_wp2_with fail
 (with_reducible refine (hc _).mono ?_)
 rintro e w1 ⟨rfl,g1⟩
 clear hc
 go_wp2
 go_ret
 exact ⟨rfl,g1⟩
theorem zS0 {p:UInt8→Bool}:∀ {l:List UInt8} {c:UInt8},c ∈ l→p c=false→c ∈ l.dropWhile p
 | [],_,h,_=>by cases h
 | x::l,c,h,hc=>by
  rw [List.dropWhile_cons]
  by_cases hx:p x=true
  ·rw [if_pos hx]
   rcases List.mem_cons.1 h with e | h
   ·rw [e,hx] at hc;cases hc
   ·exact zS0 h hc
  ·rw [if_neg hx];exact h
theorem zO1 {l cs:List UInt8} {c:UInt8} (h:c ∈ l) (hc:cs.contains c=false):Lib.trimS l cs≠[]:=by
 have h1:c ∈ Lib.trimRightS l cs:=by
  unfold Lib.trimRightS
  rw [List.mem_reverse]
  exact zS0 (by simpa using h) hc
 exact fun e=>by have:=zS0 (p:=(cs.contains ·)) h1 hc;unfold Lib.trimS Lib.trimLeftS at e;rw [e] at this;cases this
theorem yx9 (d:Nat) (hd:0<d) (hn:(Lib.decDigits d).length≤1000000) (w:World):
  Calls Tryz.prog 142 #[.string ⟨(Lib.decDigits d).toArray⟩,.string ⟨#[48]⟩] w fun e w'=>(∃ L:List UInt8,e=.returned (.string ⟨L.toArray⟩)∧L≠[])∧Gr w w':=by
 refine (Any.strings_Trim_laid Tryz.lays160 (by kernel_rfl) ⟨(Lib.decDigits d).toArray⟩ ⟨#[48]⟩ w (by show (Lib.decDigits d).toArray.size≤_;simp;omega) (by decide) (ascii_of_all (by decide))).mono ?_
 rintro e w1 ⟨he,g⟩
 obtain ⟨c,hc,h1,_⟩:=yl1 hd
 refine ⟨⟨_,he,zO1 (c:=c) (by simpa using List.mem_of_getElem? hc) ?_⟩,g⟩
 have:¬ c=48:=fun e=>by rw [e] at h1;simp at h1
 simp [this]
theorem cut_w (q:Rat) {k:Nat} (h1:Sz k q.num) (h2:Sz k (q.den:Int)) (hk:k≤400000) (hw:q.den=1) {w:World} (hm:Mx w):
  Calls Tryz.prog 139 #[.string ⟨(za1 q).toArray⟩,.string ⟨#[47]⟩] w fun e w'=>e=.returned (.tuple #[.string ⟨(Lib.itoa q.num).toArray⟩,.string ⟨([]:List UInt8).toArray⟩,.bool false])∧Gr w w':=by
 have:=cut_q q h1 h2 hk hm
 rw [if_pos hw,show decide (q.den≠1)=false by simp [hw]] at this
 exact this
theorem cut_f (q:Rat) {k:Nat} (h1:Sz k q.num) (h2:Sz k (q.den:Int)) (hk:k≤400000) (hw:¬ q.den=1) {w:World} (hm:Mx w):
  Calls Tryz.prog 139 #[.string ⟨(za1 q).toArray⟩,.string ⟨#[47]⟩] w fun e w'=>e=.returned (.tuple #[.string ⟨(Lib.itoa q.num).toArray⟩,.string ⟨(Lib.itoa (q.den:Int)).toArray⟩,.bool true])∧Gr w w':=by
 have:=cut_q q h1 h2 hk hm
 rw [if_neg hw,show decide (q.den≠1)=true by simp [hw]] at this
 exact this
theorem zJ1 {k:Nat} (z:Int) (h:Sz k z) (hk:k≤400000) (w:World):
  Calls Tryz.prog 140 #[.string ⟨(Lib.decDigits z.natAbs).toArray⟩] w fun e w'=>e=.returned (.bool true)∧Gr w w':=
 yx8 _ (by have:=zA2 h;omega) w
theorem yy0 {k:Nat} (d:Nat) (h:Sz k (d:Int)) (hk:k≤400000) (w:World):
  Calls Tryz.prog 140 #[.string ⟨(Lib.itoa (d:Int)).toArray⟩] w fun e w'=>e=.returned (.bool true)∧Gr w w':=by
 have:=zJ1 (d:Int) h hk w
 rw [← za8 (by omega)] at this
 exact this
theorem yd0 {k:Nat} (d:Nat) (h:Sz k (d:Int)) (hd:0<d) (hk:k≤400000) (w:World):
  Calls Tryz.prog 142 #[.string ⟨(Lib.itoa (d:Int)).toArray⟩,.string ⟨#[48]⟩] w fun e w'=>(∃ L:List UInt8,e=.returned (.string ⟨L.toArray⟩)∧(L==[])=false)∧Gr w w':=by
 have:=yx9 d hd (by have:=zA2 h;rw [Int.natAbs_natCast] at this;omega) w
 rw [za8 (by omega),Int.natAbs_natCast]
 refine this.mono ?_
 rintro e w1 ⟨⟨L,he,hL⟩,g⟩
 exact ⟨⟨L,he,beq_eq_false_iff_ne.2 hL⟩,g⟩
theorem yd1 {w:World} {k:Nat} {x y x2 y2:Value} {q:Rat} (h1:IsInt w k x y q.num) (h2:IsInt w k x2 y2 (q.den:Int)) (h3:64≤k):IsRat w k x y x2 y2 q:=⟨h1,⟨_,h2,.inl rfl⟩,h3⟩
theorem yd2 (q:Rat):(Int.gcd q.num (q.den:Int):Int)=1:=by
 have:=q.reduced
 show ((Nat.gcd q.num.natAbs (q.den:Int).natAbs:Nat):Int)=1
 rw [Int.natAbs_natCast]
 have h:Nat.gcd q.num.natAbs q.den=1:=this
 rw [h];rfl
theorem ratL_iz (z:Int):za1 ((z:Int):Rat)=Lib.itoa z:=zM2 rfl
theorem ratL_sz (q:Rat) {m:Nat} (h:(za1 q).length≤m):Sz (4*m) q.num∧Sz (4*m) (q.den:Int):=by
 have h1:(Lib.itoa q.num).length≤m∧(q.den=1∨(Lib.itoa (q.den:Int)).length≤m):=by
  by_cases hw:q.den=1
  ·rw [zM2 hw] at h;exact ⟨h,.inl hw⟩
  ·rw [zU4 hw] at h
   simp only [List.length_append,List.length_cons,List.length_nil] at h
   exact ⟨by omega,.inr (by omega)⟩
 refine ⟨zu1 _ h1.1,?_⟩
 rcases h1.2 with e | e
 ·rw [e]
  have:=zR4 q.num
  have:0<4*m:=by omega
  show (1:Nat)<2 ^ (4*m)
  exact Nat.one_lt_two_pow (by omega)
 ·exact zu1 _ e
def sEq:List (List UInt8)→List (List UInt8)→Bool
 | x::xs,y::ys=>x==y&&sEq xs ys
 | _,_=>true
theorem zz4 {P:Program} {w:World} {d e:Nat} (he:P.underlying e=some .string) (hp:P.plainKey e=true) (A B:Array Value):
  ∀ (X Y:List (List UInt8)) (i0:Nat),X.length=Y.length→(∀ j x,X[j]?=some x→A[i0+j]?=some (.string ⟨x.toArray⟩))→(∀ j y,Y[j]?=some y→B[i0+j]?=some (.string ⟨y.toArray⟩))→
   (Op.eqItems (d+1) e 1 A B (List.range' i0 X.length)).run P w=.ok (sEq X Y) w
 | [],_,_,_,_,_=>by simp [Op.eqItems,sEq]
 | x::xs,[],_,h,_,_=>by simp at h
 | x::xs,y::ys,i0,h,hA,hB=>by
  have h1:A[i0]?=some (.string ⟨x.toArray⟩):=hA 0 x rfl
  have h2:B[i0]?=some (.string ⟨y.toArray⟩):=hB 0 y rfl
  have ih:=zz4 (w:=w) (d:=d) he hp A B xs ys (i0+1) (by simpa using h) (fun j z hj=>by have:=hA (j+1) z hj;rwa [show i0+(j+1)=i0+1+j by omega] at this)
   (fun j z hj=>by have:=hB (j+1) z hj;rwa [show i0+(j+1)=i0+1+j by omega] at this)
  have e:((⟨x.toArray⟩:ByteArray).toList==(⟨y.toArray⟩:ByteArray).toList)=(x==y):=by rw [ByteArray.toList_eq,ByteArray.toList_eq]
  rw [List.length_cons,List.range'_succ]
  simp only [Op.eqItems,Sem.run_bind,Nat.mul_one,run_part_plain w hp h1,run_part_plain w hp h2,Result.andThen_ok,run_equalIn_string w d _ _ _ he,e,sEq]
  cases hxy:(x==y) with
  | true=>simpa using ih
  | false=>simp
section
variable {P:Program} {a:Act} {o:Oper} {w:World}
theorem zM0 {t e:Nat} (X Y:List (List UInt8)) (hu:P.underlying t=some (.array X.length e)) (hn:X.length=Y.length)
  (he:(P.underlying e,(P.info? e).isSome,P.cellsOf e,P.plainKey e)=(some .string,true,1,true)):
  (Op.equal t (.agg (X.map fun l=>Value.string ⟨l.toArray⟩).toArray) (.agg (Y.map fun l=>Value.string ⟨l.toArray⟩).toArray)).run P w=.ok (sEq X Y) w:=by
 simp only [Prod.mk.injEq] at he
 obtain ⟨h1,h2,h3,h4⟩:=he
 obtain ⟨i,hi⟩:=Option.isSome_iff_exists.1 h2
 show (Op.equalIn (9999+1) t _ _).run P w=_
 rw [run_equalIn_array w 9999 _ _ hu hi,h3,List.range_eq_range']
 exact zz4 (d:=9998) h1 h4 _ _ X Y 0 hn (fun j x hj=>by simp [hj]) (fun j y hj=>by simp [hj])
theorem yp3 (t t2 e:Nat) (x y:Operand) (X Y:List (List UInt8)) (hop:o.op=.binOp .eql t x y t2) (hx:a.eval x=.agg (X.map fun l=>Value.string ⟨l.toArray⟩).toArray) (hy:a.eval y=.agg (Y.map fun l=>Value.string ⟨l.toArray⟩).toArray)
  (hu:(P.underlying t,decide (X.length=Y.length))=(some (.array X.length e),true)) (he:(P.underlying e,(P.info? e).isSome,P.cellsOf e,P.plainKey e)=(some .string,true,1,true)) (hg:P.eqGuardType P.depth t=false):
  RunV P a o w (.bool (sEq X Y)):=by
 simp only [Prod.mk.injEq,decide_eq_true_eq] at hu
 have h:=zM0 (w:=w) X Y hu.1 hu.2 he
 unfold RunV execOp
 simp only [hop,hx,hy]
 simp [go_sem,binOp,eqGuard,hg,h]
theorem rv_ssn (t t2 e:Nat) (x y:Operand) (X Y:List (List UInt8)) (hop:o.op=.binOp .neq t x y t2) (hx:a.eval x=.agg (X.map fun l=>Value.string ⟨l.toArray⟩).toArray) (hy:a.eval y=.agg (Y.map fun l=>Value.string ⟨l.toArray⟩).toArray)
  (hu:(P.underlying t,decide (X.length=Y.length))=(some (.array X.length e),true)) (he:(P.underlying e,(P.info? e).isSome,P.cellsOf e,P.plainKey e)=(some .string,true,1,true)) (hg:P.eqGuardType P.depth t=false):
  RunV P a o w (.bool (!sEq X Y)):=by
 simp only [Prod.mk.injEq,decide_eq_true_eq] at hu
 have h:=zM0 (w:=w) X Y hu.1 hu.2 he
 unfold RunV execOp
 simp only [hop,hx,hy]
 simp [go_sem,binOp,eqGuard,hg,h]
end
theorem yf1:∀ (X:List (List UInt8)),sEq X X=true
 | []=>rfl
 | x::xs=>by rw [sEq,yf1 xs,beq_self_eq_true];rfl
theorem ratL_inj {a b:Rat} (h:za1 a=za1 b):a=b:=by
 have h1:=zv3 a
 have h2:=zF7 a
 rw [h,zv3] at h1
 rw [h,zF7] at h2
 have e1:=zz1 h1
 have e2:=zz1 h2
 exact Rat.ext e1.symm (by omega)
abbrev RS (k:Nat) (a:Rat):Prop:=Sz k a.num∧Sz k (a.den:Int)
theorem RS.add {k m:Nat} {a b:Rat} (ha:RS k a) (hb:RS m b):RS (k+m+1) (a+b):=by
 rw [← zR8]
 have h:=(ha.1.mul hb.2).add' (by have:=hb.1.mul ha.2;rw [Nat.add_comm] at this;exact this)
 exact zH3 h ((ha.2.mul hb.2).mono (by omega)) (Int.ne_of_gt (zE6 a b))
theorem RS.mul {k m:Nat} {a b:Rat} (ha:RS k a) (hb:RS m b):RS (k+m) (a*b):=by
 rw [← zR9]
 exact zH3 (ha.1.mul hb.1) (ha.2.mul hb.2) (Int.ne_of_gt (zE6 a b))
theorem RS.neg {k:Nat} {a:Rat} (h:RS k a):RS k (-a):=yx5 h
theorem RS.sub {k m:Nat} {a b:Rat} (ha:RS k a) (hb:RS m b):RS (k+m+1) (a - b):=by
 rw [Rat.sub_eq_add_neg];exact ha.add hb.neg
theorem RS.div {k m:Nat} {a b:Rat} (ha:RS k a) (hb:RS m b) (h0:b.num≠0):RS (k+m) (a/b):=by
 rw [← yc8]
 exact zH3 (ha.1.mul hb.2) (ha.2.mul hb.1) (Int.mul_ne_zero (Int.ne_of_gt (zr4 a)) h0)
theorem RS.int {k:Nat} {z:Int} (h:Sz k z) (hk:0<k):RS k (z:Rat):=⟨h,show (1:Nat)<2 ^ k from Nat.one_lt_two_pow (by omega)⟩
theorem RS.mono {k m:Nat} {a:Rat} (h:RS k a) (hk:k≤m):RS m a:=⟨h.1.mono hk,h.2.mono hk⟩
def zj1:List Int→List Int→Bool
 | x::xs,y::ys=>x==y&&zj1 xs ys
 | _,_=>true
def eqL:Bool→List Int→List Int→Bool
 | b,x::xs,y::ys=>eqL (b&&x==y) xs ys
 | b,_,_=>b
theorem yp2:∀ (X Y:List Int) (b:Bool),eqL b X Y=(b&&zj1 X Y)
 | [],_,b=>by simp [eqL,zj1]
 | _::_,[],b=>by simp [eqL,zj1]
 | x::xs,y::ys,b=>by rw [eqL,yp2 xs ys,zj1,Bool.and_assoc]
def zz3:List Int→List Int→Bool
 | x::xs,y::ys=>eqL (x==y) xs ys
 | _,_=>true
theorem zT9 (X Y:List Int):zz3 X Y=zj1 X Y:=by
 cases X with
 | nil=>cases Y<;>rfl
 | cons x xs=>cases Y with
  | nil=>rfl
  | cons y ys=>rw [zz3,yp2,zj1]

theorem zF2 {P:Program} {w:World} {d e:Nat} {k:IntKind} (he:P.underlying e=some (.int k)) (hp:P.plainKey e=true) (A B:Array Value):
  ∀ (X Y:List Int) (i0:Nat),X.length=Y.length→(∀ j x,X[j]?=some x→A[i0+j]?=some (.int k x))→(∀ j y,Y[j]?=some y→B[i0+j]?=some (.int k y))→
   (Op.eqItems (d+1) e 1 A B (List.range' i0 X.length)).run P w=.ok (zj1 X Y) w
 | [],_,_,_,_,_=>by simp [Op.eqItems,zj1]
 | x::xs,[],_,h,_,_=>by simp at h
 | x::xs,y::ys,i0,h,hA,hB=>by
  have h1:A[i0]?=some (.int k x):=hA 0 x rfl
  have h2:B[i0]?=some (.int k y):=hB 0 y rfl
  have ih:=zF2 (w:=w) (d:=d) he hp A B xs ys (i0+1) (by simpa using h) (fun j z hj=>by have:=hA (j+1) z hj;rwa [show i0+(j+1)=i0+1+j by omega] at this)
   (fun j z hj=>by have:=hB (j+1) z hj;rwa [show i0+(j+1)=i0+1+j by omega] at this)
  rw [List.length_cons,List.range'_succ]
  simp only [Op.eqItems,Sem.run_bind,Nat.mul_one,run_part_plain w hp h1,run_part_plain w hp h2,Result.andThen_ok,run_equalIn_int w d e k k x y he,zj1]
  cases hxy:(x==y) with
  | true=>simpa using ih
  | false=>simp

section
variable {P:Program} {a:Act} {o:Oper} {w:World}
theorem zU0 {t e:Nat} {k:IntKind} (X Y:List Int) (hu:P.underlying t=some (.array X.length e)) (hn:X.length=Y.length)
  (he:(P.underlying e,(P.info? e).isSome,P.cellsOf e,P.plainKey e)=(some (.int k),true,1,true)):
  (Op.equal t (.agg (X.map (Value.int k)).toArray) (.agg (Y.map (Value.int k)).toArray)).run P w=.ok (zj1 X Y) w:=by
 simp only [Prod.mk.injEq] at he
 obtain ⟨h1,h2,h3,h4⟩:=he
 obtain ⟨i,hi⟩:=Option.isSome_iff_exists.1 h2
 show (Op.equalIn (9999+1) t _ _).run P w=_
 rw [run_equalIn_array w 9999 _ _ hu hi,h3,List.range_eq_range']
 exact zF2 (d:=9998) h1 h4 _ _ X Y 0 hn (fun j x hj=>by simp [hj]) (fun j y hj=>by simp [hj])
theorem yf0 (t t2 e:Nat) {k:IntKind} (x y:Operand) (X Y:List Int) (hop:o.op=.binOp .eql t x y t2) (hx:a.eval x=.agg (X.map (Value.int k)).toArray) (hy:a.eval y=.agg (Y.map (Value.int k)).toArray)
  (hu:(P.underlying t,decide (X.length=Y.length))=(some (.array X.length e),true)) (he:(P.underlying e,(P.info? e).isSome,P.cellsOf e,P.plainKey e)=(some (.int k),true,1,true)) (hg:P.eqGuardType P.depth t=false):
  RunV P a o w (.bool (zz3 X Y)):=by
 simp only [Prod.mk.injEq,decide_eq_true_eq] at hu
 have h:=zU0 (w:=w) X Y hu.1 hu.2 he
 rw [zT9]
 unfold RunV execOp
 simp only [hop,hx,hy]
 simp [go_sem,binOp,eqGuard,hg,h]
theorem rv_arrne (t t2 e:Nat) {k:IntKind} (x y:Operand) (X Y:List Int) (hop:o.op=.binOp .neq t x y t2) (hx:a.eval x=.agg (X.map (Value.int k)).toArray) (hy:a.eval y=.agg (Y.map (Value.int k)).toArray)
  (hu:(P.underlying t,decide (X.length=Y.length))=(some (.array X.length e),true)) (he:(P.underlying e,(P.info? e).isSome,P.cellsOf e,P.plainKey e)=(some (.int k),true,1,true)) (hg:P.eqGuardType P.depth t=false):
  RunV P a o w (.bool (!zz3 X Y)):=by
 simp only [Prod.mk.injEq,decide_eq_true_eq] at hu
 have h:=zU0 (w:=w) X Y hu.1 hu.2 he
 rw [zT9]
 unfold RunV execOp
 simp only [hop,hx,hy]
 simp [go_sem,binOp,eqGuard,hg,h]
end
section
variable {P:Program} {a:Act} {o:Oper} {w:World}
theorem zk4 {e n e' off:Nat} {xs:Array Value} (hu:P.underlying e=some (.array n e')):(part e xs off).run P w=.ok (.agg (xs.extract off (off+P.cellsOf e))) w:=by
 obtain ⟨i,hi⟩:=info_of_underlying hu
 simp [part,isAgg,run_underlying hu,run_sizeOf w hi]
theorem zW2 {t tA tS eA eS:Nat} (z0 z1 z2 z3 y0 y1 y2 y3:Int) (X0 X1 X2 Y0 Y1 Y2:List UInt8)
  (ht:P.underlying t=some (.struct (P.fieldsOf t))) (hs:P.stoodInHeld t=false)
  (hf:((P.fieldsOf t).toList.map fun f=>(f.name=="_",f.type,f.offset))=[(false,tA,0),(false,tS,4)])
  (hA:(P.underlying tA,P.cellsOf tA)=(some (.array 4 eA),4)) (hS:(P.underlying tS,P.cellsOf tS)=(some (.array 3 eS),3))
  (heA:(P.underlying eA,(P.info? eA).isSome,P.cellsOf eA,P.plainKey eA)=(some (.int .i64),true,1,true))
  (heS:(P.underlying eS,(P.info? eS).isSome,P.cellsOf eS,P.plainKey eS)=(some .string,true,1,true)):
  (Op.equal t (.agg #[.int .i64 z0,.int .i64 z1,.int .i64 z2,.int .i64 z3,.string ⟨X0.toArray⟩,.string ⟨X1.toArray⟩,.string ⟨X2.toArray⟩])
   (.agg #[.int .i64 y0,.int .i64 y1,.int .i64 y2,.int .i64 y3,.string ⟨Y0.toArray⟩,.string ⟨Y1.toArray⟩,.string ⟨Y2.toArray⟩])).run P w
   =.ok (zj1 [z0,z1,z2,z3] [y0,y1,y2,y3]&&sEq [X0,X1,X2] [Y0,Y1,Y2]) w:=by
 simp only [Prod.mk.injEq] at hA hS
 obtain ⟨aa,ac⟩:=hA
 obtain ⟨ab,ad⟩:=hS
 obtain ⟨f1,f2,hfs⟩:∃ f1 f2,(P.fieldsOf t).toList=[f1,f2]:=by
  generalize (P.fieldsOf t).toList=l at hf
  rcases l with _ | ⟨f1,_ | ⟨f2,_ | ⟨f3,l⟩⟩⟩
  ·simp at hf
  ·simp at hf
  ·exact ⟨f1,f2,rfl⟩
  ·simp at hf
 rw [hfs] at hf
 simp only [List.map_cons,List.map_nil,List.cons.injEq,Prod.mk.injEq,and_true,beq_eq_false_iff_ne,ne_eq] at hf
 obtain ⟨⟨n1,t1,o1⟩,n2,t2,o2⟩:=hf
 have p1:=zk4 (P:=P) (w:=w) (off:=0) (xs:=#[.int .i64 z0,.int .i64 z1,.int .i64 z2,.int .i64 z3,.string ⟨X0.toArray⟩,.string ⟨X1.toArray⟩,.string ⟨X2.toArray⟩]) aa
 have p2:=zk4 (P:=P) (w:=w) (off:=0) (xs:=#[.int .i64 y0,.int .i64 y1,.int .i64 y2,.int .i64 y3,.string ⟨Y0.toArray⟩,.string ⟨Y1.toArray⟩,.string ⟨Y2.toArray⟩]) aa
 have p3:=zk4 (P:=P) (w:=w) (off:=4) (xs:=#[.int .i64 z0,.int .i64 z1,.int .i64 z2,.int .i64 z3,.string ⟨X0.toArray⟩,.string ⟨X1.toArray⟩,.string ⟨X2.toArray⟩]) ab
 have p4:=zk4 (P:=P) (w:=w) (off:=4) (xs:=#[.int .i64 y0,.int .i64 y1,.int .i64 y2,.int .i64 y3,.string ⟨Y0.toArray⟩,.string ⟨Y1.toArray⟩,.string ⟨Y2.toArray⟩]) ab
 rw [ac] at p1 p2
 rw [ad] at p3 p4
 have q1:(Op.equalIn 9999 tA (.agg #[.int .i64 z0,.int .i64 z1,.int .i64 z2,.int .i64 z3]) (.agg #[.int .i64 y0,.int .i64 y1,.int .i64 y2,.int .i64 y3])).run P w=.ok (zj1 [z0,z1,z2,z3] [y0,y1,y2,y3]) w:=by
  simp only [Prod.mk.injEq] at heA
  obtain ⟨h1,h2,h3,h4⟩:=heA
  obtain ⟨i,hi⟩:=Option.isSome_iff_exists.1 h2
  show (Op.equalIn (9998+1) tA _ _).run P w=_
  rw [run_equalIn_array w 9998 _ _ aa hi,h3,List.range_eq_range']
  exact zF2 (d:=9997) h1 h4 _ _ [z0,z1,z2,z3] [y0,y1,y2,y3] 0 rfl (fun j x hj=>by
   rcases j with _ | _ | _ | _ | j<;>simp_all) (fun j x hj=>by rcases j with _ | _ | _ | _ | j<;>simp_all)
 have q2:(Op.equalIn 9999 tS (.agg #[.string ⟨X0.toArray⟩,.string ⟨X1.toArray⟩,.string ⟨X2.toArray⟩]) (.agg #[.string ⟨Y0.toArray⟩,.string ⟨Y1.toArray⟩,.string ⟨Y2.toArray⟩])).run P w=.ok (sEq [X0,X1,X2] [Y0,Y1,Y2]) w:=by
  simp only [Prod.mk.injEq] at heS
  obtain ⟨h1,h2,h3,h4⟩:=heS
  obtain ⟨i,hi⟩:=Option.isSome_iff_exists.1 h2
  show (Op.equalIn (9998+1) tS _ _).run P w=_
  rw [run_equalIn_array w 9998 _ _ ab hi,h3,List.range_eq_range']
  exact zz4 (d:=9997) h1 h4 _ _ [X0,X1,X2] [Y0,Y1,Y2] 0 rfl (fun j x hj=>by
   rcases j with _ | _ | _ | j<;>simp_all) (fun j x hj=>by rcases j with _ | _ | _ | j<;>simp_all)
 show (Op.equalIn (9999+1) t _ _).run P w=_
 rw [run_equalIn_struct w 9999 t _ _ ht hs,hfs]
 simp only [Op.eqFields,n1,n2,t1,t2,o1,o2,not_false_eq_true,ne_eq,if_true,Sem.run_bind,p1,p2,Result.andThen_ok]
 simp only [Array.extract,Nat.zero_add]
 refine Eq.trans (b:=Result.andThen (.ok (zj1 [z0,z1,z2,z3] [y0,y1,y2,y3]) w) _) (congrArg (fun r=>Result.andThen r _) q1) ?_
 rw [Result.andThen_ok]
 cases h:zj1 [z0,z1,z2,z3] [y0,y1,y2,y3] with
 | false=>simp
 | true=>
  simp only [Bool.not_true,Bool.false_eq_true,if_false,Sem.run_bind,p3,p4,Result.andThen_ok]
  refine Eq.trans (b:=Result.andThen (.ok (sEq [X0,X1,X2] [Y0,Y1,Y2]) w) _) (congrArg (fun r=>Result.andThen r _) q2) ?_
  rw [Result.andThen_ok]
  cases h2:sEq [X0,X1,X2] [Y0,Y1,Y2]<;>simp
theorem rv_plceq (t t2 tA tS eA eS:Nat) (x y:Operand) (z0 z1 z2 z3 y0 y1 y2 y3:Int) (X0 X1 X2 Y0 Y1 Y2:List UInt8) (hop:o.op=.binOp .eql t x y t2)
  (hx:a.eval x=.agg #[.int .i64 z0,.int .i64 z1,.int .i64 z2,.int .i64 z3,.string ⟨X0.toArray⟩,.string ⟨X1.toArray⟩,.string ⟨X2.toArray⟩])
  (hy:a.eval y=.agg #[.int .i64 y0,.int .i64 y1,.int .i64 y2,.int .i64 y3,.string ⟨Y0.toArray⟩,.string ⟨Y1.toArray⟩,.string ⟨Y2.toArray⟩])
  (ht:P.underlying t=some (.struct (P.fieldsOf t))) (hs:P.stoodInHeld t=false)
  (hf:((P.fieldsOf t).toList.map fun f=>(f.name=="_",f.type,f.offset))=[(false,tA,0),(false,tS,4)])
  (hA:(P.underlying tA,P.cellsOf tA)=(some (.array 4 eA),4)) (hS:(P.underlying tS,P.cellsOf tS)=(some (.array 3 eS),3))
  (heA:(P.underlying eA,(P.info? eA).isSome,P.cellsOf eA,P.plainKey eA)=(some (.int .i64),true,1,true))
  (heS:(P.underlying eS,(P.info? eS).isSome,P.cellsOf eS,P.plainKey eS)=(some .string,true,1,true)) (hg:P.eqGuardType P.depth t=false):
  RunV P a o w (.bool (zj1 [z0,z1,z2,z3] [y0,y1,y2,y3]&&sEq [X0,X1,X2] [Y0,Y1,Y2])):=by
 have h:=zW2 (P:=P) (w:=w) z0 z1 z2 z3 y0 y1 y2 y3 X0 X1 X2 Y0 Y1 Y2 ht hs hf hA hS heA heS
 unfold RunV execOp
 simp only [hop,hx,hy]
 simp [go_sem,binOp,eqGuard,hg,h]
theorem rv_plcne (t t2 tA tS eA eS:Nat) (x y:Operand) (z0 z1 z2 z3 y0 y1 y2 y3:Int) (X0 X1 X2 Y0 Y1 Y2:List UInt8) (hop:o.op=.binOp .neq t x y t2)
  (hx:a.eval x=.agg #[.int .i64 z0,.int .i64 z1,.int .i64 z2,.int .i64 z3,.string ⟨X0.toArray⟩,.string ⟨X1.toArray⟩,.string ⟨X2.toArray⟩])
  (hy:a.eval y=.agg #[.int .i64 y0,.int .i64 y1,.int .i64 y2,.int .i64 y3,.string ⟨Y0.toArray⟩,.string ⟨Y1.toArray⟩,.string ⟨Y2.toArray⟩])
  (ht:P.underlying t=some (.struct (P.fieldsOf t))) (hs:P.stoodInHeld t=false)
  (hf:((P.fieldsOf t).toList.map fun f=>(f.name=="_",f.type,f.offset))=[(false,tA,0),(false,tS,4)])
  (hA:(P.underlying tA,P.cellsOf tA)=(some (.array 4 eA),4)) (hS:(P.underlying tS,P.cellsOf tS)=(some (.array 3 eS),3))
  (heA:(P.underlying eA,(P.info? eA).isSome,P.cellsOf eA,P.plainKey eA)=(some (.int .i64),true,1,true))
  (heS:(P.underlying eS,(P.info? eS).isSome,P.cellsOf eS,P.plainKey eS)=(some .string,true,1,true)) (hg:P.eqGuardType P.depth t=false):
  RunV P a o w (.bool (!(zj1 [z0,z1,z2,z3] [y0,y1,y2,y3]&&sEq [X0,X1,X2] [Y0,Y1,Y2]))):=by
 have h:=zW2 (P:=P) (w:=w) z0 z1 z2 z3 y0 y1 y2 y3 X0 X1 X2 Y0 Y1 Y2 ht hs hf hA hS heA heS
 unfold RunV execOp
 simp only [hop,hx,hy]
 simp [go_sem,binOp,eqGuard,hg,h]
def plcT (P:Program) (t:TypeId):Bool:=match P.underlying t with
 | some (.struct fs)=>match fs.toList with
  | [f,g]=>f.name !="_"&&g.name !="_"&&Nat.beq f.offset 0&&Nat.beq g.offset 4&&!P.stoodInHeld t&&(match P.underlying f.type,P.underlying g.type with
   | some (.array 4 d),some (.array 3 e)=>Nat.beq (P.cellsOf f.type) 4&&Nat.beq (P.cellsOf g.type) 3&&(match P.underlying d,P.underlying e with
    | some (.int .i64),some .string=>(P.info? d).isSome&&Nat.beq (P.cellsOf d) 1&&P.plainKey d&&(P.info? e).isSome&&Nat.beq (P.cellsOf e) 1&&P.plainKey e
    | _,_=>false)
   | _,_=>false)
  | _=>false
 | _=>false
theorem plcT_ok {t:TypeId} (h:plcT P t=true):∃ tA tS eA eS,P.underlying t=some (.struct (P.fieldsOf t))∧P.stoodInHeld t=false∧((P.fieldsOf t).toList.map fun f=>(f.name=="_",f.type,f.offset))=[(false,tA,0),(false,tS,4)]∧
  (P.underlying tA,P.cellsOf tA)=(some (.array 4 eA),4)∧(P.underlying tS,P.cellsOf tS)=(some (.array 3 eS),3)∧(P.underlying eA,(P.info? eA).isSome,P.cellsOf eA,P.plainKey eA)=(some (.int .i64),true,1,true)∧
  (P.underlying eS,(P.info? eS).isSome,P.cellsOf eS,P.plainKey eS)=(some .string,true,1,true):=by
 unfold plcT at h
 split at h
 ·rename_i fs hu
  split at h
  ·rename_i f g hl
   simp only [Bool.and_eq_true,Nat.beq_eq,bne_iff_ne,ne_eq,Bool.not_eq_true'] at h
   obtain ⟨⟨⟨⟨⟨n1,n2⟩,o1⟩,o2⟩,hs⟩,h⟩:=h
   split at h
   ·rename_i d e hd he
    simp only [Bool.and_eq_true,Nat.beq_eq] at h
    obtain ⟨⟨c1,c2⟩,h⟩:=h
    split at h
    ·rename_i kd ke
     simp only [Bool.and_eq_true,Nat.beq_eq] at h
     obtain ⟨⟨⟨⟨⟨i1,i2⟩,i3⟩,j1⟩,j2⟩,j3⟩:=h
     have hf:P.fieldsOf t=fs:=by unfold Program.fieldsOf;rw [hu]
     refine ⟨f.type,g.type,d,e,by rw [hf];exact hu,hs,?_,by rw [hd,c1],by rw [he,c2],by rw [kd,i1,i2,i3],by rw [ke,j1,j2,j3]⟩
     rw [hf,hl]
     simp [n1,n2,o1,o2]
    ·cases h
   ·cases h
  ·cases h
 ·cases h
end
set_option maxRecDepth 100000 in
set_option maxHeartbeats 1000000 in
theorem vof_v (n1 n2 n3:Int) (_j1:-9223372036854775808≤n1∧n1≤9223372036854775807) (_j2:-9223372036854775808≤n2∧n2≤9223372036854775807) (_j3:-9223372036854775808≤n3∧n3≤9223372036854775807) (w:World):
    Calls Tryz.prog 53 #[(.agg #[(.int .i64 (n1)),(.int .i64 (n2)),(.int .i64 (n3))])] w fun e w'=>(∃ t0 t1 t2 t3 t4 t5 t6 t7 t8 t9 aU aP,e=.returned (.agg #[t0,t1,t2,t3,t4,t5,t6,t7,t8,t9,aU,aP])∧IsRat w' 64 t0 t1 t2 t3 ((n1:Int):Rat)∧IsRat w' 64 t4 t5 t6 t7 ((n2:Int):Rat)∧IsRat w' 64 t8 t9 aU aP ((n3:Int):Rat))∧Gr w w':=by
 go_enter Tryz.func53,Tryz.ntmps53
 have hB:=Gr.refl w
 refine wp_seq_k (fun K1 k1=>?_)
 refine rg [0,1] ?_
 refine se ?_
 refine eb 101 #[(.int .i64 (n1)),(.int .i64 (n2)),(.int .i64 (n3))] 1 hB fun b2 w2 g2 L2 o2 q2 hB=>?_
 simp only [p3,p4]
 refine se ?_
 refine ea 38 #[.bool false,.slice none 0 0,.bool false,.slice none 0 0,.bool false,.slice none 0 0,.bool false,.slice none 0 0,.bool false,.slice none 0 0,.bool false,.slice none 0 0] 2 hB fun b3 w3 g3 L3 o3 q3 hB=>?_
 simp only [p3,p4]
 refine za0 ?_
 refine k1 _ _ ?_
 try clear k1 K1
 refine wp_seq_k (fun K4 k4=>?_)
 refine rg [0] ?_
 refine se ?_
 refine ea 38 #[.bool false,.slice none 0 0,.bool false,.slice none 0 0,.bool false,.slice none 0 0,.bool false,.slice none 0 0,.bool false,.slice none 0 0,.bool false,.slice none 0 0] 3 hB fun b5 w5 g5 L5 o5 q5 hB=>?_
 replace L2:=L2.gr g3
 have ac:=L3.ne o5
 simp only [p3,p4]
 refine za0 ?_
 refine k4 _ _ ?_
 try clear k4 K4
 refine wp_seq_k (fun K6 k6=>?_)
 refine wp_seq_k (fun K7 k7=>?_)
 refine rg [0,1] ?_
 replace L2:=L2.gr g5
 refine sw 6 (.agg #[(.int .i64 (n1)),(.int .i64 (n2)),(.int .i64 (n3))]) rfl (rl 101 0 [(.int .i64 (n1)),(.int .i64 (n2)),(.int .i64 (n3))] L2) ?_
 refine sv 7 (.int .i64 0) ?_
 refine za0 ?_
 refine k7 _ _ ?_
 try clear k7 K7
 refine wp_block ?_
 refine wp_loop_rounds 4 ?_
 show Code.wp _ _ _ _ _
 refine wp_seq_k (fun K8 k8=>?_)
 refine rg [0] ?_
 refine sv 8 (.bool true) ?_
 refine za0 ?_
 refine k8 _ _ ?_
 try clear k8 K8
 refine wp_seq_k (fun K9 k9=>?_)
 refine wp_cond_true rfl ?_
 refine wp_skip ?_
 refine k9 _ _ ?_
 try clear k9 K9
 refine wp_seq_k (fun a4 aS=>?_)
 refine wp_block ?_
 refine wp_seq_k (fun a1 aJ=>?_)
 refine rg [0,1,2,3] ?_
 refine sv 9 (.int .i64 0) ?_
 refine sv 10 (.int .i64 (n1)) ?_
 refine sv 4 (.int .i64 0) ?_
 refine sv 5 (.int .i64 (n1)) ?_
 refine za0 ?_
 refine aJ _ _ ?_
 try clear aJ a1
 refine rg [0,1,2,3,4] ?_
 refine sv 11 (.int .i64 0) ?_
 refine sv 12 (.int .i64 (n1)) ?_
 refine se ?_
 refine ec 13 (zV0 (n1) (by omega) (by omega) _) ?_
 rintro e12 ba ⟨⟨ad,q12,ah,af,rfl,aa⟩,aB⟩
 refine ⟨_,rfl,?_⟩
 replace hB:=hB.trans aB
 simp only [p3,p4]
 refine sv 14 (.pointer (some ⟨b5,0,none⟩)) ?_
 refine se ?_
 replace L5:=L5.gr aB
 refine es 36 0 (.agg #[ad,q12,ah,af]) [ad,q12,ah,af] #[ad,q12,ah,af,.bool false,.slice none 0 0,.bool false,.slice none 0 0,.bool false,.slice none 0 0,.bool false,.slice none 0 0] L5 hB q5 ⟨aa.one0,aa.one1,aa.one2,aa.one3,trivial⟩ fun a9 aD aF L5 hB=>?_
 refine za0 ?_
 refine aS _ _ ?_
 try clear aS a4
 refine rg [0,1] ?_
 refine sv 15 (.int .i64 1) ?_
 refine sv 7 (.int .i64 1) ?_
 refine za0 ?_
 show Code.rounds _ _ _ _ _ _
 show Code.wp _ _ _ _ _
 refine wp_seq_k (fun a8 aL=>?_)
 refine rg [0] ?_
 refine sv 8 (.bool true) ?_
 refine za0 ?_
 refine aL _ _ ?_
 try clear aL a8
 refine wp_seq_k (fun aW aQ=>?_)
 refine wp_cond_true rfl ?_
 refine wp_skip ?_
 refine aQ _ _ ?_
 try clear aQ aW
 refine wp_seq_k (fun a7 aK=>?_)
 refine wp_block ?_
 refine wp_seq_k (fun aZ aT=>?_)
 refine rg [0,1,2,3] ?_
 refine sv 9 (.int .i64 1) ?_
 refine sv 10 (.int .i64 (n2)) ?_
 refine sv 4 (.int .i64 1) ?_
 refine sv 5 (.int .i64 (n2)) ?_
 refine za0 ?_
 refine aT _ _ ?_
 try clear aT aZ
 refine rg [0,1,2,3,4] ?_
 refine sv 11 (.int .i64 1) ?_
 refine sv 12 (.int .i64 (n2)) ?_
 refine se ?_
 refine ec 13 (zV0 (n2) (by omega) (by omega) _) ?_
 rintro bf bc ⟨⟨aj,ak,ai,al,rfl,ab⟩,az⟩
 refine ⟨_,rfl,?_⟩
 replace hB:=hB.trans az
 simp only [p3,p4]
 refine sv 14 (.pointer (some ⟨b5,4,none⟩)) ?_
 refine se ?_
 replace L5:=L5.gr az
 refine es 36 4 (.agg #[aj,ak,ai,al]) [aj,ak,ai,al] #[ad,q12,ah,af,aj,ak,ai,al,.bool false,.slice none 0 0,.bool false,.slice none 0 0] L5 hB q5 ⟨ab.one0,ab.one1,ab.one2,ab.one3,trivial⟩ fun bk aC ax L5 hB=>?_
 refine za0 ?_
 refine aK _ _ ?_
 try clear aK a7
 refine rg [0,1] ?_
 refine sv 15 (.int .i64 2) ?_
 refine sv 7 (.int .i64 2) ?_
 refine za0 ?_
 show Code.rounds _ _ _ _ _ _
 show Code.wp _ _ _ _ _
 refine wp_seq_k (fun aY aO=>?_)
 refine rg [0] ?_
 refine sv 8 (.bool true) ?_
 refine za0 ?_
 refine aO _ _ ?_
 try clear aO aY
 refine wp_seq_k (fun a2 aV=>?_)
 refine wp_cond_true rfl ?_
 refine wp_skip ?_
 refine aV _ _ ?_
 try clear aV a2
 refine wp_seq_k (fun aX aM=>?_)
 refine wp_block ?_
 refine wp_seq_k (fun a0 aI=>?_)
 refine rg [0,1,2,3] ?_
 refine sv 9 (.int .i64 2) ?_
 refine sv 10 (.int .i64 (n3)) ?_
 refine sv 4 (.int .i64 2) ?_
 refine sv 5 (.int .i64 (n3)) ?_
 refine za0 ?_
 refine aI _ _ ?_
 try clear aI a0
 refine rg [0,1,2,3,4] ?_
 refine sv 11 (.int .i64 2) ?_
 refine sv 12 (.int .i64 (n3)) ?_
 refine se ?_
 refine ec 13 (zV0 (n3) (by omega) (by omega) _) ?_
 rintro bb bi ⟨⟨ar,aq,au,ap,rfl,ae⟩,ay⟩
 refine ⟨_,rfl,?_⟩
 replace hB:=hB.trans ay
 simp only [p3,p4]
 refine sv 14 (.pointer (some ⟨b5,8,none⟩)) ?_
 refine se ?_
 replace L5:=L5.gr ay
 refine es 36 8 (.agg #[ar,aq,au,ap]) [ar,aq,au,ap] #[ad,q12,ah,af,aj,ak,ai,al,ar,aq,au,ap] L5 hB q5 ⟨ae.one0,ae.one1,ae.one2,ae.one3,trivial⟩ fun bd aA aw L5 hB=>?_
 refine za0 ?_
 refine aM _ _ ?_
 try clear aM aX
 refine rg [0,1] ?_
 refine sv 15 (.int .i64 3) ?_
 refine sv 7 (.int .i64 3) ?_
 refine za0 ?_
 show Code.rounds _ _ _ _ _ _
 show Code.wp _ _ _ _ _
 refine wp_seq_k (fun a5 aR=>?_)
 refine rg [0] ?_
 refine sv 8 (.bool false) ?_
 refine za0 ?_
 refine aR _ _ ?_
 try clear aR a5
 refine wp_seq_k (fun bj bh=>?_)
 refine wp_cond_false rfl ?_
 refine wp_exit ?_
 simp only [Exit.then,Exit.inBlock,↓reduceIte]
 refine k6 _ _ ?_
 try clear k6 K6
 refine wp_seq_k (fun a3 aN=>?_)
 refine rg [0,1] ?_
 refine sw 16 (.agg #[ad,q12,ah,af,aj,ak,ai,al,ar,aq,au,ap]) rfl (rl 38 0 [ad,q12,ah,af,aj,ak,ai,al,ar,aq,au,ap] L5) ?_
 refine se ?_
 replace L3:=aA.lc ((aC.lc ((aD.lc (L3.gr (g5.trans aB)) ac).gr az) ac).gr ay) ac
 refine es 38 0 (.agg #[ad,q12,ah,af,aj,ak,ai,al,ar,aq,au,ap]) [ad,q12,ah,af,aj,ak,ai,al,ar,aq,au,ap] #[ad,q12,ah,af,aj,ak,ai,al,ar,aq,au,ap] L3 hB q3 ⟨aa.one0,aa.one1,aa.one2,aa.one3,ab.one0,ab.one1,ab.one2,ab.one3,ae.one0,ae.one1,ae.one2,ae.one3,trivial⟩ fun bg a6 av L3 hB=>?_
 refine za0 ?_
 refine aN _ _ ?_
 try clear aN a3
 refine wp_ret ?_
 refine bodyPost_ret (v:=(.agg #[ad,q12,ah,af,aj,ak,ai,al,ar,aq,au,ap])) (za9 _ _ _ rfl rfl L3 (by kernel_rfl)) rfl ⟨?_,hB⟩
 have aH:=aF.trans (az.kp.trans (ax.trans (ay.kp.trans (aw.trans av))))
 replace aa:=aa.kp aH
 have aG:=ax.trans (ay.kp.trans (aw.trans av))
 replace ab:=ab.kp aG
 have aE:=aw.trans av
 replace ae:=ae.kp aE
 exact ⟨_,_,_,_,_,_,_,_,_,_,_,_,rfl,aa,ab,ae⟩

def zC7 (d x:Int):Int:=d/(Int.gcd d x:Int)*x
theorem gcd_ex (d:Int) (q:Rat):0<(Int.gcd d (q.den:Int):Int)∧(Int.gcd d (q.den:Int):Int)∣d:=by
 have:=q.den_pos
 refine ⟨?_,Int.gcd_dvd_left ..⟩
 have:Int.gcd d (q.den:Int)≠0:=by rw [Ne,Int.gcd_eq_zero_iff];omega
 omega
theorem zn3 {d:Int} (q:Rat) (h:0<d):0<zC7 d (q.den:Int):=by
 have:=q.den_pos
 obtain ⟨h1,h2⟩:=gcd_ex d q
 obtain ⟨c,hc⟩:=h2
 unfold zC7
 refine Int.mul_pos ?_ (by omega)
 have:d/(Int.gcd d (q.den:Int):Int)=c:=by
  conv=>lhs;lhs;rw [hc]
  exact Int.mul_ediv_cancel_left c (by omega)
 rw [this]
 rcases Int.lt_or_le 0 c with h3 | h3
 ·exact h3
 ·have:=Int.mul_nonpos_of_nonneg_of_nonpos (Int.le_of_lt h1) h3;omega
def pden (a1 a2 a3:Rat):Int:=zC7 (zC7 (zC7 1 (a1.den:Int)) (a2.den:Int)) (a3.den:Int)
def pgcd (a1 a2 a3:Rat):Int:=
 (Int.gcd (Int.gcd (Int.gcd 0 (Rat.divInt (pden a1 a2 a3) 1*a1).num:Int) (Rat.divInt (pden a1 a2 a3) 1*a2).num:Int) (Rat.divInt (pden a1 a2 a3) 1*a3).num:Int)
def prim (a1 a2 a3 x:Rat):Rat:=Rat.divInt 1 (pgcd a1 a2 a3)*(Rat.divInt (pden a1 a2 a3) 1*x)
theorem zE8 {n D:Int} {a:Rat} (hn:-128≤n∧n≤127) (_hD:0≤D∧D≤255) (h:a=(n:Rat)/((1+D % 6:Int):Rat)):RS 16 a:=by
 have h1:RS 8 (n:Rat):=RS.int (show n.natAbs<2 ^ 8 by omega) (by omega)
 have h2:RS 8 ((1+D % 6:Int):Rat):=RS.int (show (1+D % 6).natAbs<2 ^ 8 by omega) (by omega)
 rw [h]
 exact h1.div h2 (by rw [Rat.num_intCast];omega)
def first3 (x y z:Int):Int:=if x=0 then if y=0 then z else y else x
theorem zK9 {X:List UInt8} {m:Nat} (h:ck2 X m=0) (hx:X.length≤500):∃ a:Rat,X=za1 a∧RS 2000 a∧((za1 a).length:Int)≤m:=by
 obtain ⟨⟨q,rfl⟩,hl⟩:=ck2_ratL h
 have h2:=ratL_sz q hx
 rw [show 4*500=2000 from rfl] at h2
 exact ⟨q,rfl,h2,by omega⟩
def zZ8 (s:Bool) (a:Int):Bool:=if s then decide (a≤9223372036854775808) else decide (a<9223372036854775808)
def intv (s:Bool) (a:Int):Int:=if zZ8 s a then (if s then -a else a) else 0
theorem low_or {a:Int} {k:Nat} (hk:k<2):bits BinOp.or IntKind.u64 (low a k) (dg a k*2 ^ (32*k) % 18446744073709551616)=low a (k+1):=by
 have x0:=za3 a k
 have x1:=zd7 a k
 rw [zw7]
 rcases (by omega:k=0∨k=1) with rfl | rfl
 ·rw [zn0]
  have:=or64 0 (dg a 0) (by omega) (by omega) x0 x1
  simp only [Int.zero_mul,Int.zero_add] at this
  rw [show dg a 0*2 ^ (32*0) % 18446744073709551616=dg a 0 by simp;omega,this]
  simp
 ·have e:low a 1=dg a 0:=by rw [zw7,zn0];simp
  have y0:=za3 a 0
  have y1:=zd7 a 0
  have h:=or64 (dg a 1) (dg a 0) x0 x1 y0 y1
  have e2:dg a 1*2 ^ (32*1) % 18446744073709551616=dg a 1*4294967296:=by
   rw [show (2:Int) ^ (32*1)=4294967296 by decide];omega
  rw [e,e2]
  have hc:bits BinOp.or IntKind.u64 (dg a 0) (dg a 1*4294967296)=bits BinOp.or IntKind.u64 (dg a 1*4294967296) (dg a 0):=by
   obtain ⟨u,hu⟩:=Int.eq_ofNat_of_zero_le y0
   obtain ⟨v,hv⟩:=Int.eq_ofNat_of_zero_le (show 0≤dg a 1*4294967296 by omega)
   rw [hu,hv,u64_or_nat _ _ (by omega) (by omega),u64_or_nat _ _ (by omega) (by omega),Nat.or_comm]
  rw [hc,h]
  omega
theorem dg_top2 {a:Int} {la:Nat} (h:NL a la) (hl:2<la):18446744073709551616≤a:=by
 have h1:=h.full (by omega)
 have h2:hi a 2≠0:=fun e=>h1 (zw6 e (by omega))
 have h3:=zc5 h.nonneg 2
 have e:hi a 2=a/4294967296/4294967296:=rfl
 omega
theorem int_f0 {a:Int} (h:9223372036854775808≤a):intv false a=0∧zZ8 false a=false:=by
 have e:zZ8 false a=false:=by simp [zZ8];omega
 exact ⟨by rw [intv,e];rfl,e⟩
theorem int_t1 {a:Int} (h0:0≤a) (h:a≤9223372036854775808):intv true a=wrap64 (IntKind.u64.wrap (-a))∧zZ8 true a=true:=by
 have e:zZ8 true a=true:=by simp [zZ8];omega
 refine ⟨?_,e⟩
 rw [intv,e,if_pos rfl,if_pos rfl,IntKind.wrap_u64]
 unfold wrap64
 omega
theorem int_t0 {a:Int} (h:9223372036854775808<a):intv true a=0∧zZ8 true a=false:=by
 have e:zZ8 true a=false:=by simp [zZ8];omega
 exact ⟨by rw [intv,e];rfl,e⟩
set_option maxRecDepth 100000 in
set_option maxHeartbeats 1000000 in
theorem int_c (s:Bool) (ao:Option Addr) (la ca:Nat) (a:Int) (w:World) (ha:Mag w ao la ca a):
  Calls Tryz.prog 68 #[.agg #[.bool s,.slice ao la ca]] w fun e w'=>e=.returned (.tuple #[.int .i64 (intv s a),.bool (zZ8 s a)])∧Gr w w':=by
 have f0:=heap_alloc_new w (.cells #[.bool s,.slice ao la ca] 34)
 have c0:=zb1 f0 0
 have c1:=zb1 f0 1
 have hG:Gr w (w.alloc (.cells #[.bool s,.slice ao la ca] 34)):=Gr.alloc w _
 clear f0
 have hn:=ha.nl.nonneg
 go_enter Tryz.func68,Tryz.ntmps68
 by_cases h2:(2:Int)<(la:Int)
 ·have hb:zZ8 s a=false:=by
   have:=dg_top2 ha.nl (by omega)
   unfold zZ8
   cases s<;>simp<;>omega
  have HB:=Lib.hid hb
  clear hb
  go_wp2
  go_ret2
  refine ⟨?_,hG⟩
  rw [intv,HB.out];rfl
 ·go_wp2
  go_loopw [4,14] (fun u i wr=>∃ (k:Nat),k≤la∧i=.int .i64 k∧u=.int .u64 (low a k)∧wr=w.alloc (.cells #[.bool s,.slice ao la ca] 34)) (fun _ i _=>la - (intOf i).toNat)
  case atStart=>exact ⟨0,Nat.zero_le _,rfl,by rw [zn0],rfl⟩
  case round=>
   obtain ⟨k,hk,rfl,rfl,rfl⟩:=hrel
   by_cases hlt:k<la
   ·obtain ⟨b1,aa,rfl,hcs⟩:=(ha.gr hG).row.at_ (by omega)
    have hcell:=hcs k hlt
    have x0:=za3 a k
    have x1:=zd7 a k
    have hor:=low_or (a:=a) (k:=k) (by omega)
    clear hcs
    go_wp2
    go_roundw
    case rel=>exact ⟨k+1,by omega,by go_num,by rw [IntKind.wrap_u64,hor],by first | rfl | trivial⟩
    case measure=>simp [intOf];omega
   ·obtain rfl:k=la:=by omega
    have htop:=yu0 ha.nl.top
    rw [htop]
    clear htop
    cases s
    ·by_cases hb:a<9223372036854775808
     ·go_wp2
      go_ret2
      refine ⟨?_,hG⟩
      simp [intv,zZ8,hb]
     ·have HB:=Lib.hid (int_f0 (Int.not_lt.1 hb))
      go_wp2
      go_ret2
      refine ⟨?_,hG⟩
      rw [HB.out.1,HB.out.2];rfl
    ·by_cases hb:a≤9223372036854775808
     ·have HB:=Lib.hid (int_t1 hn hb)
      go_wp2
      go_ret2
      refine ⟨?_,hG⟩
      rw [HB.out.1,HB.out.2];rfl
     ·have HB:=Lib.hid (int_t0 (Int.not_le.1 hb))
      go_wp2
      go_ret2
      refine ⟨?_,hG⟩
      rw [HB.out.1,HB.out.2];rfl
def zL7 (z:Int):Bool:=decide (-9223372036854775808≤z)&&decide (z≤9223372036854775807)
def yp0 (z:Int):Int:=if zL7 z then z else 0
theorem int_i {k:Nat} {x y:Value} {z:Int} {w:World} (h:IsInt w k x y z):
  Calls Tryz.prog 68 #[.agg #[x,y]] w fun e w'=>e=.returned (.tuple #[.int .i64 (yp0 z),.bool (zL7 z)])∧Gr w w':=by
 obtain ⟨ao,la,ca,rfl,rfl,ha,_⟩:=h
 refine (int_c _ ao la ca _ w ha).mono ?_
 rintro e w1 ⟨he,g⟩
 refine ⟨?_,g⟩
 have e1:zZ8 (decide (z<0)) (z.natAbs:Int)=zL7 z:=by
  unfold zZ8 zL7
  by_cases hz:z<0
  ·rw [decide_eq_true hz,if_pos rfl,Bool.eq_iff_iff];simp;omega
  ·rw [decide_eq_false hz,if_neg (by decide),Bool.eq_iff_iff];simp;omega
 rw [he,intv,yp0,e1]
 by_cases hz:z<0
 ·rw [decide_eq_true hz,if_pos (rfl:true=true),show -(z.natAbs:Int)=z by omega]
 ·rw [decide_eq_false hz,if_neg (Bool.false_ne_true:¬ false=true),show (z.natAbs:Int)=z by omega]
def ile:Int→Int→Bool
 | .ofNat a,.ofNat b=>Nat.ble a b
 | .negSucc _,.ofNat _=>true
 | .ofNat _,.negSucc _=>false
 | .negSucc a,.negSucc b=>Nat.ble b a
theorem zh7 (a b:Int):ile a b=decide (a≤b):=by
 rw [Bool.eq_iff_iff,decide_eq_true_eq]
 cases a<;>cases b<;>simp only [ile,Nat.ble_eq]<;>(try simp)<;>omega
def ilt (a b:Int):Bool:=!ile b a
theorem zJ6 (a b:Int):ilt a b=decide (a<b):=by
 unfold ilt
 rw [zh7,Bool.eq_iff_iff]
 simp
def kmin:IntKind→Int
 | .i8=>-128 | .i16=>-32768 | .i32=>-2147483648 | .i64=>-9223372036854775808 | _=>0
def kmax:IntKind→Int
 | .i8=>127 | .i16=>32767 | .i32=>2147483647 | .i64=>9223372036854775807
 | .u8=>255 | .u16=>65535 | .u32=>4294967295 | .u64=>18446744073709551615
theorem wrap_in (k:IntKind) (z:Int):(kmin k≤z→z≤kmax k→k.wrap z=z)∧kmin k≤k.wrap z∧k.wrap z≤kmax k:=by
 cases k<;>simp only [IntKind.wrap,IntKind.bits,IntKind.signed,kmin,kmax]<;>simp<;>first | omega | (split<;>omega)
def wr (k:IntKind) (z lo hi:Int):Cl:=if ile (kmin k) lo&&ile hi (kmax k) then .ci k z lo hi else .ci k (k.wrap z) (kmin k) (kmax k)
theorem wr_ok {k:IntKind} {z lo hi:Int} (h0:lo≤z) (h1:z≤hi) (n:Nn) (X:Env) (W:World):(wr k z lo hi).den X=.int k (k.wrap z)∧(wr k z lo hi).ok n X W:=by
 have h:=wrap_in k z
 unfold wr
 split
 ·rename_i hc
  simp only [zh7,Bool.and_eq_true,decide_eq_true_eq] at hc
  rw [h.1 (Int.le_trans hc.1 h0) (Int.le_trans h1 hc.2)]
  exact ⟨rfl,rfl,h0,h1⟩
 ·exact ⟨rfl,rfl,h.2⟩
def ltD (la ha lc hc:Int):Option Bool:=if ilt ha lc then some true else if ile hc la then some false else none
theorem ltD_ok {a c la ha lc hc:Int} (h0:la≤a∧a≤ha) (h1:lc≤c∧c≤hc):∀ v,ltD la ha lc hc=some v→decide (a<c)=v:=by
 intro v hv
 unfold ltD at hv
 split at hv
 ·cases hv;rename_i h;simp only [zJ6,decide_eq_true_eq] at*;omega
 ·split at hv
  ·cases hv;rename_i h;simp only [zh7,zJ6,decide_eq_true_eq,decide_eq_false_iff_not] at*;omega
  ·cases hv
def leD (la ha lc hc:Int):Option Bool:=if ile ha lc then some true else if ilt hc la then some false else none
theorem leD_ok {a c la ha lc hc:Int} (h0:la≤a∧a≤ha) (h1:lc≤c∧c≤hc):∀ v,leD la ha lc hc=some v→decide (a≤c)=v:=by
 intro v hv
 unfold leD at hv
 split at hv
 ·cases hv;rename_i h;simp only [zh7,decide_eq_true_eq] at*;omega
 ·split at hv
  ·cases hv;rename_i h;simp only [zh7,zJ6,decide_eq_true_eq,decide_eq_false_iff_not] at*;omega
  ·cases hv
def eqD (la ha lc hc:Int):Option Bool:=if ile ha lc&&ile hc la then some true else if ilt ha lc||ilt hc la then some false else none
theorem eqD_ok {a c la ha lc hc:Int} (h0:la≤a∧a≤ha) (h1:lc≤c∧c≤hc):∀ v,eqD la ha lc hc=some v→(a==c)=v:=by
 intro v hv
 unfold eqD at hv
 split at hv
 ·cases hv;rename_i h;simp only [zh7,Bool.and_eq_true,decide_eq_true_eq] at h;rw [beq_iff_eq];omega
 ·split at hv
  ·cases hv;rename_i h;simp only [zJ6,Bool.or_eq_true,decide_eq_true_eq] at h;rw [beq_eq_false_iff_ne];omega
  ·cases hv
def notD (d:Option Bool):Option Bool:=match d with | some v=>some (!v) | none=>none
theorem yd8 {t:Bool} {d:Option Bool} (h:∀ v,d=some v→t=v):∀ v,notD d=some v→(!t)=v:=by
 intro v hv
 unfold notD at hv
 split at hv
 ·cases hv;rw [h _ rfl]
 ·cases hv
def min4 (a b c d:Int):Int:=min (min a b) (min c d)
def max4 (a b c d:Int):Int:=max (max a b) (max c d)
theorem yd9 {x c lc hc:Int} (h:lc≤c∧c≤hc):min (x*lc) (x*hc)≤x*c∧x*c≤max (x*lc) (x*hc):=by
 rcases Int.le_total 0 x with hx | hx
 ·have a:=Int.mul_le_mul_of_nonneg_left h.1 hx
  have b:=Int.mul_le_mul_of_nonneg_left h.2 hx
  omega
 ·have a:=Int.mul_le_mul_of_nonpos_left hx h.1
  have b:=Int.mul_le_mul_of_nonpos_left hx h.2
  omega
theorem mul_in {a c la ha lc hc:Int} (h0:la≤a∧a≤ha) (h1:lc≤c∧c≤hc):min4 (la*lc) (la*hc) (ha*lc) (ha*hc)≤a*c∧a*c≤max4 (la*lc) (la*hc) (ha*lc) (ha*hc):=by
 have e:=yd9 (x:=a) h1
 have f1:=yd9 (x:=lc) h0
 have f2:=yd9 (x:=hc) h0
 rw [Int.mul_comm lc la,Int.mul_comm lc ha,Int.mul_comm lc a] at f1
 rw [Int.mul_comm hc la,Int.mul_comm hc ha,Int.mul_comm hc a] at f2
 unfold min4 max4
 omega
def cI (c:Cl):Option SV:=some (.so (.vc c))
def xMul (k:IntKind) (a la ha c lc hc:Int):Option SV:=cI (wr k (a*c) (min4 (la*lc) (la*hc) (ha*lc) (ha*hc)) (max4 (la*lc) (la*hc) (ha*lc) (ha*hc)))
def isL (lo hi:Int):Bool:=ile hi lo
theorem yj8 {z lo hi:Int} (h:isL lo hi=true) (h0:lo≤z∧z≤hi):z=lo:=by
 unfold isL at h
 rw [zh7,decide_eq_true_eq] at h
 omega
def xQuo (k:IntKind) (_a la ha _c lc hc:Int):Option SV:=if isL la ha&&isL lc hc&&ilt 0 lc&&ile 0 la then cI (wr k (la/lc) (la/lc) (la/lc)) else none
def xRem (k:IntKind) (a la ha c lc hc:Int):Option SV:=if ilt 0 lc then (if isL la ha&&isL lc hc&&ile 0 la then cI (.ci k (la % lc) (la % lc) (la % lc)) else if ile 0 la then cI (.ci k (a % c) 0 (hc - 1)) else cI (.ci k (Int.tmod a c) (1 - hc) (hc - 1))) else none
def xInt (op:BinOp) (k:IntKind) (a la ha c lc hc:Int):Option SV:=
 match op with
 | .add=>cI (wr k (a+c) (la+lc) (ha+hc))
 | .sub=>cI (wr k (a - c) (la - hc) (ha - lc))
 | .mul=>xMul k a la ha c lc hc
 | .eql=>cI (.cb (a==c) (eqD la ha lc hc))
 | .neq=>cI (.cb (a !=c) (notD (eqD la ha lc hc)))
 | .lss=>cI (.cb (decide (a<c)) (ltD la ha lc hc))
 | .leq=>cI (.cb (decide (a≤c)) (leD la ha lc hc))
 | .gtr=>cI (.cb (decide (c<a)) (ltD lc hc la ha))
 | .geq=>cI (.cb (decide (c≤a)) (leD lc hc la ha))
 | .rem=>xRem k a la ha c lc hc
 | .quo=>xQuo k a la ha c lc hc
 | _=>none

section
variable {P:Program} {o:Oper} {n:Nn} {X:Env} {W V:World} {fr:List SV}
theorem rv_int {a:Act} (op:BinOp) (t t2:TypeId) (x y:Operand) (k:IntKind) (A B:Int) (hop:o.op=.binOp op t x y t2) (hx:a.eval x=.int k A) (hy:a.eval y=.int k B) (s:SV)
  (la ha lc hc:Int) (h0:la≤A∧A≤ha) (h1:lc≤B∧B≤hc) (h:xInt op k A la ha B lc hc=some s):RunV P a o V (s.den X)∧s.ok n X W:=by
 have hw:=fun (z:Int) (p q:Int) (hp:p≤z) (hq:z≤q)=>wr_ok (k:=k) hp hq n X W
 unfold RunV execOp
 simp only [hop,hx,hy]
 cases op<;>simp only [xInt,xMul,xRem,xQuo,cI,reduceCtorEq,Option.some.injEq] at h
 case add=>subst h;have:=hw (A+B) _ _ (Int.add_le_add h0.1 h1.1) (Int.add_le_add h0.2 h1.2);exact ⟨by simp [go_sem,binOp,eqGuard,Op.intArith,SV.den,TV.den,this.1],this.2⟩
 case sub=>subst h;have:=hw (A - B) (la - hc) (ha - lc) (by omega) (by omega);exact ⟨by simp [go_sem,binOp,eqGuard,Op.intArith,SV.den,TV.den,this.1],this.2⟩
 case mul=>subst h;have hm:=mul_in h0 h1;have:=hw (A*B) _ _ hm.1 hm.2;exact ⟨by simp [go_sem,binOp,eqGuard,Op.intArith,SV.den,TV.den,this.1],this.2⟩
 case eql=>subst h;exact ⟨by simp [go_sem,binOp,eqGuard,Op.intCmp,SV.den,TV.den,Cl.den],rfl,eqD_ok h0 h1⟩
 case neq=>subst h;exact ⟨by simp [go_sem,binOp,eqGuard,Op.intCmp,SV.den,TV.den,Cl.den],rfl,yd8 (eqD_ok h0 h1)⟩
 case lss=>subst h;exact ⟨by simp [go_sem,binOp,eqGuard,Op.intCmp,SV.den,TV.den,Cl.den],rfl,ltD_ok h0 h1⟩
 case leq=>subst h;exact ⟨by simp [go_sem,binOp,eqGuard,Op.intCmp,SV.den,TV.den,Cl.den],rfl,leD_ok h0 h1⟩
 case gtr=>subst h;exact ⟨by simp [go_sem,binOp,eqGuard,Op.intCmp,SV.den,TV.den,Cl.den],rfl,ltD_ok h1 h0⟩
 case geq=>subst h;exact ⟨by simp [go_sem,binOp,eqGuard,Op.intCmp,SV.den,TV.den,Cl.den],rfl,leD_ok h1 h0⟩
 case rem=>
  split at h
  ·rename_i hB
   simp only [zJ6,decide_eq_true_eq] at hB
   have hb:¬ B=0:=by omega
   have hB':0<B:=by omega
   split at h
   ·rename_i hl
    simp only [Bool.and_eq_true,zh7,decide_eq_true_eq] at hl
    cases h
    have e1:=yj8 hl.1.1 h0
    have e2:=yj8 hl.1.2 h1
    subst e1 e2
    have e:Int.tmod A B=A % B:=Int.tmod_eq_emod_of_nonneg hl.2
    exact ⟨by simp [go_sem,binOp,eqGuard,Op.intDiv,SV.den,TV.den,Cl.den,hb,e],rfl,Int.le_refl _,Int.le_refl _⟩
   split at h
   ·rename_i hA
    simp only [zh7,decide_eq_true_eq] at hA
    cases h
    have e:Int.tmod A B=A % B:=Int.tmod_eq_emod_of_nonneg (by omega)
    have e1:=Int.emod_nonneg A hb
    have e2:=Int.emod_lt_of_pos A hB'
    exact ⟨by simp [go_sem,binOp,eqGuard,Op.intDiv,SV.den,TV.den,Cl.den,hb,e],rfl,e1,by omega⟩
   ·cases h
    have e1:=Int.lt_tmod_of_pos A hB'
    have e2:=Int.tmod_lt_of_pos A hB'
    exact ⟨by simp [go_sem,binOp,eqGuard,Op.intDiv,SV.den,TV.den,Cl.den,hb],rfl,by omega,by omega⟩
  ·cases h
 case quo=>
  split at h
  ·rename_i hl
   simp only [Bool.and_eq_true,zh7,zJ6,decide_eq_true_eq] at hl
   obtain ⟨⟨⟨l1,l2⟩,l3⟩,l4⟩:=hl
   cases h
   have e1:=yj8 l1 h0
   have e2:=yj8 l2 h1
   subst e1 e2
   have hb:¬ B=0:=by omega
   have e:Int.tdiv A B=A/B:=Int.tdiv_eq_ediv_of_nonneg l4
   have:=hw (A/B) _ _ (Int.le_refl _) (Int.le_refl _)
   exact ⟨by simp [go_sem,binOp,eqGuard,Op.intDiv,SV.den,TV.den,hb,e,this.1],this.2⟩
  ·cases h
end
theorem zx6 (b off k:Nat):(⟨b,off,none⟩:Addr).add k=⟨b,off+k,none⟩:=by
 unfold Addr.add
 split
 ·rename_i h;subst h;rfl
 ·rfl
def SV.cells:SV→Option (List Cl)
 | .so (.vc c)=>some [c]
 | .so (.vg l)=>some l
 | _=>none
theorem yA1 {v:Value} (h:v.oneCell'=true):v.cells=#[v]:=by
 cases v<;>first | rfl | cases h
theorem SV.cells_ok {n:Nn} {X:Env} {W:World} {s:SV} {l:List Cl} (h:s.cells=some l) (hs:s.ok n X W):(s.den X).cells=dnL X l∧okL n X W l:=by
 unfold SV.cells at h
 split at h
 ·cases h
  refine ⟨?_,fun c hc=>?_⟩
  ·show (Cl.den X _).cells=_
   rw [yA1 (Cl.one hs)]
   simp [dnL]
  ·rw [List.mem_singleton] at hc;exact hc ▸ hs
 ·cases h;exact ⟨rfl,hs⟩
 ·cases h
def zx7 (cs:List Cl) (off:Nat) (v:List Cl):List Cl:=cs.take off++(v++cs.drop (off+v.length))
theorem zO3 {n:Nn} {X:Env} {W:World} {cs v:List Cl} (h:okL n X W cs) (hv:okL n X W v) (off:Nat):okL n X W (zx7 cs off v):=fun c hc=>by
 unfold zx7 at hc
 rcases List.mem_append.1 hc with hc | hc
 ·exact h c (List.mem_of_mem_take hc)
 ·rcases List.mem_append.1 hc with hc | hc
  ·exact hv c hc
  ·exact h c (List.mem_of_mem_drop hc)
theorem zS3 {α:Type} (cs:List α) (i:Nat) (x:α) (vs:List α) (h:i<cs.length):(cs.set i x).take (i+1)++(vs++(cs.set i x).drop (i+1+vs.length))=cs.take i++(x::vs++cs.drop (i+(vs.length+1))):=by
 have h1:(cs.set i x).take (i+1)=cs.take i++[x]:=by
  rw [List.take_add_one,List.take_set_of_le (Nat.le_refl i),List.getElem?_set_self h];rfl
 have h2:(cs.set i x).drop (i+1+vs.length)=cs.drop (i+(vs.length+1)):=by
  rw [List.drop_set_of_lt (by omega)];congr 1;omega
 rw [h1,h2];simp
theorem zO4:∀ (vs cs:List Value) (off:Nat),off+vs.length≤cs.length→ze1 cs.toArray off vs=(cs.take off++(vs++cs.drop (off+vs.length))).toArray
 | [],cs,off,_=>by simp [ze1]
 | v::vs,cs,off,h=>by
  simp only [List.length_cons] at h
  unfold ze1
  rw [List.setIfInBounds_toArray,zO4 vs (cs.set off v) (off+1) (by simp only [List.length_set];omega),zS3 cs off v vs (by omega)]
  rfl
theorem zO5 (off:Nat):∀ (vs:List Value) (k:Nat) (cs:Array Value),(vs.zipIdx k).foldl (fun cs (x:Value × Nat)=>cs.setIfInBounds (off+x.2) x.1) cs=ze1 cs (off+k) vs
 | [],_,_=>rfl
 | v::vs,k,cs=>by
  rw [List.zipIdx_cons,List.foldl_cons,zO5 off vs (k+1)]
  rfl
theorem zO6 {X:Env} {cs v:List Cl} {off:Nat} (h:off+v.length≤cs.length):ze1 (dnL X cs) off (v.map (Cl.den X))=dnL X (zx7 cs off v):=by
 unfold dnL zx7
 rw [zO4 _ _ _ (by simpa using h)]
 simp [List.map_take,List.map_drop]
def ye0 (place:Nat→Option (Nat × Nat)) (cs:List Cl):List (Nat × List Cl)→Option (List Cl)
 | []=>some cs
 | (i,v)::r=>match place i with
  | none=>none
  | some (off,size)=>if Nat.beq v.length size&&Nat.ble (off+v.length) cs.length then ye0 place (zx7 cs off v) r else none
theorem ye1 {n:Nn} {X:Env} {W:World} {place:Nat→Option (Nat × Nat)}:∀ {ps:List (Nat × List Cl)} {vs:List (Nat × Value)} {cs r:List Cl},ye0 place cs ps=some r→okL n X W cs→
  ps.length=vs.length→(∀ (j i:Nat) (l:List Cl) (i':Nat) (v:Value),ps[j]?=some (i,l)→vs[j]?=some (i',v)→i=i'∧v.cells=dnL X l∧okL n X W l)→Instr.fill place (dnL X cs) vs=some (dnL X r)∧okL n X W r
 | [],[],cs,r,h,hc,_,_=>by cases h;exact ⟨rfl,hc⟩
 | (i,l)::ps,(i',v)::vs,cs,r,h,hc,hl,hv=>by
  obtain ⟨rfl,h1,h2⟩:=hv 0 i l i' v rfl rfl
  unfold ye0 at h
  unfold Instr.fill
  split at h
  ·cases h
  ·rename_i off size hp
   split at h
   ·rename_i hh
    simp only [Bool.and_eq_true,Nat.beq_eq,Nat.ble_eq] at hh
    have hs:v.cells.size=l.length:=by rw [h1];simp [dnL]
    have hn:¬ (decide (v.cells.size≠size)||decide (off+v.cells.size>(dnL X cs).size))=true:=by
     have:(dnL X cs).size=cs.length:=by simp [dnL]
     simp only [Bool.or_eq_true,decide_eq_true_eq,not_or]
     omega
    simp only [hp]
    rw [if_neg hn]
    have hf:(v.cells.zipIdx.foldl (fun cs (x:Value × Nat)=>cs.setIfInBounds (off+x.2) x.1) (dnL X cs))=dnL X (zx7 cs off l):=by
     rw [h1,← zO6 (X:=X) hh.2]
     have:=zO5 off (l.map (Cl.den X)) 0 (dnL X cs)
     simpa [dnL] using this
    have e:∀ (f:Array Value→Value × Nat→Array Value),(∀ cs c j,f cs (c,j)=cs.setIfInBounds (off+j) c)→v.cells.zipIdx.foldl f (dnL X cs)=dnL X (zx7 cs off l):=fun f hf'=>by
     rw [← hf]
     congr 1
     funext cs x
     exact hf' cs x.1 x.2
    rw [e _ (fun _ _ _=>rfl)]
    exact ye1 h (zO3 hc h2 off) (by simpa using hl) (fun j i l i' v hj hj'=>hv (j+1) i l i' v hj hj')
   ·cases h
 | [],_::_,_,_,_,_,hl,_=>by cases hl
 | _::_,[],_,_,_,_,hl,_=>by cases hl
noncomputable def zJ7 (fr:List SV):List (Nat × Operand)→Option (List (Nat × List Cl))
 | []=>some []
 | (i,x)::r=>match ev fr x,zJ7 fr r with
  | some s,some l=>match s.cells with
   | some c=>some ((i,c)::l)
   | none=>none
  | _,_=>none
theorem zA6 {n:Nn} {X:Env} {W:World} {fr:List SV} (hf:okF n X W fr):∀ {ps:List (Nat × Operand)} {l:List (Nat × List Cl)},zJ7 fr ps=some l→
  l.length=(ps.map fun x=>(x.1,(za6 X fr).eval x.2)).length∧(∀ (j i:Nat) (c:List Cl) (i':Nat) (v:Value),l[j]?=some (i,c)→(ps.map fun x=>(x.1,(za6 X fr).eval x.2))[j]?=some (i',v)→i=i'∧v.cells=dnL X c∧okL n X W c)
 | [],l,h=>by cases h;exact ⟨rfl,fun j _ _ _ _ hj=>by cases hj⟩
 | (i,x)::r,l,h=>by
  unfold zJ7 at h
  split at h
  ·rename_i s l' h1 h2
   split at h
   ·rename_i c hc
    cases h
    have ih:=zA6 hf h2
    have he:=zc6 h1 hf
    have hs:=SV.cells_ok hc he.2
    refine ⟨by simpa using ih.1,fun j i c i' v hj hj'=>?_⟩
    cases j with
    | zero=>simp only [List.getElem?_cons_zero,Option.some.injEq,Prod.mk.injEq,List.map_cons] at hj hj';obtain ⟨rfl,rfl⟩:=hj;obtain ⟨rfl,rfl⟩:=hj';exact ⟨rfl,by rw [he.1];exact hs.1,hs.2⟩
    | succ j=>exact ih.2 j i c i' v hj hj'
   ·cases h
  ·cases h
noncomputable def gI (l:Option (List Cl)):Option SV:=match l with | some l=>frcL l fun l=>some (.so (.vg l)) | none=>none
def zA7 (z:Option Value):Option (List Cl):=match z with | some z=>yz8 z.cells.toList | none=>none
noncomputable def yA2 (P:Program) (fr:List SV) (t:TypeId) (parts:List (Nat × Operand)):Option SV:=
 match P.info? t,P.underlying t with
 | some it,some (.array _ e)=>match zA7 it.zero,P.info? e,zJ7 fr parts with
  | some z,some ie,some ps=>gI (ye0 (fun i=>some (i*ie.size,ie.size)) z ps)
  | _,_,_=>none
 | some it,some (.struct fields)=>match zA7 it.zero,fields.toList.mapM (fun f=>(P.info? f.type).map fun i=>(f.offset,i.size)),zJ7 fr parts with
  | some z,some places,some ps=>gI (ye0 (places.toArray[·]?) z ps)
  | _,_,_=>none
 | _,_=>none
noncomputable def yA3 (P:Program) (t:TypeId) (l:List Cl) (off:Nat):Option SV:=
 match ze5 P t with
 | some n=>if Nat.ble (off+n) l.length then frcL ((l.drop off).take n) fun r=>some (.so (.vg r)) else none
 | none=>if zj3 P t then (match nth l off with | some c=>some (.so (.vc c)) | none=>none) else none
def lit1 (lo hi:Int) (len:Nat):Option Nat:=if ile hi lo&&ile 0 lo&&ilt lo len then some lo.toNat else none
noncomputable def caps:List Operand→List SV→Option (List (Nat × Nat))
 | [],_=>some []
 | x::r,fr=>match ev fr x,caps r fr with
  | some (.so (.vc (.cp j o))),some l=>some ((j,o)::l)
  | _,_=>none
def yA4:List Cl→Option (List (List UInt8))
 | []=>some []
 | .cw l _::r=>match yA4 r with | some m=>some (l::m) | none=>none
 | _=>none
def yA5 (k:IntKind):List Cl→Option (List Int)
 | []=>some []
 | .ci k' z _ _::r=>if k=k' then (match yA5 k r with | some m=>some (z::m) | none=>none) else none
 | _=>none
def bI (op:BinOp) (t:Bool) (d:Option Bool):Option SV:=match op with
 | .eql=>cI (.cb t d)
 | .neq=>cI (.cb (!t) (notD d))
 | _=>none
def xBinG (P:Program) (op:BinOp) (t:TypeId) (l m:List Cl):Option SV:=
 if P.eqGuardType P.depth t then none else match P.underlying t with
  | some (.array n e)=>match P.underlying e with
   | some .string=>match yA4 l,yA4 m with
    | some x,some y=>if Nat.beq x.length n&&Nat.beq y.length n&&(P.info? e).isSome&&Nat.beq (P.cellsOf e) 1&&P.plainKey e then bI op (sEq x y) none else none
    | _,_=>none
   | some (.int k)=>match yA5 k l,yA5 k m with
    | some x,some y=>if Nat.beq x.length n&&Nat.beq y.length n&&(P.info? e).isSome&&Nat.beq (P.cellsOf e) 1&&P.plainKey e then bI op (zz3 x y) none else none
    | _,_=>none
   | _=>none
  | some (.struct _)=>if plcT P t then (match l,m with
   | [.ci .i64 z0 _ _,.ci .i64 z1 _ _,.ci .i64 z2 _ _,.ci .i64 z3 _ _,.cw X0 _,.cw X1 _,.cw X2 _],[.ci .i64 y0 _ _,.ci .i64 y1 _ _,.ci .i64 y2 _ _,.ci .i64 y3 _ _,.cw Y0 _,.cw Y1 _,.cw Y2 _]=>bI op (zj1 [z0,z1,z2,z3] [y0,y1,y2,y3]&&sEq [X0,X1,X2] [Y0,Y1,Y2]) none
   | _,_=>none) else none
  | _=>none
def xBin (P:Program) (op:BinOp) (t:TypeId):SV→SV→Option SV
 | .so (.vc (.ci k a la ha)),.so (.vc (.ci k' c lc hc))=>if k=k' then xInt op k a la ha c lc hc else none
 | .so (.vc (.cw l _)),.so (.vc (.cw m _))=>bI op (l==m) none
 | .so (.vc (.cb a d)),.so (.vc (.cb b e))=>match P.underlying t with
  | some .bool=>bI op (a==b) (match d,e with | some a,some b=>some (a==b) | _,_=>none)
  | _=>none
 | .so (.vg l),.so (.vg m)=>xBinG P op t l m
 | _,_=>none
noncomputable def yA6 (P:Program) (t:TypeId) (f:Nat):Option SV→Option SV
 | some (.so (.vc (.cp j off)))=>match P.underlying t with
  | some (.struct fs)=>match nth fs.toList f with
   | some fd=>match P.info? fd.type with
    | some i=>if Nat.beq i.size 0 then none else cI (.cp j (off+fd.offset))
    | none=>none
   | none=>none
  | _=>none
 | _=>none
noncomputable def xIdxA (P:Program) (t:TypeId):Option SV→Option SV→Option SV
 | some (.so (.vc (.cp j off))),some (.so (.vc (.ci _ _ lo hi)))=>match P.underlying t with
  | some (.array len e)=>match lit1 lo hi len,P.info? e with
   | some k,some i=>cI (.cp j (off+k*i.size))
   | _,_=>none
  | _=>none
 | some (.so (.vc (.cs j off len _))),some (.so (.vc (.ci _ _ lo hi)))=>match P.underlying t with
  | some (.slice e)=>match lit1 lo hi len,P.info? e with
   | some k,some i=>cI (.cp j (off+k*i.size))
   | _,_=>none
  | _=>none
 | some (.fs v len c xs),some (.so (.vc (.ci _ _ lo hi)))=>match P.underlying t with
  | some (.slice e)=>match lit1 lo hi len,P.info? e with
   | some k,some i=>if Nat.beq i.size c then (match nth xs k with
    | some cs=>some (.fa v (k*c) cs)
    | none=>none) else none
   | _,_=>none
  | _=>none
 | _,_=>none
noncomputable def xLoad (P:Program) (can:Nat→Bool) (bl:List (Nat × List Cl)) (t:TypeId):Option SV→Option SV
 | some (.so (.vc (.cp j off)))=>if can j then (match nth bl j with
  | some (_,cs)=>yA3 P t cs off
  | none=>none) else none
 | some (.fa _ _ cs)=>match ze5 P t with
  | some n=>if Nat.beq n cs.length then some (.so (.vg cs)) else none
  | none=>none
 | _=>none
noncomputable def xExtr (i:Nat):Option SV→Option SV
 | some (.st l)=>match nth l i with
  | some v=>some (.so v)
  | none=>none
 | _=>none
noncomputable def xField (P:Program) (t:TypeId) (f:Nat):Option SV→Option SV
 | some (.so (.vg l))=>match P.underlying t with
  | some (.struct fs)=>match nth fs.toList f with
   | some fd=>yA3 P fd.type l fd.offset
   | none=>none
  | _=>none
 | _=>none
noncomputable def xIdx (P:Program) (t:TypeId):Option SV→Option SV→Option SV
 | some (.so (.vg l)),some (.so (.vc (.ci _ _ lo hi)))=>match P.underlying t with
  | some (.array len e)=>match lit1 lo hi len,P.info? e with
   | some k,some i=>yA3 P e l (k*i.size)
   | _,_=>none
  | _=>none
 | _,_=>none
noncomputable def xPick (fr:List SV) (a b:Operand):Option SV→Option SV
 | some (.so (.vc (.cb _ (some true))))=>ev fr a
 | some (.so (.vc (.cb _ (some false))))=>ev fr b
 | _=>none
def xUn:UnOp→Option SV→Option SV
 | .not,some (.so (.vc (.cb t d)))=>cI (.cb (!t) (notD d))
 | .neg,some (.so (.vc (.ci k z lo hi)))=>cI (wr k (0 - z) (0 - hi) (0 - lo))
 | _,_=>none
def xConv (P:Program) (s d:TypeId):Option SV→Option SV
 | some (.so (.vc (.ci _ z lo hi)))=>match P.underlying s,P.underlying d with
  | some _,some (.int k)=>cI (wr k z lo hi)
  | _,_=>none
 | some (.so (.vc (.cw l e)))=>match P.underlying s,P.underlying d with
  | some _,some .string=>cI (.cw l e)
  | _,_=>none
 | _=>none
def xSlc (P:Program) (t:TypeId):Option SV→Option SV
 | some (.so (.vc (.cp j off)))=>match P.underlying t with
  | some (.array len e)=>if (P.info? e).isSome then cI (.cs j off len len) else none
  | _=>none
 | _=>none
noncomputable def xMkF (fr:List SV) (fn:Nat) (first captured:Array Operand):Option SV:=if first.isEmpty then (match caps captured.toList fr with
 | some l=>cI (.cf fn l)
 | none=>none) else none
def xLen (P:Program):Option TypeId→Option SV→Option SV
 | some t,some v=>match P.underlying t with
  | some (.slice _)=>match v with
   | .so (.vc (.cs _ _ len _))=>cI (.ci .i64 len len len)
   | .so (.vc (.cv (.slice none 0 0)))=>cI (.ci .i64 0 0 0)
   | .fs _ len _ _=>cI (.ci .i64 len len len)
   | _=>none
  | some (.array len _)=>cI (.ci .i64 len len len)
  | some .string=>match v with
   | .so (.vc (.cw l (some (k,_))))=>cI (.ci .i64 l.length 0 (2*k+5:Nat))
   | .so (.vc (.cw l none))=>cI (.ci .i64 l.length l.length l.length)
   | _=>none
  | _=>none
 | _,_=>none
def xMax:Option SV→Option SV→Option SV
 | some (.so (.vc (.ci k a la ha))),some (.so (.vc (.ci _ c lc hc)))=>cI (.ci k (if c>a then c else a) (max la lc) (max ha hc))
 | _,_=>none
def xMin:Option SV→Option SV→Option SV
 | some (.so (.vc (.ci k a la ha))),some (.so (.vc (.ci _ c lc hc)))=>cI (.ci k (if c<a then c else a) (min la lc) (min ha hc))
 | _,_=>none
noncomputable def xBi (P:Program) (fr:List SV) (c:Call):Builtin→List Operand→Option SV
 | .len,[x]=>xLen P c.argTypes[0]? (ev fr x)
 | .max,[x,y]=>xMax (ev fr x) (ev fr y)
 | .min,[x,y]=>xMin (ev fr x) (ev fr y)
 | _,_=>none
def xBin2 (P:Program) (op:BinOp) (t:TypeId):Option SV→Option SV→Option SV
 | some a,some b=>xBin P op t a b
 | _,_=>none
noncomputable def xPure (P:Program) (can:Nat→Bool) (fr:List SV) (bl:List (Nat × List Cl)) (o:Oper):Option SV:=
 match o.op with
 | .move x | .assign x=>ev fr x
 | .fieldAddr t x f=>yA6 P t f (ev fr x)
 | .indexAddr t x y=>xIdxA P t (ev fr x) (ev fr y)
 | .load t x=>xLoad P can bl t (ev fr x)
 | .build t parts=>yA2 P fr t parts.toList
 | .extract x i=>xExtr i (ev fr x)
 | .field t x f=>xField P t f (ev fr x)
 | .index t x y=>xIdx P t (ev fr x) (ev fr y)
 | .pick c a b=>xPick fr a b (ev fr c)
 | .binOp op t x y _=>xBin2 P op t (ev fr x) (ev fr y)
 | .unOp op _ x=>xUn op (ev fr x)
 | .convert s d x=>xConv P s d (ev fr x)
 | .slice t x none none none=>xSlc P t (ev fr x)
 | .makeFunc (.func fn) first captured=>xMkF fr fn first captured
 | .call c=>match c.callee with
  | .builtin b=>xBi P fr c b c.args.toList
  | _=>none
 | _=>none

section
variable {P:Program} {o:Oper} {n:Nn} {X:Env} {W V:World} {fr:List SV}
theorem zS4 {z lo hi:Int} {len k:Nat} (h:lit1 lo hi len=some k) (h0:lo≤z∧z≤hi):z=(k:Int)∧k<len:=by
 unfold lit1 at h
 split at h
 ·rename_i hh
  simp only [zh7,zJ6,Bool.and_eq_true,decide_eq_true_eq] at hh
  cases h
  omega
 ·cases h
theorem okL_drop {l:List Cl} (h:okL n X W l) (i j:Nat):okL n X W ((l.drop i).take j):=fun c hc=>h c (List.mem_of_mem_drop (List.mem_of_mem_take hc))
theorem ye2 {t:TypeId} {l:List Cl} {off:Nat} {s:SV} (h:yA3 P t l off=some s) (hl:okL n X W l):(part t (dnL X l) off).run P V=.ok (s.den X) V∧s.ok n X W∧
  ((∃ m,ze5 P t=some m∧off+m≤l.length∧s=.so (.vg ((l.drop off).take m)))∨(zj3 P t=true∧∃ c,l[off]?=some c∧s=.so (.vc c))):=by
 unfold yA3 at h
 split at h
 ·rename_i m hm
  split at h
  ·rename_i hle
   simp only [Nat.ble_eq] at hle
   rw [zA5] at h
   cases h
   refine ⟨?_,okL_drop hl _ _,.inl ⟨m,hm,hle,rfl⟩⟩
   unfold ze5 at hm
   cases hd:P.underlying t with
   | none=>rw [hd] at hm;cases hm
   | some d=>
    rw [hd] at hm
    have hrow:(isAgg t).run P V=.ok true V∧(P.info? t).map (·.size)=some m:=by
     unfold isAgg
     rw [Sem.run_bind,run_underlying hd V]
     cases d<;>first | cases hm | exact ⟨rfl,hm⟩
    obtain ⟨i,hi,hsz⟩:=Option.map_eq_some_iff.1 hrow.2
    simp only [part,Sem.run_bind,hrow.1,Result.andThen_ok]
    simp [sizeOf,typeInfo,hi,hsz,SV.den,TV.den,dnL,List.map_take,List.map_drop,List.take_drop]
  ·cases h
 ·split at h
  ·rename_i h1
   split at h
   ·rename_i c hc
    rw [zi5] at hc
    cases h
    refine ⟨?_,hl c (List.mem_of_getElem? hc),.inr ⟨h1,c,hc,rfl⟩⟩
    unfold zj3 at h1
    cases hd:P.underlying t with
    | none=>rw [hd] at h1;cases h1
    | some d=>
     rw [hd] at h1
     have hagg:(isAgg t).run P V=.ok false V:=by
      unfold isAgg
      rw [Sem.run_bind,run_underlying hd V]
      cases d<;>first | cases h1 | rfl
     have hx:(dnL X l)[off]?=some (c.den X):=by simp [dnL,hc]
     simp only [part,Sem.run_bind,hagg,Result.andThen_ok]
     simp [hx,SV.den,TV.den]
   ·cases h
  ·cases h
end
section
variable {P:Program} {o:Oper} {n:Nn} {X:Env} {W V:World} {fr:List SV}
theorem zJ8 {a:Act} {v:Value} {s:Sem Value} (he:execOp a.eval o=(do pure (.value (← s)))) (hs:s.run P V=.ok v V):RunV P a o V v:=by
 unfold RunV
 rw [he]
 simp [hs]
theorem yA7 (hf:okF n X W fr):∀ {l:List Operand} {r:List (Nat × Nat)},caps l fr=some r→l.map (za6 X fr).eval=r.map X.ptr∧(r.all fun x=>Nat.blt x.1 n.b)=true
 | [],r,h=>by cases h;exact ⟨rfl,rfl⟩
 | x::l,r,h=>by
  unfold caps at h
  split at h
  ·rename_i j o r' h1 h2
   cases h
   have a:=zc6 h1 hf
   have b:=yA7 hf h2
   refine ⟨?_,?_⟩
   ·rw [List.map_cons,List.map_cons,a.1,b.1];rfl
   ·have:Nat.blt j n.b=true:=a.2.1
    simp only [List.all_cons,Bool.and_eq_true]
    exact ⟨this,b.2⟩
  ·cases h
theorem build_ok (hf:okF n X W fr) {t:TypeId} {parts:Array (Nat × Operand)} {s:SV} (h:yA2 P fr t parts.toList=some s):
  (Instr.build t (parts.map fun (i,x)=>(i,(za6 X fr).eval x))).run P V=.ok (s.den X) V∧s.ok n X W:=by
 have key:∃ r,s=.so (.vg r)∧P.built t (parts.map fun (i,x)=>(i,(za6 X fr).eval x)).toList=some (dnL X r)∧okL n X W r:=by
  unfold yA2 at h
  have hpl:(parts.map fun (i,x)=>(i,(za6 X fr).eval x)).toList=parts.toList.map fun x=>(x.1,(za6 X fr).eval x.2):=by
   rw [Array.toList_map]
  have hz:∀ {z:Option Value} {l:List Cl},zA7 z=some l→∃ v,z=some v∧v.cells=dnL X l∧okL n X W l:=fun {z l} hz=>by
   cases z with
   | none=>cases hz
   | some v=>
    have:=zx5 (l:=v.cells.toList) hz n X W
    exact ⟨v,rfl,by unfold dnL;rw [this.1],this.2⟩
  split at h
  ·rename_i it m e hit hu
   split at h
   ·rename_i z ie ps h1 h2 h3
    obtain ⟨zv,ab,ac,aa⟩:=hz h1
    have hp:=zA6 hf h3
    cases hx:ye0 (fun i=>some (i*ie.size,ie.size)) z ps with
    | none=>rw [hx] at h;cases h
    | some r=>
     rw [hx] at h
     simp only [gI,zA5] at h
     cases h
     have:=ye1 (X:=X) hx aa hp.1 hp.2
     refine ⟨r,rfl,?_,this.2⟩
     unfold Program.built
     simp only [hit,hu,ab,h2,hpl,ac]
     exact this.1
   ·cases h
  ·rename_i it fs hit hu
   split at h
   ·rename_i z pl ps h1 h2 h3
    obtain ⟨zv,ab,ac,aa⟩:=hz h1
    have hp:=zA6 hf h3
    cases hx:ye0 (pl.toArray[·]?) z ps with
    | none=>rw [hx] at h;cases h
    | some r=>
     rw [hx] at h
     simp only [gI,zA5] at h
     cases h
     have:=ye1 (X:=X) hx aa hp.1 hp.2
     refine ⟨r,rfl,?_,this.2⟩
     unfold Program.built
     simp only [hit,hu,ab,h2,hpl,ac]
     exact this.1
   ·cases h
  ·cases h
 obtain ⟨r,rfl,h1,h2⟩:=key
 exact ⟨run_build V t _ _ h1,h2⟩
theorem zJ9 {X:Env}:∀ {l:List Cl} {x:List (List UInt8)},yA4 l=some x→dnL X l=(x.map fun l=>Value.string ⟨l.toArray⟩).toArray
 | [],x,h=>by cases h;rfl
 | .cw w d::r,x,h=>by
  unfold yA4 at h
  split at h
  ·rename_i m hm
   cases h
   have:=zJ9 (X:=X) hm
   unfold dnL at this ⊢
   rw [List.map_cons,List.map_cons]
   have h2:=congrArg Array.toList this
   simp only at h2
   rw [h2];rfl
  ·cases h
 | .ci ..::_,_,h | .cb ..::_,_,h | .cr ..::_,_,h | .cz ..::_,_,h | .cp ..::_,_,h | .cs ..::_,_,h | .cf ..::_,_,h | .cv ..::_,_,h=>by cases h
theorem zK0 {X:Env} {k:IntKind}:∀ {l:List Cl} {x:List Int},yA5 k l=some x→dnL X l=(x.map (Value.int k)).toArray
 | [],x,h=>by cases h;rfl
 | .ci k' z lo hi::r,x,h=>by
  unfold yA5 at h
  split at h
  ·rename_i hk
   subst hk
   split at h
   ·rename_i m hm
    cases h
    have:=zK0 (X:=X) hm
    unfold dnL at this ⊢
    rw [List.map_cons,List.map_cons]
    have h2:=congrArg Array.toList this
    simp only at h2
    rw [h2];rfl
   ·cases h
  ·cases h
 | .cw ..::_,_,h | .cb ..::_,_,h | .cr ..::_,_,h | .cz ..::_,_,h | .cp ..::_,_,h | .cs ..::_,_,h | .cf ..::_,_,h | .cv ..::_,_,h=>by cases h
theorem yA8 {op:BinOp} {t:Bool} {d:Option Bool} {s:SV} (h:bI op t d=some s) (hd:∀ v,d=some v→t=v):
  s.ok n X W∧((op=.eql∧s.den X=.bool t)∨(op=.neq∧s.den X=.bool (!t))):=by
 unfold bI cI at h
 split at h
 ·cases h;exact ⟨⟨rfl,hd⟩,.inl ⟨rfl,rfl⟩⟩
 ·cases h;exact ⟨⟨rfl,yd8 hd⟩,.inr ⟨rfl,rfl⟩⟩
 ·cases h
theorem zY0 {t:TypeId} (d:Nat) (h:P.underlying t=some .bool) (x y:Bool):(Op.equalIn (d+1) t (.bool x) (.bool y)).run P V=.ok (x==y) V:=by
 simp [Op.equalIn,run_underlying h]
theorem yo3 {t:TypeId} (h:P.underlying t=some .bool) (x y:Bool):(Op.equal t (.bool x) (.bool y)).run P V=.ok (x==y) V:=by
 show (Op.equalIn (9999+1) t _ _).run P V=_
 exact zY0 9999 h x y
theorem bin_ok {a:Act} {op:BinOp} {t t2:TypeId} {x y:Operand} (hop:o.op=.binOp op t x y t2) {p q s:SV} (hx:a.eval x=p.den X) (hy:a.eval y=q.den X) (hp:p.ok n X W) (hq:q.ok n X W)
  (h:xBin P op t p q=some s):RunV P a o V (s.den X)∧s.ok n X W:=by
 unfold xBin at h
 split at h
 ·rename_i k A la ha k' B lc hc
  split at h
  ·rename_i hk
   subst hk
   exact rv_int op t t2 x y k A B hop hx hy s la ha lc hc hp.2 hq.2 h
  ·cases h
 ·rename_i l d m e
  have hb:=yA8 (n:=n) (X:=X) (W:=W) h (fun v hv=>by cases hv)
  refine ⟨?_,hb.1⟩
  rcases hb.2 with ⟨rfl,h2⟩ | ⟨rfl,h2⟩<;>rw [h2]
  ·exact zu0 t t2 x y l m hop hx hy
  ·exact rv_sne t t2 x y l m hop hx hy
 ·rename_i A d B e
  split at h
  ·rename_i hu
   have hd:∀ v,(match d,e with | some a,some b=>some (a==b) | _,_=>none)=some v→(A==B)=v:=by
    intro v hv
    have h1:=hp.2
    have h2:=hq.2
    cases d with
    | none=>cases hv
    | some d'=>
     cases e with
     | none=>cases hv
     | some e'=>cases hv;rw [h1 d' rfl,h2 e' rfl]
   have hb:=yA8 (n:=n) (X:=X) (W:=W) h hd
   refine ⟨?_,hb.1⟩
   have he:=yo3 (V:=V) hu A B
   have hx':a.eval x=.bool A:=hx
   have hy':a.eval y=.bool B:=hy
   rcases hb.2 with ⟨rfl,h2⟩ | ⟨rfl,h2⟩<;>rw [h2]<;>unfold RunV execOp<;>simp only [hop,hx',hy']
   ·simp [go_sem,binOp,eqGuard,he]
   ·simp [go_sem,binOp,eqGuard,he]
  ·cases h
 ·rename_i l m
  unfold xBinG at h
  split at h
  ·cases h
  ·rename_i hg
   have hg':P.eqGuardType P.depth t=false:=by simpa using hg
   split at h
   ·rename_i k e hu
    split at h
    ·rename_i hue
     split at h
     ·rename_i A B hA hB
      split at h
      ·rename_i hc
       simp only [Bool.and_eq_true,Nat.beq_eq] at hc
       obtain ⟨⟨⟨⟨c1,c2⟩,c3⟩,c4⟩,c5⟩:=hc
       have hb:=yA8 (n:=n) (X:=X) (W:=W) h (fun v hv=>by cases hv)
       refine ⟨?_,hb.1⟩
       have hx':a.eval x=.agg (A.map fun l=>Value.string ⟨l.toArray⟩).toArray:=hx.trans (congrArg Value.agg (zJ9 hA))
       have hy':a.eval y=.agg (B.map fun l=>Value.string ⟨l.toArray⟩).toArray:=hy.trans (congrArg Value.agg (zJ9 hB))
       have h1:(P.underlying t,decide (A.length=B.length))=(some (.array A.length e),true):=by rw [hu,c1,c2];simp
       have h2:(P.underlying e,(P.info? e).isSome,P.cellsOf e,P.plainKey e)=(some .string,true,1,true):=by rw [hue,c3,c4,c5]
       rcases hb.2 with ⟨rfl,h3⟩ | ⟨rfl,h3⟩<;>rw [h3]
       ·exact yp3 t t2 e x y A B hop hx' hy' h1 h2 hg'
       ·exact rv_ssn t t2 e x y A B hop hx' hy' h1 h2 hg'
      ·cases h
     ·cases h
    ·rename_i kk hue
     split at h
     ·rename_i A B hA hB
      split at h
      ·rename_i hc
       simp only [Bool.and_eq_true,Nat.beq_eq] at hc
       obtain ⟨⟨⟨⟨c1,c2⟩,c3⟩,c4⟩,c5⟩:=hc
       have hb:=yA8 (n:=n) (X:=X) (W:=W) h (fun v hv=>by cases hv)
       refine ⟨?_,hb.1⟩
       have hx':a.eval x=.agg (A.map (Value.int kk)).toArray:=hx.trans (congrArg Value.agg (zK0 hA))
       have hy':a.eval y=.agg (B.map (Value.int kk)).toArray:=hy.trans (congrArg Value.agg (zK0 hB))
       have h1:(P.underlying t,decide (A.length=B.length))=(some (.array A.length e),true):=by rw [hu,c1,c2];simp
       have h2:(P.underlying e,(P.info? e).isSome,P.cellsOf e,P.plainKey e)=(some (.int kk),true,1,true):=by rw [hue,c3,c4,c5]
       rcases hb.2 with ⟨rfl,h3⟩ | ⟨rfl,h3⟩<;>rw [h3]
       ·exact yf0 t t2 e x y A B hop hx' hy' h1 h2 hg'
       ·exact rv_arrne t t2 e x y A B hop hx' hy' h1 h2 hg'
      ·cases h
     ·cases h
    ·cases h
   ·split at h
    ·rename_i hp
     obtain ⟨tA,tS,eA,eS,k1,k2,k3,k4,k5,k6,k7⟩:=plcT_ok hp
     split at h
     ·have hb:=yA8 (n:=n) (X:=X) (W:=W) h (fun v hv=>by cases hv)
      refine ⟨?_,hb.1⟩
      rcases hb.2 with ⟨rfl,h3⟩ | ⟨rfl,h3⟩<;>rw [h3]
      ·exact rv_plceq t t2 tA tS eA eS x y _ _ _ _ _ _ _ _ _ _ _ _ _ _ hop hx hy k1 k2 k3 k4 k5 k6 k7 hg'
      ·exact rv_plcne t t2 tA tS eA eS x y _ _ _ _ _ _ _ _ _ _ _ _ _ _ hop hx hy k1 k2 k3 k4 k5 k6 k7 hg'
     ·cases h
    ·cases h
   ·cases h
 ·cases h
end
section
variable {P:Program} {o:Oper} {n:Nn} {X:Env} {W V:World} {fr:List SV}
theorem zf2 {c:Cl} {s:SV} (h:cI c=some s):s=.so (.vc c):=by cases h;rfl
theorem zx8 {can:Nat→Bool} {bl:List (Nat × List Cl)} {s:SV} (h:xPure P can fr bl o=some s) (hf:okF n X W fr) (hb:∀ (i:Nat) t cs,bl[i]?=some (t,cs)→okL n X W cs)
  (hS:∀ (i:Nat) t cs,can i=true→bl[i]?=some (t,cs)→Lc V (X.E i) (dnL X cs) t) (hK:∀ x ∈ X.K,V.heap[x.1]?=some x.2):RunV P (za6 X fr) o V (s.den X)∧s.ok n X W:=by
 unfold xPure at h
 split at h
 ·rename_i x hop
  have:=zc6 h hf
  exact ⟨by unfold RunV execOp;simp [hop,this.1],this.2⟩
 ·rename_i x hop
  have:=zc6 h hf
  exact ⟨by unfold RunV execOp;simp [hop,this.1],this.2⟩
 ·rename_i t x f hop
  unfold yA6 at h
  split at h
  ·rename_i j off h1
   split at h
   ·rename_i fs h2
    split at h
    ·rename_i fd h3
     rw [zi5,Array.getElem?_toList] at h3
     split at h
     ·rename_i i h4
      split at h
      ·cases h
      ·rename_i h5
       have hz:¬ i.size=0:=fun e=>h5 (by rw [e];rfl)
       cases zf2 h
       have he:=zc6 h1 hf
       refine ⟨zJ8 (s:=Instr.fieldAt t ((za6 X fr).eval x) f) (by unfold execOp;simp only [hop]) ?_,he.2⟩
       rw [he.1]
       show (Instr.fieldAt t (.pointer (some ⟨X.E j,off,none⟩)) f).run P V=_
       simp [Instr.fieldAt,run_underlying h2,h3,Instr.sureAddr,fieldPlace,sizeOf,typeInfo,h4,hz,zx6,SV.den,TV.den,Cl.den]
     ·cases h
    ·cases h
   ·cases h
  ·cases h
 ·rename_i t x y hop
  unfold xIdxA at h
  split at h
  ·rename_i j off k z lo hi h1 h2
   split at h
   ·rename_i len e h3
    split at h
    ·rename_i q i h4 h5
     cases zf2 h
     have hx:=zc6 h1 hf
     have hy:=zc6 h2 hf
     have hl:=zS4 h4 hy.2.2
     refine ⟨zJ8 (s:=Instr.indexAt t ((za6 X fr).eval x) ((za6 X fr).eval y)) (by unfold execOp;simp only [hop]) ?_,hx.2⟩
     rw [hx.1,hy.1]
     show (Instr.indexAt t (.pointer (some ⟨X.E j,off,none⟩)) (.int k z)).run P V=_
     simp [Instr.indexAt,Instr.sureAddr,asIntOf,run_underlying h3,sizeOf,typeInfo,h5,hl.1,hl.2,zx6,SV.den,TV.den,Cl.den]
    ·cases h
   ·cases h
  ·rename_i j off len cap k z lo hi h1 h2
   split at h
   ·rename_i e h3
    split at h
    ·rename_i q i h4 h5
     cases zf2 h
     have hx:=zc6 h1 hf
     have hy:=zc6 h2 hf
     have hl:=zS4 h4 hy.2.2
     refine ⟨zJ8 (s:=Instr.indexAt t ((za6 X fr).eval x) ((za6 X fr).eval y)) (by unfold execOp;simp only [hop]) ?_,hx.2⟩
     rw [hx.1,hy.1]
     show (Instr.indexAt t (.slice (some ⟨X.E j,off,none⟩) len cap) (.int k z)).run P V=_
     simp [Instr.indexAt,Instr.sureAddr,asIntOf,run_underlying h3,sizeOf,typeInfo,h5,hl.1,hl.2,zx6,SV.den,TV.den,Cl.den]
    ·cases h
   ·cases h
  ·rename_i v len c xs k z lo hi h1 h2
   split at h
   ·rename_i e h3
    split at h
    ·rename_i q i h4 h5
     split at h
     ·rename_i hsz
      simp only [Nat.beq_eq] at hsz
      split at h
      ·rename_i cs h6
       rw [zi5] at h6
       cases h
       have hx:=zc6 h1 hf
       have hy:=zc6 h2 hf
       have hl:=zS4 h4 hy.2.2
       obtain ⟨⟨ao,cap,hv⟩,hat⟩:=hx.2
       have ha:=hat q cs h6
       obtain ⟨_,b,_,l,cap',us,tt,_,rfl,_,_⟩:=ha
       cases hv
       refine ⟨zJ8 (s:=Instr.indexAt t ((za6 X fr).eval x) ((za6 X fr).eval y)) (by unfold execOp;simp only [hop]) ?_,hat q cs h6⟩
       rw [hx.1,hy.1]
       show (Instr.indexAt t (.slice (some ⟨b,_,none⟩) len cap) (.int k z)).run P V=_
       simp [Instr.indexAt,Instr.sureAddr,asIntOf,run_underlying h3,sizeOf,typeInfo,h5,hl.1,hl.2,zx6,SV.den,adr,hsz]
      ·cases h
     ·cases h
    ·cases h
   ·cases h
  ·cases h
 ·rename_i t x hop
  unfold xLoad at h
  split at h
  ·rename_i j off h1
   split at h
   ·rename_i hc
    split at h
    ·rename_i tt cs h2
     rw [zi5] at h2
     have he:=zc6 h1 hf
     have hL:=hS j tt cs hc h2
     have hp:=ye2 (V:=V) h (hb j tt cs h2)
     refine ⟨?_,hp.2.1⟩
     rcases hp.2.2 with ⟨m,hm,hle,rfl⟩ | ⟨h3,c,hc',rfl⟩
     ·refine yz2 t x (X.E j) off (dnL X cs) tt _ hop he.1 hL ?_ ?_
      ·simp only [dnL,List.map_drop,List.map_take,List.length_map,List.length_take,List.length_drop]
       rw [Nat.min_eq_left (by omega)]
      ·rw [hm];simp only [List.length_map,List.length_take,List.length_drop];rw [Nat.min_eq_left (by omega)]
     ·exact yj7 t x (X.E j) off (dnL X cs) tt _ hop he.1 hL (by simp [dnL,hc',SV.den,TV.den]) h3
    ·cases h
   ·cases h
  ·rename_i v j cs h1
   split at h
   ·rename_i m hm
    split at h
    ·rename_i hsz
     simp only [Nat.beq_eq] at hsz
     cases h
     have he:=zc6 h1 hf
     obtain ⟨ho,b,off,l,cap,us,tt,fr',rfl,hmem,hus⟩:=he.2
     refine ⟨?_,ho⟩
     refine rv_ldn (cs.map (Cl.den X)) (v:=.slice (some ⟨b,off,none⟩) l cap) (j:=j) ⟨b,off,l,cap,rfl,fun i u hi=>?_⟩ t x hop he.1 (by rw [hm,hsz];simp)
     rw [zb1 (hK _ hmem)]
     exact hus i u hi
    ·cases h
   ·cases h
  ·cases h
 ·rename_i t parts hop
  have:=build_ok (V:=V) hf h
  exact ⟨zJ8 (s:=Instr.build t (parts.map fun (i,x)=>(i,(za6 X fr).eval x))) (by unfold execOp;simp only [hop]) this.1,this.2⟩
 ·rename_i x i hop
  unfold xExtr at h
  split at h
  ·rename_i l h1
   split at h
   ·rename_i v h2
    rw [zi5] at h2
    cases h
    have he:=zc6 h1 hf
    refine ⟨zJ8 (s:=Instr.extract ((za6 X fr).eval x) i) (by unfold execOp;simp only [hop]) ?_,he.2 v (List.mem_of_getElem? h2)⟩
    rw [he.1]
    simp [Instr.extract,SV.den,h2]
   ·cases h
  ·cases h
 ·rename_i t x f hop
  unfold xField at h
  split at h
  ·rename_i l h1
   split at h
   ·rename_i fs h2
    split at h
    ·rename_i fd h3
     rw [zi5,Array.getElem?_toList] at h3
     have he:=zc6 h1 hf
     have hp:=ye2 (V:=V) h he.2
     refine ⟨zJ8 (s:=Instr.field t ((za6 X fr).eval x) f) (by unfold execOp;simp only [hop]) ?_,hp.2.1⟩
     rw [he.1]
     show (Instr.field t (.agg (dnL X l)) f).run P V=_
     simp [Instr.field,run_underlying h2,h3,asAgg,hp.1]
    ·cases h
   ·cases h
  ·cases h
 ·rename_i t x y hop
  unfold xIdx at h
  split at h
  ·rename_i l k z lo hi h1 h2
   split at h
   ·rename_i len e h3
    split at h
    ·rename_i q i h4 h5
     have hx:=zc6 h1 hf
     have hy:=zc6 h2 hf
     have hl:=zS4 h4 hy.2.2
     have hp:=ye2 (V:=V) h hx.2
     refine ⟨zJ8 (s:=Instr.index t ((za6 X fr).eval x) ((za6 X fr).eval y)) (by unfold execOp;simp only [hop]) ?_,hp.2.1⟩
     rw [hx.1,hy.1]
     show (Instr.index t (.agg (dnL X l)) (.int k z)).run P V=_
     simp [Instr.index,asIntOf,run_underlying h3,sizeOf,typeInfo,h5,hl.1,hl.2,hp.1]
    ·cases h
   ·cases h
  ·cases h
 ·rename_i c x y hop
  unfold xPick at h
  split at h
  ·rename_i t h1
   have hc:=zc6 h1 hf
   have hx:=zc6 h hf
   have:(za6 X fr).eval c=.bool true:=by rw [hc.1];exact congrArg Value.bool (hc.2.2 true rfl)
   exact ⟨by unfold RunV execOp;simp [hop,this,asBool,hx.1],hx.2⟩
  ·rename_i t h1
   have hc:=zc6 h1 hf
   have hx:=zc6 h hf
   have:(za6 X fr).eval c=.bool false:=by rw [hc.1];exact congrArg Value.bool (hc.2.2 false rfl)
   exact ⟨by unfold RunV execOp;simp [hop,this,asBool,hx.1],hx.2⟩
  ·cases h
 ·rename_i op t x y t2 hop
  unfold xBin2 at h
  split at h
  ·rename_i a b h1 h2
   have hx:=zc6 h1 hf
   have hy:=zc6 h2 hf
   exact bin_ok hop hx.1 hy.1 hx.2 hy.2 h
  ·cases h
 ·rename_i op t x hop
  unfold xUn at h
  split at h
  ·rename_i b d h1
   cases zf2 h
   have he:=zc6 h1 hf
   refine ⟨?_,rfl,yd8 he.2.2⟩
   have hx:(za6 X fr).eval x=.bool b:=he.1
   unfold RunV execOp
   simp [hop,hx,Op.unary,SV.den,TV.den,Cl.den]
  ·rename_i k z lo hi h1
   cases zf2 h
   have he:=zc6 h1 hf
   have h3:=he.2.2
   have h4:=wr_ok (k:=k) (z:=0 - z) (lo:=0 - hi) (hi:=0 - lo) (by simp only [Cl.good] at h3;omega) (by simp only [Cl.good] at h3;omega) n X W
   refine ⟨?_,h4.2⟩
   have hx:(za6 X fr).eval x=.int k z:=he.1
   unfold RunV execOp
   simp only [hop,hx]
   show ((do pure (.value (← Op.unary .neg (.int k z)))):Sem Next).run P V=.ok (.value ((wr k (0 - z) (0 - hi) (0 - lo)).den X)) V
   rw [h4.1]
   simp [Op.unary,Op.intArith]
  ·cases h
 ·rename_i t d x hop
  unfold xConv at h
  split at h
  ·rename_i k' z lo hi h3
   split at h
   ·rename_i td k h1 h2
    cases zf2 h
    have he:=zc6 h3 hf
    have h4:=wr_ok (k:=k) he.2.2.1 he.2.2.2 n X W
    refine ⟨?_,h4.2⟩
    have hx:(za6 X fr).eval x=.int k' z:=he.1
    refine zJ8 (s:=convert t d ((za6 X fr).eval x)) (by unfold execOp;simp only [hop]) ?_
    rw [hx]
    show _=Result.ok ((wr k z lo hi).den X) V
    rw [h4.1]
    simp [convert,run_underlying h1,run_underlying h2,Conv.intToInt]
   ·cases h
  ·rename_i l e h3
   split at h
   ·rename_i td h1 h2
    cases zf2 h
    have he:=zc6 h3 hf
    refine ⟨?_,he.2⟩
    have hx:(za6 X fr).eval x=.string ⟨l.toArray⟩:=he.1
    refine zJ8 (s:=convert t d ((za6 X fr).eval x)) (by unfold execOp;simp only [hop]) ?_
    rw [hx]
    simp [convert,run_underlying h1,run_underlying h2,SV.den,TV.den,Cl.den]
   ·cases h
  ·cases h
 ·rename_i t x hop
  unfold xSlc at h
  split at h
  ·rename_i j off h1
   split at h
   ·rename_i len e h2
    split at h
    ·rename_i hi
     obtain ⟨i,hi⟩:=Option.isSome_iff_exists.1 hi
     cases zf2 h
     have he:=zc6 h1 hf
     refine ⟨?_,he.2⟩
     have hx:(za6 X fr).eval x=.pointer (some ⟨X.E j,off,none⟩):=he.1
     refine zJ8 (s:=Instr.sliceAt t ((za6 X fr).eval x) none none none) (by unfold execOp;simp only [hop];rfl) ?_
     rw [hx]
     simp [Instr.sliceAt,Instr.sliceBounds,Instr.sureAddr,run_underlying h2,sizeOf,typeInfo,hi,zx6,SV.den,TV.den,Cl.den]
    ·cases h
   ·cases h
  ·cases h
 ·rename_i fn first captured hop
  unfold xMkF at h
  split at h
  ·rename_i h0
   split at h
   ·rename_i l h1
    cases zf2 h
    have hc:=yA7 hf h1
    refine ⟨?_,hc.2,trivial⟩
    have h2:first=#[]:=by simpa using h0
    have h3:(captured.map (za6 X fr).eval)=(l.map X.ptr).toArray:=by
     rw [← hc.1,← Array.toList_map,Array.toArray_toList]
    unfold RunV execOp
    simp [hop,h2,Instr.makeFunc,SV.den,TV.den,Cl.den,h3]
   ·cases h
  ·cases h
 ·rename_i c hop
  have hargs:∀ {l:List Operand},c.args.toList=l→c.args.map (za6 X fr).eval=(l.map (za6 X fr).eval).toArray:=fun {l} e=>by
   rw [← e,← Array.toList_map,Array.toArray_toList]
  split at h
  ·rename_i bi hc
   generalize ha:c.args.toList=al at h
   unfold xBi at h
   split at h
   ·rename_i x
    have aa:=hargs ha
    generalize ht:c.argTypes[0]?=ot at h
    generalize hv:ev fr x=ov at h
    unfold xLen at h
    split at h
    ·rename_i t v
     have run:∀ {v u:Value},(za6 X fr).eval x=v→(Builtin.len_ c.argTypes o.type #[v]).run P V=.ok u V→RunV P (za6 X fr) o V u:=fun {v u} e hr=>by
      unfold RunV execOp
      simp only [hop,resolve,hc,invoke,builtin,Sem.run_bind,Sem.run_pure,Result.andThen_ok,aa,List.map_cons,List.map_nil,e]
      simp [hr]
     split at h
     ·rename_i e h1
      split at h
      ·rename_i j off len cap
       cases zf2 h
       refine ⟨run (zc6 hv hf).1 ?_,rfl,Int.le_refl _,Int.le_refl _⟩
       simp [Builtin.len_,ht,run_underlying h1,SV.den,TV.den,Cl.den,goInt]
      ·cases zf2 h
       refine ⟨run (zc6 hv hf).1 ?_,rfl,Int.le_refl _,Int.le_refl _⟩
       simp [Builtin.len_,ht,run_underlying h1,SV.den,TV.den,Cl.den,goInt]
      ·cases zf2 h
       obtain ⟨⟨ao,cap,rfl⟩,_⟩:=(zc6 hv hf).2
       refine ⟨run (zc6 hv hf).1 ?_,rfl,Int.le_refl _,Int.le_refl _⟩
       simp [Builtin.len_,ht,run_underlying h1,SV.den,TV.den,Cl.den,goInt]
      ·cases h
     ·rename_i len e h1
      cases zf2 h
      refine ⟨run (zc6 hv hf).1 ?_,rfl,Int.le_refl _,Int.le_refl _⟩
      simp [Builtin.len_,ht,run_underlying h1,SV.den,TV.den,Cl.den,goInt]
     ·rename_i h1
      split at h
      ·rename_i l k q
       cases zf2 h
       have hq:=(zc6 hv hf).2.2 k q rfl
       have hn:=zn4 hq.2.1 hq.2.2
       rw [← hq.1] at hn
       refine ⟨run (zc6 hv hf).1 ?_,rfl,Int.natCast_nonneg _,Int.ofNat_le.2 hn⟩
       simp [Builtin.len_,ht,run_underlying h1,SV.den,TV.den,Cl.den,goInt]
       rfl
      ·cases zf2 h
       refine ⟨run (zc6 hv hf).1 ?_,rfl,Int.le_refl _,Int.le_refl _⟩
       simp [Builtin.len_,ht,run_underlying h1,SV.den,TV.den,Cl.den,goInt]
       rfl
      ·cases h
     ·cases h
    ·cases h
   ·rename_i x y
    have aa:=hargs ha
    unfold xMax at h
    split at h
    ·rename_i k a la ha' k2 b lc hc' h1 h2
     cases zf2 h
     have hx:=zc6 h1 hf
     have hy:=zc6 h2 hf
     refine ⟨?_,rfl,?_⟩
     ·unfold RunV execOp
      simp only [hop,resolve,hc,invoke,builtin,Sem.run_bind,Sem.run_pure,Result.andThen_ok,aa,List.map_cons,List.map_nil,hx.1,hy.1]
      simp [Builtin.max_,Builtin.max2,SV.den,TV.den,Cl.den]
     ·have a1:=hx.2.2
      have a2:=hy.2.2
      simp only [Cl.good] at a1 a2 ⊢
      split<;>omega
    ·cases h
   ·rename_i x y
    have aa:=hargs ha
    unfold xMin at h
    split at h
    ·rename_i k a la ha' k2 b lc hc' h1 h2
     cases zf2 h
     have hx:=zc6 h1 hf
     have hy:=zc6 h2 hf
     refine ⟨?_,rfl,?_⟩
     ·unfold RunV execOp
      simp only [hop,resolve,hc,invoke,builtin,Sem.run_bind,Sem.run_pure,Result.andThen_ok,aa,List.map_cons,List.map_nil,hx.1,hy.1]
      simp [Builtin.min_,Builtin.min2,SV.den,TV.den,Cl.den]
     ·have a1:=hx.2.2
      have a2:=hy.2.2
      simp only [Cl.good] at a1 a2 ⊢
      split<;>omega
    ·cases h
   ·cases h
  ·cases h
 ·cases h
end
inductive Dt where
 | e
 | t (d:Dt)
 | f (d:Dt)
 | s (a b:Dt)
 | o (d:Dt)
 | c
 | i (l h u:Int) (d:Dt)
structure Sg where
 fr:List SV
 bl:List (Nat × List Cl)
 nu:Nat
 nr:Nat
 nz:Nat
 ds:Dt
def Sg.nn (s:Sg):Nn:=⟨s.bl.length,s.nr,s.nz⟩
structure Base where
 w:World
 X:Env
 n:Nn
 ks:List (Nat × Obj)
structure Rep (B:Base) (X:Env) (s:Sg) (w:World):Prop where
 gr:Gr B.w w
 ag:Agr B.n B.X X
 le:B.n.le s.nn
 fr:okF s.nn X w s.fr
 bl:∀ (i:Nat) t cs,s.bl[i]?=some (t,cs)→okL s.nn X w cs
 lc:∀ (i:Nat) t cs,s.bl[i]?=some (t,cs)→Lc w (X.E i) (dnL X cs) t∧t≠161
 own:∀ i,s.nu≤i→i<s.bl.length→B.w.heap.size≤X.E i
 inj:∀ i j,i<s.bl.length→j<s.bl.length→X.E i=X.E j→i=j
 ks:∀ x ∈ B.ks,w.heap[x.1]?=some x.2∧∀ i,i<s.bl.length→X.E i≠x.1
 kk:∀ x ∈ B.X.K,B.w.heap[x.1]?=some x.2
theorem Rep.kx {B:Base} {X:Env} {s:Sg} {w:World} (h:Rep B X s w):∀ x ∈ X.K,w.heap[x.1]?=some x.2:=fun x hx=>h.gr.heap (h.kk x (h.ag.k ▸ hx))
theorem Rep.kb {B:Base} {X:Env} {s:Sg} {w:World} (h:Rep B X s w):∀ x ∈ B.X.K,w.heap[x.1]?=some x.2:=fun x hx=>h.gr.heap (h.kk x hx)
def Stay (ro:Nat→Bool) (X:Env) (s:Sg) (w w':World):Prop:=∀ (b:Nat) (cs:Array Value) (t:TypeId),(∀ j,j<s.bl.length→ro j=false→b≠X.E j)→Lc w b cs t→Lc w' b cs t
theorem Stay.gr {ro:Nat→Bool} {X:Env} {s:Sg} {w w':World} (g:Gr w w'):Stay ro X s w w':=fun _ _ _ _ h=>h.gr g
theorem Rep.to {B:Base} {X:Env} {s:Sg} {w w':World} (h:Rep B X s w) (g:Gr w w'):Rep B X s w' where
 gr:=h.gr.trans g
 ag:=h.ag
 le:=h.le
 fr:=zX9 (.refl _) (.refl _ _) g.kp h.fr
 bl:=fun i t cs hi=>zx3 (.refl _) (.refl _ _) g.kp (h.bl i t cs hi)
 lc:=fun i t cs hi=>⟨(h.lc i t cs hi).1.gr g,(h.lc i t cs hi).2⟩
 own:=h.own
 inj:=h.inj
 ks:=fun x hx=>⟨g.heap (h.ks x hx).1,(h.ks x hx).2⟩
 kk:=h.kk
theorem Rep.set {B:Base} {X:Env} {s:Sg} {w:World} (h:Rep B X s w) {d:Nat} {v:SV} (hv:v.ok s.nn X w):Rep B X {s with fr:=s.fr.set d v} w where
 gr:=h.gr
 ag:=h.ag
 le:=h.le
 fr:=yA0 h.fr hv
 bl:=h.bl
 lc:=h.lc
 own:=h.own
 inj:=h.inj
 ks:=h.ks
 kk:=h.kk
theorem Rep.lt {B:Base} {X:Env} {s:Sg} {w:World} (h:Rep B X s w) {i:Nat} (hi:i<s.bl.length):X.E i<w.heap.size:=by
 obtain ⟨x,e⟩:∃ x,s.bl[i]?=some x:=⟨_,List.getElem?_eq_getElem hi⟩
 exact (h.lc i x.1 x.2 e).1.lt
def Env.push (X:Env) (n b:Nat):Env:={X with E:=fun i=>if i=n then b else X.E i}
theorem Env.push_agree (X:Env) (n:Nn) (b:Nat):Agr n X (X.push n.b b):=⟨fun i hi=>by simp only [Env.push];rw [if_neg (by omega)],fun _ _ _=>rfl,fun _ _ _=>rfl,rfl⟩
def Sg.grow (s:Sg) (t:Nat) (cs:List Cl):Sg:={s with bl:=s.bl++[(t,cs)]}
theorem Rep.add {B:Base} {X:Env} {s:Sg} {w w':World} (h:Rep B X s w) {t b:Nat} {cs:List Cl} (hc:okL s.nn X w cs) (ht:t≠161) (g:Gr w w') (hL:Lc w' b (dnL X cs) t) (hb:B.w.heap.size≤b) (hne:∀ i,i<s.bl.length→X.E i≠b) (hnk:∀ x ∈ B.ks,b≠x.1):
  Rep B (X.push s.bl.length b) (s.grow t cs) w'∧Agr s.nn X (X.push s.bl.length b):=by
 have hA:Agr s.nn X (X.push s.bl.length b):=Env.push_agree X s.nn b
 have hn:s.nn.le (s.grow t cs).nn:=⟨by simp [Sg.nn,Sg.grow],Nat.le_refl _,Nat.le_refl _⟩
 have hE:(X.push s.bl.length b).E s.bl.length=b:=by simp [Env.push]
 have hold:∀ i,i<s.bl.length→(X.push s.bl.length b).E i=X.E i:=fun i hi=>(hA.E i hi).symm
 have hget:∀ (i:Nat) x,(s.grow t cs).bl[i]?=some x→(i<s.bl.length∧s.bl[i]?=some x)∨(i=s.bl.length∧x=(t,cs)):=fun i x hx=>by
  simp only [Sg.grow] at hx
  rcases Nat.lt_trichotomy i s.bl.length with hi | rfl | hi
  ·rw [List.getElem?_append_left hi] at hx;exact .inl ⟨hi,hx⟩
  ·simp at hx;exact .inr ⟨rfl,hx.symm⟩
  ·rw [List.getElem?_append_right (by omega),List.getElem?_eq_none (by simp;omega)] at hx;cases hx
 have hlen:(s.grow t cs).bl.length=s.bl.length+1:=by simp [Sg.grow]
 refine ⟨⟨h.gr.trans g,h.ag.trans (hA.mono h.le),h.le.trans hn,zX9 hn hA g.kp h.fr,fun i u ds hi=>?_,fun i u ds hi=>?_,fun i h1 h2=>?_,fun i j hi hj e=>?_,fun x hx=>⟨g.heap (h.ks x hx).1,fun i hi=>?_⟩,h.kk⟩,hA⟩
 ·rcases hget i _ hi with ⟨_,hx⟩ | ⟨_,hx⟩
  ·exact zx3 hn hA g.kp (h.bl i u ds hx)
  ·cases hx;exact zx3 hn hA g.kp hc
 ·rcases hget i _ hi with ⟨hl,hx⟩ | ⟨rfl,hx⟩
  ·have:=h.lc i u ds hx
   rw [hold i hl,← zx4 hA fun c hc'=>(h.bl i u ds hx c hc').1]
   exact ⟨this.1.gr g,this.2⟩
  ·cases hx
   rw [hE,← zx4 hA fun c hc'=>(hc c hc').1]
   exact ⟨hL,ht⟩
 ·rw [hlen] at h2
  rcases Nat.lt_or_ge i s.bl.length with hi | hi
  ·rw [hold i hi];exact h.own i h1 hi
  ·obtain rfl:i=s.bl.length:=by omega
   rw [hE];exact hb
 ·rw [hlen] at hi hj
  rcases Nat.lt_or_ge i s.bl.length with hi' | hi'<;>rcases Nat.lt_or_ge j s.bl.length with hj' | hj'
  ·rw [hold i hi',hold j hj'] at e;exact h.inj i j hi' hj' e
  ·obtain rfl:j=s.bl.length:=by omega
   rw [hold i hi',hE] at e
   exact absurd e (hne i hi')
  ·obtain rfl:i=s.bl.length:=by omega
   rw [hold j hj',hE] at e
   exact absurd e.symm (hne j hj')
  ·omega
 ·rw [hlen] at hi
  rcases Nat.lt_or_ge i s.bl.length with hi' | hi'
  ·rw [hold i hi'];exact (h.ks x hx).2 i hi'
  ·obtain rfl:i=s.bl.length:=by omega
   rw [hE];exact hnk x hx
theorem Rep.grow {B:Base} {X:Env} {s:Sg} {w w':World} (h:Rep B X s w) {t b:Nat} {cs:List Cl} (hc:okL s.nn X w cs) (ht:t≠161) (g:Gr w w') (hL:Lc w' b (dnL X cs) t) (hb:w.heap.size≤b):
  Rep B (X.push s.bl.length b) (s.grow t cs) w'∧Agr s.nn X (X.push s.bl.length b):=
 h.add hc ht g hL (Nat.le_trans h.gr.size hb) (fun i hi=>by have:=h.lt hi;omega) (fun x hx=>by have:=zg0 (h.ks x hx).1;omega)
theorem Rep.store {B:Base} {X:Env} {s:Sg} {w w':World} (h:Rep B X s w) {j t:Nat} {cs ds:List Cl} (hj:s.bl[j]?=some (t,cs)) (hu:s.nu≤j) (hd:okL s.nn X w ds) (st:St w w' (X.E j)) (hL:Lc w' (X.E j) (dnL X ds) t):
  Rep B X {s with bl:=s.bl.set j (t,ds)} w':=by
 have hjl:j<s.bl.length:=(List.getElem?_eq_some_iff.1 hj).1
 have hk:Kp w w':=st.kp (h.lc j t cs hj).1 (h.lc j t cs hj).2
 have hnn:({s with bl:=s.bl.set j (t,ds)}:Sg).nn=s.nn:=by simp [Sg.nn]
 have hget:∀ (i:Nat) x,(s.bl.set j (t,ds))[i]?=some x→(i≠j∧s.bl[i]?=some x)∨(i=j∧x=(t,ds)):=fun i x hx=>by
  by_cases e:i=j
  ·subst e;rw [List.getElem?_set_self hjl] at hx;exact .inr ⟨rfl,(Option.some.inj hx).symm⟩
  ·rw [List.getElem?_set_ne (Ne.symm e)] at hx;exact .inl ⟨e,hx⟩
 refine ⟨st.gr h.gr (h.own j hu hjl),h.ag,by rw [hnn];exact h.le,by rw [hnn];exact zX9 (.refl _) (.refl _ _) hk h.fr,fun i u es hi=>?_,fun i u es hi=>?_,fun i h1 h2=>?_,fun i k h1 h2 e=>?_,fun x hx=>⟨?_,fun i hi=>?_⟩,h.kk⟩
 ·rw [hnn]
  rcases hget i _ hi with ⟨_,hx⟩ | ⟨_,hx⟩
  ·exact zx3 (.refl _) (.refl _ _) hk (h.bl i u es hx)
  ·cases hx;exact zx3 (.refl _) (.refl _ _) hk hd
 ·rcases hget i _ hi with ⟨hne,hx⟩ | ⟨rfl,hx⟩
  ·have hil:i<s.bl.length:=(List.getElem?_eq_some_iff.1 hx).1
   exact ⟨st.lc (h.lc i u es hx).1 (fun e=>hne (h.inj i j hil hjl e)),(h.lc i u es hx).2⟩
  ·cases hx;exact ⟨hL,(h.lc i t cs hj).2⟩
 ·exact h.own i h1 (by simpa using h2)
 ·exact h.inj i k (by simpa using h1) (by simpa using h2) e
 ·rw [st.block _ (Ne.symm ((h.ks x hx).2 j hjl))];exact (h.ks x hx).1
 ·exact (h.ks x hx).2 i (by simpa using hi)

def isU32 (t:Nat):Bool:=Nat.beq t 161
def putD (d:Option Tmp) (v:SV) (fr:List SV):List SV:=match d with | some d=>fr.set d v | none=>fr
noncomputable def Sg.put {β:Type} (s:Sg) (d:Option Tmp) (v:SV) (k:Sg→β):β:=match s with
 | ⟨fr,bl,nu,nr,nz,ds⟩=>match d with
  | some d=>setF fr d v fun fr=>k ⟨fr,bl,nu,nr,nz,ds⟩
  | none=>k ⟨fr,bl,nu,nr,nz,ds⟩
theorem Sg.put_eq {β:Type} (s:Sg) (d:Option Tmp) (v:SV) (k:Sg→β):s.put d v k=k {s with fr:=putD d v s.fr}:=by
 obtain ⟨fr,bl,nu,nr,nz,ds⟩:=s
 cases d
 ·rfl
 ·simp only [Sg.put,yd5,Go.Proofs.YtaldbfflkpgfoaaGreatDoor.putD]
noncomputable def Sg.new {β:Type} (s:Sg) (t:Nat) (cs:List Cl) (k:Sg→β):β:=match s with
 | ⟨fr,bl,nu,nr,nz,ds⟩=>frcL cs fun cs=>appF bl [(t,cs)] fun bl=>k ⟨fr,bl,nu,nr,nz,ds⟩
theorem Sg.new_eq {β:Type} (s:Sg) (t:Nat) (cs:List Cl) (k:Sg→β):s.new t cs k=k (s.grow t cs):=by
 obtain ⟨fr,bl,nu,nr,nz,ds⟩:=s
 simp only [Sg.new,zA5,yd6,Sg.grow]
noncomputable def Sg.sto {β:Type} (s:Sg) (j t:Nat) (cs:List Cl) (k:Sg→β):β:=match s with
 | ⟨fr,bl,nu,nr,nz,ds⟩=>frcL cs fun cs=>setF bl j (t,cs) fun bl=>k ⟨fr,bl,nu,nr,nz,ds⟩
theorem Sg.sto_eq {β:Type} (s:Sg) (j t:Nat) (cs:List Cl) (k:Sg→β):s.sto j t cs k=k {s with bl:=s.bl.set j (t,cs)}:=by
 obtain ⟨fr,bl,nu,nr,nz,ds⟩:=s
 simp only [Sg.sto,zA5,yd5]
noncomputable def xNew (o:Oper) (s:Sg) (t:Nat) (cs:List Cl) (v:Cl):Option Sg:=
 if isU32 t||!Nat.ble s.nu s.bl.length then none else s.new t cs fun s=>s.put o.dst (.so (.vc v)) some
noncomputable def xSto (P:Program) (ro:Nat→Bool) (o:Oper) (s:Sg) (t:Nat):Option SV→Option SV→Option Sg
 | some (.so (.vc (.cp j off))),some v=>match v.cells,nth s.bl j with
  | some vs,some (tt,cs)=>match P.info? t with
   | some i=>if Nat.ble s.nu j&&!ro j&&Nat.beq i.size vs.length&&Nat.ble (off+vs.length) cs.length&&o.dst.isNone then s.sto j tt (zx7 cs off vs) some else none
   | none=>none
  | _,_=>none
 | _,_=>none
noncomputable def xEff (P:Program) (ro:Nat→Bool) (o:Oper) (s:Sg):Option Sg:=
 match o.op with
 | .alloc t=>match P.info? t with
  | some i=>match zA7 i.zero with
   | some cs=>xNew o s t cs (.cp s.bl.length 0)
   | none=>none
  | none=>none
 | .box t x=>match ev s.fr x with
  | some v=>match v.cells with
   | some cs=>xNew o s t cs (.cp s.bl.length 0)
   | none=>none
  | none=>none
 | .store t x y=>xSto P ro o s t (ev s.fr x) (ev s.fr y)
 | _=>none
theorem yA9 {o:Oper} {s s':Sg} {t:Nat} {cs:List Cl} {v:Cl} (h:xNew o s t cs v=some s'):t≠161∧s.nu≤s.bl.length∧s'={s.grow t cs with fr:=putD o.dst (.so (.vc v)) s.fr}:=by
 unfold xNew at h
 split at h
 ·cases h
 ·rename_i hc
  simp only [Bool.or_eq_true,Bool.not_eq_true',not_or] at hc
  rw [Sg.new_eq,Sg.put_eq] at h
  cases h
  refine ⟨fun e=>hc.1 (by subst e;rfl),?_,rfl⟩
  have h2:=hc.2
  simp only [Bool.not_eq_false,Nat.ble_eq] at h2
  exact h2
theorem Rep.putD {B:Base} {X:Env} {s:Sg} {w:World} (h:Rep B X s w) (d:Option Tmp) {v:SV} (hv:v.ok s.nn X w):Rep B X {s with fr:=Go.Proofs.YtaldbfflkpgfoaaGreatDoor.putD d v s.fr} w:=by
 cases d with
 | none=>exact h
 | some d=>exact h.set hv
theorem zk8 (X:Env) (fr:List SV) (d:Option Tmp) (v:SV):(za6 X fr).put d (v.den X)=za6 X (putD d v fr):=by
 cases d with
 | none=>rfl
 | some d=>exact yd7 X fr d v
theorem yj9 {n:Nn} {X:Env} {w:World}:∀ {l:List Cl},okL n X w l→One1 (l.map (Cl.den X))
 | [],_=>trivial
 | c::l,h=>⟨Cl.one (h c (by simp)),yj9 fun x hx=>h x (by simp [hx])⟩
theorem xEff_ok {P:Program} {ro:Nat→Bool} {o:Oper} {s s':Sg} {B:Base} {X:Env} {w:World} {K:Act→World→Prop} {Q:Exit→Act→World→Prop} (h:xEff P ro o s=some s') (hR:Rep B X s w)
  (hK:∀ X' w',Rep B X' s' w'→Agr s.nn X X'→Stay ro X s w w'→K (za6 X' s'.fr) w'):o.wp P (za6 X s.fr) w K Q:=by
 have new:∀ (t:Nat) (cs:List Cl) (b:Nat) (w':World),okL s.nn X w cs→xNew o s t cs (.cp s.bl.length 0)=some s'→Gr w w'→Lc w' b (dnL X cs) t→w.heap.size≤b→K ((za6 X s.fr).put o.dst (.pointer (some ⟨b,0,none⟩))) w':=by
  intro t cs b w' hc hn g hL hb
  obtain ⟨ht,_,rfl⟩:=yA9 hn
  obtain ⟨h1,h2⟩:=hR.grow hc ht g hL hb
  have hp:(SV.so (.vc (.cp s.bl.length 0))).ok (s.grow t cs).nn (X.push s.bl.length b) w':=⟨zp7 (by simp [Sg.nn,Sg.grow]),trivial⟩
  have:=hK (X.push s.bl.length b) w' (h1.putD o.dst hp) h2 (.gr g)
  have e:(za6 X s.fr).put o.dst (.pointer (some ⟨b,0,none⟩))=za6 (X.push s.bl.length b) (putD o.dst (.so (.vc (.cp s.bl.length 0))) s.fr):=by
   rw [← zk8,← zn7 h2 hR.fr]
   simp [SV.den,TV.den,Cl.den,Env.push]
  rw [e]
  exact this
 unfold xEff at h
 split at h
 ·rename_i t hop
  split at h
  ·rename_i i hi
   split at h
   ·rename_i cs hz
    cases hzz:i.zero with
    | none=>rw [hzz] at hz;cases hz
    | some z=>
     rw [hzz] at hz
     have hc:=zx5 (l:=z.cells.toList) hz s.nn X w
     refine zJ5 t z (dnL X cs) o.dst rfl hop (by rw [hi];simp [hzz]) (by unfold dnL;rw [hc.1]) (fun b w' g hL hb=>new t cs b w' hc.2 h g hL hb)
   ·cases h
  ·cases h
 ·rename_i t x hop
  split at h
  ·rename_i v hv
   split at h
   ·rename_i cs hc
    have he:=zc6 hv hR.fr
    have hcs:=SV.cells_ok hc he.2
    exact yz4 t x (v.den X) (dnL X cs) o.dst rfl hop he.1 hcs.1 (fun b w' g hL hb=>new t cs b w' hcs.2 h g hL hb)
   ·cases h
  ·cases h
 ·rename_i t x y hop
  unfold xSto at h
  split at h
  ·rename_i j off v h1 h2
   split at h
   ·rename_i vs tt cs h3 h4
    rw [zi5] at h4
    split at h
    ·rename_i i h5
     split at h
     ·rename_i hc
      simp only [Bool.and_eq_true,Bool.not_eq_true',Nat.ble_eq,Nat.beq_eq,Option.isNone_iff_eq_none] at hc
      obtain ⟨⟨⟨⟨c1,c2⟩,c3⟩,c4⟩,c5⟩:=hc
      rw [Sg.sto_eq] at h
      cases h
      have hx:=zc6 h1 hR.fr
      have hy:=zc6 h2 hR.fr
      have hv:=SV.cells_ok h3 hy.2
      have hL:=hR.lc j tt cs h4
      have hone:=yj9 hv.2
      refine zX5 t x y (X.E j) off (v.den X) (vs.map (Cl.den X)) (dnL X cs) (dnL X (zx7 cs off vs)) tt hop c5 hx.1 hy.1 hv.1 hL.1 (by rw [h5];simp [c3]) (by simp [dnL];exact c4) hone (zO6 c4) (fun w' st hL'=>?_)
      refine hK X w' (hR.store h4 c1 (zO3 (hR.bl j tt cs h4) hv.2 off) st hL') (.refl _ _) (fun b ds u hb hl=>st.lc hl (hb j (List.getElem?_eq_some_iff.1 h4).1 c2))
     ·cases h
    ·cases h
   ·cases h
  ·cases h
 ·cases h
theorem yB0 {P:Program} {ro:Nat→Bool} {o:Oper} {s s':Sg} (h:xEff P ro o s=some s'):s.bl.length≤s'.bl.length∧∀ (i:Nat),i<s.bl.length→ro i=true→s'.bl[i]?=s.bl[i]?:=by
 have new:∀ {t:Nat} {cs:List Cl} {v:Cl},xNew o s t cs v=some s'→s.bl.length≤s'.bl.length∧∀ (i:Nat),i<s.bl.length→ro i=true→s'.bl[i]?=s.bl[i]?:=fun hn=>by
  obtain ⟨_,_,rfl⟩:=yA9 hn
  refine ⟨by simp [Sg.grow],fun i hi _=>?_⟩
  simp only [Sg.grow]
  rw [List.getElem?_append_left hi]
 unfold xEff at h
 split at h
 ·split at h
  ·split at h
   ·exact new h
   ·cases h
  ·cases h
 ·split at h
  ·split at h
   ·exact new h
   ·cases h
  ·cases h
 ·unfold xSto at h
  split at h
  ·split at h
   ·split at h
    ·split at h
     ·rename_i j off v h1 h2 _ _ vs tt cs h3 h4 _ i h5 hc
      simp only [Bool.and_eq_true,Bool.not_eq_true'] at hc
      rw [Sg.sto_eq] at h
      cases h
      refine ⟨by simp,fun k hk hr=>?_⟩
      simp only
      rw [List.getElem?_set_ne]
      rintro rfl
      rw [hc.1.1.1.2] at hr;cases hr
     ·cases h
    ·cases h
   ·cases h
  ·cases h
 ·cases h
inductive Lf where
 | ret (v:SV)
 | br (t:Bool) (a b:Lf)
 | as (t v:Bool) (a:Lf)
abbrev Rs:=Option Lf
def LOK (Post:SV→Prop):Lf→Prop
 | .ret v=>Post v
 | .br t a b=>(t=true→LOK Post a)∧(t=false→LOK Post b)
 | .as t v a=>t=v∧LOK Post a
def asL (t v:Bool):Rs→Rs
 | some a=>some (.as t v a)
 | none=>none
def brL (t:Bool):Rs→Rs→Rs
 | some a,some b=>some (.br t a b)
 | _,_=>none
theorem zt1 {t v:Bool} {a:Rs} {L:Lf} (h:asL t v a=some L):∃ x,a=some x∧L=.as t v x:=by
 unfold asL at h
 split at h
 ·cases h;exact ⟨_,rfl,rfl⟩
 ·cases h
theorem brL_some {t:Bool} {a b:Rs} {L:Lf} (h:brL t a b=some L):∃ x y,a=some x∧b=some y∧L=.br t x y:=by
 unfold brL at h
 split at h
 ·cases h;exact ⟨_,_,rfl,rfl,rfl⟩
 ·cases h
def Sg.pas (s:Sg) (d:Dt):Sg:=match s with
 | ⟨fr,bl,nu,nr,nz,_⟩=>⟨fr,bl,nu,nr,nz,d⟩
theorem Sg.pas_eq (s:Sg) (d:Dt):s.pas d={s with ds:=d}:=by cases s;rfl
def zY1 (t:Bool) (s:Sg) (k:Bool→Sg→Rs):Rs:=
 match s.ds with
 | .t d=>asL t true (k true (s.pas d))
 | .f d=>asL t false (k false (s.pas d))
 | .s a b=>brL t (k true (s.pas a)) (k false (s.pas b))
 | .c=>match t with
  | true=>k true (s.pas .c)
  | false=>k false (s.pas .c)
 | _=>some (.as t (!t) (.ret .su))
section
variable {P:Program} {Post:SV→Prop} {B:Base} {X:Env} {s:Sg} {w:World} {L:Lf}
theorem Rep.ds (h:Rep B X s w) (d:Dt):Rep B X {s with ds:=d} w:=⟨h.gr,h.ag,h.le,h.fr,h.bl,h.lc,h.own,h.inj,h.ks,h.kk⟩
theorem zK1 {t:Bool} {k:Bool→Sg→Rs} (h:zY1 t s k=some L) (hL:LOK Post L):∃ v d L',t=v∧k v {s with ds:=d}=some L'∧LOK Post L':=by
 unfold zY1 at h
 simp only [Sg.pas_eq] at h
 split at h
 ·obtain ⟨x,h1,rfl⟩:=zt1 h
  exact ⟨true,_,x,hL.1,h1,hL.2⟩
 ·obtain ⟨x,h1,rfl⟩:=zt1 h
  exact ⟨false,_,x,hL.1,h1,hL.2⟩
 ·obtain ⟨x,y,h1,h2,rfl⟩:=brL_some h
  cases t with
  | true=>exact ⟨true,_,x,rfl,h1,hL.1 rfl⟩
  | false=>exact ⟨false,_,y,rfl,h2,hL.2 rfl⟩
 ·cases t with
  | true=>exact ⟨true,_,L,rfl,h,hL⟩
  | false=>exact ⟨false,_,L,rfl,h,hL⟩
 ·cases h
  have:=hL.1
  cases t<;>cases this
def xVal (v:SV) (s:Sg) (k:SV→Sg→Rs):Rs:=
 match v with
 | .so (.vc (.cb t none))=>match s.ds with
  | .o d=>k v (s.pas d)
  | _=>zY1 t s fun u s=>k (.so (.vc (.cb t (some u)))) s
 | .so (.vc (.ci kd z lo hi))=>match s.ds with
  | .i l h u d=>if isL lo l&&isL l lo&&isL hi h&&isL h hi then asL (decide (z=u)) true (k (.so (.vc (.ci kd u u u))) (s.pas d)) else k v s
  | _=>k v s
 | v=>k v s
structure Same (s s':Sg):Prop where
 fr:s'.fr=s.fr
 bl:s'.bl=s.bl
 nu:s'.nu=s.nu
 nr:s'.nr=s.nr
 nz:s'.nz=s.nz
theorem Same.nn {s s':Sg} (h:Same s s'):s'.nn=s.nn:=by unfold Sg.nn;rw [h.bl,h.nr,h.nz]
theorem Same.refl (s:Sg):Same s s:=⟨rfl,rfl,rfl,rfl,rfl⟩
theorem zA8 {v:SV} {k:SV→Sg→Rs} (h:xVal v s k=some L) (hL:LOK Post L) (hR:Rep B X s w) (hv:v.ok s.nn X w):
  ∃ v' s' L',k v' s'=some L'∧LOK Post L'∧Rep B X s' w∧Same s s'∧v'.den X=v.den X∧v'.ok s'.nn X w:=by
 unfold xVal at h
 split at h
 ·rename_i t
  split at h
  ·rw [Sg.pas_eq] at h
   exact ⟨_,_,L,h,hL,hR.ds _,⟨rfl,rfl,rfl,rfl,rfl⟩,rfl,hv⟩
  ·obtain ⟨u,d,L',ht,hk,hL'⟩:=zK1 h hL
   exact ⟨_,_,L',hk,hL',hR.ds d,⟨rfl,rfl,rfl,rfl,rfl⟩,rfl,rfl,fun v hv=>by cases hv;exact ht⟩
 ·split at h
  ·split at h
   ·obtain ⟨x,h1,rfl⟩:=zt1 h
    obtain ⟨e,hL'⟩:=hL
    have e:=of_decide_eq_true e
    subst e
    rw [Sg.pas_eq] at h1
    exact ⟨_,_,x,h1,hL',hR.ds _,⟨rfl,rfl,rfl,rfl,rfl⟩,rfl,rfl,Int.le_refl _,Int.le_refl _⟩
   ·exact ⟨_,s,L,h,hL,hR,.refl s,rfl,hv⟩
  ·exact ⟨_,s,L,h,hL,hR,.refl s,rfl,hv⟩
 ·exact ⟨v,s,L,h,hL,hR,.refl s,rfl,hv⟩
end

noncomputable def yo4 (ops:Array Oper) (fr:List SV) (o:Oper):Option Bool:=
 match o.guard with
 | none=>some true
 | some (j,want)=>match (ops[j]?).bind (·.dst) with
  | none=>some false
  | some d=>match nth fr d with
   | some (.so (.vc (.cb _ (some v))))=>some (v==want)
   | some .su=>some false
   | _=>none
theorem zn8 {ops:Array Oper} {fr:List SV} {o:Oper} {v:Bool} (h:yo4 ops fr o=some v) {n:Nn} {X:Env} {W:World} (hf:okF n X W fr):Region.wanted o (yielded ops (za6 X fr).tmps)=v:=by
 unfold yo4 at h
 unfold Region.wanted
 split at h
 ·rename_i hg;rw [hg];cases h;rfl
 ·rename_i j want hg
  rw [hg]
  simp only [yielded]
  split at h
  ·rename_i hd;rw [hd];cases h;rfl
  ·rename_i d hd
   rw [hd]
   simp only [Option.bind_some]
   split at h
   ·rename_i t u hs
    cases h
    rw [zi5] at hs
    have ht:t=u:=(hf _ (List.mem_of_getElem? hs)).2 u rfl
    have:(za6 X fr).tmps[d]?=some (.bool t):=by simp [za6,hs,SV.den,TV.den,Cl.den]
    rw [this,ht]
    cases u<;>cases want<;>rfl
   ·rename_i hs
    rw [zi5] at hs
    cases h
    have:(za6 X fr).tmps[d]?=some undef:=by simp [za6,hs,SV.den]
    rw [this];rfl
   ·cases h

noncomputable def yk0 (fr:List SV):List Operand→Option (List SV)
 | []=>some []
 | x::r=>match ev fr x,yk0 fr r with
  | some s,some l=>some (s::l)
  | _,_=>none
theorem zY2 {n:Nn} {X:Env} {W:World} {fr:List SV} (hf:okF n X W fr):∀ {l:List Operand} {r:List SV},yk0 fr l=some r→l.map (za6 X fr).eval=r.map (SV.den X)∧okF n X W r
 | [],r,h=>by cases h;exact ⟨rfl,fun _ hc=>by cases hc⟩
 | x::l,r,h=>by
  unfold yk0 at h
  split at h
  ·rename_i s r' h1 h2
   cases h
   have a:=zc6 h1 hf
   have b:=zY2 hf h2
   refine ⟨by rw [List.map_cons,List.map_cons,a.1,b.1],fun c hc=>?_⟩
   rcases List.mem_cons.1 hc with rfl | hc
   ·exact a.2
   ·exact b.2 c hc
  ·cases h
def okCall (P:Program) (f:Nat):Bool:=match P.funcs[f]? with
 | some fn=>!(fn.name=="runtime.NumGoroutine")&&!fn.body.isNone
 | none=>false
noncomputable def xCall (lo hi:Nat) (call:FuncId→List SV→Sg→(SV→Sg→Rs)→Rs) (o:Oper) (s:Sg) (k:SV→Sg→Rs):Rs:=
 match o.op with
 | .call c=>match c.callee with
  | .value f=>match ev s.fr f,yk0 s.fr c.args.toList with
   | some (.so (.vc (.cf fn cps))),some l=>if Nat.ble lo fn&&Nat.blt fn hi then call fn (l++cps.map fun x=>.so (.vc (.cp x.1 x.2))) s k else none
   | _,_=>none
  | _=>none
 | _=>none
def zx9 (P:Program) (Post:SV→Prop) (B:Base) (call:FuncId→List SV→Sg→(SV→Sg→Rs)→Rs):Prop:=
 ∀ (X:Env) (s:Sg) (w:World) (f:FuncId) (args:List SV) (k:SV→Sg→Rs) (L:Lf),call f args s k=some L→LOK Post L→Rep B X s w→okF s.nn X w args→
  Calls P f (args.map (SV.den X)).toArray w fun e w'=>∃ v s' X' L',e=.returned (v.den X')∧Gr w w'∧Agr s.nn X X'∧Rep B X' s' w'∧v.ok s'.nn X' w'∧s'.fr=s.fr∧s'.bl=s.bl∧s'.nu=s.nu∧k v s'=some L'∧LOK Post L'
structure Step (ro:Nat→Bool) (X:Env) (s:Sg) (w:World) (X':Env) (s':Sg) (w':World):Prop where
 ag:∀ i,i<s.bl.length→X.E i=X'.E i
 st:Stay ro X s w w'
 le:s.bl.length≤s'.bl.length
 keep:∀ (i:Nat),i<s.bl.length→ro i=true→s'.bl[i]?=s.bl[i]?
section
variable {P:Program} {Post:SV→Prop} {B:Base} {X:Env} {s:Sg} {w:World} {L:Lf} {lo hi:Nat} {call:FuncId→List SV→Sg→(SV→Sg→Rs)→Rs} {o:Oper} {K:Act→World→Prop} {Q:Exit→Act→World→Prop} {ro:Nat→Bool}
theorem yB1 {a:Act} {w:World} {c:Call} {f:Operand} {fn:Nat} {cv:Array Value} (hop:o.op=.call c) (hc:c.callee=.value f) (hf:a.eval f=.func (.func fn) #[] cv) (hok:okCall P fn=true):
  (execOp a.eval o).run P w=.ok (.enter fn ((c.args.map a.eval)++cv)) w:=by
 unfold okCall at hok
 cases hfn:P.funcs[fn]? with
 | none=>rw [hfn] at hok;cases hok
 | some g=>
  rw [hfn] at hok
  simp only [Bool.and_eq_true,Bool.not_eq_true'] at hok
  have h1:¬ g.name="runtime.NumGoroutine":=by simpa using hok.1
  have h2:¬ g.body=none:=fun e=>by rw [e] at hok;cases hok.2
  unfold execOp
  simp [hop,resolve,hc,hf,Deferred.ofValue,invoke,callFunc,hfn,h1,h2]
theorem yk1 {k:SV→Sg→Rs} (hC:zx9 P Post B call) (hcl:∀ f,lo≤f→f<hi→okCall P f=true) (h:xCall lo hi call o s k=some L) (hL:LOK Post L) (hR:Rep B X s w)
  (hK:∀ v s' X' w' L',Rep B X' s' w'→v.ok s'.nn X' w'→s'.fr=s.fr→s'.bl=s.bl→s'.nu=s.nu→Gr w w'→Agr s.nn X X'→k v s'=some L'→LOK Post L'→K ((za6 X' s'.fr).put o.dst (v.den X')) w'):o.wp P (za6 X s.fr) w K Q:=by
 unfold xCall at h
 split at h
 ·rename_i c hop
  split at h
  ·rename_i f hc
   split at h
   ·rename_i fn cps l h1 h2
    split at h
    ·rename_i hb
     simp only [Bool.and_eq_true,Nat.ble_eq] at hb
     have hf:=zc6 h1 hR.fr
     have ha:=zY2 hR.fr h2
     have hrun:=yB1 (P:=P) (o:=o) (w:=w) hop hc (hf.1.trans rfl) (hcl fn hb.1 (ze6 hb.2))
     have hargs:(c.args.map (za6 X s.fr).eval)++(cps.map X.ptr).toArray=((l++cps.map fun x=>SV.so (.vc (.cp x.1 x.2))).map (SV.den X)).toArray:=by
      rw [List.map_append,← ha.1,List.map_map]
      have:(c.args.map (za6 X s.fr).eval)=(c.args.toList.map (za6 X s.fr).eval).toArray:=by rw [← Array.toList_map,Array.toArray_toList]
      rw [this]
      simp only [List.append_toArray]
      rfl
     rw [hargs] at hrun
     have hok:okF s.nn X w (l++cps.map fun x=>SV.so (.vc (.cp x.1 x.2))):=fun c hc=>by
      rcases List.mem_append.1 hc with hc | hc
      ·exact ha.2 c hc
      ·obtain ⟨x,hx,rfl⟩:=List.mem_map.1 hc
       have:=hf.2.1
       simp only [Cl.lt,List.all_eq_true] at this
       exact ⟨this x hx,trivial⟩
     refine zS1 o.dst rfl hrun (hC X s w fn _ k L h hL hR hok) (fun e w' he=>?_)
     obtain ⟨v,s',X',L',rfl,hg,hag,hR',hv,e1,e2,e3,hk,hL'⟩:=he
     refine ⟨v.den X',rfl,?_⟩
     rw [zn7 hag hR.fr,← e1]
     exact hK v s' X' w' L' hR' hv e1 e2 e3 hg hag hk hL'
    ·cases h
   ·cases h
  ·cases h
 ·cases h
noncomputable def xOp (P:Program) (lo hi:Nat) (call:FuncId→List SV→Sg→(SV→Sg→Rs)→Rs) (ro:Nat→Bool) (o:Oper) (s:Sg) (k:Sg→Rs):Rs:=
 match o.op with
 | .call _=>xCall lo hi call o s fun v s=>xVal v s fun v s=>s.put o.dst v k
 | _=>match xEff P ro o s with
  | some s=>k s
  | none=>none
theorem yB2 {k:Sg→Rs} (hC:zx9 P Post B call) (hcl:∀ f,lo≤f→f<hi→okCall P f=true) (h:xOp P lo hi call ro o s k=some L) (hL:LOK Post L) (hR:Rep B X s w)
  (hK:∀ s' X' w' L',Rep B X' s' w'→Step ro X s w X' s' w'→k s'=some L'→LOK Post L'→K (za6 X' s'.fr) w'):o.wp P (za6 X s.fr) w K Q:=by
 unfold xOp at h
 split at h
 ·refine yk1 hC hcl h hL hR (fun v s' X' w' L' hR' hv e1 e2 e3 hg hag hk hL'=>?_)
  obtain ⟨v2,s2,L2,aa,ad,ab,hs,hd,ac⟩:=zA8 hk hL' hR' hv
  rw [Sg.put_eq] at aa
  have:=hK _ X' w' L2 (ab.putD o.dst ac) ⟨fun i hi=>hag.E i hi,.gr hg,by simp [hs.bl,e2],fun i _ _=>by simp [hs.bl,e2]⟩ aa ad
  rw [← hd,zk8,← hs.fr]
  exact this
 ·split at h
  ·rename_i s2 he
   refine xEff_ok he hR (fun X' w' hR' hag hst=>hK s2 X' w' L hR' ⟨fun i hi=>hag.E i hi,hst,?_,?_⟩ h hL)
   ·have:=(yB0 he).1;exact this
   ·exact (yB0 he).2
  ·cases h
end
def isEff:Op→Bool
 | .alloc _ | .box _ _ | .store _ _ _=>true
 | .call c=>match c.callee with
  | .value _=>true
  | _=>false
 | _=>false
abbrev zL9:=FuncId→List SV→Sg→(SV→Sg→Rs)→Rs
noncomputable def xVP (P:Program) (can:Nat→Bool) (o:Oper) (s:Sg) (k:Sg→Rs):Rs:=match xPure P can s.fr s.bl o with
 | some v=>xVal v s fun v s=>s.put o.dst v k
 | none=>none
noncomputable def zO7 (P:Program) (lo hi:Nat) (call:zL9) (ops:Array Oper):List Nat→Sg→(Sg→Rs)→Rs
 | [],s,k=>k s
 | i::r,s,k=>match nth ops.toList i with
  | none=>none
  | some o=>match yo4 ops s.fr o with
   | some true=>if isEff o.op then xOp P lo hi call (fun _=>false) o s fun s=>zO7 P lo hi call ops r s k
    else xVP P (fun _=>true) o s fun s=>zO7 P lo hi call ops r s k
   | some false=>s.put o.dst .su fun s=>zO7 P lo hi call ops r s k
   | none=>none
noncomputable def xOrd (P:Program) (lo hi:Nat) (call:zL9) (can:Nat→Bool) (ops:Array Oper):List (Bool × Nat)→Sg→(Sg→Rs)→Rs
 | [],s,k=>k s
 | (b,i)::r,s,k=>match nth ops.toList i with
  | none=>none
  | some o=>match yo4 ops s.fr o with
   | some true=>match b with
    | false=>xOp P lo hi call can o s fun s=>xOrd P lo hi call can ops r s k
    | true=>xVP P can o s fun s=>xOrd P lo hi call can ops r s k
   | some false=>s.put o.dst .su fun s=>xOrd P lo hi call can ops r s k
   | none=>none
section
variable {P:Program} {Post:SV→Prop} {B:Base} {lo hi:Nat} {call:zL9} {ops:Array Oper} {Q:Exit→Act→World→Prop}
theorem zr9 (X:Env) (fr:List SV) (d:Option Tmp):(za6 X fr).put d undef=za6 X (putD d .su fr):=zk8 X fr d .su
theorem zy0 (hC:zx9 P Post B call) (hcl:∀ f,lo≤f→f<hi→okCall P f=true):∀ (l:List Nat) {k:Sg→Rs} {X:Env} {s:Sg} {w:World} {L:Lf},zO7 P lo hi call ops l s k=some L→LOK Post L→Rep B X s w→
  (∀ s' X' w' L',k s'=some L'→LOK Post L'→Rep B X' s' w'→Q .normal (za6 X' s'.fr) w')→wpOps P ops Q l (za6 X s.fr) w
 | [],k,X,s,w,L,h,hL,hR,hQ=>hQ s X w L h hL hR
 | i::r,k,X,s,w,L,h,hL,hR,hQ=>by
  unfold zO7 at h
  split at h
  ·cases h
  ·rename_i o ho
   rw [zi5,Array.getElem?_toList] at ho
   split at h
   ·rename_i hw
    have hw':=zn8 hw hR.fr
    split at h
    ·rw [wpOps_cons]
     unfold wpOp
     simp only [ho,hw',if_true]
     exact .inl (yB2 hC hcl h hL hR fun s' X' w' L' hR' _ hk hL'=>zy0 hC hcl r hk hL' hR' hQ)
    ·unfold xVP at h
     split at h
     ·rename_i v hv
      have hp:=zx8 (V:=w) hv hR.fr hR.bl (fun i t cs _ hi=>(hR.lc i t cs hi).1) hR.kx
      obtain ⟨v2,s2,L2,aa,ad,ab,hs,hd,ac⟩:=zA8 h hL hR hp.2
      rw [Sg.put_eq] at aa
      refine sq_val o.dst (v.den X) ho rfl hw' hp.1 ?_
      rw [← hd,zk8,← hs.fr]
      exact zy0 hC hcl r aa ad (ab.putD o.dst ac) hQ
     ·cases h
   ·rename_i hw
    rw [Sg.put_eq] at h
    refine yz3 o.dst ho rfl (zn8 hw hR.fr) ?_
    rw [zr9]
    exact zy0 hC hcl r h hL (hR.putD o.dst (v:=.su) trivial) hQ
   ·cases h

def Held (can:Nat→Bool) (s0:Sg) (X0 X:Env) (s:Sg):Prop:=∀ i,can i=true→i<s.bl.length∧s.bl[i]?=s0.bl[i]?∧X.E i=X0.E i
def SH (B:Base) (can:Nat→Bool) (s0:Sg) (X0:Env) (w:World):Prop:=(∀ x ∈ B.X.K,w.heap[x.1]?=some x.2)∧∀ (i:Nat) t cs,can i=true→s0.bl[i]?=some (t,cs)→Lc w (X0.E i) (dnL X0 cs) t
theorem SH.kx {can:Nat→Bool} {s0:Sg} {X0 X:Env} {s:Sg} {w V:World} (h:SH B can s0 X0 V) (hR:Rep B X s w):∀ x ∈ X.K,V.heap[x.1]?=some x.2:=fun x hx=>h.1 x (hR.ag.k ▸ hx)
theorem SH.gr {can:Nat→Bool} {s0:Sg} {X0:Env} {w w':World} (h:SH B can s0 X0 w) (g:Gr w w'):SH B can s0 X0 w':=⟨fun x hx=>g.heap (h.1 x hx),fun i t cs hi hx=>(h.2 i t cs hi hx).gr g⟩
theorem Held.load {can:Nat→Bool} {s0 s:Sg} {X0 X:Env} {w V:World} (hH:Held can s0 X0 X s) (hR:Rep B X s w) (hw:SH B can s0 X0 w) (hV:SH B can s0 X0 V):
  ∀ (i:Nat) t cs,can i=true→s.bl[i]?=some (t,cs)→Lc V (X.E i) (dnL X cs) t:=fun i t cs hi hx=>by
 obtain ⟨h1,h2,h3⟩:=hH i hi
 rw [h2] at hx
 have a:=hw.2 i t cs hi hx
 have b:=hV.2 i t cs hi hx
 have c:=(hR.lc i t cs (h2.trans hx)).1
 rw [h3] at c ⊢
 unfold Lc at a b c ⊢
 rw [a] at c
 simp only [Option.some.injEq,Obj.cells.injEq] at c
 rw [b,c.1]
theorem Held.step {can:Nat→Bool} {s0 s s':Sg} {X0 X X':Env} {w w':World} (hH:Held can s0 X0 X s) (hR:Rep B X s w) (hs:Step can X s w X' s' w') (hw:SH B can s0 X0 w) (hR':Rep B X' s' w'):Held can s0 X0 X' s'∧SH B can s0 X0 w':=by
 refine ⟨fun i hi=>?_,hR'.kb,fun i t cs hi hx=>?_⟩
 ·obtain ⟨h1,h2,h3⟩:=hH i hi
  exact ⟨Nat.lt_of_lt_of_le h1 hs.le,(hs.keep i h1 hi).trans h2,(hs.ag i h1).symm.trans h3⟩
 ·obtain ⟨h1,h2,h3⟩:=hH i hi
  refine hs.st _ _ _ (fun j hj hc e=>?_) (hw.2 i t cs hi hx)
  rw [← h3] at e
  have:=hR.inj i j h1 hj e
  subst this
  rw [hi] at hc;cases hc
theorem zA9 (hC:zx9 P Post B call) (hcl:∀ f,lo≤f→f<hi→okCall P f=true) {can:Nat→Bool} {s0:Sg} {X0:Env}:∀ (l:List (Bool × Nat)) {k:Sg→Rs} {X:Env} {s:Sg} {w:World} {L:Lf},
  xOrd P lo hi call can ops l s k=some L→LOK Post L→Rep B X s w→Held can s0 X0 X s→SH B can s0 X0 w→
  (∀ s' X' w' L',k s'=some L'→LOK Post L'→Rep B X' s' w'→Q .normal (za6 X' s'.fr) w')→zg7 P ops Q (SH B can s0 X0) l (za6 X s.fr) w
 | [],k,X,s,w,L,h,hL,hR,_,_,hQ=>hQ s X w L h hL hR
 | (b,i)::r,k,X,s,w,L,h,hL,hR,hH,hS,hQ=>by
  unfold xOrd at h
  split at h
  ·cases h
  ·rename_i o ho
   rw [zi5,Array.getElem?_toList] at ho
   split at h
   ·rename_i hw
    have hw':=zn8 hw hR.fr
    split at h
    ·refine oe ?_ ho hw'
     refine yB2 hC hcl h hL hR fun s' X' w' L' hR' hst hk hL'=>?_
     obtain ⟨h1,h2⟩:=hH.step hR hst hS hR'
     exact ⟨h2,zA9 hC hcl r hk hL' hR' h1 h2 hQ⟩
    ·unfold xVP at h
     split at h
     ·rename_i v hv
      have hp:=fun V (hV:SH B can s0 X0 V)=>zx8 (V:=V) hv hR.fr hR.bl (hH.load hR hS hV) (hV.kx hR)
      obtain ⟨v2,s2,L2,aa,ad,ab,hs,hd,ac⟩:=zA8 h hL hR (hp w hS).2
      rw [Sg.put_eq] at aa
      refine zV6 o.dst (v.den X) ho rfl hw' (fun V hV=>(hp V hV).1) ?_
      rw [← hd,zk8,← hs.fr]
      exact zA9 hC hcl r aa ad (ab.putD o.dst ac) (fun i hi=>by have:=hH i hi;rw [← hs.bl] at this;exact this) hS hQ
     ·cases h
   ·rename_i hw
    rw [Sg.put_eq] at h
    have hw':=zn8 hw hR.fr
    cases b with
    | true=>
     refine yi1 o.dst ho rfl hw' ?_
     rw [zr9]
     exact zA9 hC hcl r h hL (hR.putD o.dst (v:=.su) trivial) hH hS hQ
    | false=>
     refine zH9 o.dst ho rfl hw' hS ?_
     rw [zr9]
     exact zA9 hC hcl r h hL (hR.putD o.dst (v:=.su) trivial) hH hS hQ
   ·cases h
end
inductive Ex where
 | n
 | x (id:Nat)
 | r
abbrev KT:=Ex→Sg→Rs
inductive Ent where
 | ord (l:List (Bool × Nat)) (bs:List Nat)
 | ort (l:List (Bool × Nat)) (bs:List Nat) (hs:List (List Nat × Nat))
 | flo (l:List (Bool × Nat)) (fl:List (Nat × Nat × Nat)) (tl:List (Bool × Nat)) (bs:List Nat)
 | lp (t:Sg→KT→Rs)
def yB3 (P:Program) (t:Nat):Array Value:=match P.info? t with
 | some i=>match i.zero with
  | some z=>z.cells
  | none=>#[]
 | none=>#[]
def okZ (P:Program) (t:Nat):Bool:=match P.info? t with
 | some i=>i.zero.isSome
 | none=>false
theorem okZ_ok {P:Program} {t:Nat} (h:okZ P t=true) (w:World):(Instr.alloc t true (.tuple #[])).run P w=.ok (.pointer (some ⟨w.heap.size,0,none⟩)) (w.alloc (.cells (yB3 P t) t)):=by
 unfold okZ at h
 cases hi:P.info? t with
 | none=>rw [hi] at h;cases h
 | some i=>
  rw [hi] at h
  obtain ⟨z,hz⟩:=Option.isSome_iff_exists.1 h
  exact zN2 (P:=P) (z:=z) (by rw [hi];simp [hz]) (by unfold yB3;simp only [hi,hz]) w
def yB4 (P:Program) (x:Nat × Nat × Nat):Fl:=⟨x.1,x.2.1,x.2.2,yB3 P x.2.2⟩
def yB5 (P:Program) (ops:Array Oper):Ent→Bool
 | .ord l _=>Region.noSelect ops&&zu2 ops l (Array.replicate ops.size false)&&Nat.ble l.length ops.size
 | .ort l _ hs=>Region.noSelect ops&&zC4 ops (hs.map (·.1)) l (Array.replicate ops.size false)&&Nat.ble l.length ops.size
 | .flo l fl tl _=>Region.noSelect ops&&(fl.all fun x=>okZ P x.2.2)&&zv7 ops (fl.map (yB4 P)) tl l (Array.replicate ops.size false)&&okAp ops (fl.map (yB4 P)) l&&okAl ops (fl.map (yB4 P))&&Nat.ble (l.length+(fl.map (yB4 P)).length+tl.length) ops.size
 | .lp _=>false
def zS5:Nat→List (Nat × Ent)→Option Ent
 | _,[]=>none
 | i,(j,e)::r=>if Nat.beq i j then some e else zS5 i r
def lkey:Code→Nat
 | .region id _ _=>100000+id
 | .seq a _=>lkey a
 | .cond _ a _=>lkey a
 | .block _ a=>lkey a
 | .loop a=>lkey a
 | _=>0
def zi6 (P:Program) (es:List (Nat × Ent)):Code→Bool
 | .region id ops true=>match zS5 id es with
  | some e=>yB5 P ops e
  | none=>false
 | .seq a b=>zi6 P es a&&zi6 P es b
 | .cond _ a b=>zi6 P es a&&zi6 P es b
 | .block _ a=>zi6 P es a
 | .loop a=>match zS5 (lkey a) es with
  | some (.lp _)=>true
  | _=>zi6 P es a
 | _=>true
noncomputable def inB (bs:List Nat) (fr:List SV) (j:Nat):Bool:=bs.any fun t=>match nth fr t with
 | some (.so (.vc (.cp i _))) | some (.so (.vc (.cs i _ _ _)))=>Nat.beq i j
 | _=>false
noncomputable def canR (bs:List Nat) (fr:List SV) (n:Nat) (j:Nat):Bool:=Nat.blt j n&&!inB bs fr j
noncomputable def xFl (P:Program) (lo hi:Nat) (call:zL9) (can:Nat→Bool) (ops:Array Oper):List (Bool × Nat)→Sg→(Sg→Rs)→Rs
 | [],s,k=>k s
 | (b,i)::r,s,k=>match nth ops.toList i with
  | none=>none
  | some o=>match yo4 ops s.fr o with
   | some true=>match b with
    | false=>xCall lo hi call o s fun v s=>xVal v s fun v s=>s.put o.dst v fun s=>xFl P lo hi call can ops r s k
    | true=>xVP P can o s fun s=>xFl P lo hi call can ops r s k
   | _=>none
noncomputable def addFl (P:Program):List (Nat × Nat × Nat)→Sg→Option Sg
 | [],s=>some s
 | (_,d,t)::r,s=>match P.info? t with
  | some i=>match zA7 i.zero with
   | some cs=>if isU32 t then none else addFl P r {s with bl:=s.bl++[(t,cs)],fr:=s.fr.set d (.so (.vc (.cp s.bl.length 0)))}
   | none=>none
  | none=>none
noncomputable def yB6 (fr:List SV) (t:Nat):Nat:=match nth fr t with
 | some (.so (.vc (.cp i _))) | some (.so (.vc (.cs i _ _ _)))=>i
 | _=>1000000
noncomputable def xOrt (P:Program) (lo hi:Nat) (call:zL9) (can:Nat→Bool) (hs:List (List Nat × Nat)) (ops:Array Oper):List (Bool × Nat)→Array Bool→Sg→(Sg→Rs)→Rs
 | [],_,s,k=>k s
 | (b,i)::r,ls,s,k=>match nth ops.toList i with
  | none=>none
  | some o=>match yo4 ops s.fr o with
   | some true=>match b with
    | false=>xOp P lo hi call (fun j=>can j||hs.any fun e=>Nat.beq e.2 j&&!e.1.contains i) o s fun s=>xOrt P lo hi call can hs ops r (ls.setIfInBounds i true) s k
    | true=>xVP P (fun j=>can j||hs.any fun e=>Nat.beq e.2 j&&zD6 ls e.1&&zu3 ops i e.1) o s fun s=>xOrt P lo hi call can hs ops r (ls.setIfInBounds i true) s k
   | some false=>s.put o.dst .su fun s=>xOrt P lo hi call can hs ops r (ls.setIfInBounds i true) s k
   | none=>none
noncomputable def xDraw (P:Program) (lo hi:Nat) (call:zL9) (ops:Array Oper) (e:Ent) (s:Sg) (k:Sg→Rs):Rs:=
 match e with
 | .ord l bs=>xOrd P lo hi call (canR bs s.fr s.bl.length) ops l s k
 | .ort l bs hs=>if (hs.map fun e=>(e.1,yB6 s.fr e.2)).all fun e=>Nat.blt e.2 s.bl.length then xOrt P lo hi call (canR bs s.fr s.bl.length) (hs.map fun e=>(e.1,yB6 s.fr e.2)) ops l (Array.replicate ops.size false) s k else none
 | .flo l fl tl bs=>xFl P lo hi call (canR bs s.fr s.bl.length) ops l s fun s'=>if Nat.beq s'.bl.length s.bl.length then (match addFl P fl s' with
  | some s2=>xOrd P lo hi call (canR bs s.fr s.bl.length) ops tl s2 k
  | none=>none) else none
 | .lp _=>none
section
variable {P:Program} {Post:SV→Prop} {B:Base} {lo hi:Nat} {call:zL9} {ops:Array Oper} {Q:Exit→Act→World→Prop}
theorem yB7 (hC:zx9 P Post B call) (hcl:∀ f,lo≤f→f<hi→okCall P f=true) {can:Nat→Bool} {s0:Sg} {X0:Env} {fin:Act→World→Prop}:∀ (l:List (Bool × Nat)) {k:Sg→Rs} {X:Env} {s:Sg} {w:World} {L:Lf},
  xFl P lo hi call can ops l s k=some L→LOK Post L→Rep B X s w→Held can s0 X0 X s→SH B can s0 X0 w→
  (∀ s' X' w' L',k s'=some L'→LOK Post L'→Rep B X' s' w'→Held can s0 X0 X' s'→SH B can s0 X0 w'→Gr w w'→s'.bl.length=s.bl.length∧(∀ i,i<s.bl.length→X'.E i=X.E i)→fin (za6 X' s'.fr) w')→
   zm1 P ops Q (SH B can s0 X0) fin l (za6 X s.fr) w
 | [],k,X,s,w,L,h,hL,hR,hH,hS,hQ=>fun w1 g ab=>hQ s X w1 L h hL (hR.to g) hH ab g ⟨rfl,fun _ _=>rfl⟩
 | (b,i)::r,k,X,s,w,L,h,hL,hR,hH,hS,hQ=>by
  unfold xFl at h
  split at h
  ·cases h
  ·rename_i o ho
   rw [zi5,Array.getElem?_toList] at ho
   split at h
   ·rename_i hw
    have hw':=zn8 hw hR.fr
    split at h
    ·intro w1 g1 ab
     unfold wpOp
     simp only [ho,hw',if_true]
     refine .inl (yk1 hC hcl h hL (hR.to g1) fun v s' X' w' L' hR' hv e1 e2 e3 hg hag hk hL'=>?_)
     obtain ⟨v2,s2,L2,aa,ae,ac,hs,hd,ad⟩:=zA8 hk hL' hR' hv
     rw [Sg.put_eq] at aa
     have hbl:s2.bl=s.bl:=hs.bl.trans e2
     have hH':Held can s0 X0 X' {s2 with fr:=putD o.dst v2 s2.fr}:=fun i hi=>by
      obtain ⟨a1,a2,a3⟩:=hH i hi
      exact ⟨by simpa [hbl] using a1,by simpa [hbl] using a2,(hag.E i a1).symm.trans a3⟩
     refine ⟨hg,ab.gr hg,?_⟩
     rw [← hd,zk8,← hs.fr]
     refine yB7 hC hcl r aa ae (ac.putD o.dst ad) hH' (ab.gr hg) fun s3 X3 w3 L3 a b c d e f g=>?_
     refine hQ s3 X3 w3 L3 a b c d e (g1.trans (hg.trans f)) ⟨g.1.trans (by simp [hbl]),fun i hi=>(g.2 i (by simpa [hbl] using hi)).trans (hag.E i hi).symm⟩
    ·unfold xVP at h
     split at h
     ·rename_i v hv
      have hp:=fun V (hV:SH B can s0 X0 V)=>zx8 (V:=V) hv hR.fr hR.bl (hH.load hR hS hV) (hV.kx hR)
      obtain ⟨v2,s2,L2,aa,ae,ac,hs,hd,ad⟩:=zA8 h hL hR (hp w hS).2
      rw [Sg.put_eq] at aa
      refine yu6 o.dst (v.den X) ho rfl hw' (fun V hV=>(hp V hV).1) ?_
      rw [← hd,zk8,← hs.fr]
      refine yB7 hC hcl r aa ae (ac.putD o.dst ad) (fun i hi=>by have:=hH i hi;rw [← hs.bl] at this;exact this) hS fun s3 X3 w3 L3 a b c d e f g=>?_
      exact hQ s3 X3 w3 L3 a b c d e f ⟨g.1.trans (by simp [hs.bl]),fun i hi=>g.2 i (by simpa [hs.bl] using hi)⟩
     ·cases h
   ·cases h
theorem zeroA_of {t:Nat} {i:TypeInfo} {cs:List Cl} (hi:P.info? t=some i) (hz:zA7 i.zero=some cs) (n:Nn) (X:Env) (w:World):
  yB3 P t=dnL X cs∧okL n X w cs∧∃ z,i.zero=some z∧z.cells=dnL X cs:=by
 cases hzz:i.zero with
 | none=>rw [hzz] at hz;cases hz
 | some z=>
  rw [hzz] at hz
  have hc:=zx5 (l:=z.cells.toList) hz n X w
  have:z.cells=dnL X cs:=by unfold dnL;rw [hc.1]
  exact ⟨by unfold yB3;rw [hi];simp only [hzz];exact this,hc.2,z,rfl,this⟩
theorem yk2 {ps:Nat→Nat} {N:Nat}:∀ {fl:List (Nat × Nat × Nat)} {X:Env} {s s':Sg} {w:World},addFl P fl s=some s'→Rep B X s w→N≤s.bl.length→
  (∀ f ∈ fl.map (yB4 P),w.heap[ps f.op]?=some (.cells f.zero f.ty)∧B.w.heap.size≤ps f.op∧(∀ i,i<s.bl.length→X.E i≠ps f.op)∧∀ x ∈ B.ks,ps f.op≠x.1)→((fl.map (yB4 P)).map fun f=>ps f.op).Nodup→
  ∃ X',Rep B X' s' w∧(fl.map (yB4 P)).foldl (zt5 ps) (za6 X s.fr)=za6 X' s'.fr∧s.bl.length≤s'.bl.length∧(∀ i,i<N→X'.E i=X.E i)∧(∀ (i:Nat),i<N→s'.bl[i]?=s.bl[i]?)
 | [],X,s,s',w,h,hR,_,_,_=>by cases h;exact ⟨X,hR,rfl,Nat.le_refl _,fun _ _=>rfl,fun _ _=>rfl⟩
 | (o,d,t)::r,X,s,s',w,h,hR,hN,hf,hn=>by
  unfold addFl at h
  split at h
  ·rename_i i hi
   split at h
   ·rename_i cs hz
    split at h
    ·cases h
    ·rename_i hu
     have ht:t≠161:=fun e=>hu (by subst e;rfl)
     obtain ⟨h1,h2,_⟩:=zeroA_of hi hz s.nn X w
     obtain ⟨f1,f2,f3,f4⟩:=hf (yB4 P (o,d,t)) (by simp)
     have aa:Lc w (ps o) (dnL X cs) t:=by rw [← h1];exact f1
     obtain ⟨g1,g2⟩:=hR.add h2 ht (Gr.refl w) aa f2 f3 f4
     have hp:(SV.so (.vc (.cp s.bl.length 0))).ok (s.grow t cs).nn (X.push s.bl.length (ps o)) w:=⟨zp7 (by simp [Sg.nn,Sg.grow]),trivial⟩
     simp only [List.map_cons,List.nodup_cons] at hn
     have hlen:(s.grow t cs).bl.length=s.bl.length+1:=by simp [Sg.grow]
     obtain ⟨X',e1,e2,e3,e4,e5⟩:=yk2 (N:=N) h (g1.set (d:=d) hp) (by simp;omega) (fun f hf'=>by
      obtain ⟨a1,a2,a3,a4⟩:=hf f (by simp only [List.map_cons];exact List.mem_cons_of_mem _ hf')
      refine ⟨a1,a2,fun j hj=>?_,a4⟩
      simp only [List.length_append,List.length_cons,List.length_nil] at hj
      rcases Nat.lt_or_ge j s.bl.length with hj' | hj'
      ·rw [← g2.E j hj'];exact a3 j hj'
      ·obtain rfl:j=s.bl.length:=by omega
       simp only [Env.push,if_true]
       exact fun e=>hn.1 (by rw [show ps (yB4 P (o,d,t)).op=ps o from rfl,e];exact List.mem_map.2 ⟨f,hf',rfl⟩)) hn.2
     refine ⟨X',e1,?_,?_,fun i hi=>(e4 i hi).trans (g2.E i (Nat.lt_of_lt_of_le hi hN)).symm,fun i hi=>(e5 i hi).trans ?_⟩
     ·rw [List.map_cons,List.foldl_cons,← e2]
      congr 1
      show (za6 X s.fr).put (some d) (.pointer (some ⟨ps o,0,none⟩))=_
      rw [zn7 g2 hR.fr,← yd7]
      simp [SV.den,TV.den,Cl.den,Env.push]
     ·simp at e3;omega
     ·simp only
      rw [List.getElem?_append_left (Nat.lt_of_lt_of_le hi hN)]
   ·cases h
  ·cases h
def PH (s0:Sg) (X0:Env) (j:Nat) (w:World):Prop:=∀ t cs,s0.bl[j]?=some (t,cs)→Lc w (X0.E j) (dnL X0 cs) t
def yB8 (ls:Array Bool) (hs:List (List Nat × Nat)) (s0:Sg) (X0 X:Env) (s:Sg) (w:World):Prop:=∀ e ∈ hs,zD6 ls e.1=true→e.2<s.bl.length∧s.bl[e.2]?=s0.bl[e.2]?∧X.E e.2=X0.E e.2∧PH s0 X0 e.2 w
def HSof (hs:List (List Nat × Nat)) (s0:Sg) (X0:Env):List (List Nat × (World→Prop)):=hs.map fun e=>(e.1,PH s0 X0 e.2)
theorem zj5 {f:List Nat→Bool} {s0:Sg} {X0:Env} {w:World}:∀ {hs:List (List Nat × Nat)},zf5 f (HSof hs s0 X0) w↔∀ e ∈ hs,f e.1=true→PH s0 X0 e.2 w
 | []=>⟨fun _ _ h=>(by cases h),fun _=>trivial⟩
 | e::hs=>by
  have ih:=zj5 (f:=f) (s0:=s0) (X0:=X0) (w:=w) (hs:=hs)
  constructor
  ·intro h x hx hf
   rcases List.mem_cons.1 hx with rfl | hx
   ·exact h.1 hf
   ·exact ih.1 h.2 x hx hf
  ·exact fun h=>⟨h e (by simp),ih.2 fun x hx=>h x (by simp [hx])⟩
theorem zS6 {ls:Array Bool} {i:Nat} {TL:List Nat} (h:zD6 (ls.setIfInBounds i true) TL=true):i ∉ TL∧zD6 ls TL=true:=by
 have hn:i ∉ TL:=fun hi=>by
  have:=List.all_eq_true.1 h i hi
  simp only [Bool.not_eq_true'] at this
  rcases Nat.lt_or_ge i ls.size with h' | h'
  ·simp [h'] at this
  ·rw [show (ls.setIfInBounds i true).getD i true=true by simp [Array.getD]] at this;cases this
 exact ⟨hn,by rw [← zI0 hn];exact h⟩
theorem load2 {s0 s:Sg} {X0 X:Env} {w V:World} {j:Nat} (hR:Rep B X s w) (h:j<s.bl.length∧s.bl[j]?=s0.bl[j]?∧X.E j=X0.E j) (hw:PH s0 X0 j w) (hV:PH s0 X0 j V):∀ t cs,s.bl[j]?=some (t,cs)→Lc V (X.E j) (dnL X cs) t:=fun t cs hx=>by
 obtain ⟨h1,h2,h3⟩:=h
 rw [h2] at hx
 have a:=hw t cs hx
 have b:=hV t cs hx
 have c:=(hR.lc j t cs (h2.trans hx)).1
 rw [h3] at c ⊢
 unfold Lc at a b c ⊢
 rw [a] at c
 simp only [Option.some.injEq,Obj.cells.injEq] at c
 rw [b,c.1]
theorem zK2 (hC:zx9 P Post B call) (hcl:∀ f,lo≤f→f<hi→okCall P f=true) {can:Nat→Bool} {hs:List (List Nat × Nat)} {s0:Sg} {X0:Env}:∀ (l:List (Bool × Nat)) {ls:Array Bool} {k:Sg→Rs} {X:Env} {s:Sg} {w:World} {L:Lf},
  xOrt P lo hi call can hs ops l ls s k=some L→LOK Post L→Rep B X s w→Held can s0 X0 X s→SH B can s0 X0 w→yB8 ls hs s0 X0 X s w→
  (∀ s' X' w' L',k s'=some L'→LOK Post L'→Rep B X' s' w'→Q .normal (za6 X' s'.fr) w')→zi9 P ops Q (SH B can s0 X0) (HSof hs s0 X0) l ls (za6 X s.fr) w
 | [],_,k,X,s,w,L,h,hL,hR,_,_,_,hQ=>hQ s X w L h hL hR
 | (b,i)::r,ls,k,X,s,w,L,h,hL,hR,hH,hS,hT,hQ=>by
  unfold xOrt at h
  have unset:∀ {X:Env} {s:Sg},yB8 ls hs s0 X0 X s w→yB8 (ls.setIfInBounds i true) hs s0 X0 X s w:=fun h e he hf=>h e he (zS6 hf).2
  split at h
  ·cases h
  ·rename_i o ho
   rw [zi5,Array.getElem?_toList] at ho
   split at h
   ·rename_i hw
    have hw':=zn8 hw hR.fr
    split at h
    ·refine te ?_ ho hw'
     refine yB2 hC hcl h hL hR fun s' X' w' L' hR' hst hk hL'=>?_
     have hc:∀ {j},can j=true→(can j||hs.any fun e=>Nat.beq e.2 j&&!e.1.contains i)=true:=fun h=>by rw [h];rfl
     have hst':Step can X s w X' s' w':=⟨hst.ag,fun b cs t hb=>hst.st b cs t fun j hj hr=>hb j hj (by
      simp only [Bool.or_eq_false_iff] at hr;exact hr.1),hst.le,fun j hj hr=>hst.keep j hj (hc hr)⟩
     obtain ⟨h1,h2⟩:=hH.step hR hst' hS hR'
     have h3:yB8 (ls.setIfInBounds i true) hs s0 X0 X' s' w':=fun e he hf=>by
      obtain ⟨f1,f2⟩:=zS6 hf
      obtain ⟨a1,a2,a3,a4⟩:=hT e he f2
      have hro:(can e.2||hs.any fun e'=>Nat.beq e'.2 e.2&&!e'.1.contains i)=true:=by
       rw [Bool.or_eq_true]
       refine .inr (List.any_eq_true.2 ⟨e,he,?_⟩)
       simp [f1]
      refine ⟨Nat.lt_of_lt_of_le a1 hst.le,(hst.keep e.2 a1 hro).trans a2,(hst.ag e.2 a1).symm.trans a3,fun t cs hx=>?_⟩
      refine hst.st _ _ _ (fun j hj hc' eq=>?_) (a4 t cs hx)
      rw [← a3] at eq
      have:=hR.inj e.2 j a1 hj eq
      subst this
      rw [hro] at hc';cases hc'
     exact ⟨h2,zj5.2 fun e he hf=>(h3 e he hf).2.2.2,zK2 hC hcl r hk hL' hR' h1 h2 h3 hQ⟩
    ·unfold xVP at h
     split at h
     ·rename_i v hv
      have hp:=fun V (hV:SH B can s0 X0 V∧zf5 (zu3 ops i) (HSof hs s0 X0) V)=>zx8 (V:=V) hv hR.fr hR.bl (fun j t cs hj hx=>by
       rw [Bool.or_eq_true] at hj
       rcases hj with hj | hj
       ·exact hH.load hR hS hV.1 j t cs hj hx
       ·obtain ⟨e,he,hh⟩:=List.any_eq_true.1 hj
        simp only [Bool.and_eq_true,Nat.beq_eq] at hh
        obtain ⟨⟨rfl,f1⟩,f2⟩:=hh
        obtain ⟨a1,a2,a3,a4⟩:=hT e he f1
        exact load2 hR ⟨a1,a2,a3⟩ a4 (zj5.1 hV.2 e he f2) t cs hx) (hV.1.kx hR)
      have hok:v.ok s.nn X w:=(zx8 (V:=w) hv hR.fr hR.bl (fun j t cs _ hx=>(hR.lc j t cs hx).1) hR.kx).2
      obtain ⟨v2,s2,L2,ab,ae,ac,aa,hd,ad⟩:=zA8 h hL hR hok
      rw [Sg.put_eq] at ab
      refine yi2 o.dst (v.den X) ho rfl hw' (fun V hV=>(hp V hV).1) ?_
      rw [← hd,zk8,← aa.fr]
      exact zK2 hC hcl r ab ae (ac.putD o.dst ad) (fun i hi=>by have:=hH i hi;rw [← aa.bl] at this;exact this) hS (unset fun e he hf=>by have:=hT e he hf;rw [← aa.bl] at this;exact this) hQ
     ·cases h
   ·rename_i hw
    rw [Sg.put_eq] at h
    have hw':=zn8 hw hR.fr
    cases b with
    | true=>
     refine yi3 o.dst ho rfl hw' ?_
     rw [zr9]
     exact zK2 hC hcl r h hL (hR.putD o.dst (v:=.su) trivial) hH hS (unset hT) hQ
    | false=>
     refine yb8 o.dst ho rfl hw' hS (zj5.2 fun e he hf=>(hT e he (zS6 hf).2).2.2.2) ?_
     rw [zr9]
     exact zK2 hC hcl r h hL (hR.putD o.dst (v:=.su) trivial) hH hS (unset hT) hQ
   ·cases h
theorem xDraw_ok (hC:zx9 P Post B call) (hcl:∀ f,lo≤f→f<hi→okCall P f=true) (hm:P.follows .mixedOrders=true) {e:Ent} {id:Nat} (he:yB5 P ops e=true) {k:Sg→Rs} {X:Env} {s:Sg} {w:World} {L:Lf}
  (hp:∀ c (a a':Act) w,Q (.panic c) a w→Q (.panic c) a' w) (h:xDraw P lo hi call ops e s k=some L) (hL:LOK Post L) (hR:Rep B X s w)
  (hQ:∀ s' X' w' L',k s'=some L'→LOK Post L'→Rep B X' s' w'→Q .normal (za6 X' s'.fr) w'):(Code.region id ops true).wp P Q (za6 X s.fr) w:=by
 have hR':=hR.to (Gr.drew w)
 have hH:∀ bs,Held (canR bs s.fr s.bl.length) s X X s:=fun bs i hi=>by
  unfold canR at hi
  simp only [Bool.and_eq_true] at hi
  exact ⟨ze6 hi.1,rfl,rfl⟩
 have hS:∀ bs,SH B (canR bs s.fr s.bl.length) s X w.drew:=fun bs=>⟨hR'.kb,fun i t cs _ hx=>(hR'.lc i t cs hx).1⟩
 unfold xDraw at h
 split at h
 ·rename_i l bs
  simp only [yB5,Bool.and_eq_true,Nat.ble_eq] at he
  exact za2 (SH B (canR bs s.fr s.bl.length) s X) l hm he.1.1 he.1.2 he.2 (fun c a d v w=>hp c _ _ w) (hS bs) (zA9 hC hcl l h hL hR' (hH bs) (hS bs) hQ)
 ·rename_i l bs hs
  simp only [yB5,Bool.and_eq_true,Nat.ble_eq] at he
  split at h
  ·rename_i hall
   rw [List.all_eq_true] at hall
   have hlc:∀ (i:Nat) t cs,s.bl[i]?=some (t,cs)→Lc w.drew (X.E i) (dnL X cs) t:=fun i t cs hx=>(hR'.lc i t cs hx).1
   have hT:yB8 (Array.replicate ops.size false) (hs.map fun e=>(e.1,yB6 s.fr e.2)) s X X s w.drew:=fun e he _=>⟨ze6 (hall e he),rfl,rfl,fun t cs hx=>hlc _ t cs hx⟩
   have hfst:(HSof (hs.map fun e=>(e.1,yB6 s.fr e.2)) s X).map (·.1)=hs.map (·.1):=by simp [HSof,List.map_map,Function.comp_def]
   refine ze2 (SH B (canR bs s.fr s.bl.length) s X) (HSof (hs.map fun e=>(e.1,yB6 s.fr e.2)) s X) l hm he.1.1 (by rw [hfst];exact he.1.2) he.2 (fun c a d v w=>hp c _ _ w) (hS bs) (zj5.2 fun e he _=>fun t cs hx=>hlc _ t cs hx) (zK2 hC hcl l h hL hR' (hH bs) (hS bs) hT hQ)
  ·cases h
 ·rename_i l fl tl bs
  simp only [yB5,Bool.and_eq_true,Nat.ble_eq] at he
  obtain ⟨⟨⟨⟨⟨c1,c0⟩,c2⟩,c3⟩,c4⟩,c5⟩:=he
  have hz:∀ f ∈ fl.map (yB4 P),∀ w,(Instr.alloc f.ty true (.tuple #[])).run P w=.ok (.pointer (some ⟨w.heap.size,0,none⟩)) (w.alloc (.cells f.zero f.ty)):=fun f hf w=>by
   obtain ⟨x,hx,rfl⟩:=List.mem_map.1 hf
   exact okZ_ok (List.all_eq_true.1 c0 x hx) w
  refine zv8 (SH B (canR bs s.fr s.bl.length) s X) l (fl.map (yB4 P)) tl hm c1 c2 c3 c4 c5 (fun c a d v w=>hp c _ _ w) (fun c a d v w=>hp c _ _ w) (fun w' o h'=>h'.gr (Gr.alloc w' o)) (hS bs) hz ?_
  refine yB7 hC hcl l h hL hR' (hH bs) (hS bs) fun s' X' w' L' hk hL' ac ab aa hg hl=>?_
  split at hk
  ·split at hk
   ·rename_i s2 ha
    intro ps hps hnd
    have hsz:∀ i,i<s'.bl.length→X'.E i<w.heap.size:=fun i hi=>by
     rw [hl.2 i (hl.1 ▸ hi)]
     exact hR.lt (hl.1 ▸ hi)
    obtain ⟨X3,e1,e2,e3,e4,e5⟩:=yk2 (ps:=ps) (N:=s'.bl.length) ha ac (Nat.le_refl _) (fun f hf=>⟨(hps f hf).1,Nat.le_trans hR.gr.size (hps f hf).2,fun i hi=>by have:=hsz i hi;have:=(hps f hf).2;omega,fun x hx=>by have:=zg0 (hR.ks x hx).1;have:=(hps f hf).2;omega⟩) hnd
    rw [e2]
    refine zA9 hC hcl tl hk hL' e1 (fun i hi=>?_) aa hQ
    obtain ⟨a1,a2,a3⟩:=ab i hi
    exact ⟨Nat.lt_of_lt_of_le a1 e3,(e5 i a1).trans a2,(e4 i a1).trans a3⟩
   ·cases hk
  ·cases hk
 ·cases h
end
def Ex.to:Ex→Exit
 | .n=>.normal
 | .x id=>.exit id
 | .r=>.ret
def xLoop (body:Sg→KT→Rs):Nat→Sg→KT→Rs
 | 0,_,_=>none
 | m+1,s,k=>body s fun e s=>match e with
  | .n=>xLoop body m s k
  | e=>k e s
noncomputable def zt7 (P:Program) (lo hi:Nat) (call:zL9) (es:List (Nat × Ent)):Code→Sg→KT→Rs
 | .skip,s,k=>k .n s
 | .region id ops true,s,k=>match zS5 id es with
  | some e=>xDraw P lo hi call ops e s (k .n)
  | none=>none
 | .region _ ops false,s,k=>zO7 P lo hi call ops (List.range ops.size) s (k .n)
 | .seq a b,s,k=>zt7 P lo hi call es a s fun e s=>match e with
  | .n=>zt7 P lo hi call es b s k
  | e=>k e s
 | .cond c a b,s,k=>match ev s.fr c with
  | some (.so (.vc (.cb _ (some true))))=>zt7 P lo hi call es a s k
  | some (.so (.vc (.cb _ (some false))))=>zt7 P lo hi call es b s k
  | some (.so (.vc (.cb t none)))=>zY1 t s fun v s=>match v with
   | true=>zt7 P lo hi call es a s k
   | false=>zt7 P lo hi call es b s k
  | _=>none
 | .block id a,s,k=>zt7 P lo hi call es a s fun e s=>match e with
  | .x j=>if Nat.beq j id then k .n s else k e s
  | e=>k e s
 | .loop a,s,k=>match zS5 (lkey a) es with
  | some (.lp t)=>t s k
  | _=>xLoop (fun s k=>zt7 P lo hi call es a s k) 100 s k
 | .exit id,s,k=>k (.x id) s
 | .ret,s,k=>k .r s
 | _,_,_=>none
section
variable {P:Program} {Post:SV→Prop} {B:Base} {lo hi:Nat} {call:zL9} {es:List (Nat × Ent)}
def KOK (Post:SV→Prop) (B:Base) (k:KT) (Q:Exit→Act→World→Prop):Prop:=∀ e s X w L,k e s=some L→LOK Post L→Rep B X s w→Q e.to (za6 X s.fr) w
def PQ (Q:Exit→Act→World→Prop):Prop:=∀ c (a a':Act) w,Q (.panic c) a w→Q (.panic c) a' w
theorem PQ.then {Q:Exit→Act→World→Prop} (h:PQ Q) (K:Act→World→Prop):PQ (Exit.then K Q):=h
theorem PQ.inBlock {Q:Exit→Act→World→Prop} (h:PQ Q) (id:Nat):PQ (Exit.inBlock id Q):=h
def LpOK (P:Program) (t:Sg→KT→Rs) (a:Code):Prop:=∀ (Post:SV→Prop) (B:Base) (Q:Exit→Act→World→Prop) (k:KT) (X:Env) (s:Sg) (w:World) (L:Lf),PQ Q→KOK Post B k Q→t s k=some L→LOK Post L→Rep B X s w→(Code.loop a).wp P Q (za6 X s.fr) w
def codeLP (P:Program) (es:List (Nat × Ent)):Code→Prop
 | .seq a b=>codeLP P es a∧codeLP P es b
 | .cond _ a b=>codeLP P es a∧codeLP P es b
 | .block _ a=>codeLP P es a
 | .loop a=>match zS5 (lkey a) es with
  | some (.lp t)=>LpOK P t a
  | _=>codeLP P es a
 | _=>True
def noLp (es:List (Nat × Ent)):Bool:=es.all fun x=>match x.2 with
 | .lp _=>false
 | _=>true
theorem zO8:∀ {es:List (Nat × Ent)} {i:Nat} {t:Sg→KT→Rs},noLp es=true→zS5 i es≠some (.lp t)
 | [],_,_,_=>fun h=>by cases h
 | (j,e)::r,i,t,hn=>by
  unfold noLp at hn
  rw [List.all_cons,Bool.and_eq_true] at hn
  unfold zS5
  split
  ·intro h;cases h;have:=hn.1;cases this
  ·exact zO8 (es:=r) hn.2
theorem zY3 {P:Program} {es:List (Nat × Ent)} (h:noLp es=true):∀ c,codeLP P es c:=by
 intro c
 induction c with
 | seq a b iha ihb=>exact ⟨iha,ihb⟩
 | cond c a b iha ihb=>exact ⟨iha,ihb⟩
 | block id a iha=>exact iha
 | loop a iha=>
  unfold codeLP
  split
  ·rename_i t ht;exact absurd ht (zO8 h)
  ·exact iha
 | _=>trivial
def ye3 (n:Nat):Code→Option Code
 | .loop a=>if Nat.beq (lkey a) n then some a else ye3 n a
 | .seq a b=>match ye3 n a with
  | some c=>some c
  | none=>ye3 n b
 | .cond _ a b=>match ye3 n a with
  | some c=>some c
  | none=>ye3 n b
 | .block _ a=>ye3 n a
 | _=>none
theorem yk3 {c:Code} {body:Sg→KT→Rs} (hb:∀ (Q:Exit→Act→World→Prop) (k:KT) X s w L,PQ Q→KOK Post B k Q→body s k=some L→LOK Post L→Rep B X s w→c.wp P Q (za6 X s.fr) w):
  ∀ (m:Nat) {Q:Exit→Act→World→Prop} {k:KT} {X:Env} {s:Sg} {w:World} {L:Lf},PQ Q→KOK Post B k Q→xLoop body m s k=some L→LOK Post L→Rep B X s w→Code.rounds P c Q m (za6 X s.fr) w
 | 0,_,_,_,_,_,_,_,_,h,_,_=>by cases h
 | m+1,Q,k,X,s,w,L,hp,hk,h,hL,hR=>by
  rw [rounds_succ]
  refine hb _ _ X s w L (hp.then _) (fun e s' X' w' L' h' hL' hR'=>?_) h hL hR
  cases e with
  | n=>exact yk3 hb m hp hk h' hL' hR'
  | x id=>exact hk _ _ _ _ _ h' hL' hR'
  | r=>exact hk _ _ _ _ _ h' hL' hR'
theorem yk4 (hC:zx9 P Post B call) (hcl:∀ f,lo≤f→f<hi→okCall P f=true) (hm:P.follows .mixedOrders=true):∀ (c:Code) {Q:Exit→Act→World→Prop} {k:KT} {X:Env} {s:Sg} {w:World} {L:Lf},zi6 P es c=true→codeLP P es c→PQ Q→KOK Post B k Q→
  zt7 P lo hi call es c s k=some L→LOK Post L→Rep B X s w→c.wp P Q (za6 X s.fr) w:=by
 intro c
 induction c with
 | skip=>intro Q k X s w L _ _ _ hk h hL hR;exact wp_skip (hk .n s X w L h hL hR)
 | region id ops draw=>
  intro Q k X s w L hc _ hp hk h hL hR
  cases draw with
  | true=>
   simp only [zt7] at h
   simp only [zi6] at hc
   split at h
   ·rename_i e he
    rw [he] at hc
    exact xDraw_ok hC hcl hm hc (fun c a a' w=>hp c a a' w) h hL hR (fun s' X' w' L'=>hk .n s' X' w' L')
   ·cases h
  | false=>exact wp_region (zy0 hC hcl _ h hL hR (fun s' X' w' L'=>hk .n s' X' w' L'))
 | seq a b iha ihb=>
  intro Q k X s w L hc hlp hp hk h hL hR
  simp only [zi6,Bool.and_eq_true] at hc
  refine wp_seq (iha hc.1 hlp.1 (hp.then _) (fun e s' X' w' L' h' hL' hR'=>?_) h hL hR)
  cases e with
  | n=>exact ihb hc.2 hlp.2 hp hk h' hL' hR'
  | x id=>exact hk _ _ _ _ _ h' hL' hR'
  | r=>exact hk _ _ _ _ _ h' hL' hR'
 | cond c a b iha ihb=>
  intro Q k X s w L hc hlp hp hk h hL hR
  simp only [zi6,Bool.and_eq_true] at hc
  simp only [zt7] at h
  split at h
  ·rename_i t hv
   have he:=zc6 hv hR.fr
   have:(za6 X s.fr).eval c=.bool true:=by rw [he.1];exact congrArg Value.bool (he.2.2 true rfl)
   exact wp_cond_true this (iha hc.1 hlp.1 hp hk h hL hR)
  ·rename_i t hv
   have he:=zc6 hv hR.fr
   have:(za6 X s.fr).eval c=.bool false:=by rw [he.1];exact congrArg Value.bool (he.2.2 false rfl)
   exact wp_cond_false this (ihb hc.2 hlp.2 hp hk h hL hR)
  ·rename_i t hv
   have he:=zc6 hv hR.fr
   obtain ⟨v,d,L',ht,hk',hL'⟩:=zK1 h hL
   have hR':=hR.ds d
   cases v with
   | true=>exact wp_cond_true (by rw [he.1];exact congrArg Value.bool ht) (iha (s:={s with ds:=d}) hc.1 hlp.1 hp hk hk' hL' hR')
   | false=>exact wp_cond_false (by rw [he.1];exact congrArg Value.bool ht) (ihb (s:={s with ds:=d}) hc.2 hlp.2 hp hk hk' hL' hR')
  ·cases h
 | block id a iha=>
  intro Q k X s w L hc hlp hp hk h hL hR
  refine wp_block (iha hc hlp (hp.inBlock id) (fun e s' X' w' L' h' hL' hR'=>?_) h hL hR)
  cases e with
  | n=>exact hk _ _ _ _ _ h' hL' hR'
  | x j=>
   simp only at h'
   show (if j=id then Q .normal (za6 X' s'.fr) w' else Q (.exit j) (za6 X' s'.fr) w')
   split at h'
   ·rename_i e
    have e:j=id:=by simpa using e
    rw [if_pos e]
    exact hk _ _ _ _ _ h' hL' hR'
   ·rename_i e
    have e:¬ j=id:=by simpa using e
    rw [if_neg e]
    exact hk _ _ _ _ _ h' hL' hR'
  | r=>exact hk _ _ _ _ _ h' hL' hR'
 | loop a iha=>
  intro Q k X s w L hc hlp hp hk h hL hR
  simp only [zt7] at h
  unfold codeLP at hlp
  unfold zi6 at hc
  split at h
  ·rename_i t ht
   rw [ht] at hlp
   exact hlp Post B Q k X s w L hp hk h hL hR
  ·rename_i hne
   have e:codeLP P es a∧zi6 P es a=true:=by
    cases ho:zS5 (lkey a) es with
    | none=>rw [ho] at hlp hc;exact ⟨hlp,hc⟩
    | some e=>
     rw [ho] at hlp hc
     cases e with
     | lp t=>exact absurd ho (hne t)
     | _=>exact ⟨hlp,hc⟩
   exact wp_loop_rounds 100 (yk3 (fun Q k X s w L hp hk h hL hR=>iha e.2 e.1 hp hk h hL hR) 100 hp hk h hL hR)
 | exit id=>intro Q k X s w L _ _ _ hk h hL hR;exact wp_exit (hk (.x id) s X w L h hL hR)
 | ret=>intro Q k X s w L _ _ _ hk h hL hR;exact wp_ret (hk .r s X w L h hL hR)
 | _=>intro Q k X s w L _ _ _ _ h;cases h
end

noncomputable def xRes1 (P:Program) (s:Sg):ResultVar→Option SV
 | .tmp t=>nth s.fr t
 | .cell a t=>match nth s.fr a with
  | some (.so (.vc (.cp j 0)))=>match nth s.bl j with
   | some (_,cs)=>match ze5 P t with
    | some n=>if Nat.beq n cs.length then some (.so (.vg cs)) else none
    | none=>if zj3 P t then (match cs with | [c]=>some (.so (.vc c)) | _=>none) else none
   | none=>none
  | _=>none
noncomputable def yB9 (P:Program) (s:Sg):List ResultVar→Option (List TV)
 | []=>some []
 | r::l=>match xRes1 P s r,yB9 P s l with
  | some (.so v),some m=>some (v::m)
  | _,_=>none
noncomputable def xRes (P:Program) (s:Sg) (l:List ResultVar):Option SV:=match l with
 | [r]=>xRes1 P s r
 | _=>match yB9 P s l with
  | some m=>some (.st m)
  | none=>none
noncomputable def resF (tmps:Array Value):ResultVar→Sem Value
 | .tmp t=>pure (tmps.getD t undef)
 | .cell a t=>do loadVar t (← asAddr (tmps.getD a undef))
section
variable {P:Program} {B:Base} {X:Env} {s:Sg} {w:World}
theorem zY4 {t:TypeId} {b:Nat} {v:Value} {tt:TypeId} (hL:Lc w b #[v] tt) (hs:zj3 P t=true):(loadVar t ⟨b,0,none⟩).run P w=.ok v w:=by
 unfold zj3 at hs
 have hc:w.cell? ⟨b,0,none⟩=some v:=by rw [zb1 hL];rfl
 cases hd:P.underlying t with
 | none=>rw [hd] at hs;cases hs
 | some d=>
  rw [hd] at hs
  have hagg:(isAgg t).run P w=.ok false w:=by
   unfold isAgg
   rw [Sem.run_bind,run_underlying hd w]
   cases d<;>first | cases hs | rfl
  simp only [loadVar,Sem.run_bind,hagg,Result.andThen_ok]
  simp [load,Sem.run,hc]
theorem yC0 (hR:Rep B X s w) {r:ResultVar} {v:SV} (h:xRes1 P s r=some v):(resF (za6 X s.fr).tmps r).run P w=.ok (v.den X) w∧v.ok s.nn X w:=by
 unfold xRes1 at h
 split at h
 ·rename_i t
  have e:(za6 X s.fr).tmps.getD t undef=v.den X:=(zc6 (x:=.tmp t) h hR.fr).1
  exact ⟨by simp only [resF,e,Sem.run_pure],(zc6 (x:=.tmp t) h hR.fr).2⟩
 ·rename_i a t
  split at h
  ·rename_i j hj
   have e:(za6 X s.fr).tmps.getD a undef=.pointer (some ⟨X.E j,0,none⟩):=(zc6 (x:=.tmp a) hj hR.fr).1
   split at h
   ·rename_i tt cs hb
    rw [zi5] at hb
    have hL:=(hR.lc j tt cs hb).1
    split at h
    ·rename_i n hn
     split at h
     ·rename_i hl
      simp only [Nat.beq_eq] at hl
      cases h
      refine ⟨?_,hR.bl j tt cs hb⟩
      have:=zj4 (P:=P) (t:=t) hL (by rw [hn,hl];simp [dnL])
      simp only [resF,e,asAddr,Sem.run_bind,Sem.run_pure,Result.andThen_ok,this]
      rfl
     ·cases h
    ·split at h
     ·rename_i h1
      split at h
      ·rename_i c
       cases h
       refine ⟨?_,hR.bl j tt _ hb c (by simp)⟩
       have:=zY4 (P:=P) (t:=t) (v:=c.den X) (by simpa [dnL] using hL) h1
       simp only [resF,e,asAddr,Sem.run_bind,Sem.run_pure,Result.andThen_ok,this]
       rfl
      ·cases h
     ·cases h
   ·cases h
  ·cases h
theorem yC1 (hR:Rep B X s w):∀ {l:List ResultVar} {m:List TV},yB9 P s l=some m→(l.mapM (resF (za6 X s.fr).tmps)).run P w=.ok (m.map (TV.den X)) w∧∀ x ∈ m,x.ok s.nn X w
 | [],m,h=>by cases h;exact ⟨by simp,fun _ hx=>by cases hx⟩
 | r::l,m,h=>by
  unfold yB9 at h
  split at h
  ·rename_i v m' h1 h2
   cases h
   have a:=yC0 hR h1
   have b:=yC1 hR h2
   refine ⟨?_,fun x hx=>?_⟩
   ·have a1:(resF (za6 X s.fr).tmps r).run P w=.ok (v.den X) w:=a.1
    simp [List.mapM_cons,a1,b.1]
   ·rcases List.mem_cons.1 hx with rfl | hx
    ·exact a.2
    ·exact b.2 x hx
  ·cases h
theorem yo5 (fn:Func) (tmps:Array Value):results fn tmps=(do
  let vs ← fn.results.mapM (resF tmps)
  pure (if h:vs.size=1 then vs[0] else .tuple vs)):=by
 unfold results
 congr 1
theorem res_ok (hR:Rep B X s w) {fn:Func} {v:SV} (h:xRes P s fn.results.toList=some v):(results fn (za6 X s.fr).tmps).run P w=.ok (v.den X) w∧v.ok s.nn X w:=by
 rw [yo5]
 unfold xRes at h
 rw [Array.mapM_eq_mapM_toList]
 split at h
 ·rename_i r hr
  have a:=yC0 hR h
  rw [hr]
  exact ⟨by simp [List.mapM_cons,a.1],a.2⟩
 ·rename_i hne
  split at h
  ·rename_i m hm
   cases h
   have b:=yC1 hR hm
   have hl:m.length=fn.results.toList.length:=by
    clear hne b
    revert m
    induction fn.results.toList with
    | nil=>intro m hm;cases hm;rfl
    | cons r l ih=>
     intro m hm
     unfold yB9 at hm
     split at hm
     ·rename_i v m' h1 h2
      cases hm
      simp [ih _ h2]
     ·cases hm
   have h1:¬ m.length=1:=by
    rw [hl]
    intro e
    obtain ⟨r,hr⟩:=List.length_eq_one_iff.1 e
    exact hne r hr
   exact ⟨by simp [b.1,h1,SV.den],b.2⟩
  ·cases h
end
inductive Tr where
 | leaf (v:SV) (dr dz:Nat)
 | br (t:Bool) (a b:Tr)
 | as (t:Bool) (a:Tr)
def Tr.holds (n:Nn) (X:Env) (w:World) (e:Ending) (w':World):Tr→Prop
 | .leaf v dr dz=>∃ X',e=.returned (v.den X')∧Gr w w'∧Agr n X X'∧v.ok ⟨n.b,n.r+dr,n.z+dz⟩ X' w'
 | .br t a b=>(t=true→a.holds n X w e w')∧(t=false→b.holds n X w e w')
 | .as _ a=>a.holds n X w e w'
def Tr.pre:Tr→Prop
 | .as t a=>t=true∧a.pre
 | _=>True
abbrev ConT:=List SV→Nat→Nat→Option Tr
def ConOK (P:Program) (I:World→Prop) (f:Nat) (c:ConT):Prop:=∀ (args:List SV) (X:Env) (n:Nn) (w:World) (T:Tr),I w→okF n X w args→c args n.r n.z=some T→T.pre→
 Calls P f (args.map (SV.den X)).toArray w fun e w'=>T.holds n X w e w'
def xTr:Tr→Sg→(SV→Sg→Rs)→Rs
 | .leaf v dr dz,s,k=>match s with
  | ⟨fr,bl,nu,nr,nz,ds⟩=>k v ⟨fr,bl,nu,nr+dr,nz+dz,ds⟩
 | .br t a b,s,k=>zY1 t s fun u s=>match u with
  | true=>xTr a s k
  | false=>xTr b s k
 | .as t a,s,k=>asL t true (xTr a s k)
def yC2 {α:Type}:Nat→List (Nat × α)→Option α
 | _,[]=>none
 | i,(j,e)::r=>if Nat.beq i j then some e else yC2 i r
structure Sys where
 P:Program
 lo:Nat
 hi:Nat
 tab:List (Nat × List (Nat × Ent))
 con:List (Nat × ConT)
 I:World→Prop
def TV.lt (n:Nn):TV→Bool
 | .vc c=>c.lt n
 | .vg l=>l.all fun c=>c.lt n
def SV.lt (n:Nn):SV→Bool
 | .so x=>x.lt n
 | .st l=>l.all fun x=>x.lt n
 | .su=>true
 | .sj j _=>Nat.blt j n.z
 | .fs _ _ _ xs=>xs.all fun l=>l.all fun c=>c.lt n
 | .fa _ _ l=>l.all fun c=>c.lt n
def zK3:Nat→List SV
 | 0=>[]
 | n+1=>.su::zK3 n
noncomputable def xFun (Y:Sys):Nat→zL9
 | 0,_,_,_,_=>none
 | m+1,f,args,s,k=>match yC2 f Y.con with
  | some c=>match c args s.nr s.nz with
   | some T=>xTr T s k
   | none=>none
  | none=>match yC2 f Y.tab,Y.P.funcs[f]? with
   | some es,some fn=>match fn.body with
    | some c=>match s with
     | ⟨fr,bl,nu,nr,nz,ds⟩=>appF args (zK3 (fn.ntmps - args.length)) fun fr'=>zt7 Y.P Y.lo Y.hi (xFun Y m) es c ⟨fr',bl,bl.length,nr,nz,ds⟩ fun e s'=>match e with
      | .x _=>none
      | _=>match xRes Y.P s' fn.results.toList with
       | some v=>if v.lt ⟨bl.length,s'.nr,s'.nz⟩ then k v ⟨fr,bl,nu,s'.nr,s'.nz,s'.ds⟩ else none
       | none=>none
    | none=>none
   | _,_=>none
def okTab (P:Program) (x:Nat × List (Nat × Ent)):Bool:=match P.funcs[x.1]? with
 | some fn=>match fn.body with
  | some c=>zi6 P x.2 c
  | none=>true
 | none=>true
structure Sys.OK (Y:Sys):Prop where
 mixed:Y.P.follows .mixedOrders=true
 calls:∀ f,Y.lo≤f→f<Y.hi→okCall Y.P f=true
 tab:∀ x ∈ Y.tab,okTab Y.P x=true
 lps:∀ x ∈ Y.tab,∀ (fn:Func) (c:Code),Y.P.funcs[x.1]?=some fn→fn.body=some c→codeLP Y.P x.2 c
 con:∀ x ∈ Y.con,ConOK Y.P Y.I x.1 x.2
 inv:∀ w w',Y.I w→Gr w w'→Y.I w'
theorem zy1 {P:Program} {tab:List (Nat × List (Nat × Ent))} (h:tab.all (fun x=>noLp x.2)=true):∀ x ∈ tab,∀ (fn:Func) (c:Code),P.funcs[x.1]?=some fn→fn.body=some c→codeLP P x.2 c:=
 fun x hx _ c _ _=>zY3 (List.all_eq_true.1 h x hx) c
theorem zy2 {α:Type} {f:Nat} {e:α}:∀ {l:List (Nat × α)},yC2 f l=some e→(f,e) ∈ l
 | [],h=>by cases h
 | (j,x)::r,h=>by
  unfold yC2 at h
  split at h
  ·rename_i hj
   simp only [Nat.beq_eq] at hj
   cases h;subst hj;simp
  ·exact List.mem_cons_of_mem _ (zy2 h)
section
variable {Post:SV→Prop} {B:Base} {X:Env} {s:Sg} {w:World}
theorem TV.ok_of {n m:Nn} {x:TV} (h:x.ok m X w) (hl:x.lt n=true):x.ok n X w:=by
 cases x with
 | vc c=>exact ⟨hl,h.2⟩
 | vg l=>exact fun c hc=>⟨List.all_eq_true.1 hl c hc,(h c hc).2⟩
theorem AtK.of {n m:Nn} {v:Value} {j:Nat} {cs:List Cl} (h:AtK m X w v j cs) (hl:(cs.all fun c=>c.lt n)=true):AtK n X w v j cs:=⟨fun c hc=>⟨List.all_eq_true.1 hl c hc,(h.1 c hc).2⟩,h.2⟩
theorem SV.ok_of {n m:Nn} {v:SV} (h:v.ok m X w) (hl:v.lt n=true):v.ok n X w:=by
 cases v with
 | so x=>exact TV.ok_of h hl
 | st l=>exact fun x hx=>TV.ok_of (h x hx) (List.all_eq_true.1 hl x hx)
 | su=>trivial
 | sj j i=>exact hl
 | fs v len c xs=>exact ⟨h.1,fun i cs hi=>(h.2 i cs hi).of (List.all_eq_true.1 hl cs (List.mem_of_getElem? hi))⟩
 | fa v j cs=>exact AtK.of h hl
theorem Rep.after {X':Env} {w':World} {nr nz:Nat} {d:Dt} (hR:Rep B X s w) (g:Gr w w') (ha:Agr s.nn X X') (hr:s.nr≤nr) (hz:s.nz≤nz):
  Rep B X' {s with nr:=nr,nz:=nz,ds:=d} w':=by
 have hn:s.nn.le ({s with nr:=nr,nz:=nz,ds:=d}:Sg).nn:=⟨Nat.le_refl _,hr,hz⟩
 refine ⟨hR.gr.trans g,hR.ag.trans (ha.mono hR.le),hR.le.trans hn,zX9 hn ha g.kp hR.fr,fun i t cs hi=>zx3 hn ha g.kp (hR.bl i t cs hi),fun i t cs hi=>?_,fun i h1 h2=>?_,fun i j h1 h2 e=>?_,fun x hx=>⟨g.heap (hR.ks x hx).1,fun i hi=>?_⟩,hR.kk⟩
 ·have hl:i<s.bl.length:=(List.getElem?_eq_some_iff.1 hi).1
  have:=hR.lc i t cs hi
  rw [← ha.E i hl,← zx4 ha fun c hc=>(hR.bl i t cs hi c hc).1]
  exact ⟨this.1.gr g,this.2⟩
 ·rw [← ha.E i h2];exact hR.own i h1 h2
 ·rw [← ha.E i h1,← ha.E j h2] at e;exact hR.inj i j h1 h2 e
 ·rw [← ha.E i hi];exact (hR.ks x hx).2 i hi
def yC3 (nz:Nat):List Nat→Nat→List SV→List SV
 | [],_,fr=>fr
 | j::js,i,fr=>yC3 nz js (i+1) (fr.set j (.sj nz i))
theorem yC4 {X:Env} {fr0:List SV} {nz:Nat} {n:Nn} (hz:nz<n.z) (js:List Nat) (hX:∀ i j,js[i]?=some j→X.Z nz (10+i)=(za6 X fr0).tmps.getD j undef):∀ (l1 l2:List Nat) (fr:List SV),l1++l2=js→okF n X w fr→za6 X fr=za6 X fr0→
  okF n X w (yC3 nz l2 l1.length fr)∧za6 X (yC3 nz l2 l1.length fr)=za6 X fr0
 | _,[],fr,_,h1,h2=>⟨h1,h2⟩
 | l1,j::l2,fr,hj,h1,h2=>by
  have ok:(SV.sj nz l1.length).ok n X w:=zp7 hz
  have hv:=hX l1.length j (by rw [← hj];simp)
  have e:za6 X (fr.set j (.sj nz l1.length))=za6 X fr:=by
   have hv':(SV.sj nz l1.length).den X=(za6 X fr).tmps.getD j undef:=by rw [h2];exact hv
   rw [← yd7,hv']
   unfold Act.put
   have:∀ (t:Array Value) (j:Nat),t.setIfInBounds j (t.getD j undef)=t:=fun t j=>by
    apply Array.ext
    ·simp
    ·intro i h3 h4
     rw [Array.getElem_setIfInBounds]
     split
     ·rename_i e;subst e;simp [h4]
     ·rfl
   simp only [this]
  have:=yC4 hz js hX (l1++[j]) l2 (fr.set j (.sj nz l1.length)) (by simp [← hj]) (yA0 h1 ok) (e.trans h2)
  rwa [List.length_append,List.length_singleton] at this
theorem Rep.junk (hR:Rep B X s w) (js:List Nat):∃ X',Rep B X' {s with fr:=yC3 s.nz js 0 s.fr,nz:=s.nz+1} w∧za6 X' (yC3 s.nz js 0 s.fr)=za6 X s.fr:=by
 let X':Env:={X with Z:=fun i c=>if i=s.nz then (za6 X s.fr).tmps.getD (js.getD (c - 10) 0) undef else X.Z i c}
 have ag:Agr s.nn X X':=⟨fun _ _=>rfl,fun _ _ _=>rfl,fun i c hi=>(if_neg (Nat.ne_of_lt hi)).symm,rfl⟩
 have h1:Rep B X' {s with nr:=s.nr,nz:=s.nz+1,ds:=s.ds} w:=hR.after (Gr.refl w) ag (Nat.le_refl _) (Nat.le_succ _)
 have e0:za6 X s.fr=za6 X' s.fr:=zn7 ag hR.fr
 have hg:=yC4 (w:=w) (X:=X') (fr0:=s.fr) (nz:=s.nz) (n:=⟨s.bl.length,s.nr,s.nz+1⟩) (Nat.lt_succ_self _) js (fun i j hi=>by
  rw [← e0]
  show (if s.nz=s.nz then _ else _)=_
  rw [if_pos rfl,Nat.add_sub_cancel_left]
  simp [hi]) [] js s.fr rfl h1.fr rfl
 exact ⟨X',⟨h1.gr,h1.ag,h1.le,hg.1,h1.bl,h1.lc,h1.own,h1.inj,h1.ks,h1.kk⟩,hg.2.trans e0.symm⟩
theorem yC5 {P:Program} {es:List (Nat × Ent)} {a:Code} {s1:Sg} {e1:Ex} {Q:Exit→Act→World→Prop} (hm:P.follows .mixedOrders=true) (hc:zi6 P es a=true) (hn:noLp es=true) (hp:PQ Q)
  (hrun:∀ k:KT,zt7 P 0 0 (fun _ _ _ _=>none) es a s k=k e1 s1) (hR:Rep B X s w) (hQ:∀ X' w',Rep B X' s1 w'→Q e1.to (za6 X' s1.fr) w'):a.wp P Q (za6 X s.fr) w:=by
 classical
 let k:KT:=fun e t=>if e=e1∧t=s1 then some (.ret .su) else none
 refine yk4 (Post:=fun _=>True) (B:=B) (lo:=0) (hi:=0) (call:=fun _ _ _ _=>none) (k:=k) (L:=.ret .su) (fun _ _ _ _ _ _ _ h=>(by cases h)) (fun f _ h=>absurd h (Nat.not_lt_zero f)) hm a hc (zY3 hn a) hp (fun e t X' w' L hk _ hR'=>?_) ((hrun k).trans (if_pos ⟨rfl,rfl⟩)) trivial hR
 have:e=e1∧t=s1:=Classical.byContradiction fun hne=>by
  have:(none:Rs)=some L:=(if_neg hne).symm.trans hk
  cases this
 obtain ⟨rfl,rfl⟩:=this
 exact hQ X' w' hR'
theorem yk5 {L:Lf} {k:SV→Sg→Rs}:∀ (T:Tr) {s:Sg},xTr T s k=some L→LOK Post L→Rep B X s w→∀ {e:Ending} {w':World},T.holds s.nn X w e w'→
  ∃ v s' X' L',e=.returned (v.den X')∧Gr w w'∧Agr s.nn X X'∧Rep B X' s' w'∧v.ok s'.nn X' w'∧s'.fr=s.fr∧s'.bl=s.bl∧s'.nu=s.nu∧k v s'=some L'∧LOK Post L'
 | .leaf v dr dz,s,h,hL,hR,e,w',hT=>by
  obtain ⟨X',h1,h2,h3,h4⟩:=hT
  exact ⟨v,_,X',L,h1,h2,h3,hR.after (d:=s.ds) h2 h3 (Nat.le_add_right _ _) (Nat.le_add_right _ _),h4,rfl,rfl,rfl,h,hL⟩
 | .br t a b,s,h,hL,hR,e,w',hT=>by
  obtain ⟨v,d,L',ht,hk,hL'⟩:=zK1 h hL
  cases v with
  | true=>
   obtain ⟨v,s',X',L2,r⟩:=yk5 a (s:={s with ds:=d}) hk hL' (hR.ds d) (hT.1 ht)
   exact ⟨v,s',X',L2,r⟩
  | false=>
   obtain ⟨v,s',X',L2,r⟩:=yk5 b (s:={s with ds:=d}) hk hL' (hR.ds d) (hT.2 ht)
   exact ⟨v,s',X',L2,r⟩
 | .as t a,s,h,hL,hR,e,w',hT=>by
  obtain ⟨x,h1,rfl⟩:=zt1 h
  exact yk5 a h1 hL.2 hR hT
theorem yC6 {L:Lf} {k:SV→Sg→Rs}:∀ (T:Tr) {s:Sg},xTr T s k=some L→LOK Post L→T.pre
 | .leaf ..,_,_,_=>trivial
 | .br ..,_,_,_=>trivial
 | .as t a,s,h,hL=>by
  obtain ⟨x,h1,rfl⟩:=zt1 h
  exact ⟨hL.1,yC6 a h1 hL.2⟩
theorem zY5 (n:Nn):∀ m,okF n X w (zK3 m)
 | 0,_,h=>by cases h
 | m+1,v,h=>by
  rcases List.mem_cons.1 h with rfl | h
  ·trivial
  ·exact zY5 n m v h
theorem zO9:∀ m,(zK3 m).map (SV.den X)=List.replicate m undef
 | 0=>rfl
 | m+1=>by rw [zK3,List.map_cons,zO9 m,List.replicate_succ];rfl
theorem yC7 (Y:Sys) (hY:Y.OK):∀ m B,Y.I B.w→zx9 Y.P Post B (xFun Y m)
  | 0,B,_=>fun X s w f args k L h=>by cases h
  | m+1,B,hB=>fun X s w f args k L h hL hR ha=>by
    unfold xFun at h
    split at h
    · rename_i c hc
      split at h
      · rename_i T hT
        exact (hY.con _ (zy2 hc) args X s.nn w T (hY.inv _ _ hB hR.gr) ha hT (yC6 T h hL)).mono fun e w' he=>yk5 T h hL hR he
      · cases h
    · split at h
      · rename_i es fn h1 h2
        split at h
        · rename_i c hb
          have hcode:zi6 Y.P es c=true:=by
            have:=hY.tab _ (zy2 h1)
            unfold okTab at this
            simp only [h2,hb] at this
            exact this
          obtain ⟨fr,bl,nu,nr,nz,ds⟩:=s
          simp only [yd6] at h
          have hlen:(args.map (SV.den X)).toArray.size=args.length:=by simp
          refine calls_of_wp h2 hb ?_
          have hact:({tmps:=(args.map (SV.den X)).toArray++Array.replicate (fn.ntmps - (args.map (SV.den X)).toArray.size) undef,defers:=[]}:Act)=za6 (X.wd []) (args++zK3 (fn.ntmps - args.length)):=by
            unfold za6
            rw [hlen,List.map_append,zO9,List.map_congr_left fun x _=>SV.den_D X [] x]
            simp [Env.wd]
          rw [hact]
          have aa:Rep ⟨w,X.wd [],⟨bl.length,nr,nz⟩,[]⟩ (X.wd []) ⟨args++zK3 (fn.ntmps - args.length),bl,bl.length,nr,nz,ds⟩ w:=
            ⟨Gr.refl w,.refl _ _,.refl _,fun v hv=>by
              rcases List.mem_append.1 hv with hv | hv
              · exact SV.ok_D (ha v hv) []
              · exact zY5 _ _ v hv,fun i t cs hi=>okL_D (hR.bl i t cs hi) [],fun i t cs hi=>by rw [dnL_D];exact hR.lc i t cs hi,fun i h1 h2=>absurd h2 (Nat.not_lt.2 h1),hR.inj,fun x hx=>(by cases hx),hR.kx⟩
          refine yk4 (Q:=bodyPost Y.P fn _) (yC7 Y hY m ⟨w,X.wd [],⟨bl.length,nr,nz⟩,[]⟩ (hY.inv _ _ hB hR.gr)) hY.calls hY.mixed c (X:=X.wd []) hcode (hY.lps _ (zy2 h1) _ _ h2 hb) (fun c a a' w hq=>⟨?_,?_⟩) (fun e s' X' w' L' h' hL' hR'=>?_) h hL aa
          · obtain ⟨_,v,s',X',L',hq,_⟩:=hq;cases hq
          · obtain ⟨_,v,s',X',L',hq,_⟩:=hq;cases hq
          · have fin:∀ {v:SV},xRes Y.P s' fn.results.toList=some v→v.lt ⟨bl.length,s'.nr,s'.nz⟩=true→k v ⟨fr,bl,nu,s'.nr,s'.nz,s'.ds⟩=some L'→
                (za6 X' s'.fr).defers=[]∧∃ u,(results fn (za6 X' s'.fr).tmps).run Y.P w'=.ok u w'∧(∃ v s' X' L',(.returned u:Ending)=.returned (v.den X')∧Gr w w'∧Agr ⟨bl.length,nr,nz⟩ X X'∧Rep B X' s' w'∧v.ok s'.nn X' w'∧s'.fr=fr∧s'.bl=bl∧s'.nu=nu∧k v s'=some L'∧LOK Post L'):=fun {v} hv hl hk=>by
              have hr:=res_ok hR' hv
              have hD:X'.D=[]:=hR'.ag.d.symm
              have hag:Agr ⟨bl.length,nr,nz⟩ X (X'.wd X.D):=⟨hR'.ag.E,hR'.ag.R,hR'.ag.Z,Prod.ext rfl hR'.ag.k⟩
              refine ⟨hD,v.den X',hr.1,v,⟨fr,bl,nu,s'.nr,s'.nz,s'.ds⟩,X'.wd X.D,L',by rw [SV.den_D],hR'.gr,hag,?_,SV.ok_D (SV.ok_of hr.2 hl) X.D,rfl,rfl,rfl,hk,hL'⟩
              exact hR.after hR'.gr hag hR'.le.r hR'.le.z
            cases e with
            | x id=>cases h'
            | n=>
              simp only at h'
              split at h'
              · rename_i v hv
                split at h'
                · rename_i hl;exact fin hv hl h'
                · cases h'
              · cases h'
            | r=>
              simp only at h'
              split at h'
              · rename_i v hv
                split at h'
                · rename_i hl;exact fin hv hl h'
                · cases h'
              · cases h'
        · cases h
      · cases h
theorem Rep.wt {T:TypeId} {w':World} (h:Rep B X s w) (hw:Wt T w w') (hT:161≠T) (g:Gr B.w w') (ht:∀ x ∈ s.bl,x.1≠T) (hk:∀ x ∈ B.ks,w'.heap[x.1]?=some x.2):Rep B X s w':=
 ⟨g,h.ag,h.le,zX9 (.refl _) (.refl _ _) (hw.kp hT) h.fr,fun i t cs hi=>zx3 (.refl _) (.refl _ _) (hw.kp hT) (h.bl i t cs hi),fun i t cs hi=>⟨hw.lc (h.lc i t cs hi).1 (ht _ (List.mem_of_getElem? hi)),(h.lc i t cs hi).2⟩,h.own,h.inj,fun x hx=>⟨hk x hx,(h.ks x hx).2⟩,h.kk⟩
noncomputable def zP0 (Y:Sys) (f:Nat) (args:List SV) (nr nz:Nat) (ds:Dt):Rs:=xFun Y 30 f args ⟨[],[],0,nr,nz,ds⟩ fun v _=>some (.ret v)
theorem zP1 (Y:Sys) (hY:Y.OK) {f:Nat} {args:List SV} {nr nz:Nat} {ds:Dt} {L:Lf} (h:zP0 Y f args nr nz ds=some L) {X:Env} {w:World} (hI:Y.I w) (hk:∀ x ∈ X.K,w.heap[x.1]?=some x.2) (ha:okF ⟨0,nr,nz⟩ X w args) (hL:LOK Post L):
  Calls Y.P f (args.map (SV.den X)).toArray w fun e w'=>∃ v X' n,e=.returned (v.den X')∧Gr w w'∧Agr ⟨0,nr,nz⟩ X X'∧v.ok n X' w'∧Post v:=by
 have hR:Rep ⟨w,X,⟨0,nr,nz⟩,[]⟩ X ⟨[],[],0,nr,nz,ds⟩ w:=
  ⟨Gr.refl w,.refl _ _,.refl _,fun _ h=>(by cases h),fun i t cs h=>(by cases h),fun i t cs h=>(by cases h),fun i _ h=>(by cases h),fun i j h=>(by cases h),fun _ h=>(by cases h),hk⟩
 refine (yC7 Y hY 30 ⟨w,X,⟨0,nr,nz⟩,[]⟩ hI X _ w f args _ L h hL hR ha).mono fun e w' he=>?_
 obtain ⟨v,s',X',L',h1,h2,h3,h4,h5,_,_,_,hk,hL'⟩:=he
 cases hk
 exact ⟨v,X',_,h1,h2,h3,h5,hL'⟩
def SV.pl:SV→Bool
 | .fs .. | .fa ..=>false
 | _=>true
def Env.wk (X:Env) (ks:List (Nat × Obj)):Env:={X with K:=ks}
theorem Cl.ok_K {n:Nn} {X:Env} {W:World} {c:Cl} (h:c.ok n X W) (ks:List (Nat × Obj)):c.ok n (X.wk ks) W:=by
 refine ⟨h.1,?_⟩
 have:=h.2
 cases c<;>exact this
theorem SV.den_K (X:Env) (ks:List (Nat × Obj)) (v:SV):v.den (X.wk ks)=v.den X:=by
 have hc:∀ c:Cl,c.den (X.wk ks)=c.den X:=fun c=>by cases c<;>rfl
 have hl:∀ l:List Cl,dnL (X.wk ks) l=dnL X l:=fun l=>by
  unfold dnL
  rw [List.map_congr_left fun c _=>hc c]
 have ht:∀ x:TV,x.den (X.wk ks)=x.den X:=fun x=>by
  cases x with
  | vc c=>exact hc c
  | vg l=>exact congrArg Value.agg (hl l)
 cases v with
 | so x=>exact ht x
 | st l=>simp only [SV.den];rw [List.map_congr_left fun x _=>ht x]
 | _=>rfl
theorem SV.ok_K {n:Nn} {X:Env} {W:World} {v:SV} (h:v.ok n X W) (ks:List (Nat × Obj)) (hp:v.pl=true∨X.K=[]):v.ok n (X.wk ks) W:=by
 have ht:∀ {x:TV},x.ok n X W→x.ok n (X.wk ks) W:=fun {x} h=>by
  cases x with
  | vc c=>exact Cl.ok_K h ks
  | vg l=>exact fun c hc=>Cl.ok_K (h c hc) ks
 cases v with
 | so x=>exact ht h
 | st l=>exact fun x hx=>ht (h x hx)
 | su=>trivial
 | sj j i=>exact h
 | fs v len c xs=>
  rcases hp with hp | hp
  ·cases hp
  ·refine ⟨h.1,fun i cs hi=>?_⟩
   obtain ⟨_,b,o,l,cap,us,t,fr,_,h2,_⟩:=h.2 i cs hi
   rw [hp] at h2;cases h2
 | fa v j cs=>
  rcases hp with hp | hp
  ·cases hp
  ·obtain ⟨_,b,o,l,cap,us,t,fr,_,h2,_⟩:=h
   rw [hp] at h2;cases h2
theorem ze7 (Y:Sys) (hY:Y.OK) {f:Nat} {args:List SV} {nr nz:Nat} {ds:Dt} {L:Lf} (h:zP0 Y f args nr nz ds=some L) {X:Env} {w:World} (hI:Y.I w) (ha:okF ⟨0,nr,nz⟩ X w args) (hL:LOK Post L) (hp:args.all SV.pl=true:=by rfl):
  Calls Y.P f (args.map (SV.den X)).toArray w fun e w'=>∃ v X' n,e=.returned (v.den X')∧Gr w w'∧Agr ⟨0,nr,nz⟩ X X'∧v.ok n X' w'∧Post v:=by
 have:=zP1 Y hY h (X:=X.wk []) hI (fun _ hx=>(by cases hx)) (fun c hc=>SV.ok_K (ha c hc) [] (.inl (List.all_eq_true.1 hp c hc))) hL
 rw [List.map_congr_left fun v _=>SV.den_K X [] v] at this
 refine this.mono fun e w' he=>?_
 obtain ⟨v,X',n,h1,h2,h3,h4,h5⟩:=he
 have hk:X'.K=[]:=h3.k.symm
 refine ⟨v,X'.wk X.K,n,by rw [SV.den_K];exact h1,h2,⟨h3.E,h3.R,h3.Z,?_⟩,SV.ok_K h4 X.K (.inr hk),h5⟩
 exact Prod.ext h3.d rfl
end
end Go.Proofs.YtaldbfflkpgfoaaGreatDoor
