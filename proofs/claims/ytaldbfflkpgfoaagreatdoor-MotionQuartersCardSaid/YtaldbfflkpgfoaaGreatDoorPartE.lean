/- Joined of: Gen62, Syc, Gen91, Sl, In, Gen90, Rf, Fl, Gen92, Scal, Stq, Wh, Gen121, Who, Wg. -/
import Derived.Test.YtaldbfflkpgfoaaGreatDoorPartD
import Derived.Test.YtaldbfflkpgfoaaGreatDoorPartC
import Derived.Test.YtaldbfflkpgfoaaGreatDoorPartA
import Derived.RangeFuncFrom
import Derived.RangeFuncWrites
import Derived.RangeFuncMany
import Derived.RangeFuncLeaves
import Derived.RangeFuncCalls
import Derived.RangeFuncBound
import Derived.TacticsIn
import Derived.LoopNIn
import Derived.RangeFuncNested
import Init.Data.Rat.Lemmas
import Derived.Test.YtaldbfflkpgfoaaGreatDoorPartB
namespace Go.Proofs.YtaldbfflkpgfoaaGreatDoor
open Go.RowKit

set_option maxRecDepth 100000 in
set_option maxHeartbeats 1000000 in
theorem r2_from (z:Int) (_h0:-9223372036854775808≤z) (_h1:z≤9223372036854775807) (w:World):
    Calls Tryz.prog 65 #[(.int .i64 (z))] w fun e w'=>e=.returned (.string ⟨(za3 (((z:Int):Rat))).toArray⟩)∧Gr w w':=by
 go_enter Tryz.func65,Tryz.ntmps65
 have hB:=Gr.refl w
 refine wp_seq_k (fun K1 k1=>?_)
 refine rg [0] ?_
 refine sv 2 (.string ⟨([]:List UInt8).toArray⟩) ?_
 refine za0 ?_
 refine k1 _ _ ?_
 try clear k1 K1
 refine wp_seq_k (fun K2 k2=>?_)
 refine rg [0,1,2] ?_
 refine sv 3 (.int .i64 (z)) ?_
 refine se ?_
 refine ec 4 (r1_from (z) (by omega) (by omega) _) ?_
 rintro e3 w3 ⟨rfl,g3⟩
 refine ⟨_,rfl,?_⟩
 replace hB:=hB.trans g3
 simp only [p3,p4]
 refine sv 2 (.string ⟨(Lib.itoa ((z)):List UInt8).toArray⟩) ?_
 refine za0 ?_
 refine k2 _ _ ?_
 try clear k2 K2
 refine wp_ret ?_
 refine bodyPost_ret (v:=(.string ⟨(Lib.itoa ((z)):List UInt8).toArray⟩)) (za7 rfl rfl) rfl ⟨?_,hB⟩
 exact (by rw [ratL_iz])

set_option maxRecDepth 100000 in
set_option maxHeartbeats 4000000 in
theorem vparse0 {k:Nat} (a1:Rat) (a2:Rat) (a3:Rat) (bQ:RS k a1) (bW:RS k a2) (bN:RS k a3) (_hk:k≤20000) (_h64:64≤k) (l1:((za3 a1).length:Int)≤400) (l2:((za3 a2).length:Int)≤400) (l3:((za3 a3).length:Int)≤400) (w:World) (hm:Mx w):
    Calls Tryz.prog 93 #[(.agg #[(.string ⟨(za3 (a1):List UInt8).toArray⟩),(.string ⟨(za3 (a2):List UInt8).toArray⟩),(.string ⟨(za3 (a3):List UInt8).toArray⟩)]),(.func (.func 94) #[] #[])] w fun e w'=>(∃ t0 t1 t2 t3 t4 t5 t6 t7 t8 t9 bi a6,e=.returned (.tuple #[.agg #[t0,t1,t2,t3,t4,t5,t6,t7,t8,t9,bi,a6],.int .i64 0])∧IsRat w' k t0 t1 t2 t3 (a1)∧IsRat w' k t4 t5 t6 t7 (a2)∧IsRat w' k t8 t9 bi a6 (a3))∧Gr w w':=by
 go_enter Tryz.func93,Tryz.ntmps93
 have hB:=Gr.refl w
 refine wp_seq_k (fun K1 k1=>?_)
 refine rg [0,1,2] ?_
 refine se ?_
 refine eb 25 #[(.string ⟨(za3 (a1):List UInt8).toArray⟩),(.string ⟨(za3 (a2):List UInt8).toArray⟩),(.string ⟨(za3 (a3):List UInt8).toArray⟩)] 2 hB fun b2 w2 g2 L2 o2 q2 hB=>?_
 simp only [p3,p4]
 refine se ?_
 refine ea 38 #[.bool false,.slice none 0 0,.bool false,.slice none 0 0,.bool false,.slice none 0 0,.bool false,.slice none 0 0,.bool false,.slice none 0 0,.bool false,.slice none 0 0] 4 hB fun b3 w3 g3 L3 o3 q3 hB=>?_
 simp only [p3,p4]
 refine sv 5 (.int .i64 0) ?_
 refine za0 ?_
 refine k1 _ _ ?_
 try clear k1 K1
 refine wp_seq_k (fun K4 k4=>?_)
 refine rg [0] ?_
 refine se ?_
 refine ea 38 #[.bool false,.slice none 0 0,.bool false,.slice none 0 0,.bool false,.slice none 0 0,.bool false,.slice none 0 0,.bool false,.slice none 0 0,.bool false,.slice none 0 0] 6 hB fun b5 w5 g5 L5 o5 q5 hB=>?_
 replace L2:=L2.gr g3
 have av:=L3.ne o5
 simp only [p3,p4]
 refine za0 ?_
 refine k4 _ _ ?_
 try clear k4 K4
 refine wp_seq_k (fun K6 k6=>?_)
 refine wp_seq_k (fun K7 k7=>?_)
 refine rg [0,1] ?_
 replace L2:=L2.gr g5
 refine sw 11 (.agg #[(.string ⟨(za3 (a1):List UInt8).toArray⟩),(.string ⟨(za3 (a2):List UInt8).toArray⟩),(.string ⟨(za3 (a3):List UInt8).toArray⟩)]) rfl (rl 25 0 [(.string ⟨(za3 (a1):List UInt8).toArray⟩),(.string ⟨(za3 (a2):List UInt8).toArray⟩),(.string ⟨(za3 (a3):List UInt8).toArray⟩)] L2) ?_
 refine sv 12 (.int .i64 0) ?_
 refine za0 ?_
 refine k7 _ _ ?_
 try clear k7 K7
 refine wp_block ?_
 refine wp_loop_rounds 4 ?_
 show Code.wp _ _ _ _ _
 refine wp_seq_k (fun K8 k8=>?_)
 refine rg [0] ?_
 refine sv 13 (.bool true) ?_
 refine za0 ?_
 refine k8 _ _ ?_
 try clear k8 K8
 refine wp_seq_k (fun K9 k9=>?_)
 refine wp_cond_true rfl ?_
 refine wp_skip ?_
 refine k9 _ _ ?_
 try clear k9 K9
 refine wp_seq_k (fun bH bg=>?_)
 refine wp_block ?_
 refine wp_seq_k (fun bY bp=>?_)
 refine rg [0,1,2,3] ?_
 refine sv 14 (.int .i64 0) ?_
 refine sv 15 (.string ⟨(za3 (a1):List UInt8).toArray⟩) ?_
 refine sv 7 (.int .i64 0) ?_
 refine sv 8 (.string ⟨(za3 (a1):List UInt8).toArray⟩) ?_
 refine za0 ?_
 refine bp _ _ ?_
 try clear bp bY
 refine wp_seq_k (fun bT bq=>?_)
 refine rg [0,1,2,3,4,5,6,7,8] ?_
 refine sv 17 (.func (.func 94) #[] #[]) ?_
 refine sv 18 (.string ⟨(za3 (a1):List UInt8).toArray⟩) ?_
 refine se ?_
 refine ec 19 (zL8 (a1) bQ (by omega) (by omega) l1 _ (hm.gr hB)) ?_
 rintro e13 cu ⟨⟨ab,ac,ad,aa,rfl,au⟩,aY⟩
 refine ⟨_,rfl,?_⟩
 replace hB:=hB.trans aY
 simp only [p3,p4]
 refine sv 16 (.tuple #[(.agg #[ab,ac,ad,aa]),.int .i64 0]) ?_
 refine sv 20 (.agg #[ab,ac,ad,aa]) ?_
 refine sv 21 (.int .i64 0) ?_
 refine se ?_
 refine ea 36 #[.bool false,.slice none 0 0,.bool false,.slice none 0 0] 9 hB fun cm cl aR aU a5 bO hB=>?_
 replace L3:=L3.gr (g5.trans aY)
 have ax:=L3.ne a5
 replace L5:=L5.gr aY
 have aC:=L5.ne a5
 simp only [p3,p4]
 refine se ?_
 refine es 36 0 (.agg #[ab,ac,ad,aa]) [ab,ac,ad,aa] #[ab,ac,ad,aa] aU hB bO ⟨au.one0,au.one1,au.one2,au.one3,trivial⟩ fun cc aF aO aU hB=>?_
 refine sv 10 (.int .i64 0) ?_
 refine za0 ?_
 refine bq _ _ ?_
 try clear bq bT
 refine wp_seq_k (fun bC bf=>?_)
 refine wp_seq_k (fun bZ a8=>?_)
 refine rg [0,1] ?_
 refine sv 22 (.int .i64 0) ?_
 refine sv 23 (.bool false) ?_
 refine za0 ?_
 refine a8 _ _ ?_
 try clear a8 bZ
 refine wp_cond_false rfl ?_
 refine wp_skip ?_
 refine bf _ _ ?_
 try clear bf bC
 refine rg [0,1,2,3] ?_
 refine sv 26 (.int .i64 0) ?_
 refine sw 27 (.agg #[ab,ac,ad,aa]) rfl (rl 36 0 [ab,ac,ad,aa] aU) ?_
 refine sv 28 (.pointer (some ⟨b5,0,none⟩)) ?_
 refine se ?_
 replace L5:=aF.lc (L5.gr aR) aC
 refine es 36 0 (.agg #[ab,ac,ad,aa]) [ab,ac,ad,aa] #[ab,ac,ad,aa,.bool false,.slice none 0 0,.bool false,.slice none 0 0,.bool false,.slice none 0 0,.bool false,.slice none 0 0] L5 hB q5 ⟨au.one0,au.one1,au.one2,au.one3,trivial⟩ fun b9 aQ aS L5 hB=>?_
 refine za0 ?_
 refine bg _ _ ?_
 try clear bg bH
 refine rg [0,1] ?_
 refine sv 29 (.int .i64 1) ?_
 refine sv 12 (.int .i64 1) ?_
 refine za0 ?_
 show Code.rounds _ _ _ _ _ _
 show Code.wp _ _ _ _ _
 refine wp_seq_k (fun bR bt=>?_)
 refine rg [0] ?_
 refine sv 13 (.bool true) ?_
 refine za0 ?_
 refine bt _ _ ?_
 try clear bt bR
 refine wp_seq_k (fun bU bx=>?_)
 refine wp_cond_true rfl ?_
 refine wp_skip ?_
 refine bx _ _ ?_
 try clear bx bU
 refine wp_seq_k (fun bJ ba=>?_)
 refine wp_block ?_
 refine wp_seq_k (fun bM a7=>?_)
 refine rg [0,1,2,3] ?_
 refine sv 14 (.int .i64 1) ?_
 refine sv 15 (.string ⟨(za3 (a2):List UInt8).toArray⟩) ?_
 refine sv 7 (.int .i64 1) ?_
 refine sv 8 (.string ⟨(za3 (a2):List UInt8).toArray⟩) ?_
 refine za0 ?_
 refine a7 _ _ ?_
 try clear a7 bM
 refine wp_seq_k (fun bP bo=>?_)
 refine rg [0,1,2,3,4,5,6,7,8] ?_
 refine sv 17 (.func (.func 94) #[] #[]) ?_
 refine sv 18 (.string ⟨(za3 (a2):List UInt8).toArray⟩) ?_
 refine se ?_
 refine ec 19 (zL8 (a2) bW (by omega) (by omega) l2 _ (hm.gr hB)) ?_
 rintro cq cj ⟨⟨ae,ai,af,ah,rfl,aq⟩,aN⟩
 refine ⟨_,rfl,?_⟩
 replace hB:=hB.trans aN
 simp only [p3,p4]
 refine sv 16 (.tuple #[(.agg #[ae,ai,af,ah]),.int .i64 0]) ?_
 refine sv 20 (.agg #[ae,ai,af,ah]) ?_
 refine sv 21 (.int .i64 0) ?_
 refine se ?_
 refine ea 36 #[.bool false,.slice none 0 0,.bool false,.slice none 0 0] 9 hB fun ca cg aM aZ bm bK hB=>?_
 replace L3:=(aQ.lc (aF.lc (L3.gr aR) ax) av).gr aN
 have ay:=L3.ne bm
 replace L5:=L5.gr aN
 have aB:=L5.ne bm
 simp only [p3,p4]
 refine se ?_
 refine es 36 0 (.agg #[ae,ai,af,ah]) [ae,ai,af,ah] #[ae,ai,af,ah] aZ hB bK ⟨aq.one0,aq.one1,aq.one2,aq.one3,trivial⟩ fun cn aI aH aZ hB=>?_
 refine sv 10 (.int .i64 0) ?_
 refine za0 ?_
 refine bo _ _ ?_
 try clear bo bP
 refine wp_seq_k (fun bV bv=>?_)
 refine wp_seq_k (fun bG bb=>?_)
 refine rg [0,1] ?_
 refine sv 22 (.int .i64 0) ?_
 refine sv 23 (.bool false) ?_
 refine za0 ?_
 refine bb _ _ ?_
 try clear bb bG
 refine wp_cond_false rfl ?_
 refine wp_skip ?_
 refine bv _ _ ?_
 try clear bv bV
 refine rg [0,1,2,3] ?_
 refine sv 26 (.int .i64 1) ?_
 refine sw 27 (.agg #[ae,ai,af,ah]) rfl (rl 36 0 [ae,ai,af,ah] aZ) ?_
 refine sv 28 (.pointer (some ⟨b5,4,none⟩)) ?_
 refine se ?_
 replace L5:=aI.lc (L5.gr aM) aB
 refine es 36 4 (.agg #[ae,ai,af,ah]) [ae,ai,af,ah] #[ab,ac,ad,aa,ae,ai,af,ah,.bool false,.slice none 0 0,.bool false,.slice none 0 0] L5 hB q5 ⟨aq.one0,aq.one1,aq.one2,aq.one3,trivial⟩ fun ck aV aL L5 hB=>?_
 refine za0 ?_
 refine ba _ _ ?_
 try clear ba bJ
 refine rg [0,1] ?_
 refine sv 29 (.int .i64 2) ?_
 refine sv 12 (.int .i64 2) ?_
 refine za0 ?_
 show Code.rounds _ _ _ _ _ _
 show Code.wp _ _ _ _ _
 refine wp_seq_k (fun bF a9=>?_)
 refine rg [0] ?_
 refine sv 13 (.bool true) ?_
 refine za0 ?_
 refine a9 _ _ ?_
 try clear a9 bF
 refine wp_seq_k (fun bz bd=>?_)
 refine wp_cond_true rfl ?_
 refine wp_skip ?_
 refine bd _ _ ?_
 try clear bd bz
 refine wp_seq_k (fun bL bw=>?_)
 refine wp_block ?_
 refine wp_seq_k (fun bA a4=>?_)
 refine rg [0,1,2,3] ?_
 refine sv 14 (.int .i64 2) ?_
 refine sv 15 (.string ⟨(za3 (a3):List UInt8).toArray⟩) ?_
 refine sv 7 (.int .i64 2) ?_
 refine sv 8 (.string ⟨(za3 (a3):List UInt8).toArray⟩) ?_
 refine za0 ?_
 refine a4 _ _ ?_
 try clear a4 bA
 refine wp_seq_k (fun bE bn=>?_)
 refine rg [0,1,2,3,4,5,6,7,8] ?_
 refine sv 17 (.func (.func 94) #[] #[]) ?_
 refine sv 18 (.string ⟨(za3 (a3):List UInt8).toArray⟩) ?_
 refine se ?_
 refine ec 19 (zL8 (a3) bN (by omega) (by omega) l3 _ (hm.gr hB)) ?_
 rintro cd b7 ⟨⟨ak,aj,al,ap,rfl,ar⟩,aK⟩
 refine ⟨_,rfl,?_⟩
 replace hB:=hB.trans aK
 simp only [p3,p4]
 refine sv 16 (.tuple #[(.agg #[ak,aj,al,ap]),.int .i64 0]) ?_
 refine sv 20 (.agg #[ak,aj,al,ap]) ?_
 refine sv 21 (.int .i64 0) ?_
 refine se ?_
 refine ea 36 #[.bool false,.slice none 0 0,.bool false,.slice none 0 0] 9 hB fun ch b8 aJ aT bh b4 hB=>?_
 replace L3:=(aV.lc (aI.lc (L3.gr aM) ay) av).gr aK
 have aE:=L3.ne bh
 replace L5:=L5.gr aK
 have az:=L5.ne bh
 simp only [p3,p4]
 refine se ?_
 refine es 36 0 (.agg #[ak,aj,al,ap]) [ak,aj,al,ap] #[ak,aj,al,ap] aT hB b4 ⟨ar.one0,ar.one1,ar.one2,ar.one3,trivial⟩ fun cx aG aw aT hB=>?_
 refine sv 10 (.int .i64 0) ?_
 refine za0 ?_
 refine bn _ _ ?_
 try clear bn bE
 refine wp_seq_k (fun bB bc=>?_)
 refine wp_seq_k (fun b6 bk=>?_)
 refine rg [0,1] ?_
 refine sv 22 (.int .i64 0) ?_
 refine sv 23 (.bool false) ?_
 refine za0 ?_
 refine bk _ _ ?_
 try clear bk b6
 refine wp_cond_false rfl ?_
 refine wp_skip ?_
 refine bc _ _ ?_
 try clear bc bB
 refine rg [0,1,2,3] ?_
 refine sv 26 (.int .i64 2) ?_
 refine sw 27 (.agg #[ak,aj,al,ap]) rfl (rl 36 0 [ak,aj,al,ap] aT) ?_
 refine sv 28 (.pointer (some ⟨b5,8,none⟩)) ?_
 refine se ?_
 replace L5:=aG.lc (L5.gr aJ) az
 refine es 36 8 (.agg #[ak,aj,al,ap]) [ak,aj,al,ap] #[ab,ac,ad,aa,ae,ai,af,ah,ak,aj,al,ap] L5 hB q5 ⟨ar.one0,ar.one1,ar.one2,ar.one3,trivial⟩ fun co aW aA L5 hB=>?_
 refine za0 ?_
 refine bw _ _ ?_
 try clear bw bL
 refine rg [0,1] ?_
 refine sv 29 (.int .i64 3) ?_
 refine sv 12 (.int .i64 3) ?_
 refine za0 ?_
 show Code.rounds _ _ _ _ _ _
 show Code.wp _ _ _ _ _
 refine wp_seq_k (fun bX bu=>?_)
 refine rg [0] ?_
 refine sv 13 (.bool false) ?_
 refine za0 ?_
 refine bu _ _ ?_
 try clear bu bX
 refine wp_seq_k (fun ct cy=>?_)
 refine wp_cond_false rfl ?_
 refine wp_exit ?_
 simp only [Exit.then,Exit.inBlock,↓reduceIte]
 refine k6 _ _ ?_
 try clear k6 K6
 refine wp_seq_k (fun bD bj=>?_)
 refine rg [0,1,2] ?_
 refine sw 30 (.agg #[ab,ac,ad,aa,ae,ai,af,ah,ak,aj,al,ap]) rfl (rl 38 0 [ab,ac,ad,aa,ae,ai,af,ah,ak,aj,al,ap] L5) ?_
 refine se ?_
 replace L3:=aW.lc (aG.lc (L3.gr aJ) aE) av
 refine es 38 0 (.agg #[ab,ac,ad,aa,ae,ai,af,ah,ak,aj,al,ap]) [ab,ac,ad,aa,ae,ai,af,ah,ak,aj,al,ap] #[ab,ac,ad,aa,ae,ai,af,ah,ak,aj,al,ap] L3 hB q3 ⟨au.one0,au.one1,au.one2,au.one3,aq.one0,aq.one1,aq.one2,aq.one3,ar.one0,ar.one1,ar.one2,ar.one3,trivial⟩ fun ce bS aD L3 hB=>?_
 refine sv 5 (.int .i64 0) ?_
 refine za0 ?_
 refine bj _ _ ?_
 try clear bj bD
 refine wp_ret ?_
 refine bodyPost_ret (v:=(.tuple #[(.agg #[ab,ac,ad,aa,ae,ai,af,ah,ak,aj,al,ap]),.int .i64 0])) (zc0 _ _ _ rfl rfl L3 (by kernel_rfl) rfl) rfl ⟨?_,hB⟩
 have aP:=aR.kp.trans (aO.trans (aS.trans (aN.kp.trans (aM.kp.trans (aH.trans (aL.trans (aK.kp.trans (aJ.kp.trans (aw.trans (aA.trans aD))))))))))
 replace au:=au.kp aP
 have a0:=aM.kp.trans (aH.trans (aL.trans (aK.kp.trans (aJ.kp.trans (aw.trans (aA.trans aD))))))
 replace aq:=aq.kp a0
 have aX:=aJ.kp.trans (aw.trans (aA.trans aD))
 replace ar:=ar.kp aX
 exact ⟨_,_,_,_,_,_,_,_,_,_,_,_,rfl,au,aq,ar⟩

set_option maxRecDepth 100000 in
set_option maxHeartbeats 1000000 in
theorem vparse_v {k:Nat} (a1:Rat) (a2:Rat) (a3:Rat) (az:RS k a1) (ay:RS k a2) (aA:RS k a3) (_hk:k≤20000) (_h64:64≤k) (l1:((za3 a1).length:Int)≤400) (l2:((za3 a2).length:Int)≤400) (l3:((za3 a3).length:Int)≤400) (w:World) (hm:Mx w):
    Calls Tryz.prog 57 #[(.agg #[(.string ⟨(za3 (a1):List UInt8).toArray⟩),(.string ⟨(za3 (a2):List UInt8).toArray⟩),(.string ⟨(za3 (a3):List UInt8).toArray⟩)])] w fun e w'=>(∃ t0 t1 t2 t3 t4 t5 t6 t7 t8 t9 aw ax,e=.returned (.tuple #[.agg #[t0,t1,t2,t3,t4,t5,t6,t7,t8,t9,aw,ax],.int .i64 0])∧IsRat w' k t0 t1 t2 t3 (a1)∧IsRat w' k t4 t5 t6 t7 (a2)∧IsRat w' k t8 t9 aw ax (a3))∧Gr w w':=by
 go_enter Tryz.func57,Tryz.ntmps57
 have hB:=Gr.refl w
 refine wp_seq_k (fun K1 k1=>?_)
 refine rg [0,1,2] ?_
 refine se ?_
 refine eb 25 #[(.string ⟨(za3 (a1):List UInt8).toArray⟩),(.string ⟨(za3 (a2):List UInt8).toArray⟩),(.string ⟨(za3 (a3):List UInt8).toArray⟩)] 1 hB fun b2 w2 g2 L2 o2 q2 hB=>?_
 simp only [p3,p4]
 refine se ?_
 refine ea 38 #[.bool false,.slice none 0 0,.bool false,.slice none 0 0,.bool false,.slice none 0 0,.bool false,.slice none 0 0,.bool false,.slice none 0 0,.bool false,.slice none 0 0] 2 hB fun b3 w3 g3 L3 o3 q3 hB=>?_
 simp only [p3,p4]
 refine sv 3 (.int .i64 0) ?_
 refine za0 ?_
 refine k1 _ _ ?_
 try clear k1 K1
 refine wp_seq_k (fun K4 k4=>?_)
 refine rg [0,1,2,3,4,5] ?_
 replace L2:=L2.gr g3
 refine sw 4 (.agg #[(.string ⟨(za3 (a1):List UInt8).toArray⟩),(.string ⟨(za3 (a2):List UInt8).toArray⟩),(.string ⟨(za3 (a3):List UInt8).toArray⟩)]) rfl (rl 25 0 [(.string ⟨(za3 (a1):List UInt8).toArray⟩),(.string ⟨(za3 (a2):List UInt8).toArray⟩),(.string ⟨(za3 (a3):List UInt8).toArray⟩)] L2) ?_
 refine se ?_
 refine ec 5 (vparse0 (a1) (a2) (a3) az ay aA (by omega) (by omega) l1 l2 l3 _ (hm.gr hB)) ?_
 rintro e5 w5 ⟨⟨af,ac,ad,ap,ai,ah,aj,ak,al,ae,ab,aa,rfl,ar,au,aq⟩,g5⟩
 refine ⟨_,rfl,?_⟩
 replace hB:=hB.trans g5
 simp only [p3,p4]
 refine sv 6 (.agg #[af,ac,ad,ap,ai,ah,aj,ak,al,ae,ab,aa]) ?_
 refine sv 7 (.int .i64 0) ?_
 refine se ?_
 replace L3:=L3.gr g5
 refine es 38 0 (.agg #[af,ac,ad,ap,ai,ah,aj,ak,al,ae,ab,aa]) [af,ac,ad,ap,ai,ah,aj,ak,al,ae,ab,aa] #[af,ac,ad,ap,ai,ah,aj,ak,al,ae,ab,aa] L3 hB q3 ⟨ar.one0,ar.one1,ar.one2,ar.one3,au.one0,au.one1,au.one2,au.one3,aq.one0,aq.one1,aq.one2,aq.one3,trivial⟩ fun w6 aB av L3 hB=>?_
 refine sv 3 (.int .i64 0) ?_
 refine za0 ?_
 refine k4 _ _ ?_
 try clear k4 K4
 refine wp_ret ?_
 refine bodyPost_ret (v:=(.tuple #[(.agg #[af,ac,ad,ap,ai,ah,aj,ak,al,ae,ab,aa]),.int .i64 0])) (zc0 _ _ _ rfl rfl L3 (by kernel_rfl) rfl) rfl ⟨?_,hB⟩
 replace ar:=ar.kp av
 replace au:=au.kp av
 replace aq:=aq.kp av
 exact ⟨_,_,_,_,_,_,_,_,_,_,_,_,rfl,ar,au,aq⟩

theorem ym9 {a1 a2 a3:Rat} {X Y Z:List UInt8} (h1:(za3 a1==X)=true) (h2:(za3 a2==Y)=true) (h3:(za3 a3==Z)=true):sEq [za3 a1,za3 a2,za3 a3] [X,Y,Z]=true:=by
 simp only [sEq,h1,h2,h3];rfl
def nilC:Cl→Bool
 | .cv (.slice none 0 0)=>true
 | _=>false
def falC:Cl→Bool
 | .cb _ (some false)=>true
 | _=>false
def zy2:SV→Option (Nat × Rat)
 | .so (.vg [.cr j 0 k q,.cr j1 1 _ _,.cr j2 2 _ _,.cr j3 3 _ _])=>if Nat.beq j1 j&&Nat.beq j2 j&&Nat.beq j3 j then some (k,q) else none
 | .so (.vg [a,b,c,d])=>if falC a&&nilC b&&falC c&&nilC d then some (64,0) else none
 | _=>none
section
variable {n:Nn} {X:Env} {w w':World}
theorem zu9 {c:Cl} (h:falC c=true) (hc:c.ok n X w):c.den X=.bool false:=by
 unfold falC at h
 split at h
 ·exact congrArg Value.bool (hc.2 false rfl)
 ·cases h
theorem zv0 {c:Cl} (h:nilC c=true):c.den X=.slice none 0 0:=by
 unfold nilC at h
 split at h
 ·rfl
 ·cases h
theorem zf9 {v:SV} {k:Nat} {q:Rat} (h:zy2 v=some (k,q)) (hv:v.ok n X w):∃ a b c d,v.den X=.agg #[a,b,c,d]∧IsRat w k a b c d q:=by
 unfold zy2 at h
 split at h
 ·rename_i j k' q' j1 _ _ j2 _ _ j3 _ _
  split at h
  ·rename_i hj
   simp only [Bool.and_eq_true,Nat.beq_eq] at hj
   obtain ⟨⟨rfl,rfl⟩,rfl⟩:=hj
   cases h
   have:=(hv (.cr j3 0 k q) (by simp)).2
   exact ⟨_,_,_,_,rfl,this⟩
  ·cases h
 ·rename_i a b c d _
  split at h
  ·rename_i hh
   simp only [Bool.and_eq_true] at hh
   obtain ⟨⟨⟨h1,h2⟩,h3⟩,h4⟩:=hh
   cases h
   refine ⟨.bool false,.slice none 0 0,.bool false,.slice none 0 0,?_,IsRat.zero w (Nat.le_refl _)⟩
   simp only [SV.den,TV.den,dnL,List.map_cons,List.map_nil,zu9 h1 (hv a (by simp)),zv0 h2,zu9 h3 (hv c (by simp)),zv0 h4]
  ·cases h
 ·cases h
def zA1 (j k:Nat) (q:Rat):SV:=.so (.vg [.cr j 0 k q,.cr j 1 k q,.cr j 2 k q,.cr j 3 k q])
def Env.pushR (X:Env) (n:Nat) (c0 c1 c2 c3:Value):Env:={X with R:=fun i c=>if i=n then (if c=0 then c0 else if c=1 then c1 else if c=2 then c2 else c3) else X.R i c}
theorem Env.pushR_agree (X:Env) (n:Nn) (c0 c1 c2 c3:Value):Agr n X (X.pushR n.r c0 c1 c2 c3):=⟨fun _ _=>rfl,fun i c hi=>by simp only [Env.pushR];rw [if_neg (by omega)],fun _ _ _=>rfl,rfl⟩
theorem zj6 {e:Ending} {k:Nat} {q:Rat} (h:(∃ c0 c1 c2 c3,e=.returned (.agg #[c0,c1,c2,c3])∧IsRat w' k c0 c1 c2 c3 q)∧Gr w w'):(Tr.leaf (zA1 n.r k q) 1 0).holds n X w e w':=by
 obtain ⟨⟨c0,c1,c2,c3,rfl,h1⟩,g⟩:=h
 refine ⟨X.pushR n.r c0 c1 c2 c3,?_,g,Env.pushR_agree _ _ _ _ _ _,fun c hc=>?_⟩
 ·simp [zA1,SV.den,TV.den,dnL,Cl.den,Env.pushR]
 ·have hg:IsRat w' k ((X.pushR n.r c0 c1 c2 c3).R n.r 0) ((X.pushR n.r c0 c1 c2 c3).R n.r 1) ((X.pushR n.r c0 c1 c2 c3).R n.r 2) ((X.pushR n.r c0 c1 c2 c3).R n.r 3) q:=by
   simpa [Env.pushR] using h1
  have hlt:Nat.blt n.r (n.r+1)=true:=zm5 (by omega)
  simp only [List.mem_cons,List.not_mem_nil,or_false] at hc
  rcases hc with rfl | rfl | rfl | rfl<;>refine ⟨?_,hg⟩<;>simp only [Cl.lt,hlt]<;>rfl
theorem zc4 {e:Ending} {v:SV} (h:e=.returned (v.den X)∧Gr w w') (hv:v.ok n X w'):(Tr.leaf v 0 0).holds n X w e w':=⟨X,h.1,h.2,.refl _ _,hv⟩
end
def zp1 (lim:Nat) (g:Nat→Nat→Nat) (op:Rat→Rat→Rat):ConT:=fun args nr _=>match args with
 | [x,y]=>match zy2 x,zy2 y with
  | some (k,a),some (m,b)=>if Nat.ble (k+m) lim then some (.leaf (zA1 nr (g k m) (op a b)) 1 0) else none
  | _,_=>none
 | _=>none
theorem ze1 {P:Program} {I:World→Prop} {f lim:Nat} {g:Nat→Nat→Nat} {op:Rat→Rat→Rat} (h:∀ {k m:Nat} {u0 u1 u2 u3 v0 v1 v2 v3:Value} {a b:Rat} {w:World},IsRat w k u0 u1 u2 u3 a→IsRat w m v0 v1 v2 v3 b→k+m≤lim→
  Calls P f #[.agg #[u0,u1,u2,u3],.agg #[v0,v1,v2,v3]] w fun e w'=>(∃ c0 c1 c2 c3,e=.returned (.agg #[c0,c1,c2,c3])∧IsRat w' (g k m) c0 c1 c2 c3 (op a b))∧Gr w w'):ConOK P I f (zp1 lim g op):=by
 intro args X n w T _ ha hT _
 unfold zp1 at hT
 split at hT
 ·rename_i x y
  split at hT
  ·rename_i k a m b h1 h2
   split at hT
   ·rename_i hle
    simp only [Nat.ble_eq] at hle
    cases hT
    obtain ⟨u0,u1,u2,u3,e1,f1⟩:=zf9 h1 (ha x (by simp))
    obtain ⟨v0,v1,v2,v3,e2,f2⟩:=zf9 h2 (ha y (by simp))
    simp only [List.map_cons,List.map_nil,e1,e2]
    exact (h f1 f2 hle).mono fun e w' he=>zj6 he
   ·cases hT
  ·cases hT
 ·cases hT

def zO2:SV→Option (Nat × Int)
 | .so (.vg [.cz j 0 k z,.cz j1 1 _ _])=>if Nat.beq j1 j then some (k,z) else none
 | .so (.vg [.cr j 0 k q,.cr j1 1 _ _])=>if Nat.beq j1 j then some (k,q.num) else none
 | .so (.vg [a,b])=>if falC a&&nilC b then some (64,0) else none
 | _=>none
def txC:Cl→Option (Nat × Rat)
 | .cw _ (some (k,q))=>some (k,q)
 | .cw [b] none=>if Nat.beq b.toNat 48 then some (1,0) else none
 | _=>none
def zT4:SV→Option (Nat × Rat)
 | .so (.vc c)=>txC c
 | _=>none
def as64:SV→Option Int
 | .so (.vc (.ci .i64 z lo hi))=>if ile (-9223372036854775808) lo&&ile hi 9223372036854775807 then some z else none
 | _=>none
def zv1 (j k:Nat) (z:Int):SV:=.so (.vg [.cz j 0 k z,.cz j 1 k z])
def txt (k:Nat) (q:Rat):SV:=.so (.vc (.cw (za3 q) (some (k,q))))
def sgnV (z:Int):SV:=.so (.vc (.ci .i64 z (-1) 1))
section
variable {n:Nn} {X:Env} {w w':World}
theorem zm0 {v:SV} {k:Nat} {z:Int} (h:zO2 v=some (k,z)) (hv:v.ok n X w):∃ a b,v.den X=.agg #[a,b]∧IsInt w k a b z:=by
 unfold zO2 at h
 split at h
 ·rename_i j k' q' j1 _ _
  split at h
  ·rename_i hj
   simp only [Nat.beq_eq] at hj
   subst hj
   cases h
   exact ⟨_,_,rfl,(hv (.cz j1 0 k z) (by simp)).2⟩
  ·cases h
 ·rename_i j k' q' j1 _ _
  split at h
  ·rename_i hj
   simp only [Nat.beq_eq] at hj
   subst hj
   cases h
   exact ⟨_,_,rfl,IsRat.num (hv (.cr j1 0 k q') (by simp)).2⟩
  ·cases h
 ·rename_i a b _ _
  split at h
  ·rename_i hh
   simp only [Bool.and_eq_true] at hh
   cases h
   refine ⟨.bool false,.slice none 0 0,?_,IsInt.zero w 64⟩
   simp only [SV.den,TV.den,dnL,List.map_cons,List.map_nil,zu9 hh.1 (hv a (by simp)),zv0 hh.2]
  ·cases h
 ·cases h
theorem zT5:za3 0=([48]:List UInt8):=eq_of_beq (zn7 (by kernel_rfl) (zg9 0 (by kernel_rfl) (by decide)))
theorem zp2 {c:Cl} {k:Nat} {q:Rat} (h:txC c=some (k,q)) (hv:c.ok n X w):c.den X=.string ⟨(za3 q).toArray⟩∧RS k q:=by
 unfold txC at h
 split at h
 ·rename_i l k' q'
  cases h
  obtain ⟨h1,h2⟩:=hv.2 k q rfl
  exact ⟨by rw [← h1];rfl,h2⟩
 ·rename_i b
  split at h
  ·rename_i hb
   cases h
   have:b=48:=UInt8.toNat_inj.1 (Nat.eq_of_beq_eq_true hb)
   exact ⟨by rw [zT5,this];rfl,Nat.two_pow_pos 1,Nat.one_lt_two_pow (by decide)⟩
  ·cases h
 ·cases h
theorem zg0 {v:SV} {k:Nat} {q:Rat} (h:zT4 v=some (k,q)) (hv:v.ok n X w):v.den X=.string ⟨(za3 q).toArray⟩∧Sz k q.num∧Sz k (q.den:Int):=by
 unfold zT4 at h
 split at h
 ·rename_i c
  exact zp2 h hv
 ·cases h
theorem zY2 {v:SV} {z:Int} (h:as64 v=some z) (hv:v.ok n X w):v.den X=.int .i64 z∧-9223372036854775808≤z∧z≤9223372036854775807:=by
 unfold as64 at h
 split at h
 ·split at h
  ·rename_i hh
   simp only [zh2,Bool.and_eq_true,decide_eq_true_eq] at hh
   cases h
   exact ⟨rfl,Int.le_trans hh.1 hv.2.1,Int.le_trans hv.2.2 hh.2⟩
  ·cases h
 ·cases h
def Env.pushZ (X:Env) (n:Nat) (c0 c1:Value):Env:={X with Z:=fun i c=>if i=n then (if c=0 then c0 else c1) else X.Z i c}
theorem Env.pushZ_agree (X:Env) (n:Nn) (c0 c1:Value):Agr n X (X.pushZ n.z c0 c1):=⟨fun _ _=>rfl,fun _ _ _=>rfl,fun i c hi=>by simp only [Env.pushZ];rw [if_neg (by omega)],rfl⟩
theorem zG6 {k:Nat} {z:Int} {c0 c1:Value} (h1:IsInt w' k c0 c1 z):(zv1 n.z k z).den (X.pushZ n.z c0 c1)=.agg #[c0,c1]∧(zv1 n.z k z).ok ⟨n.b,n.r,n.z+1⟩ (X.pushZ n.z c0 c1) w':=by
 refine ⟨by simp [zv1,SV.den,TV.den,dnL,Cl.den,Env.pushZ],fun c hc=>?_⟩
 have hg:IsInt w' k ((X.pushZ n.z c0 c1).Z n.z 0) ((X.pushZ n.z c0 c1).Z n.z 1) z:=by simpa [Env.pushZ] using h1
 have hlt:Nat.blt n.z (n.z+1)=true:=zm5 (by omega)
 simp only [List.mem_cons,List.not_mem_nil,or_false] at hc
 rcases hc with rfl | rfl<;>refine ⟨?_,hg⟩<;>simp only [Cl.lt,hlt]<;>rfl
theorem zh3 {e:Ending} {k:Nat} {z:Int} (h:(∃ c0 c1,e=.returned (.agg #[c0,c1])∧IsInt w' k c0 c1 z)∧Gr w w'):(Tr.leaf (zv1 n.z k z) 0 1).holds n X w e w':=by
 obtain ⟨⟨c0,c1,rfl,h1⟩,g⟩:=h
 obtain ⟨a,b⟩:=zG6 (n:=n) (X:=X) h1
 exact ⟨X.pushZ n.z c0 c1,by rw [a],g,Env.pushZ_agree _ _ _ _,b⟩
theorem yw0 {k:Nat} {q:Rat} {c0 c1 c2 c3:Value} (h1:IsRat w' k c0 c1 c2 c3 q):(zA1 n.r k q).den (X.pushR n.r c0 c1 c2 c3)=.agg #[c0,c1,c2,c3]∧(zA1 n.r k q).ok ⟨n.b,n.r+1,n.z⟩ (X.pushR n.r c0 c1 c2 c3) w':=by
 obtain ⟨X',a,b,c,d⟩:=zj6 (n:=n) (X:=X) (w:=w') (e:=.returned (.agg #[c0,c1,c2,c3])) ⟨⟨c0,c1,c2,c3,rfl,h1⟩,Gr.refl w'⟩
 refine ⟨by simp [zA1,SV.den,TV.den,dnL,Cl.den,Env.pushR],fun c hc=>?_⟩
 have hg:IsRat w' k ((X.pushR n.r c0 c1 c2 c3).R n.r 0) ((X.pushR n.r c0 c1 c2 c3).R n.r 1) ((X.pushR n.r c0 c1 c2 c3).R n.r 2) ((X.pushR n.r c0 c1 c2 c3).R n.r 3) q:=by simpa [Env.pushR] using h1
 have hlt:Nat.blt n.r (n.r+1)=true:=zm5 (by omega)
 simp only [List.mem_cons,List.not_mem_nil,or_false] at hc
 rcases hc with rfl | rfl | rfl | rfl<;>refine ⟨?_,hg⟩<;>simp only [Cl.lt,hlt]<;>rfl
def ratE (j k:Nat) (q:Rat) (e:Int):SV:=.st [.vg [.cr j 0 k q,.cr j 1 k q,.cr j 2 k q,.cr j 3 k q],.vc (.ci .i64 e e e)]
theorem zy3 {e:Ending} {k:Nat} {q:Rat} {er:Int} (h:(∃ c0 c1 c2 c3,e=.returned (.tuple #[.agg #[c0,c1,c2,c3],.int .i64 er])∧IsRat w' k c0 c1 c2 c3 q)∧Gr w w'):(Tr.leaf (ratE n.r k q er) 1 0).holds n X w e w':=by
 obtain ⟨⟨c0,c1,c2,c3,rfl,h1⟩,g⟩:=h
 obtain ⟨a,b⟩:=yw0 (n:=n) (X:=X) h1
 refine ⟨X.pushR n.r c0 c1 c2 c3,?_,g,Env.pushR_agree _ _ _ _ _ _,fun x hx=>?_⟩
 ·have a':TV.den (X.pushR n.r c0 c1 c2 c3) (.vg [.cr n.r 0 k q,.cr n.r 1 k q,.cr n.r 2 k q,.cr n.r 3 k q])=.agg #[c0,c1,c2,c3]:=a
  simp only [ratE,SV.den,List.map_cons,List.map_nil,a']
  rfl
 ·simp only [List.mem_cons,List.not_mem_nil,or_false] at hx
  rcases hx with rfl | rfl
  ·exact b
  ·exact ⟨rfl,Int.le_refl _,Int.le_refl _⟩
theorem zG7 {k:Nat} {q:Rat} (h:Sz k q.num∧Sz k (q.den:Int)):(txt k q).ok n X w:=⟨rfl,fun k' q' e=>by cases e;exact ⟨rfl,h⟩⟩
theorem zT6 (z:Int):-1≤sgn z∧sgn z≤1:=by unfold sgn;split<;>(try split)<;>decide
end
section
variable {P:Program} {I:World→Prop} {f lim:Nat}
def zY3 {α:Type} (g:SV→Option α) (c:α→Nat→Nat→Option Tr):ConT:=fun args nr nz=>match args with
 | [x]=>match g x with
  | some a=>c a nr nz
  | none=>none
 | _=>none
def con2 {α β:Type} (g:SV→Option α) (g2:SV→Option β) (c:α→β→Nat→Nat→Option Tr):ConT:=fun args nr nz=>match args with
 | [x,y]=>match g x,g2 y with
  | some a,some b=>c a b nr nz
  | _,_=>none
 | _=>none
theorem zg1 {α:Type} {g:SV→Option α} {c:α→Nat→Nat→Option Tr}
  (h:∀ (a:α) (x:SV) (n:Nn) (X:Env) (w:World) (T:Tr),I w→g x=some a→x.ok n X w→c a n.r n.z=some T→T.pre→Calls P f #[x.den X] w fun e w'=>T.holds n X w e w'):ConOK P I f (zY3 g c):=by
 intro args X n w T hI ha hT hp
 unfold zY3 at hT
 split at hT
 ·rename_i x
  split at hT
  ·rename_i a h1
   exact h a x n X w T hI h1 (ha x (by simp)) hT hp
  ·cases hT
 ·cases hT
theorem zk1 {α β:Type} {g:SV→Option α} {g2:SV→Option β} {c:α→β→Nat→Nat→Option Tr}
  (h:∀ (a:α) (b:β) (x y:SV) (n:Nn) (X:Env) (w:World) (T:Tr),I w→g x=some a→g2 y=some b→x.ok n X w→y.ok n X w→c a b n.r n.z=some T→T.pre→Calls P f #[x.den X,y.den X] w fun e w'=>T.holds n X w e w'):ConOK P I f (con2 g g2 c):=by
 intro args X n w T hI ha hT hp
 unfold con2 at hT
 split at hT
 ·rename_i x y
  split at hT
  ·rename_i a b h1 h2
   exact h a b x y n X w T hI h1 h2 (ha x (by simp)) (ha y (by simp)) hT hp
  ·cases hT
 ·cases hT
end
def tr (b:Bool) (T:Tr):Option Tr:=if b then some T else none
theorem zd5 {b:Bool} {T U:Tr} (h:tr b T=some U):b=true∧T=U:=by
 unfold tr at h
 split at h
 ·cases h;exact ⟨by assumption,rfl⟩
 ·cases h
theorem IsRat.szr {w:World} {k:Nat} {c0 c1 c2 c3:Value} {q:Rat} (h:IsRat w k c0 c1 c2 c3 q):Sz k q.num∧Sz k (q.den:Int):=by
 refine ⟨h.num.sz,?_⟩
 obtain ⟨D,h2,rfl | ⟨rfl,e⟩⟩:=h.den
 ·exact h2.sz
 ·rw [e]
  have:=h.big
  show (1:Nat)<2 ^ k
  exact Nat.one_lt_two_pow (by omega)
def cNeg:ConT:=zY3 zy2 fun | (k,a),nr,_=>some (.leaf (zA1 nr k (-a)) 1 0)
def yh9:ConT:=zY3 as64 fun z nr _=>some (.leaf (zA1 nr 64 (z:Rat)) 1 0)
def yi0:ConT:=con2 zy2 zy2 fun | (k,a),(m,b),_,_=>tr (Nat.ble (k+m) 100000) (.leaf (sgnV (yh3 a b)) 0 0)
def zY4:ConT:=zY3 zy2 fun | (_k,a),_,_=>some (.leaf (sgnV (sgn a.num)) 0 0)
def yi1:ConT:=zY3 zy2 fun | (k,a),_,_=>tr (Nat.ble k 800000) (.leaf (txt k a) 0 0)
def cNum:ConT:=zY3 zy2 fun | (k,a),_,nz=>some (.leaf (zv1 nz k a.num) 0 1)
def cDen:ConT:=zY3 zy2 fun | (k,a),_,nz=>some (.leaf (zv1 nz k (a.den:Int)) 0 1)
def cDiv:ConT:=con2 zy2 zy2 fun | (k,a),(m,b),nr,_=>tr (Nat.ble (k+m) 100000) (.br (decide (b=0)) (.leaf (.st [.vg [.cb false (some false),.cv (.slice none 0 0),.cb false (some false),.cv (.slice none 0 0)],.vc (.ci .i64 19 19 19)]) 0 0) (.leaf (ratE nr (k+m) (a/b) 0) 1 0))
def zG8:ConT:=zY3 as64 fun z _ nz=>some (.leaf (zv1 nz 64 z) 0 1)
def zY5:ConT:=con2 zO2 zO2 fun | (k,a),(m,b),_,nz=>tr (Nat.ble (k+m) 1000000) (.leaf (zv1 nz (k+m) (a*b)) 0 1)
def zY6:ConT:=con2 zO2 zO2 fun | (k,a),(m,b),_,nz=>tr (Nat.ble (k+m) 1000000) (.leaf (zv1 nz (k+m) (Int.gcd a b)) 0 1)
def zY7:ConT:=con2 zO2 zO2 fun | (k,a),(m,b),_,nz=>tr (Nat.ble (k+k+m+m+66) 1000000) (.as (decide (0<b)) (.leaf (.st [.vg [.cz nz 0 k (a/b),.cz nz 1 k (a/b)],.vg [.cz (nz+1) 0 m (a % b),.cz (nz+1) 1 m (a % b)],.vc (.ci .i64 0 0 0)]) 0 2))
def yi2:ConT:=zY3 zO2 fun | (_k,a),_,_=>some (.leaf (.st [.vc (.ci .i64 (zU2 a) (-9223372036854775808) 9223372036854775807),.vc (.cb (zn6 a) none)]) 0 0)
def cTT (g:Nat→Nat→Nat) (op:Rat→Rat→Rat):ConT:=con2 zT4 zT4 fun | (k,a),(m,b),_,_=>tr (Nat.ble (k+m) 19998) (.leaf (txt (g k m) (op a b)) 0 0)
def yi3:ConT:=con2 zT4 zT4 fun | (k,a),(m,b),_,_=>tr (Nat.ble (k+m) 19998) (.as (decide (b≠0)) (.leaf (txt (k+m) (a/b)) 0 0))
def yi4:ConT:=zY3 zT4 fun | (k,a),_,_=>tr (Nat.ble k 19998) (.leaf (txt k (-a)) 0 0)
def zL0:ConT:=zY3 as64 fun z _ _=>some (.leaf (txt 64 (z:Rat)) 0 0)
def zA6 (most:Nat):ConT:=zY3 zT4 fun | (k,a),nr,_=>tr (Nat.ble k 20000&&Nat.ble (2*k+5) most) (.leaf (ratE nr (max k 64) a 0) 1 0)
section
variable {I:World→Prop}
theorem zG9:ConOK Tryz.prog I 108 cNeg:=zg1 fun ⟨k,a⟩ x n X w T _ h1 h2 hT _=>by
 cases hT
 obtain ⟨u0,u1,u2,u3,e1,f1⟩:=zf9 h1 h2
 rw [e1]
 exact (neg_r f1).mono fun e w' he=>zj6 he
theorem zv2:ConOK Tryz.prog I 59 yh9:=zg1 fun a x n X w T _ h1 h2 hT _=>by
 cases hT
 obtain ⟨e1,h3,h4⟩:=zY2 h1 h2
 rw [e1]
 exact (zQ2 a h3 h4 w).mono fun e w' he=>zj6 he
theorem zv3:ConOK Tryz.prog I 37 yi0:=zk1 fun ⟨k,a⟩ ⟨m,b⟩ x y n X w T _ h1 h2 hx hy hT _=>by
 obtain ⟨hb,rfl⟩:=zd5 hT
 obtain ⟨u0,u1,u2,u3,e1,f1⟩:=zf9 h1 hx
 obtain ⟨v0,v1,v2,v3,e2,f2⟩:=zf9 h2 hy
 rw [e1,e2]
 exact (zQ3 f1 f2 (by simpa using hb)).mono fun e w' he=>zc4 he ⟨rfl,zT6 _⟩
theorem zq6:ConOK Tryz.prog I 76 zY4:=zg1 fun ⟨k,a⟩ x n X w T _ h1 h2 hT _=>by
 cases hT
 obtain ⟨u0,u1,u2,u3,e1,f1⟩:=zf9 h1 h2
 rw [e1]
 exact (zJ0 f1).mono fun e w' he=>zc4 he ⟨rfl,zT6 _⟩
theorem zv4 (hI:∀ w,I w→Tab w):ConOK Tryz.prog I 87 yi1:=zg1 fun ⟨k,a⟩ x n X w T hw h1 h2 hT _=>by
 obtain ⟨hb,rfl⟩:=zd5 hT
 obtain ⟨u0,u1,u2,u3,e1,f1⟩:=zf9 h1 h2
 rw [e1]
 exact (zA9 f1 (by simpa using hb) (hI w hw)).mono fun e w' he=>zc4 he (zG7 f1.szr)
theorem zy4:ConOK Tryz.prog I 130 cNum:=zg1 fun ⟨k,a⟩ x n X w T _ h1 h2 hT _=>by
 cases hT
 obtain ⟨u0,u1,u2,u3,e1,f1⟩:=zf9 h1 h2
 rw [e1]
 exact (num_r f1).mono fun e w' he=>zh3 he
theorem zy5:ConOK Tryz.prog I 81 cDen:=zg1 fun ⟨k,a⟩ x n X w T _ h1 h2 hT _=>by
 cases hT
 obtain ⟨u0,u1,u2,u3,e1,f1⟩:=zf9 h1 h2
 rw [e1]
 exact (zl5 f1).mono fun e w' he=>zh3 he
theorem num_ne {q:Rat} (h:q≠0):q.num≠0:=fun e=>h (Rat.num_eq_zero.1 e)
theorem zH0:ConOK Tryz.prog I 58 cDiv:=zk1 fun ⟨k,a⟩ ⟨m,b⟩ x y n X w T _ h1 h2 hx hy hT _=>by
 obtain ⟨hb,rfl⟩:=zd5 hT
 obtain ⟨u0,u1,u2,u3,e1,f1⟩:=zf9 h1 hx
 obtain ⟨v0,v1,v2,v3,e2,f2⟩:=zf9 h2 hy
 rw [e1,e2]
 by_cases h0:b=0
 ·refine (div_0 f1 f2 (by rw [h0];rfl)).mono fun e w' he=>⟨fun _=>zc4 he fun x hx=>?_,fun h=>absurd h0 (of_decide_eq_false h)⟩
  simp only [List.mem_cons,List.not_mem_nil,or_false] at hx
  rcases hx with rfl | rfl
  ·intro c hc
   simp only [List.mem_cons,List.not_mem_nil,or_false] at hc
   rcases hc with rfl | rfl | rfl | rfl<;>refine ⟨rfl,?_⟩<;>first | rfl | (intro v hv;cases hv;rfl)
  ·exact ⟨rfl,Int.le_refl _,Int.le_refl _⟩
 ·exact (div_a f1 f2 (by simpa using hb) (num_ne h0)).mono fun e w' he=>⟨fun h=>absurd (of_decide_eq_true h) h0,fun _=>zy3 he⟩
theorem zk6:ConOK Tryz.prog I 96 zG8:=zg1 fun a x n X w T _ h1 h2 hT _=>by
 cases hT
 obtain ⟨e1,h3,h4⟩:=zY2 h1 h2
 rw [e1]
 exact (yb1 a h3 h4 w).mono fun e w' he=>zh3 he
theorem zq7:ConOK Tryz.prog I 80 zY5:=zk1 fun ⟨k,a⟩ ⟨m,b⟩ x y n X w T _ h1 h2 hx hy hT _=>by
 obtain ⟨hb,rfl⟩:=zd5 hT
 obtain ⟨u0,u1,e1,f1⟩:=zm0 h1 hx
 obtain ⟨v0,v1,e2,f2⟩:=zm0 h2 hy
 rw [e1,e2]
 exact (zm9 f1 f2 (by simpa using hb)).mono fun e w' he=>zh3 he
theorem zq8:ConOK Tryz.prog I 122 zY6:=zk1 fun ⟨k,a⟩ ⟨m,b⟩ x y n X w T _ h1 h2 hx hy hT _=>by
 obtain ⟨hb,rfl⟩:=zd5 hT
 obtain ⟨u0,u1,e1,f1⟩:=zm0 h1 hx
 obtain ⟨v0,v1,e2,f2⟩:=zm0 h2 hy
 rw [e1,e2]
 exact (yg0 f1 f2 (by simpa using hb)).mono fun e w' he=>zh3 he
theorem zq9:ConOK Tryz.prog I 123 zY7:=zk1 fun ⟨k,a⟩ ⟨m,b⟩ x y n X w T _ h1 h2 hx hy hT hp=>by
 obtain ⟨hb,rfl⟩:=zd5 hT
 obtain ⟨u0,u1,e1,f1⟩:=zm0 h1 hx
 obtain ⟨v0,v1,e2,f2⟩:=zm0 h2 hy
 rw [e1,e2]
 refine (zt5 f1 f2 (of_decide_eq_true hp.1) (by simpa using hb)).mono fun e w' he=>?_
 obtain ⟨⟨c0,c1,c2,c3,rfl,g1,g2⟩,g⟩:=he
 have k1:=zG6 (n:=n) (X:=X) g1
 have ab:=Env.pushZ_agree X n c0 c1
 have k2:=zG6 (n:=⟨n.b,n.r,n.z+1⟩) (X:=X.pushZ n.z c0 c1) g2
 have aa:=Env.pushZ_agree (X.pushZ n.z c0 c1) ⟨n.b,n.r,n.z+1⟩ c2 c3
 refine ⟨_,?_,g,ab.trans (aa.mono ⟨Nat.le_refl _,Nat.le_refl _,Nat.le_succ _⟩),fun x hx=>?_⟩
 ·have a1:TV.den ((X.pushZ n.z c0 c1).pushZ (n.z+1) c2 c3) (.vg [.cz n.z 0 k (a/b),.cz n.z 1 k (a/b)])=.agg #[c0,c1]:=by
   rw [← TV.den_agree aa (x:=.vg _) (W:=w') k1.2];exact k1.1
  have a2:TV.den ((X.pushZ n.z c0 c1).pushZ (n.z+1) c2 c3) (.vg [.cz (n.z+1) 0 m (a % b),.cz (n.z+1) 1 m (a % b)])=.agg #[c2,c3]:=k2.1
  simp only [SV.den,List.map_cons,List.map_nil,a1,a2]
  rfl
 ·simp only [List.mem_cons,List.not_mem_nil,or_false] at hx
  rcases hx with rfl | rfl | rfl
  ·exact TV.ok_to (x:=.vg _) (m:=⟨n.b,n.r,n.z+1⟩) (n:=⟨n.b,n.r,n.z+2⟩) ⟨Nat.le_refl _,Nat.le_refl _,Nat.le_succ _⟩ aa (Kp.refl w') k1.2
  ·exact k2.2
  ·exact ⟨rfl,Int.le_refl _,Int.le_refl _⟩
theorem zv5:ConOK Tryz.prog I 68 yi2:=zg1 fun ⟨k,a⟩ x n X w T _ h1 h2 hT _=>by
 cases hT
 obtain ⟨u0,u1,e1,f1⟩:=zm0 h1 h2
 rw [e1]
 refine (int_i f1).mono fun e w' he=>zc4 he fun x hx=>?_
 simp only [List.mem_cons,List.not_mem_nil,or_false] at hx
 rcases hx with rfl | rfl
 ·refine ⟨rfl,?_⟩
  simp only [Cl.good,zU2]
  split
  ·rename_i h;simpa [zn6] using h
  ·decide
 ·exact ⟨rfl,fun v hv=>by cases hv⟩
theorem zv6:ConOK Tryz.prog I 105 (cTT (fun k m=>k+m+1) fun a b=>a+b):=zk1 fun ⟨k,a⟩ ⟨m,b⟩ x y n X w T _ h1 h2 hx hy hT _=>by
 obtain ⟨hb,rfl⟩:=zd5 hT
 obtain ⟨e1,f1⟩:=zg0 h1 hx
 obtain ⟨e2,f2⟩:=zg0 h2 hy
 rw [e1,e2]
 exact (r2_add a b f1 f2 (by simpa using hb) w).mono fun e w' he=>zc4 he (zG7 (RS.add f1 f2))
theorem zv7:ConOK Tryz.prog I 132 (cTT (fun k m=>k+m+1) fun a b=>a - b):=zk1 fun ⟨k,a⟩ ⟨m,b⟩ x y n X w T _ h1 h2 hx hy hT _=>by
 obtain ⟨hb,rfl⟩:=zd5 hT
 obtain ⟨e1,f1⟩:=zg0 h1 hx
 obtain ⟨e2,f2⟩:=zg0 h2 hy
 rw [e1,e2]
 exact (r2_sub a b f1 f2 (by simpa using hb) w).mono fun e w' he=>zc4 he (zG7 (RS.sub f1 f2))
theorem zv8:ConOK Tryz.prog I 106 (cTT (fun k m=>k+m) fun a b=>a*b):=zk1 fun ⟨k,a⟩ ⟨m,b⟩ x y n X w T _ h1 h2 hx hy hT _=>by
 obtain ⟨hb,rfl⟩:=zd5 hT
 obtain ⟨e1,f1⟩:=zg0 h1 hx
 obtain ⟨e2,f2⟩:=zg0 h2 hy
 rw [e1,e2]
 exact (r2_mul a b f1 f2 (by simpa using hb) w).mono fun e w' he=>zc4 he (zG7 (RS.mul f1 f2))
theorem zv9:ConOK Tryz.prog I 64 yi3:=zk1 fun ⟨k,a⟩ ⟨m,b⟩ x y n X w T _ h1 h2 hx hy hT hp=>by
 obtain ⟨hb,rfl⟩:=zd5 hT
 obtain ⟨e1,f1⟩:=zg0 h1 hx
 obtain ⟨e2,f2⟩:=zg0 h2 hy
 have h0:=num_ne (of_decide_eq_true hp.1)
 rw [e1,e2]
 exact (r2_div a b f1 f2 h0 (by simpa using hb) w).mono fun e w' he=>zc4 he (zG7 (RS.div f1 f2 h0))
theorem zw0:ConOK Tryz.prog I 115 yi4:=zg1 fun ⟨k,a⟩ x n X w T _ h1 h2 hT _=>by
 obtain ⟨hb,rfl⟩:=zd5 hT
 obtain ⟨e1,f1⟩:=zg0 h1 h2
 rw [e1]
 exact (r2_neg a f1 (by simpa using hb) w).mono fun e w' he=>zc4 he (zG7 (RS.neg f1))
theorem zp3:ConOK Tryz.prog I 65 zL0:=zg1 fun a x n X w T _ h1 h2 hT _=>by
 cases hT
 obtain ⟨e1,h3,h4⟩:=zY2 h1 h2
 rw [e1]
 exact (r2_from a h3 h4 w).mono fun e w' he=>zc4 he (zG7 (RS.int (show a.natAbs<2 ^ 64 by omega) (by decide)))
theorem zw1 (hI:∀ w,I w→Mx w):ConOK Tryz.prog I 94 (zA6 400):=zg1 fun ⟨k,a⟩ x n X w T hw h1 h2 hT _=>by
 obtain ⟨hb,rfl⟩:=zd5 hT
 simp only [Bool.and_eq_true,Nat.ble_eq] at hb
 obtain ⟨e1,f1⟩:=zg0 h1 h2
 rw [e1]
 have hl:=zq3 f1.1 f1.2
 exact (zL8 (k:=max k 64) a ⟨f1.1.mono (by omega),f1.2.mono (by omega)⟩ (by omega) (by omega) (by omega) w (hI w hw)).mono fun e w' he=>zy3 he
theorem zw2 (hI:∀ w,I w→Mx w):ConOK Tryz.prog I 107 (zA6 65536):=zg1 fun ⟨k,a⟩ x n X w T hw h1 h2 hT _=>by
 obtain ⟨hb,rfl⟩:=zd5 hT
 simp only [Bool.and_eq_true,Nat.ble_eq] at hb
 obtain ⟨e1,f1⟩:=zg0 h1 h2
 rw [e1]
 have hl:=zq3 f1.1 f1.2
 exact (readr_q (k:=max k 64) a ⟨f1.1.mono (by omega),f1.2.mono (by omega)⟩ (by omega) (by omega) (by omega) w (hI w hw)).mono fun e w' he=>zy3 he
end
def Kt (t:TypeId) (w w':World):Prop:=∀ (b:Nat) (cs:Array Value) (fr:Nat × Nat),w.heap[b]?=some (Obj.cells cs t fr)→w'.heap[b]?=some (Obj.cells cs t fr)
theorem Kt.refl (t:TypeId) (w:World):Kt t w w:=fun _ _ _ h=>h
theorem Kt.trans {t:TypeId} {a b c:World} (h:Kt t a b) (k:Kt t b c):Kt t a c:=fun b cs fr hb=>k b cs fr (h b cs fr hb)
theorem Gr.kt {w w':World} (h:Gr w w') (t:TypeId):Kt t w w':=fun _ _ _ hk=>h.heap hk
theorem Kt.kp {w w':World} (h:Kt 161 w w'):Kp w w':=h
theorem St.kt {w w':World} {b:Nat} {cs:Array Value} {T t:TypeId} (h:St w w' b) (hL:Lc w b cs T) (ht:t≠T):Kt t w w':=fun c ds fr hc=>by
 by_cases e:c=b
 ·subst e
  unfold Lc at hL
  rw [hc] at hL
  simp only [Option.some.injEq,Obj.cells.injEq] at hL
  exact absurd hL.2.1 ht
 ·exact (h.block c e).trans hc
theorem Wt.kt {T t:TypeId} {w w':World} (h:Wt T w w') (ht:t≠T):Kt t w w':=fun b cs fr hb=>h.block b cs _ fr ht hb
def Kts (ts:List TypeId) (w w':World):Prop:=∀ t ∈ ts,Kt t w w'
theorem Gr.kts {w w':World} (h:Gr w w') (ts:List TypeId):Kts ts w w':=fun t _=>h.kt t
theorem St.kts {w w':World} {b:Nat} {cs:Array Value} {T:TypeId} {ts:List TypeId} (h:St w w' b) (hL:Lc w b cs T) (ht:(ts.all fun t=>t !=T)=true):Kts ts w w':=fun t hm=>h.kt hL (by have:=List.all_eq_true.1 ht t hm;simpa using this)
theorem Wt.kts {w w':World} {T:TypeId} {ts:List TypeId} (h:Wt T w w') (ht:(ts.all fun t=>t !=T)=true):Kts ts w w':=fun t hm=>h.kt (by have:=List.all_eq_true.1 ht t hm;simpa using this)

section
variable {α:Type}
def Stab (E:World→α→List Value→Prop) (ts:List TypeId):Prop:=∀ w w' x vs,Kts ts w w'→E w x vs→E w' x vs
def Els (E:World→α→List Value→Prop) (c:Nat) (w:World) (ys:List Value) (xs:List α):Prop:=
 ys.length=xs.length*c∧∀ (i:Nat) (x:α),xs[i]?=some x→E w x ((ys.drop (i*c)).take c)
theorem Els.kts {E:World→α→List Value→Prop} {ts:List TypeId} {c:Nat} {w w':World} {ys:List Value} {xs:List α} (h:Els E c w ys xs) (hS:Stab E ts) (k:Kts ts w w'):Els E c w' ys xs:=
 ⟨h.1,fun i x hx=>hS _ _ _ _ k (h.2 i x hx)⟩
theorem Els.nil (E:World→α→List Value→Prop) (c:Nat) (w:World):Els E c w [] []:=⟨by simp,fun i x h=>by simp at h⟩
theorem Els.snoc {E:World→α→List Value→Prop} {c:Nat} {w:World} {ys:List Value} {xs:List α} (h:Els E c w ys xs) {x:α} {vs:List Value} (hv:vs.length=c) (hx:E w x vs):Els E c w (ys++vs) (xs++[x]):=by
 refine ⟨by simp [h.1,hv,Nat.add_mul],fun i y hy=>?_⟩
 rcases Nat.lt_or_ge i xs.length with hi | hi
 ·rw [List.getElem?_append_left hi] at hy
  have h1:i*c+c≤ys.length:=by
   rw [h.1]
   have:=Nat.mul_le_mul_right c (show i+1≤xs.length by omega)
   rw [Nat.add_mul] at this;omega
  have:=h.2 i y hy
  rw [List.drop_append_of_le_length (by omega),List.take_append_of_le_length (by rw [List.length_drop];omega)]
  exact this
 ·rw [List.getElem?_append_right hi] at hy
  have h0:i=xs.length:=by
   have:=(List.getElem?_eq_some_iff.1 hy).1
   simp at this;omega
  subst h0
  simp only [Nat.sub_self,List.getElem?_cons_zero,Option.some.injEq] at hy
  subst hy
  rw [← h.1,List.drop_left,← hv,List.take_length]
  exact hx
theorem Els.set {E:World→α→List Value→Prop} {c:Nat} {w:World} {ys:List Value} {xs:List α} (h:Els E c w ys xs) {i:Nat} (hi:i<xs.length) {x:α} {vs:List Value} (hv:vs.length=c) (hx:E w x vs):
  Els E c w (ys.take (i*c)++vs++ys.drop (i*c+c)) (xs.set i x):=by
 have hle:i*c+c≤ys.length:=by
  rw [h.1]
  have:=Nat.mul_le_mul_right c (show i+1≤xs.length by omega)
  rw [Nat.add_mul] at this;omega
 refine ⟨by rw [List.length_append,List.length_append,List.length_take,List.length_drop,List.length_set,hv,Nat.min_eq_left (by omega)];have:=h.1;omega,fun j y hy=>?_⟩
 rcases Nat.lt_trichotomy j i with hj | hj | hj
 ·rw [List.getElem?_set_ne (by omega)] at hy
  have h1:j*c+c≤i*c:=by
   have:=Nat.mul_le_mul_right c (show j+1≤i by omega)
   rw [Nat.add_mul] at this;omega
  have e:((ys.take (i*c)++vs++ys.drop (i*c+c)).drop (j*c)).take c=(ys.drop (j*c)).take c:=by
   rw [List.append_assoc,List.drop_append_of_le_length (by rw [List.length_take];omega),List.take_append_of_le_length (by rw [List.length_drop,List.length_take];omega),List.drop_take,List.take_take]
   congr 1;omega
  rw [e];exact h.2 j y hy
 ·subst hj
  rw [List.getElem?_set_self hi] at hy
  obtain rfl:=Option.some.inj hy
  have e:((ys.take (j*c)++vs++ys.drop (j*c+c)).drop (j*c)).take c=vs:=by
   have hl:(ys.take (j*c)).length=j*c:=by rw [List.length_take];omega
   rw [List.append_assoc,List.drop_append,hl,Nat.sub_self,List.drop_zero,List.drop_eq_nil_of_le (by omega),List.nil_append,List.take_append_of_le_length (by omega),List.take_of_length_le (by omega)]
  rw [e];exact hx
 ·rw [List.getElem?_set_ne (by omega)] at hy
  have h1:i*c+c≤j*c:=by
   have:=Nat.mul_le_mul_right c (show i+1≤j by omega)
   rw [Nat.add_mul] at this;omega
  have e:((ys.take (i*c)++vs++ys.drop (i*c+c)).drop (j*c)).take c=(ys.drop (j*c)).take c:=by
   have hl:(ys.take (i*c)++vs).length=i*c+c:=by rw [List.length_append,List.length_take];omega
   rw [List.drop_append,hl,List.drop_eq_nil_of_le (by omega),List.nil_append,List.drop_drop]
   congr 2;omega
  rw [e];exact h.2 j y hy
theorem Els.mono {E F:World→α→List Value→Prop} {c:Nat} {w:World} {ys:List Value} {xs:List α} (h:Els E c w ys xs) (hf:∀ x vs,E w x vs→F w x vs):Els F c w ys xs:=⟨h.1,fun i x hx=>hf _ _ (h.2 i x hx)⟩

def Cs (T:TypeId) (w:World) (v:Value) (n:Nat) (ys:List Value):Prop:=
 ∃ ao cap,v=.slice ao n cap∧n≤cap∧(0<ys.length→∃ b off cs fr,ao=some ⟨b,off,none⟩∧w.heap[b]?=some (.cells cs T fr)∧∀ j,j<ys.length→cs[off+j]?=ys[j]?)
theorem Cs.kt {T:TypeId} {w w':World} {v:Value} {n:Nat} {ys:List Value} (h:Cs T w v n ys) (k:Kt T w w'):Cs T w' v n ys:=by
 obtain ⟨ao,cap,h1,h2,h3⟩:=h
 refine ⟨ao,cap,h1,h2,fun hp=>?_⟩
 obtain ⟨b,off,cs,fr,e1,e2,e3⟩:=h3 hp
 exact ⟨b,off,cs,fr,e1,k _ _ _ e2,e3⟩
def adr (v:Value) (j:Nat):Value:=
 match v with
 | .slice (some ⟨b,off,_⟩) _ _=>.pointer (some ⟨b,off+j,none⟩)
 | _=>undef
def AtV (w:World) (v:Value) (j:Nat) (vs:List Value):Prop:=∃ b off n cap,v=.slice (some ⟨b,off,none⟩) n cap∧w.rangeAt b (off+j) vs
theorem Cs.at_ {T:TypeId} {w:World} {v:Value} {n:Nat} {ys:List Value} (h:Cs T w v n ys) (hp:0<ys.length) (j:Nat) (vs:List Value) (hv:(ys.drop j).take vs.length=vs):AtV w v j vs:=by
 obtain ⟨ao,cap,rfl,h2,h3⟩:=h
 obtain ⟨b,off,cs,fr,rfl,e2,e3⟩:=h3 hp
 refine ⟨b,off,_,_,rfl,fun i u hi=>?_⟩
 have hi':i<vs.length:=(List.getElem?_eq_some_iff.1 hi).1
 have h1:((ys.drop j).take vs.length)[i]?=vs[i]?:=by rw [hv]
 rw [List.getElem?_take_of_lt hi',List.getElem?_drop,hi] at h1
 rw [zb4 e2,Nat.add_assoc,e3 (j+i) (List.getElem?_eq_some_iff.1 h1).1]
 exact h1
def Sl (E:World→α→List Value→Prop) (T:TypeId) (c:Nat) (w:World) (v:Value) (xs:List α):Prop:=∃ ys,Cs T w v xs.length ys∧Els E c w ys xs
theorem Sl.kts {E:World→α→List Value→Prop} {ts:List TypeId} {T:TypeId} {c:Nat} {w w':World} {v:Value} {xs:List α} (h:Sl E T c w v xs) (hS:Stab E ts) (k:Kts (T::ts) w w'):Sl E T c w' v xs:=by
 obtain ⟨ys,h1,h2⟩:=h
 exact ⟨ys,h1.kt (k T (by simp)),h2.kts hS (fun t ht=>k t (by simp [ht]))⟩
theorem Sl.gr {E:World→α→List Value→Prop} {ts:List TypeId} {T:TypeId} {c:Nat} {w w':World} {v:Value} {xs:List α} (h:Sl E T c w v xs) (hS:Stab E ts) (g:Gr w w'):Sl E T c w' v xs:=h.kts hS (g.kts _)
theorem Sl.mono {E F:World→α→List Value→Prop} {T:TypeId} {c:Nat} {w:World} {v:Value} {xs:List α} (h:Sl E T c w v xs) (hf:∀ x vs,E w x vs→F w x vs):Sl F T c w v xs:=by
 obtain ⟨ys,h1,h2⟩:=h
 exact ⟨ys,h1,h2.mono hf⟩
theorem Sl.form {E:World→α→List Value→Prop} {T:TypeId} {c:Nat} {w:World} {v:Value} {xs:List α} (h:Sl E T c w v xs):∃ ao cap,v=.slice ao xs.length cap∧xs.length≤cap:=by
 obtain ⟨ys,⟨ao,cap,h1,h2,_⟩,_⟩:=h
 exact ⟨ao,cap,h1,h2⟩
theorem Sl.one {E:World→α→List Value→Prop} {T:TypeId} {c:Nat} {w:World} {v:Value} {xs:List α} (h:Sl E T c w v xs):v.oneCell'=true:=by
 obtain ⟨ao,cap,rfl,_⟩:=h.form;rfl
theorem Sl.nil (E:World→α→List Value→Prop) (T:TypeId) (c:Nat) (w:World) (ao:Option Addr) (cap:Nat):Sl E T c w (.slice ao 0 cap) ([]:List α):=
 ⟨[],⟨ao,cap,rfl,Nat.zero_le _,fun h=>by simp at h⟩,Els.nil ..⟩
theorem Sl.get {E:World→α→List Value→Prop} {T:TypeId} {c:Nat} {w:World} {v:Value} {xs:List α} (h:Sl E T c w v xs) (hc:0<c) {i:Nat} {x:α} (hx:xs[i]?=some x):∃ vs,vs.length=c∧E w x vs∧AtV w v (i*c) vs:=by
 obtain ⟨ys,h1,h2⟩:=h
 have hi:=(List.getElem?_eq_some_iff.1 hx).1
 have hle:i*c+c≤ys.length:=by
  rw [h2.1]
  have:=Nat.mul_le_mul_right c (show i+1≤xs.length by omega)
  rw [Nat.add_mul] at this;omega
 have hl:((ys.drop (i*c)).take c).length=c:=by rw [List.length_take,List.length_drop];omega
 exact ⟨_,hl,h2.2 i x hx,h1.at_ (by omega) _ _ (by rw [hl])⟩
theorem Sl.adr_some {E:World→α→List Value→Prop} {T:TypeId} {c:Nat} {w:World} {v:Value} {xs:List α} (h:Sl E T c w v xs) (hc:0<c) (hp:0<xs.length):∃ b off cap,v=.slice (some ⟨b,off,none⟩) xs.length cap:=by
 obtain ⟨ys,⟨ao,cap,h1,h2,h3⟩,h4⟩:=h
 obtain ⟨b,off,cs,fr,e1,_⟩:=h3 (by rw [h4.1];exact Nat.mul_pos hp hc)
 exact ⟨b,off,cap,by rw [h1,e1]⟩

variable {P:Program} {a:Act} {o:Oper} {w:World} {Q:Exit→Act→World→Prop} {K:Act→World→Prop} {ops:Array Oper}
theorem rv_len {E:World→α→List Value→Prop} {T:TypeId} {c:Nat} {v:Value} {xs:List α} {w0:World} (h:Sl E T c w0 v xs) (x:Operand) (t:TypeId) (hop:o.op=.call {callee:=.builtin .len,args:=#[x],argTypes:=#[t]}) (hx:a.eval x=v) {e:TypeId} (hu:P.underlying t=some (.slice e)):
  RunV P a o w (.int .i64 (xs.length:Int)):=by
 obtain ⟨ao,cap,rfl,_⟩:=h.form
 unfold RunV
 generalize a.eval=ev at*
 unfold execOp
 simp only [hop]
 simp [hx,go_sem,Builtin.len_,run_underlying hu,goInt]
theorem zS2 {E:World→α→List Value→Prop} {T:TypeId} {c:Nat} {v:Value} {xs:List α} {w0:World} (h:Sl E T c w0 v xs) (hc:0<c) (i:Nat) (hi:i<xs.length) (t:TypeId) (x y:Operand) (hop:o.op=.indexAddr t x y) (hx:a.eval x=v) (hy:a.eval y=.int .i64 (i:Int))
  {e:TypeId} (hu:P.underlying t=some (.slice e)) (hs:(P.info? e).map (·.size)=some c):RunV P a o w (adr v (i*c)):=by
 obtain ⟨b,off,cap,rfl⟩:=h.adr_some hc (by omega)
 obtain ⟨j,hj,hsz⟩:=Option.map_eq_some_iff.1 hs
 unfold RunV execOp
 simp only [hop,hx,hy]
 have h1:(0:Int)≤(i:Int)∧(i:Int)<(xs.length:Int):=by omega
 by_cases h0:i*c=0<;>simp [Instr.indexAt,asIntOf,run_underlying hu,sizeOf,typeInfo,hj,hsz,h1,hi,h0,adr,Addr.add]
theorem zF7 (vs:List Value) {v:Value} {j:Nat} (h:AtV w v j vs) (t:TypeId) (x:Operand) (hop:o.op=.load t x) (hx:a.eval x=adr v j) (hs:ze3 P t=some vs.length):RunV P a o w (.agg vs.toArray):=by
 obtain ⟨b,off,n,cap,rfl,hr⟩:=h
 have hx':a.eval x=.pointer (some ⟨b,off+j,none⟩):=hx
 unfold ze3 at hs
 unfold RunV
 cases hd:P.underlying t with
 | none=>rw [hd] at hs;cases hs
 | some d=>
  rw [hd] at hs
  have hrow:d.isRow=true∧(P.info? t).map (·.size)=some vs.length:=by
   cases d<;>first | cases hs | exact ⟨rfl,hs⟩
  unfold execOp
  simp only [hop,hx',Instr.loadAt,Instr.sureAddr,Sem.run_bind,Sem.run_pure,Result.andThen_ok,run_loadVar_mid w b (off+j) t vs d hr hd hrow.1 hrow.2]
def Mk (E:World→α→List Value→Prop) (T:TypeId) (c:Nat) (w:World) (b:Nat) (xs:List α):Prop:=∃ ys:List Value,Lc w b ys.toArray T∧Els E c w ys xs
theorem Mk.kts {E:World→α→List Value→Prop} {ts:List TypeId} {T:TypeId} {c:Nat} {w w':World} {b:Nat} {xs:List α} (h:Mk E T c w b xs) (hS:Stab E ts) (k:Kts (T::ts) w w'):Mk E T c w' b xs:=by
 obtain ⟨ys,h1,h2⟩:=h
 exact ⟨ys,k T (by simp) _ _ _ h1,h2.kts hS (fun t ht=>k t (by simp [ht]))⟩
theorem Mk.gr {E:World→α→List Value→Prop} {ts:List TypeId} {T:TypeId} {c:Nat} {w w':World} {b:Nat} {xs:List α} (h:Mk E T c w b xs) (hS:Stab E ts) (g:Gr w w'):Mk E T c w' b xs:=h.kts hS (g.kts _)
theorem Mk.lt {E:World→α→List Value→Prop} {T:TypeId} {c:Nat} {w:World} {b:Nat} {xs:List α} (h:Mk E T c w b xs):b<w.heap.size:=by
 obtain ⟨ys,h1,_⟩:=h;exact h1.lt
theorem Mk.sl {E:World→α→List Value→Prop} {T:TypeId} {c:Nat} {w:World} {b:Nat} {xs:List α} (h:Mk E T c w b xs) {cap:Nat} (hc:xs.length≤cap):Sl E T c w (.slice (some ⟨b,0,none⟩) xs.length cap) xs:=by
 obtain ⟨ys,h1,h2⟩:=h
 exact ⟨ys,⟨_,cap,rfl,hc,fun _=>⟨b,0,_,_,rfl,h1,fun j _=>by simp⟩⟩,h2⟩
theorem getD_some {d:α} {i:Nat} {xs:List α} (h:i<xs.length):xs[i]?=some (xs.getD i d):=by simp [h]
theorem AtV.gr {w w':World} {v:Value} {j:Nat} {vs:List Value} (h:AtV w v j vs) (g:Gr w w'):AtV w' v j vs:=by
 obtain ⟨b,off,n,cap,e,hr⟩:=h
 refine ⟨b,off,n,cap,e,fun i u hi=>?_⟩
 have h1:=hr i u hi
 rw [← h1]
 exact Below.cell g (p:=⟨b,off+j+i,none⟩) (World.block_lt_of_cell? w _ h1)
theorem zo9:∀ (vs:List Value) (off:Nat) (ys:List Value),off+vs.length≤ys.length→zd8 ys.toArray off vs=(ys.take off++vs++ys.drop (off+vs.length)).toArray
 | [],off,ys,_=>by simp [zd8]
 | v::vs,off,ys,h=>by
  simp only [List.length_cons] at h
  rw [zd8,List.setIfInBounds_toArray,zo9 vs (off+1) (ys.set off v) (by simp;omega)]
  congr 1
  have h1:(ys.set off v).take (off+1)=ys.take off++[v]:=by
   rw [List.take_add_one,List.take_set_of_le (Nat.le_refl _),List.getElem?_set_self (by omega)];rfl
  have h2:(ys.set off v).drop (off+1+vs.length)=ys.drop (off+(vs.length+1)):=by
   rw [List.drop_set_of_lt (by omega)];congr 1;omega
  rw [h1,h2];simp
def Ow (E:World→α→List Value→Prop) (T:TypeId) (c:Nat) (w:World) (B:Nat) (v:Value) (xs:List α):Prop:=∃ ys,w.ownsRow B T c v xs.length ys∧Els E c w ys xs
theorem yh5 {w w':World} {B T c n:Nat} {v:Value} {ys:List Value} (h:w.ownsRow B T c v n ys) (k:Kt T w w'):w'.ownsRow B T c v n ys:=by
 refine ⟨h.1,?_⟩
 rcases h.2 with hn | ⟨g,cap,cur,rfl,hb,hg,hr⟩
 ·exact .inl hn
 ·exact .inr ⟨g,cap,cur,rfl,hb,k _ _ _ hg,hr⟩
theorem Ow.kts {E:World→α→List Value→Prop} {ts:List TypeId} {T:TypeId} {c B:Nat} {w w':World} {v:Value} {xs:List α} (h:Ow E T c w B v xs) (hS:Stab E ts) (k:Kts (T::ts) w w'):Ow E T c w' B v xs:=by
 obtain ⟨ys,h1,h2⟩:=h
 exact ⟨ys,yh5 h1 (k T (by simp)),h2.kts hS (fun t ht=>k t (by simp [ht]))⟩
theorem Ow.gr {E:World→α→List Value→Prop} {ts:List TypeId} {T:TypeId} {c B:Nat} {w w':World} {v:Value} {xs:List α} (h:Ow E T c w B v xs) (hS:Stab E ts) (g:Gr w w'):Ow E T c w' B v xs:=h.kts hS (g.kts _)
theorem Ow.nil (E:World→α→List Value→Prop) (T:TypeId) (c:Nat) (w:World) (B:Nat):Ow E T c w B (.slice none 0 0) ([]:List α):=⟨[],World.ownsRow_nil ..,Els.nil ..⟩
theorem Ow.one {E:World→α→List Value→Prop} {T:TypeId} {c B:Nat} {w:World} {v:Value} {xs:List α} (h:Ow E T c w B v xs):v.oneCell'=true:=by
 obtain ⟨ys,h1,_⟩:=h
 rcases h1.2 with ⟨rfl,_⟩ | ⟨g,cap,cur,rfl,_⟩<;>rfl
theorem Ow.sl {E:World→α→List Value→Prop} {T:TypeId} {c B:Nat} {w:World} {v:Value} {xs:List α} (h:Ow E T c w B v xs):Sl E T c w v xs:=by
 obtain ⟨ys,h1,h2⟩:=h
 refine ⟨ys,?_,h2⟩
 rcases h1.2 with ⟨rfl,hn⟩ | ⟨g,cap,cur,rfl,hb,hg,h3,h4,h5,h6⟩
 ·refine ⟨none,0,by rw [hn],by omega,fun hp=>?_⟩
  rw [h2.1,hn] at hp;simp at hp
 ·refine ⟨_,cap,rfl,h3,fun _=>⟨g,0,cur,_,rfl,hg,fun j hj=>?_⟩⟩
  rw [h2.1] at hj
  have:(cur.toList.take (xs.length*c))[j]?=ys[j]?:=by rw [h6]
  rw [List.getElem?_take_of_lt hj] at this
  rw [Nat.zero_add,← this];simp
def OwNe (v:Value) (b:Nat):Prop:=∀ g n cap,v=.slice (some ⟨g,0,none⟩) n cap→g≠b
theorem Ow.ne {E:World→α→List Value→Prop} {T:TypeId} {c B b:Nat} {w:World} {v:Value} {xs:List α} (h:Ow E T c w B v xs) (hb:w.heap.size≤b):OwNe v b:=by
 obtain ⟨ys,h1,_⟩:=h
 intro g n cap e
 rcases h1.2 with ⟨hn,_⟩ | ⟨g',cap',cur,he,_,hg,_⟩
 ·rw [hn] at e;cases e
 ·rw [he] at e;cases e
  have:=zf6 hg
  omega
theorem Ow.st {E:World→α→List Value→Prop} {ts:List TypeId} {T:TypeId} {c B b:Nat} {w w':World} {v:Value} {xs:List α} (h:Ow E T c w B v xs) (hS:Stab E ts) (st:St w w' b) (hn:OwNe v b) (k:Kts ts w w'):Ow E T c w' B v xs:=by
 obtain ⟨ys,h1,h2⟩:=h
 refine ⟨ys,⟨h1.1,?_⟩,h2.kts hS k⟩
 rcases h1.2 with hv | ⟨g,cap,cur,rfl,hb,hg,hr⟩
 ·exact .inl hv
 ·exact .inr ⟨g,cap,cur,rfl,hb,by rw [st.block g (hn g _ _ rfl)];exact hg,hr⟩
theorem Ow.mono {E:World→α→List Value→Prop} {T:TypeId} {c B C:Nat} {w:World} {v:Value} {xs:List α} (h:Ow E T c w B v xs) (hC:C≤B):Ow E T c w C v xs:=by
 obtain ⟨ys,h1,h2⟩:=h
 refine ⟨ys,⟨h1.1,?_⟩,h2⟩
 rcases h1.2 with hn | ⟨g,cap,cur,rfl,hb,hg,hr⟩
 ·exact .inl hn
 ·exact .inr ⟨g,cap,cur,rfl,Nat.le_trans hC hb,hg,hr⟩
theorem eff_app {E:World→α→List Value→Prop} {ts:List TypeId} (hS:Stab E ts) (s x:Operand) (t:TypeId) (T B:Nat) (z:Value) (v:Value) (xs:List α) (b:Nat) (us:List Value) (x0:α) (c cx:Nat) (d:Option Tmp) (bytes:Nat) (hd:o.dst=d)
  (ho:o.op=.call {callee:=.builtin .append,args:=#[s,x],argTypes:=#[t,t]}) (hs:a.eval s=v) (hx:a.eval x=.slice (some ⟨b,0,none⟩) 1 cx)
  (hown:Ow E T c w B v xs) (hL:Lc w b us.toArray T) (hu:One1 us) (hl:us.length=c) (hE:E w x0 us) (w0:World) (hB:Gr w0 w) (aa:w0.heap.size≤B) (hBw:B≤w.heap.size) (hn:xs.length≤1000000) (hbytes:bytes≤1000)
  (ht:P.underlying t=some (.slice T)) (hi:(P.info? T).map (fun i=>(i.zero,i.size,i.bytes))=some (some z,c,bytes)) (hzs:z.cells.size=c∧0<c) (hT:(ts.all fun t=>t !=T)=true)
  (h:∀ v' w',Ow E T c w' B v' (xs++[x0])→Wt T w w'→Gr w0 w'→K (a.put d v') w'):o.wp P a w K Q:=by
 subst hd
 obtain ⟨ys,hown,hEl⟩:=hown
 obtain ⟨i,hi,hz,hsize,hby⟩:=info_parts hi
 have ab:(xs.length+1)*bytes≤1000001*1000:=Nat.mul_le_mul (by omega) hbytes
 refine wp_append_own w s x t ho B T i z c bytes ht hi hz hsize hby hzs.1 hzs.2 v xs.length ys hs hown ⟨b,0,none⟩ 1 cx us hx (by omega) (fun j y hj=>?_) hu.all (by unfold maxLen;omega) (by omega) hBw ?_
 ·have e:(⟨b,0,none⟩:Addr).add j=⟨b,j,none⟩:=by by_cases h0:j=0<;>simp [Addr.add,h0]
  rw [e,zb4 hL];simpa using hj
 ·intro v' w' h2 hg _
  have hown':=hown
  have hnew:∀ k,v.ownBlock=some k→B≤k∧∃ cur,w.heap[k]?=some (.cells cur T (0,0)):=by
   intro k hk
   rcases hown'.2 with ⟨rfl,_⟩ | ⟨g,cap,cur,rfl,hb,hgg,_⟩
   ·simp [Value.ownBlock] at hk
   ·simp [Value.ownBlock] at hk
    subst hk;exact ⟨hb,cur,hgg⟩
  have hwt:Wt T w w':=⟨hg.os,hg.tape,hg.output,hg.size,fun k cs t fr ht hk=>by
   rw [hg.block k (zf6 hk) (fun e=>?_)]
   ·exact hk
   ·obtain ⟨_,cur,hc⟩:=hnew k e.symm
    rw [hk] at hc
    simp only [Option.some.injEq,Obj.cells.injEq] at hc
    exact ht hc.2.1⟩
  refine h v' w' ⟨_,by simpa using h2,(hEl.snoc hl hE).kts hS (hwt.kts hT)⟩ hwt ?_
  refine Below.trans hB ⟨hg.os,hg.tape,hg.output,hg.size,fun k hk=>hg.block k (Nat.lt_of_lt_of_le hk hB.size) (fun e=>?_)⟩
  have:=(hnew k e.symm).1
  omega
theorem Sl.cases {E:World→α→List Value→Prop} {T:TypeId} {c:Nat} {w:World} {v:Value} {xs:List α} (h:Sl E T c w v xs) (hc:0<c):xs=[]∨0<xs.length∧∃ b off cap,v=.slice (some ⟨b,off,none⟩) xs.length cap:=by
 cases xs with
 | nil=>exact .inl rfl
 | cons x xs=>exact .inr ⟨by simp,h.adr_some hc (by simp)⟩
end
def ERat (k:Nat) (w:World) (q:Rat) (vs:List Value):Prop:=∃ c0 c1 c2 c3,vs=[c0,c1,c2,c3]∧IsRat w k c0 c1 c2 c3 q
theorem ERat.mono {k m:Nat} {w:World} {q:Rat} {vs:List Value} (h:ERat k w q vs) (hk:k≤m):ERat m w q vs:=by
 obtain ⟨c0,c1,c2,c3,e,hq⟩:=h
 exact ⟨c0,c1,c2,c3,e,hq.mono hk⟩
structure WideF (F:Fence):Prop where
 fn:∀ f,F.fn f
 depth:F.depth=none
 calls:∀ {n:Nat} {P:Program} {f:FuncId} {args:Array Value} {w:World} {R:Ending→World→Prop},Calls P f args w R→CallsIn F n P f args w R
 rows:∀ {n:Nat} {P:Program} {row:String} {args:Array Value} {w:World} {R:Value→World→Prop},Rows P row args w R→RowsIn F n P row args w R
theorem wide_wide:WideF Fence.wide:=
 ⟨fun _=>trivial,rfl,fun h=>callsIn_wide.2 h,fun h c cs _=>let ⟨v,w',r,s⟩:=h c cs;⟨v,w',r,stepsIn_wide.2 s⟩⟩
theorem zd6 (l:Nat):WideF (Fence.wide.inRound l):=
 ⟨fun _=>trivial,rfl,fun h=>CallsIn.inRound l (callsIn_wide.2 h),fun h=>wide_wide.rows h⟩
def zh4 (o:Oper):Bool:=match o.op with | .defer _=>false | _=>true
section
variable {P:Program} {F:Fence} {n:Nat} {a:Act} {o:Oper} {w:World} {Q:Exit→Act→World→Prop} {K:Act→World→Prop} {ops:Array Oper}
theorem zt3 (h:zh4 o=true):o.semAt F.round a.eval=execOp a.eval o:=
 Oper.semAt_eq _ _ _ (fun c e=>by unfold zh4 at h;rw [e] at h;cases h)
theorem opIn (hF:WideF F) (hd:zh4 o=true) (h:o.wp P a w K Q):o.wpIn F n P a w K Q:=by
 refine ⟨fun f _=>hF.fn f,?_⟩
 rw [zt3 hd]
 unfold Oper.wp at h
 have hdep:F.depth.isSome=true→1≤n:=by rw [hF.depth];intro e;cases e
 generalize (execOp a.eval o).run P w=r at*
 cases r with
 | ok x w'=>
  cases x with
  | value v=>exact h
  | skip=>exact h
  | defer d=>exact h
  | enter f args=>exact ⟨hdep,(hF.calls h).mono fun e w2 he=>by cases e<;>exact he⟩
  | row row args=>exact ⟨hdep,hF.rows h⟩
  | _=>exact h.elim
 | halt x w'=>cases x<;>first | exact h | exact h.elim
theorem zk3 (hF:WideF F) (hd:ops.all zh4=true) (hQ:¬ LetsOut Q):∀ (r:List Nat) (a:Act) (w:World),wpOps P ops Q r a w→wpOpsIn F n P ops Q r a w
 | [],_,_,h=>h
 | i::rest,a,w,h=>by
  unfold wpOps at h
  unfold wpOpsIn
  cases ho:ops[i]? with
  | none=>rw [ho] at h;exact zk3 hF hd hQ rest a w h
  | some o=>
   rw [ho] at h
   dsimp only at h ⊢
   have hdo:zh4 o=true:=by
    obtain ⟨hi,e⟩:=Array.getElem?_eq_some_iff.1 ho
    have:=Array.all_eq_true.1 hd i hi
    rw [e] at this;exact this
   split
   ·next hw=>
    rw [if_pos hw] at h
    rcases h with h | ⟨_,h⟩
    ·exact opIn hF hdo (Oper.wp_mono (fun a w h=>zk3 hF hd hQ rest a w h) h)
    ·exact absurd h hQ
   ·next hw=>
    rw [if_neg hw] at h
    exact ⟨fun f _=>hF.fn f,zk3 hF hd hQ rest _ w h⟩
theorem rgI (hF:WideF F) {id:Nat} (r:List Nat) (h:wpOps P ops Q r a w) (hr:List.range ops.size=r:=by rfl) (hd:ops.all zh4=true:=by kernel_rfl) (hQ:¬ LetsOut Q:=by rintro ⟨_,_,h⟩;exact h):(Code.region id ops false).wpIn F n P Q a w:=
 wpIn_region (by rw [hr];exact zk3 hF hd hQ r a w h)
theorem ordI (hF:WideF F) {id:Nat} (S:World→Prop) (l:List (Bool × Nat)) (hm:P.follows .mixedOrders=true) (hs:Region.noSelect ops=true)
  (hok:zs1 ops l (Array.replicate ops.size false)=true) (hl:l.length≤ops.size) (hQ:∀ c (a:Act) (d:Tmp) v w,Q (.panic c) (a.put (some d) v) w→Q (.panic c) a w) (hS:S w.drew)
  (h:zg3 P ops Q S l a w.drew) (hd:ops.all zh4=true:=by kernel_rfl) (aa:¬ LetsOut Q:=by rintro ⟨_,_,h⟩;exact h):(Code.region id ops true).wpIn F n P Q a w:=
 wpIn_region_draw fun t=>by
  simp only [Region.schedule,hm,Bool.true_or,if_true]
  exact zk3 hF hd aa _ _ _ (wpAny_sound ops.size t _ a _ (wpAny_of_held _ _ _ _ (zl1 hs hQ l _ _ _ _ hl hok hS h)))
variable {l:List Value} {ds:List Deferred}
theorem rgY {id:Nat} (r:List Nat) (h:wpOpsIn F n P ops Q r a w) (hr:List.range ops.size=r:=by rfl):(Code.region id ops false).wpIn F n P Q a w:=wpIn_region (by rw [hr];exact h)
theorem svY (hF:WideF F) {i:Nat} {rest:List Nat} (d:Nat) (v:Value) (h:wpOpsIn F n P ops Q rest ⟨(l.set d v).toArray,ds⟩ w) (ho:ops[i]?=some o:=by rfl) (hd:o.dst=some d:=by rfl) (hw:Region.wanted o (yielded ops (⟨l.toArray,ds⟩:Act).tmps)=true:=by kernel_rfl)
  (hv:(execOp (⟨l.toArray,ds⟩:Act).eval o).run P w=.ok (.value v) w:=by kernel_rfl) (hnd:zh4 o=true:=by kernel_rfl):wpOpsIn F n P ops Q (i::rest) ⟨l.toArray,ds⟩ w:=by
 unfold wpOpsIn
 simp only [ho,hw,if_true]
 refine opIn hF hnd ?_
 unfold Oper.wp
 rw [hv]
 show wpOpsIn F n P ops Q rest ((⟨l.toArray,ds⟩:Act).put o.dst v) w
 rw [hd,zB4];exact h
theorem swY (hF:WideF F) {i:Nat} {rest:List Nat} (d:Nat) (v:Value) (ho:ops[i]?=some o) (hv:RunV P ⟨l.toArray,ds⟩ o w v) (h:wpOpsIn F n P ops Q rest ⟨(l.set d v).toArray,ds⟩ w) (hd:o.dst=some d:=by rfl) (hw:Region.wanted o (yielded ops (⟨l.toArray,ds⟩:Act).tmps)=true:=by kernel_rfl)
  (hnd:zh4 o=true:=by kernel_rfl):wpOpsIn F n P ops Q (i::rest) ⟨l.toArray,ds⟩ w:=svY hF d v h ho hd hw hv hnd
theorem zc6 (h:Q .normal a w):wpOpsIn F n P ops Q [] a w:=h
theorem zV2 (w:World) (cs:Array Value) (t:TypeId) (off:Nat) (v:Value):(w.alloc (.cells cs t)).setCell ⟨w.heap.size,off,none⟩ v=w.alloc (.cells (cs.setIfInBounds off v) t):=by
 have e:∀ f:Obj→Obj,f (.cells cs t)=.cells (cs.setIfInBounds off v) t→(w.heap.push (.cells cs t)).modify w.heap.size f=w.heap.push (.cells (cs.setIfInBounds off v) t):=fun f hf=>by
  apply Array.ext_getElem?
  intro i
  rw [Array.getElem?_modify]
  by_cases h:w.heap.size=i
  ·subst h;simp [hf]
  ·rw [if_neg h,Array.getElem?_push,Array.getElem?_push]
   rw [if_neg (fun e=>h e.symm),if_neg (fun e=>h e.symm)]
 unfold World.setCell World.alloc
 simp only []
 rw [e _ rfl]
theorem zz2 (w:World) (t:TypeId):∀ (vs:List Value) (cs:Array Value) (off:Nat),(w.alloc (.cells cs t)).setCells w.heap.size off vs=w.alloc (.cells (zd8 cs off vs) t)
 | [],_,_=>rfl
 | v::vs,cs,off=>by
  show ((w.alloc (.cells cs t)).setCell ⟨w.heap.size,off,none⟩ v).setCells w.heap.size (off+1) vs=_
  rw [zV2,zz2 w t vs];rfl
theorem zk9 (hF:WideF F) {i j:Nat} {rest:List Nat} {o2:Oper} {y:Operand} (d t:Nat) (z:Value) (vs:List Value) (h:wpOpsIn F n P ops Q rest ⟨(l.set d (.pointer (some ⟨w.heap.size,0,none⟩))).toArray,ds⟩ (w.alloc (.cells vs.toArray t)))
  (h1:One1 vs) (ho:ops[i]?=some o:=by rfl) (ad:ops[j]?=some o2:=by rfl) (hd:o.dst=some d:=by rfl) (hop:o.op=.alloc t:=by rfl) (ab:o2.op=.store t (.tmp d) y:=by rfl) (ac:o2.dst=none:=by rfl)
  (hw:Region.wanted o (yielded ops (⟨l.toArray,ds⟩:Act).tmps)=true:=by kernel_rfl) (ae:∀ p,Region.wanted o2 (yielded ops (⟨(l.set d p).toArray,ds⟩:Act).tmps)=true:=by intro p;rfl)
  (hx:∀ p,(⟨(l.set d p).toArray,ds⟩:Act).eval (.tmp d)=p:=by intro p;rfl) (hy:∀ p,(⟨(l.set d p).toArray,ds⟩:Act).eval y=.agg vs.toArray:=by intro p;rfl)
  (hz:(P.info? t).map (fun i=>(i.zero,i.size))=some (some z,vs.length):=by kernel_rfl) (hzs:z.cells.size=vs.length:=by rfl) (hnd:zh4 o=true:=by kernel_rfl) (aa:zh4 o2=true:=by kernel_rfl):wpOpsIn F n P ops Q (i::j::rest) ⟨l.toArray,ds⟩ w:=by
 obtain ⟨info,hi,hzz⟩:=Option.map_eq_some_iff.1 hz
 simp only [Prod.mk.injEq] at hzz
 unfold wpOpsIn
 simp only [ho,hw,if_true]
 refine opIn hF hnd ?_
 unfold Oper.wp execOp
 simp only [hop,Instr.alloc,zeroValue,typeInfo,newVar,Sem.run_bind,zx6,Result.andThen_ok,Sem.run_pure,run_program,hi,hzz.1]
 show wpOpsIn F n P ops Q (j::rest) ((⟨l.toArray,ds⟩:Act).put o.dst _) _
 rw [hd,zB4]
 unfold wpOpsIn
 simp only [ad,ae,if_true]
 refine opIn hF aa ?_
 have hL:Lc (w.alloc (.cells z.cells t)) w.heap.size z.cells t:=heap_alloc_new w _
 have hrun:(storeVar t ⟨w.heap.size,0,none⟩ (.agg vs.toArray)).run P (w.alloc (.cells z.cells t))=.ok () (w.alloc (.cells vs.toArray t)):=by
  have h3:=run_storeCells_cells (P:=P) w.heap.size 0 vs 0 (w.alloc (.cells z.cells t)) (fun j hj=>by rw [Nat.add_zero,zb4 hL];simp;omega) (fun j hj=>zk7 hL _) h1.all
  simp only [Nat.add_zero] at h3
  rw [zz2] at h3
  have e:zd8 z.cells 0 vs=vs.toArray:=by
   have h4:=zo9 vs 0 z.cells.toList (by simp;omega)
   rw [Array.toArray_toList] at h4
   rw [h4]
   simp [hzs]
  rw [e] at h3
  have hc:(Value.agg vs.toArray).cells=vs.toArray:=rfl
  simp [storeVar,sizeOf,typeInfo,hi,hzz.2,hc,h3]
 unfold Oper.wp execOp
 simp only [ab,hx,hy,Instr.storeAt,Instr.sureAddr,Sem.run_bind,Sem.run_pure,Result.andThen_ok,hrun,Oper.upon,ac,Act.put]
 exact h
theorem yi9 (hF:WideF F) {i:Nat} {rest:List Nat} (d ll:Nat) {args:Array Value} {R:Ending→World→Prop} (hy:YieldAt F (n - 1) P ll args w R) (h:∀ e w',R e w'→∃ v,e=.returned v∧wpOpsIn F n P ops Q rest ⟨(l.set d v).toArray,ds⟩ w')
  (ho:ops[i]?=some o) (hd:o.dst=some d) (hw:Region.wanted o (yielded ops (⟨l.toArray,ds⟩:Act).tmps)=true)
  (hv:(execOp (⟨l.toArray,ds⟩:Act).eval o).run P w=(Instr.yield ll args).run P w) (hnd:zh4 o=true:=by kernel_rfl):wpOpsIn F n P ops Q (i::rest) ⟨l.toArray,ds⟩ w:=by
 unfold wpOpsIn
 simp only [ho,hw,if_true]
 obtain ⟨fn,tmps,assign,body,hrun,hR⟩:=hy
 refine ⟨fun f _=>hF.fn f,?_⟩
 rw [zt3 hnd,hv,hrun]
 refine ⟨(by rw [hF.depth];intro e;cases e),hR.mono fun e w' he=>?_⟩
 obtain ⟨v,rfl,hk⟩:=h e w' he
 show wpOpsIn F n P ops Q rest ((⟨l.toArray,ds⟩:Act).put o.dst v) w'
 rw [hd,zB4];exact hk
end
def encs (L:List Value) (k:Fin 12):Array Value:=#[.int .i64 (k.val:Int),.agg #[L.getD (4*k.val) undef,L.getD (4*k.val+1) undef,L.getD (4*k.val+2) undef,L.getD (4*k.val+3) undef]]
def all12:List (Fin 12):=[0,1,2,3,4,5,6,7,8,9,10,11]
set_option maxRecDepth 100000 in
set_option maxHeartbeats 4000000 in
theorem zD2 (n bm:Nat) (c0 c1 c2 c3 c4 c5 c6 c7 c8 c9 aG ap aQ ab aP aL ax aK aA aj aR az aa af aw aB av ar ac aN ad aM aH ah aC aq aJ ai aE ay aI aO ak au al ae aD aF:Value) (o0:c0.oneCell'=true) (o1:c1.oneCell'=true) (o2:c2.oneCell'=true) (o3:c3.oneCell'=true) (o4:c4.oneCell'=true) (o5:c5.oneCell'=true) (o6:c6.oneCell'=true) (o7:c7.oneCell'=true) (o8:c8.oneCell'=true) (o9:c9.oneCell'=true) (ex:aG.oneCell'=true) (ed:ap.oneCell'=true) (dU:aQ.oneCell'=true) (dq:ab.oneCell'=true) (dL:aP.oneCell'=true) (ee:aL.oneCell'=true) (cL:ax.oneCell'=true) (dC:aK.oneCell'=true) (dA:aA.oneCell'=true) (eC:aj.oneCell'=true) (cP:aR.oneCell'=true) (eM:az.oneCell'=true) (cT:aa.oneCell'=true) (eB:af.oneCell'=true) (dj:aw.oneCell'=true) (ef:aB.oneCell'=true) (cM:av.oneCell'=true) (eX:ar.oneCell'=true) (eS:ac.oneCell'=true) (di:aN.oneCell'=true) (eH:ad.oneCell'=true) (et:aM.oneCell'=true) (d4:aH.oneCell'=true) (df:ah.oneCell'=true) (dB:aC.oneCell'=true) (eP:aq.oneCell'=true) (d0:aJ.oneCell'=true) (dY:ai.oneCell'=true) (d1:aE.oneCell'=true) (dk:ay.oneCell'=true) (dD:aI.oneCell'=true) (dR:aO.oneCell'=true) (ew:ak.oneCell'=true) (dG:au.oneCell'=true) (cS:al.oneCell'=true) (dK:ae.oneCell'=true) (dl:aD.oneCell'=true) (dn:aF.oneCell'=true) (w:World) (d2:Lc w bm #[c0,c1,c2,c3,c4,c5,c6,c7,c8,c9,aG,ap,aQ,ab,aP,aL,ax,aK,aA,aj,aR,az,aa,af,aw,aB,av,ar,ac,aN,ad,aM,aH,ah,aC,aq,aJ,ai,aE,ay,aI,aO,ak,au,al,ae,aD,aF] 41):
    SeqStopsA Fence.wide n Tryz.prog 98 #[.pointer (some ⟨bm,0,none⟩)] (encs [c0,c1,c2,c3,c4,c5,c6,c7,c8,c9,aG,ap,aQ,ab,aP,aL,ax,aK,aA,aj,aR,az,aa,af,aw,aB,av,ar,ac,aN,ad,aM,aH,ah,aC,aq,aJ,ai,aE,ay,aI,aO,ak,au,al,ae,aD,aF]) (fun xs=>xs=all12) (fun pre=>∃ k,pre=all12.take k) 12 w:=fun l J Jx W hW hJ hJx hY fu=>by
  have hL:Lc W bm #[c0,c1,c2,c3,c4,c5,c6,c7,c8,c9,aG,ap,aQ,ab,aP,aL,ax,aK,aA,aj,aR,az,aa,af,aw,aB,av,ar,ac,aN,ad,aM,aH,ah,aC,aq,aJ,ai,aE,ay,aI,aO,ak,au,al,ae,aD,aF] 41:=by
    have:=hW.block bm d2.lt
    unfold Lc at*
    rw [this];exact d2
  refine callsIn_of_wp Tryz.func98 rfl trivial ?_ rfl
  simp only [Tryz.ntmps98,List.size_toArray,List.length_cons,List.length_nil,Nat.reduceAdd,Nat.reduceSub,Array.replicate_succ,Array.replicate_zero,List.push_toArray,List.append_toArray,List.nil_append,List.cons_append]
  refine wpIn_seq_k (fun K1 k1=>?_)
  refine rgY [0] ?_
  refine svY wide_wide 3 (.int .i64 0) ?_
  try simp only [p3,p4]
  refine zc6 ?_
  refine k1 _ _ ?_
  try clear k1 K1
  refine wpIn_seq_k (fun K2 k2=>?_)
  refine rgY [0,1,2,3,4,5,6,7,8,9,10,11,12] ?_
  refine svY wide_wide 8 (.pointer (some ⟨bm,0,none⟩)) ?_
  try simp only [p3,p4]
  refine svY wide_wide 9 (.pointer (some ⟨bm,0,none⟩)) ?_
  try simp only [p3,p4]
  refine swY wide_wide 10 (.agg #[c0,c1,c2,c3,c4,c5,c6,c7,c8,c9,aG,ap]) rfl (rl 38 0 [c0,c1,c2,c3,c4,c5,c6,c7,c8,c9,aG,ap] hL) ?_
  try simp only [p3,p4]
  refine svY wide_wide 11 (.pointer (some ⟨bm,0,none⟩)) ?_
  try simp only [p3,p4]
  refine svY wide_wide 12 (.pointer (some ⟨bm,12,none⟩)) ?_
  try simp only [p3,p4]
  refine swY wide_wide 13 (.agg #[aQ,ab,aP,aL,ax,aK,aA,aj,aR,az,aa,af]) rfl (rl 38 12 [aQ,ab,aP,aL,ax,aK,aA,aj,aR,az,aa,af] hL) ?_
  try simp only [p3,p4]
  refine svY wide_wide 14 (.pointer (some ⟨bm,0,none⟩)) ?_
  try simp only [p3,p4]
  refine svY wide_wide 15 (.pointer (some ⟨bm,24,none⟩)) ?_
  try simp only [p3,p4]
  refine swY wide_wide 16 (.agg #[aw,aB,av,ar,ac,aN,ad,aM,aH,ah,aC,aq]) rfl (rl 38 24 [aw,aB,av,ar,ac,aN,ad,aM,aH,ah,aC,aq] hL) ?_
  try simp only [p3,p4]
  refine svY wide_wide 17 (.pointer (some ⟨bm,36,none⟩)) ?_
  try simp only [p3,p4]
  refine swY wide_wide 18 (.agg #[aJ,ai,aE,ay,aI,aO,ak,au,al,ae,aD,aF]) rfl (rl 38 36 [aJ,ai,aE,ay,aI,aO,ak,au,al,ae,aD,aF] hL) ?_
  try simp only [p3,p4]
  refine svY wide_wide 19 (.agg #[c0,c1,c2,c3,c4,c5,c6,c7,c8,c9,aG,ap,aQ,ab,aP,aL,ax,aK,aA,aj,aR,az,aa,af,aw,aB,av,ar,ac,aN,ad,aM,aH,ah,aC,aq,aJ,ai,aE,ay,aI,aO,ak,au,al,ae,aD,aF]) ?_
  try simp only [p3,p4]
  refine svY wide_wide 20 (.int .i64 0) ?_
  try simp only [p3,p4]
  refine zc6 ?_
  refine k2 _ _ ?_
  try clear k2 K2
  refine wpIn_block ?_
  refine wpIn_loop_rounds 5 ?_
  show Code.wpIn _ _ _ _ _ _ _
  refine wpIn_seq_k (fun K3 k3=>?_)
  refine rgY [0] ?_
  refine svY wide_wide 21 (.bool true) ?_
  try simp only [p3,p4]
  refine zc6 ?_
  refine k3 _ _ ?_
  try clear k3 K3
  refine wpIn_seq_k (fun K4 k4=>?_)
  refine wpIn_cond_true rfl ?_
  refine wpIn_skip ?_
  refine k4 _ _ ?_
  try clear k4 K4
  refine wpIn_seq_k (fun K5 k5=>?_)
  refine wpIn_block ?_
  refine wpIn_seq_k (fun K6 k6=>?_)
  refine rgY [0,1,2] ?_
  refine svY wide_wide 22 (.agg #[c0,c1,c2,c3,c4,c5,c6,c7,c8,c9,aG,ap]) ?_
  try simp only [p3,p4]
  refine zk9 wide_wide 5 38 (.agg #[.bool false,.slice none 0 0,.bool false,.slice none 0 0,.bool false,.slice none 0 0,.bool false,.slice none 0 0,.bool false,.slice none 0 0,.bool false,.slice none 0 0]) [c0,c1,c2,c3,c4,c5,c6,c7,c8,c9,aG,ap] ?_ ⟨o0,o1,o2,o3,o4,o5,o6,o7,o8,o9,ex,ed,trivial⟩
  have d6:=hJ _ _ _ none fu (World.grownBy_alloc W (.cells [c0,c1,c2,c3,c4,c5,c6,c7,c8,c9,aG,ap].toArray 38) none) (fun r e=>by cases e)
  have L7:Lc _ _ #[c0,c1,c2,c3,c4,c5,c6,c7,c8,c9,aG,ap] 38:=heap_alloc_new W (.cells [c0,c1,c2,c3,c4,c5,c6,c7,c8,c9,aG,ap].toArray 38)
  generalize W.alloc (.cells [c0,c1,c2,c3,c4,c5,c6,c7,c8,c9,aG,ap].toArray 38)=w7 at d6 L7 ⊢
  try simp only [p3,p4]
  refine zc6 ?_
  refine k6 _ _ ?_
  try clear k6 K6
  refine wpIn_seq_k (fun K8 k8=>?_)
  refine rgY [0,1] ?_
  refine swY wide_wide 23 (.agg #[c0,c1,c2,c3,c4,c5,c6,c7,c8,c9,aG,ap]) rfl (rl 38 0 [c0,c1,c2,c3,c4,c5,c6,c7,c8,c9,aG,ap] L7) ?_
  try simp only [p3,p4]
  refine svY wide_wide 24 (.int .i64 0) ?_
  try simp only [p3,p4]
  refine zc6 ?_
  refine k8 _ _ ?_
  try clear k8 K8
  refine wpIn_block ?_
  refine wpIn_loop_rounds 5 ?_
  show Code.wpIn _ _ _ _ _ _ _
  refine wpIn_seq_k (fun K9 k9=>?_)
  refine rgY [0] ?_
  refine svY wide_wide 25 (.bool true) ?_
  try simp only [p3,p4]
  refine zc6 ?_
  refine k9 _ _ ?_
  try clear k9 K9
  refine wpIn_seq_k (fun fG cW=>?_)
  refine wpIn_cond_true rfl ?_
  refine wpIn_skip ?_
  refine cW _ _ ?_
  try clear cW fG
  refine wpIn_seq_k (fun fx ek=>?_)
  refine wpIn_block ?_
  refine wpIn_seq_k (fun fZ ep=>?_)
  refine rgY [0,1,2] ?_
  refine svY wide_wide 26 (.agg #[c0,c1,c2,c3]) ?_
  try simp only [p3,p4]
  refine zk9 wide_wide 7 36 (.agg #[.bool false,.slice none 0 0,.bool false,.slice none 0 0]) [c0,c1,c2,c3] ?_ ⟨o0,o1,o2,o3,trivial⟩
  have a6:=hJ _ _ _ none d6 (World.grownBy_alloc w7 (.cells [c0,c1,c2,c3].toArray 36) none) (fun r e=>by cases e)
  have dQ:Lc _ _ #[c0,c1,c2,c3] 36:=heap_alloc_new w7 (.cells [c0,c1,c2,c3].toArray 36)
  generalize w7.alloc (.cells [c0,c1,c2,c3].toArray 36)=w13 at a6 dQ ⊢
  try simp only [p3,p4]
  refine zc6 ?_
  refine ep _ _ ?_
  try clear ep fZ
  refine wpIn_seq_k (fun fd eu=>?_)
  refine wpIn_seq_k (fun dp bP=>?_)
  refine rgY [0,1,2,3,4] ?_
  refine svY wide_wide 27 (.func (.yield l) #[] #[]) ?_
  try simp only [p3,p4]
  refine svY wide_wide 28 (.int .i64 0) ?_
  try simp only [p3,p4]
  refine swY wide_wide 29 (.agg #[c0,c1,c2,c3]) rfl (rl 36 0 [c0,c1,c2,c3] dQ) ?_
  try simp only [p3,p4]
  refine yi9 wide_wide 30 l (hY [] 0 _ a6 (by decide)) ?_ rfl rfl (by kernel_rfl) (by kernel_rfl)
  rintro gl b6 (⟨rfl,hJ16,_⟩ | ⟨rfl,hx16⟩)
  ·refine ⟨_,rfl,?_⟩
   try simp only [p3,p4]
   refine svY wide_wide 31 (.bool false) ?_
   try simp only [p3,p4]
   refine zc6 ?_
   refine bP _ _ ?_
   try clear bP dp
   refine wpIn_cond_false rfl ?_
   refine wpIn_skip ?_
   refine eu _ _ ?_
   try clear eu fd
   refine rgY [0,1,2] ?_
   refine svY wide_wide 32 (.int .i64 0) ?_
   try simp only [p3,p4]
   refine svY wide_wide 33 (.int .i64 1) ?_
   try simp only [p3,p4]
   refine svY wide_wide 3 (.int .i64 1) ?_
   try simp only [p3,p4]
   refine zc6 ?_
   refine ek _ _ ?_
   try clear ek fx
   refine rgY [0,1] ?_
   refine svY wide_wide 34 (.int .i64 1) ?_
   try simp only [p3,p4]
   refine svY wide_wide 24 (.int .i64 1) ?_
   try simp only [p3,p4]
   refine zc6 ?_
   show Code.roundsIn _ _ _ _ _ _ _ _
   show Code.wpIn _ _ _ _ _ _ _
   refine wpIn_seq_k (fun f6 dS=>?_)
   refine rgY [0] ?_
   refine svY wide_wide 25 (.bool true) ?_
   try simp only [p3,p4]
   refine zc6 ?_
   refine dS _ _ ?_
   try clear dS f6
   refine wpIn_seq_k (fun fh dI=>?_)
   refine wpIn_cond_true rfl ?_
   refine wpIn_skip ?_
   refine dI _ _ ?_
   try clear dI fh
   refine wpIn_seq_k (fun fY dt=>?_)
   refine wpIn_block ?_
   refine wpIn_seq_k (fun f0 eV=>?_)
   refine rgY [0,1,2] ?_
   refine svY wide_wide 26 (.agg #[c4,c5,c6,c7]) ?_
   try simp only [p3,p4]
   refine zk9 wide_wide 7 36 (.agg #[.bool false,.slice none 0 0,.bool false,.slice none 0 0]) [c4,c5,c6,c7] ?_ ⟨o4,o5,o6,o7,trivial⟩
   have bd:=hJ _ _ _ none hJ16 (World.grownBy_alloc b6 (.cells [c4,c5,c6,c7].toArray 36) none) (fun r e=>by cases e)
   have cG:Lc _ _ #[c4,c5,c6,c7] 36:=heap_alloc_new b6 (.cells [c4,c5,c6,c7].toArray 36)
   generalize b6.alloc (.cells [c4,c5,c6,c7].toArray 36)=w21 at bd cG ⊢
   try simp only [p3,p4]
   refine zc6 ?_
   refine eV _ _ ?_
   try clear eV f0
   refine wpIn_seq_k (fun fN cQ=>?_)
   refine wpIn_seq_k (fun ez bN=>?_)
   refine rgY [0,1,2,3,4] ?_
   refine svY wide_wide 27 (.func (.yield l) #[] #[]) ?_
   try simp only [p3,p4]
   refine svY wide_wide 28 (.int .i64 1) ?_
   try simp only [p3,p4]
   refine swY wide_wide 29 (.agg #[c4,c5,c6,c7]) rfl (rl 36 0 [c4,c5,c6,c7] cG) ?_
   try simp only [p3,p4]
   refine yi9 wide_wide 30 l (hY [0] 1 _ bd (by decide)) ?_ rfl rfl (by kernel_rfl) (by kernel_rfl)
   rintro gf bY (⟨rfl,hJ24,_⟩ | ⟨rfl,hx24⟩)
   ·refine ⟨_,rfl,?_⟩
    try simp only [p3,p4]
    refine svY wide_wide 31 (.bool false) ?_
    try simp only [p3,p4]
    refine zc6 ?_
    refine bN _ _ ?_
    try clear bN ez
    refine wpIn_cond_false rfl ?_
    refine wpIn_skip ?_
    refine cQ _ _ ?_
    try clear cQ fN
    refine rgY [0,1,2] ?_
    refine svY wide_wide 32 (.int .i64 1) ?_
    try simp only [p3,p4]
    refine svY wide_wide 33 (.int .i64 2) ?_
    try simp only [p3,p4]
    refine svY wide_wide 3 (.int .i64 2) ?_
    try simp only [p3,p4]
    refine zc6 ?_
    refine dt _ _ ?_
    try clear dt fY
    refine rgY [0,1] ?_
    refine svY wide_wide 34 (.int .i64 2) ?_
    try simp only [p3,p4]
    refine svY wide_wide 24 (.int .i64 2) ?_
    try simp only [p3,p4]
    refine zc6 ?_
    show Code.roundsIn _ _ _ _ _ _ _ _
    show Code.wpIn _ _ _ _ _ _ _
    refine wpIn_seq_k (fun fK em=>?_)
    refine rgY [0] ?_
    refine svY wide_wide 25 (.bool true) ?_
    try simp only [p3,p4]
    refine zc6 ?_
    refine em _ _ ?_
    try clear em fK
    refine wpIn_seq_k (fun fi ei=>?_)
    refine wpIn_cond_true rfl ?_
    refine wpIn_skip ?_
    refine ei _ _ ?_
    try clear ei fi
    refine wpIn_seq_k (fun f1 eJ=>?_)
    refine wpIn_block ?_
    refine wpIn_seq_k (fun e1 dV=>?_)
    refine rgY [0,1,2] ?_
    refine svY wide_wide 26 (.agg #[c8,c9,aG,ap]) ?_
    try simp only [p3,p4]
    refine zk9 wide_wide 7 36 (.agg #[.bool false,.slice none 0 0,.bool false,.slice none 0 0]) [c8,c9,aG,ap] ?_ ⟨o8,o9,ex,ed,trivial⟩
    have bf:=hJ _ _ _ none hJ24 (World.grownBy_alloc bY (.cells [c8,c9,aG,ap].toArray 36) none) (fun r e=>by cases e)
    have dJ:Lc _ _ #[c8,c9,aG,ap] 36:=heap_alloc_new bY (.cells [c8,c9,aG,ap].toArray 36)
    generalize bY.alloc (.cells [c8,c9,aG,ap].toArray 36)=w29 at bf dJ ⊢
    try simp only [p3,p4]
    refine zc6 ?_
    refine dV _ _ ?_
    try clear dV e1
    refine wpIn_seq_k (fun e0 cR=>?_)
    refine wpIn_seq_k (fun cE bQ=>?_)
    refine rgY [0,1,2,3,4] ?_
    refine svY wide_wide 27 (.func (.yield l) #[] #[]) ?_
    try simp only [p3,p4]
    refine svY wide_wide 28 (.int .i64 2) ?_
    try simp only [p3,p4]
    refine swY wide_wide 29 (.agg #[c8,c9,aG,ap]) rfl (rl 36 0 [c8,c9,aG,ap] dJ) ?_
    try simp only [p3,p4]
    refine yi9 wide_wide 30 l (hY [0,1] 2 _ bf (by decide)) ?_ rfl rfl (by kernel_rfl) (by kernel_rfl)
    rintro e32 cg (⟨rfl,hJ32,_⟩ | ⟨rfl,hx32⟩)
    ·refine ⟨_,rfl,?_⟩
     try simp only [p3,p4]
     refine svY wide_wide 31 (.bool false) ?_
     try simp only [p3,p4]
     refine zc6 ?_
     refine bQ _ _ ?_
     try clear bQ cE
     refine wpIn_cond_false rfl ?_
     refine wpIn_skip ?_
     refine cR _ _ ?_
     try clear cR e0
     refine rgY [0,1,2] ?_
     refine svY wide_wide 32 (.int .i64 2) ?_
     try simp only [p3,p4]
     refine svY wide_wide 33 (.int .i64 3) ?_
     try simp only [p3,p4]
     refine svY wide_wide 3 (.int .i64 3) ?_
     try simp only [p3,p4]
     refine zc6 ?_
     refine eJ _ _ ?_
     try clear eJ f1
     refine rgY [0,1] ?_
     refine svY wide_wide 34 (.int .i64 3) ?_
     try simp only [p3,p4]
     refine svY wide_wide 24 (.int .i64 3) ?_
     try simp only [p3,p4]
     refine zc6 ?_
     show Code.roundsIn _ _ _ _ _ _ _ _
     show Code.wpIn _ _ _ _ _ _ _
     refine wpIn_seq_k (fun eZ cF=>?_)
     refine rgY [0] ?_
     refine svY wide_wide 25 (.bool false) ?_
     try simp only [p3,p4]
     refine zc6 ?_
     refine cF _ _ ?_
     try clear cF eZ
     refine wpIn_seq_k (fun gb gk=>?_)
     refine wpIn_cond_false rfl ?_
     refine wpIn_exit ?_
     simp only [Exit.then,Exit.inBlock,↓reduceIte]
     refine k5 _ _ ?_
     try clear k5 K5
     refine rgY [0,1] ?_
     refine svY wide_wide 35 (.int .i64 1) ?_
     try simp only [p3,p4]
     refine svY wide_wide 20 (.int .i64 1) ?_
     try simp only [p3,p4]
     refine zc6 ?_
     show Code.roundsIn _ _ _ _ _ _ _ _
     show Code.wpIn _ _ _ _ _ _ _
     refine wpIn_seq_k (fun fy dZ=>?_)
     refine rgY [0] ?_
     refine svY wide_wide 21 (.bool true) ?_
     try simp only [p3,p4]
     refine zc6 ?_
     refine dZ _ _ ?_
     try clear dZ fy
     refine wpIn_seq_k (fun fz dy=>?_)
     refine wpIn_cond_true rfl ?_
     refine wpIn_skip ?_
     refine dy _ _ ?_
     try clear dy fz
     refine wpIn_seq_k (fun fP eQ=>?_)
     refine wpIn_block ?_
     refine wpIn_seq_k (fun fB dW=>?_)
     refine rgY [0,1,2] ?_
     refine svY wide_wide 22 (.agg #[aQ,ab,aP,aL,ax,aK,aA,aj,aR,az,aa,af]) ?_
     try simp only [p3,p4]
     refine zk9 wide_wide 5 38 (.agg #[.bool false,.slice none 0 0,.bool false,.slice none 0 0,.bool false,.slice none 0 0,.bool false,.slice none 0 0,.bool false,.slice none 0 0,.bool false,.slice none 0 0]) [aQ,ab,aP,aL,ax,aK,aA,aj,aR,az,aa,af] ?_ ⟨dU,dq,dL,ee,cL,dC,dA,eC,cP,eM,cT,eB,trivial⟩
     have a8:=hJ _ _ _ none hJ32 (World.grownBy_alloc cg (.cells [aQ,ab,aP,aL,ax,aK,aA,aj,aR,az,aa,af].toArray 38) none) (fun r e=>by cases e)
     have eR:Lc _ _ #[aQ,ab,aP,aL,ax,aK,aA,aj,aR,az,aa,af] 38:=heap_alloc_new cg (.cells [aQ,ab,aP,aL,ax,aK,aA,aj,aR,az,aa,af].toArray 38)
     generalize cg.alloc (.cells [aQ,ab,aP,aL,ax,aK,aA,aj,aR,az,aa,af].toArray 38)=bX at a8 eR ⊢
     try simp only [p3,p4]
     refine zc6 ?_
     refine dW _ _ ?_
     try clear dW fB
     refine wpIn_seq_k (fun f8 d7=>?_)
     refine rgY [0,1] ?_
     refine swY wide_wide 23 (.agg #[aQ,ab,aP,aL,ax,aK,aA,aj,aR,az,aa,af]) rfl (rl 38 0 [aQ,ab,aP,aL,ax,aK,aA,aj,aR,az,aa,af] eR) ?_
     try simp only [p3,p4]
     refine svY wide_wide 24 (.int .i64 0) ?_
     try simp only [p3,p4]
     refine zc6 ?_
     refine d7 _ _ ?_
     try clear d7 f8
     refine wpIn_block ?_
     refine wpIn_loop_rounds 5 ?_
     show Code.wpIn _ _ _ _ _ _ _
     refine wpIn_seq_k (fun fq eI=>?_)
     refine rgY [0] ?_
     refine svY wide_wide 25 (.bool true) ?_
     try simp only [p3,p4]
     refine zc6 ?_
     refine eI _ _ ?_
     try clear eI fq
     refine wpIn_seq_k (fun fo eT=>?_)
     refine wpIn_cond_true rfl ?_
     refine wpIn_skip ?_
     refine eT _ _ ?_
     try clear eT fo
     refine wpIn_seq_k (fun fD cZ=>?_)
     refine wpIn_block ?_
     refine wpIn_seq_k (fun e8 du=>?_)
     refine rgY [0,1,2] ?_
     refine svY wide_wide 26 (.agg #[aQ,ab,aP,aL]) ?_
     try simp only [p3,p4]
     refine zk9 wide_wide 7 36 (.agg #[.bool false,.slice none 0 0,.bool false,.slice none 0 0]) [aQ,ab,aP,aL] ?_ ⟨dU,dq,dL,ee,trivial⟩
     have bq:=hJ _ _ _ none a8 (World.grownBy_alloc bX (.cells [aQ,ab,aP,aL].toArray 36) none) (fun r e=>by cases e)
     have dN:Lc _ _ #[aQ,ab,aP,aL] 36:=heap_alloc_new bX (.cells [aQ,ab,aP,aL].toArray 36)
     generalize bX.alloc (.cells [aQ,ab,aP,aL].toArray 36)=w45 at bq dN ⊢
     try simp only [p3,p4]
     refine zc6 ?_
     refine du _ _ ?_
     try clear du e8
     refine wpIn_seq_k (fun fE cV=>?_)
     refine wpIn_seq_k (fun dc bO=>?_)
     refine rgY [0,1,2,3,4] ?_
     refine svY wide_wide 27 (.func (.yield l) #[] #[]) ?_
     try simp only [p3,p4]
     refine svY wide_wide 28 (.int .i64 3) ?_
     try simp only [p3,p4]
     refine swY wide_wide 29 (.agg #[aQ,ab,aP,aL]) rfl (rl 36 0 [aQ,ab,aP,aL] dN) ?_
     try simp only [p3,p4]
     refine yi9 wide_wide 30 l (hY [0,1,2] 3 _ bq (by decide)) ?_ rfl rfl (by kernel_rfl) (by kernel_rfl)
     rintro gd cd (⟨rfl,hJ48,_⟩ | ⟨rfl,hx48⟩)
     ·refine ⟨_,rfl,?_⟩
      try simp only [p3,p4]
      refine svY wide_wide 31 (.bool false) ?_
      try simp only [p3,p4]
      refine zc6 ?_
      refine bO _ _ ?_
      try clear bO dc
      refine wpIn_cond_false rfl ?_
      refine wpIn_skip ?_
      refine cV _ _ ?_
      try clear cV fE
      refine rgY [0,1,2] ?_
      refine svY wide_wide 32 (.int .i64 3) ?_
      try simp only [p3,p4]
      refine svY wide_wide 33 (.int .i64 4) ?_
      try simp only [p3,p4]
      refine svY wide_wide 3 (.int .i64 4) ?_
      try simp only [p3,p4]
      refine zc6 ?_
      refine cZ _ _ ?_
      try clear cZ fD
      refine rgY [0,1] ?_
      refine svY wide_wide 34 (.int .i64 1) ?_
      try simp only [p3,p4]
      refine svY wide_wide 24 (.int .i64 1) ?_
      try simp only [p3,p4]
      refine zc6 ?_
      show Code.roundsIn _ _ _ _ _ _ _ _
      show Code.wpIn _ _ _ _ _ _ _
      refine wpIn_seq_k (fun fH dO=>?_)
      refine rgY [0] ?_
      refine svY wide_wide 25 (.bool true) ?_
      try simp only [p3,p4]
      refine zc6 ?_
      refine dO _ _ ?_
      try clear dO fH
      refine wpIn_seq_k (fun fR eN=>?_)
      refine wpIn_cond_true rfl ?_
      refine wpIn_skip ?_
      refine eN _ _ ?_
      try clear eN fR
      refine wpIn_seq_k (fun eY dF=>?_)
      refine wpIn_block ?_
      refine wpIn_seq_k (fun fe cK=>?_)
      refine rgY [0,1,2] ?_
      refine svY wide_wide 26 (.agg #[ax,aK,aA,aj]) ?_
      try simp only [p3,p4]
      refine zk9 wide_wide 7 36 (.agg #[.bool false,.slice none 0 0,.bool false,.slice none 0 0]) [ax,aK,aA,aj] ?_ ⟨cL,dC,dA,eC,trivial⟩
      have a5:=hJ _ _ _ none hJ48 (World.grownBy_alloc cd (.cells [ax,aK,aA,aj].toArray 36) none) (fun r e=>by cases e)
      have dw:Lc _ _ #[ax,aK,aA,aj] 36:=heap_alloc_new cd (.cells [ax,aK,aA,aj].toArray 36)
      generalize cd.alloc (.cells [ax,aK,aA,aj].toArray 36)=w53 at a5 dw ⊢
      try simp only [p3,p4]
      refine zc6 ?_
      refine cK _ _ ?_
      try clear cK fe
      refine wpIn_seq_k (fun fQ el=>?_)
      refine wpIn_seq_k (fun dv bS=>?_)
      refine rgY [0,1,2,3,4] ?_
      refine svY wide_wide 27 (.func (.yield l) #[] #[]) ?_
      try simp only [p3,p4]
      refine svY wide_wide 28 (.int .i64 4) ?_
      try simp only [p3,p4]
      refine swY wide_wide 29 (.agg #[ax,aK,aA,aj]) rfl (rl 36 0 [ax,aK,aA,aj] dw) ?_
      try simp only [p3,p4]
      refine yi9 wide_wide 30 l (hY [0,1,2,3] 4 _ a5 (by decide)) ?_ rfl rfl (by kernel_rfl) (by kernel_rfl)
      rintro gc ck (⟨rfl,hJ56,_⟩ | ⟨rfl,hx56⟩)
      ·refine ⟨_,rfl,?_⟩
       try simp only [p3,p4]
       refine svY wide_wide 31 (.bool false) ?_
       try simp only [p3,p4]
       refine zc6 ?_
       refine bS _ _ ?_
       try clear bS dv
       refine wpIn_cond_false rfl ?_
       refine wpIn_skip ?_
       refine el _ _ ?_
       try clear el fQ
       refine rgY [0,1,2] ?_
       refine svY wide_wide 32 (.int .i64 4) ?_
       try simp only [p3,p4]
       refine svY wide_wide 33 (.int .i64 5) ?_
       try simp only [p3,p4]
       refine svY wide_wide 3 (.int .i64 5) ?_
       try simp only [p3,p4]
       refine zc6 ?_
       refine dF _ _ ?_
       try clear dF eY
       refine rgY [0,1] ?_
       refine svY wide_wide 34 (.int .i64 2) ?_
       try simp only [p3,p4]
       refine svY wide_wide 24 (.int .i64 2) ?_
       try simp only [p3,p4]
       refine zc6 ?_
       show Code.roundsIn _ _ _ _ _ _ _ _
       show Code.wpIn _ _ _ _ _ _ _
       refine wpIn_seq_k (fun fM eO=>?_)
       refine rgY [0] ?_
       refine svY wide_wide 25 (.bool true) ?_
       try simp only [p3,p4]
       refine zc6 ?_
       refine eO _ _ ?_
       try clear eO fM
       refine wpIn_seq_k (fun fU dT=>?_)
       refine wpIn_cond_true rfl ?_
       refine wpIn_skip ?_
       refine dT _ _ ?_
       try clear dT fU
       refine wpIn_seq_k (fun f5 cY=>?_)
       refine wpIn_block ?_
       refine wpIn_seq_k (fun e9 dH=>?_)
       refine rgY [0,1,2] ?_
       refine svY wide_wide 26 (.agg #[aR,az,aa,af]) ?_
       try simp only [p3,p4]
       refine zk9 wide_wide 7 36 (.agg #[.bool false,.slice none 0 0,.bool false,.slice none 0 0]) [aR,az,aa,af] ?_ ⟨cP,eM,cT,eB,trivial⟩
       have bD:=hJ _ _ _ none hJ56 (World.grownBy_alloc ck (.cells [aR,az,aa,af].toArray 36) none) (fun r e=>by cases e)
       have d5:Lc _ _ #[aR,az,aa,af] 36:=heap_alloc_new ck (.cells [aR,az,aa,af].toArray 36)
       generalize ck.alloc (.cells [aR,az,aa,af].toArray 36)=w61 at bD d5 ⊢
       try simp only [p3,p4]
       refine zc6 ?_
       refine dH _ _ ?_
       try clear dH e9
       refine wpIn_seq_k (fun e5 eL=>?_)
       refine wpIn_seq_k (fun dx bR=>?_)
       refine rgY [0,1,2,3,4] ?_
       refine svY wide_wide 27 (.func (.yield l) #[] #[]) ?_
       try simp only [p3,p4]
       refine svY wide_wide 28 (.int .i64 5) ?_
       try simp only [p3,p4]
       refine swY wide_wide 29 (.agg #[aR,az,aa,af]) rfl (rl 36 0 [aR,az,aa,af] d5) ?_
       try simp only [p3,p4]
       refine yi9 wide_wide 30 l (hY [0,1,2,3,4] 5 _ bD (by decide)) ?_ rfl rfl (by kernel_rfl) (by kernel_rfl)
       rintro ga cC (⟨rfl,hJ64,_⟩ | ⟨rfl,hx64⟩)
       ·refine ⟨_,rfl,?_⟩
        try simp only [p3,p4]
        refine svY wide_wide 31 (.bool false) ?_
        try simp only [p3,p4]
        refine zc6 ?_
        refine bR _ _ ?_
        try clear bR dx
        refine wpIn_cond_false rfl ?_
        refine wpIn_skip ?_
        refine eL _ _ ?_
        try clear eL e5
        refine rgY [0,1,2] ?_
        refine svY wide_wide 32 (.int .i64 5) ?_
        try simp only [p3,p4]
        refine svY wide_wide 33 (.int .i64 6) ?_
        try simp only [p3,p4]
        refine svY wide_wide 3 (.int .i64 6) ?_
        try simp only [p3,p4]
        refine zc6 ?_
        refine cY _ _ ?_
        try clear cY f5
        refine rgY [0,1] ?_
        refine svY wide_wide 34 (.int .i64 3) ?_
        try simp only [p3,p4]
        refine svY wide_wide 24 (.int .i64 3) ?_
        try simp only [p3,p4]
        refine zc6 ?_
        show Code.roundsIn _ _ _ _ _ _ _ _
        show Code.wpIn _ _ _ _ _ _ _
        refine wpIn_seq_k (fun f4 db=>?_)
        refine rgY [0] ?_
        refine svY wide_wide 25 (.bool false) ?_
        try simp only [p3,p4]
        refine zc6 ?_
        refine db _ _ ?_
        try clear db f4
        refine wpIn_seq_k (fun ge f9=>?_)
        refine wpIn_cond_false rfl ?_
        refine wpIn_exit ?_
        simp only [Exit.then,Exit.inBlock,↓reduceIte]
        refine eQ _ _ ?_
        try clear eQ fP
        refine rgY [0,1] ?_
        refine svY wide_wide 35 (.int .i64 2) ?_
        try simp only [p3,p4]
        refine svY wide_wide 20 (.int .i64 2) ?_
        try simp only [p3,p4]
        refine zc6 ?_
        show Code.roundsIn _ _ _ _ _ _ _ _
        show Code.wpIn _ _ _ _ _ _ _
        refine wpIn_seq_k (fun fg cX=>?_)
        refine rgY [0] ?_
        refine svY wide_wide 21 (.bool true) ?_
        try simp only [p3,p4]
        refine zc6 ?_
        refine cX _ _ ?_
        try clear cX fg
        refine wpIn_seq_k (fun fJ cH=>?_)
        refine wpIn_cond_true rfl ?_
        refine wpIn_skip ?_
        refine cH _ _ ?_
        try clear cH fJ
        refine wpIn_seq_k (fun ff eA=>?_)
        refine wpIn_block ?_
        refine wpIn_seq_k (fun fc eF=>?_)
        refine rgY [0,1,2] ?_
        refine svY wide_wide 22 (.agg #[aw,aB,av,ar,ac,aN,ad,aM,aH,ah,aC,aq]) ?_
        try simp only [p3,p4]
        refine zk9 wide_wide 5 38 (.agg #[.bool false,.slice none 0 0,.bool false,.slice none 0 0,.bool false,.slice none 0 0,.bool false,.slice none 0 0,.bool false,.slice none 0 0,.bool false,.slice none 0 0]) [aw,aB,av,ar,ac,aN,ad,aM,aH,ah,aC,aq] ?_ ⟨dj,ef,cM,eX,eS,di,eH,et,d4,df,dB,eP,trivial⟩
        have bL:=hJ _ _ _ none hJ64 (World.grownBy_alloc cC (.cells [aw,aB,av,ar,ac,aN,ad,aM,aH,ah,aC,aq].toArray 38) none) (fun r e=>by cases e)
        have d8:Lc _ _ #[aw,aB,av,ar,ac,aN,ad,aM,aH,ah,aC,aq] 38:=heap_alloc_new cC (.cells [aw,aB,av,ar,ac,aN,ad,aM,aH,ah,aC,aq].toArray 38)
        generalize cC.alloc (.cells [aw,aB,av,ar,ac,aN,ad,aM,aH,ah,aC,aq].toArray 38)=ct at bL d8 ⊢
        try simp only [p3,p4]
        refine zc6 ?_
        refine eF _ _ ?_
        try clear eF fc
        refine wpIn_seq_k (fun fj eE=>?_)
        refine rgY [0,1] ?_
        refine swY wide_wide 23 (.agg #[aw,aB,av,ar,ac,aN,ad,aM,aH,ah,aC,aq]) rfl (rl 38 0 [aw,aB,av,ar,ac,aN,ad,aM,aH,ah,aC,aq] d8) ?_
        try simp only [p3,p4]
        refine svY wide_wide 24 (.int .i64 0) ?_
        try simp only [p3,p4]
        refine zc6 ?_
        refine eE _ _ ?_
        try clear eE fj
        refine wpIn_block ?_
        refine wpIn_loop_rounds 5 ?_
        show Code.wpIn _ _ _ _ _ _ _
        refine wpIn_seq_k (fun fL dE=>?_)
        refine rgY [0] ?_
        refine svY wide_wide 25 (.bool true) ?_
        try simp only [p3,p4]
        refine zc6 ?_
        refine dE _ _ ?_
        try clear dE fL
        refine wpIn_seq_k (fun fs eW=>?_)
        refine wpIn_cond_true rfl ?_
        refine wpIn_skip ?_
        refine eW _ _ ?_
        try clear eW fs
        refine wpIn_seq_k (fun f7 cO=>?_)
        refine wpIn_block ?_
        refine wpIn_seq_k (fun f2 cN=>?_)
        refine rgY [0,1,2] ?_
        refine svY wide_wide 26 (.agg #[aw,aB,av,ar]) ?_
        try simp only [p3,p4]
        refine zk9 wide_wide 7 36 (.agg #[.bool false,.slice none 0 0,.bool false,.slice none 0 0]) [aw,aB,av,ar] ?_ ⟨dj,ef,cM,eX,trivial⟩
        have a7:=hJ _ _ _ none bL (World.grownBy_alloc ct (.cells [aw,aB,av,ar].toArray 36) none) (fun r e=>by cases e)
        have ej:Lc _ _ #[aw,aB,av,ar] 36:=heap_alloc_new ct (.cells [aw,aB,av,ar].toArray 36)
        generalize ct.alloc (.cells [aw,aB,av,ar].toArray 36)=w77 at a7 ej ⊢
        try simp only [p3,p4]
        refine zc6 ?_
        refine cN _ _ ?_
        try clear cN f2
        refine wpIn_seq_k (fun fI da=>?_)
        refine wpIn_seq_k (fun dM bU=>?_)
        refine rgY [0,1,2,3,4] ?_
        refine svY wide_wide 27 (.func (.yield l) #[] #[]) ?_
        try simp only [p3,p4]
        refine svY wide_wide 28 (.int .i64 6) ?_
        try simp only [p3,p4]
        refine swY wide_wide 29 (.agg #[aw,aB,av,ar]) rfl (rl 36 0 [aw,aB,av,ar] ej) ?_
        try simp only [p3,p4]
        refine yi9 wide_wide 30 l (hY [0,1,2,3,4,5] 6 _ a7 (by decide)) ?_ rfl rfl (by kernel_rfl) (by kernel_rfl)
        rintro gh ce (⟨rfl,hJ80,_⟩ | ⟨rfl,hx80⟩)
        ·refine ⟨_,rfl,?_⟩
         try simp only [p3,p4]
         refine svY wide_wide 31 (.bool false) ?_
         try simp only [p3,p4]
         refine zc6 ?_
         refine bU _ _ ?_
         try clear bU dM
         refine wpIn_cond_false rfl ?_
         refine wpIn_skip ?_
         refine da _ _ ?_
         try clear da fI
         refine rgY [0,1,2] ?_
         refine svY wide_wide 32 (.int .i64 6) ?_
         try simp only [p3,p4]
         refine svY wide_wide 33 (.int .i64 7) ?_
         try simp only [p3,p4]
         refine svY wide_wide 3 (.int .i64 7) ?_
         try simp only [p3,p4]
         refine zc6 ?_
         refine cO _ _ ?_
         try clear cO f7
         refine rgY [0,1] ?_
         refine svY wide_wide 34 (.int .i64 1) ?_
         try simp only [p3,p4]
         refine svY wide_wide 24 (.int .i64 1) ?_
         try simp only [p3,p4]
         refine zc6 ?_
         show Code.roundsIn _ _ _ _ _ _ _ _
         show Code.wpIn _ _ _ _ _ _ _
         refine wpIn_seq_k (fun fF cJ=>?_)
         refine rgY [0] ?_
         refine svY wide_wide 25 (.bool true) ?_
         try simp only [p3,p4]
         refine zc6 ?_
         refine cJ _ _ ?_
         try clear cJ fF
         refine wpIn_seq_k (fun e7 en=>?_)
         refine wpIn_cond_true rfl ?_
         refine wpIn_skip ?_
         refine en _ _ ?_
         try clear en e7
         refine wpIn_seq_k (fun fO dh=>?_)
         refine wpIn_block ?_
         refine wpIn_seq_k (fun fW dd=>?_)
         refine rgY [0,1,2] ?_
         refine svY wide_wide 26 (.agg #[ac,aN,ad,aM]) ?_
         try simp only [p3,p4]
         refine zk9 wide_wide 7 36 (.agg #[.bool false,.slice none 0 0,.bool false,.slice none 0 0]) [ac,aN,ad,aM] ?_ ⟨eS,di,eH,et,trivial⟩
         have bx:=hJ _ _ _ none hJ80 (World.grownBy_alloc ce (.cells [ac,aN,ad,aM].toArray 36) none) (fun r e=>by cases e)
         have eD:Lc _ _ #[ac,aN,ad,aM] 36:=heap_alloc_new ce (.cells [ac,aN,ad,aM].toArray 36)
         generalize ce.alloc (.cells [ac,aN,ad,aM].toArray 36)=w85 at bx eD ⊢
         try simp only [p3,p4]
         refine zc6 ?_
         refine dd _ _ ?_
         try clear dd fW
         refine wpIn_seq_k (fun fa eU=>?_)
         refine wpIn_seq_k (fun eo bM=>?_)
         refine rgY [0,1,2,3,4] ?_
         refine svY wide_wide 27 (.func (.yield l) #[] #[]) ?_
         try simp only [p3,p4]
         refine svY wide_wide 28 (.int .i64 7) ?_
         try simp only [p3,p4]
         refine swY wide_wide 29 (.agg #[ac,aN,ad,aM]) rfl (rl 36 0 [ac,aN,ad,aM] eD) ?_
         try simp only [p3,p4]
         refine yi9 wide_wide 30 l (hY [0,1,2,3,4,5,6] 7 _ bx (by decide)) ?_ rfl rfl (by kernel_rfl) (by kernel_rfl)
         rintro gm ca (⟨rfl,hJ88,_⟩ | ⟨rfl,hx88⟩)
         ·refine ⟨_,rfl,?_⟩
          try simp only [p3,p4]
          refine svY wide_wide 31 (.bool false) ?_
          try simp only [p3,p4]
          refine zc6 ?_
          refine bM _ _ ?_
          try clear bM eo
          refine wpIn_cond_false rfl ?_
          refine wpIn_skip ?_
          refine eU _ _ ?_
          try clear eU fa
          refine rgY [0,1,2] ?_
          refine svY wide_wide 32 (.int .i64 7) ?_
          try simp only [p3,p4]
          refine svY wide_wide 33 (.int .i64 8) ?_
          try simp only [p3,p4]
          refine svY wide_wide 3 (.int .i64 8) ?_
          try simp only [p3,p4]
          refine zc6 ?_
          refine dh _ _ ?_
          try clear dh fO
          refine rgY [0,1] ?_
          refine svY wide_wide 34 (.int .i64 2) ?_
          try simp only [p3,p4]
          refine svY wide_wide 24 (.int .i64 2) ?_
          try simp only [p3,p4]
          refine zc6 ?_
          show Code.roundsIn _ _ _ _ _ _ _ _
          show Code.wpIn _ _ _ _ _ _ _
          refine wpIn_seq_k (fun e3 de=>?_)
          refine rgY [0] ?_
          refine svY wide_wide 25 (.bool true) ?_
          try simp only [p3,p4]
          refine zc6 ?_
          refine de _ _ ?_
          try clear de e3
          refine wpIn_seq_k (fun fm dP=>?_)
          refine wpIn_cond_true rfl ?_
          refine wpIn_skip ?_
          refine dP _ _ ?_
          try clear dP fm
          refine wpIn_seq_k (fun e4 eh=>?_)
          refine wpIn_block ?_
          refine wpIn_seq_k (fun e2 cU=>?_)
          refine rgY [0,1,2] ?_
          refine svY wide_wide 26 (.agg #[aH,ah,aC,aq]) ?_
          try simp only [p3,p4]
          refine zk9 wide_wide 7 36 (.agg #[.bool false,.slice none 0 0,.bool false,.slice none 0 0]) [aH,ah,aC,aq] ?_ ⟨d4,df,dB,eP,trivial⟩
          have bk:=hJ _ _ _ none hJ88 (World.grownBy_alloc ca (.cells [aH,ah,aC,aq].toArray 36) none) (fun r e=>by cases e)
          have dm:Lc _ _ #[aH,ah,aC,aq] 36:=heap_alloc_new ca (.cells [aH,ah,aC,aq].toArray 36)
          generalize ca.alloc (.cells [aH,ah,aC,aq].toArray 36)=w93 at bk dm ⊢
          try simp only [p3,p4]
          refine zc6 ?_
          refine cU _ _ ?_
          try clear cU e2
          refine wpIn_seq_k (fun fC eK=>?_)
          refine wpIn_seq_k (fun eG bT=>?_)
          refine rgY [0,1,2,3,4] ?_
          refine svY wide_wide 27 (.func (.yield l) #[] #[]) ?_
          try simp only [p3,p4]
          refine svY wide_wide 28 (.int .i64 8) ?_
          try simp only [p3,p4]
          refine swY wide_wide 29 (.agg #[aH,ah,aC,aq]) rfl (rl 36 0 [aH,ah,aC,aq] dm) ?_
          try simp only [p3,p4]
          refine yi9 wide_wide 30 l (hY [0,1,2,3,4,5,6,7] 8 _ bk (by decide)) ?_ rfl rfl (by kernel_rfl) (by kernel_rfl)
          rintro gj cB (⟨rfl,hJ96,_⟩ | ⟨rfl,hx96⟩)
          ·refine ⟨_,rfl,?_⟩
           try simp only [p3,p4]
           refine svY wide_wide 31 (.bool false) ?_
           try simp only [p3,p4]
           refine zc6 ?_
           refine bT _ _ ?_
           try clear bT eG
           refine wpIn_cond_false rfl ?_
           refine wpIn_skip ?_
           refine eK _ _ ?_
           try clear eK fC
           refine rgY [0,1,2] ?_
           refine svY wide_wide 32 (.int .i64 8) ?_
           try simp only [p3,p4]
           refine svY wide_wide 33 (.int .i64 9) ?_
           try simp only [p3,p4]
           refine svY wide_wide 3 (.int .i64 9) ?_
           try simp only [p3,p4]
           refine zc6 ?_
           refine eh _ _ ?_
           try clear eh e4
           refine rgY [0,1] ?_
           refine svY wide_wide 34 (.int .i64 3) ?_
           try simp only [p3,p4]
           refine svY wide_wide 24 (.int .i64 3) ?_
           try simp only [p3,p4]
           refine zc6 ?_
           show Code.roundsIn _ _ _ _ _ _ _ _
           show Code.wpIn _ _ _ _ _ _ _
           refine wpIn_seq_k (fun fk ey=>?_)
           refine rgY [0] ?_
           refine svY wide_wide 25 (.bool false) ?_
           try simp only [p3,p4]
           refine zc6 ?_
           refine ey _ _ ?_
           try clear ey fk
           refine wpIn_seq_k (fun gg gi=>?_)
           refine wpIn_cond_false rfl ?_
           refine wpIn_exit ?_
           simp only [Exit.then,Exit.inBlock,↓reduceIte]
           refine eA _ _ ?_
           try clear eA ff
           refine rgY [0,1] ?_
           refine svY wide_wide 35 (.int .i64 3) ?_
           try simp only [p3,p4]
           refine svY wide_wide 20 (.int .i64 3) ?_
           try simp only [p3,p4]
           refine zc6 ?_
           show Code.roundsIn _ _ _ _ _ _ _ _
           show Code.wpIn _ _ _ _ _ _ _
           refine wpIn_seq_k (fun fb dX=>?_)
           refine rgY [0] ?_
           refine svY wide_wide 21 (.bool true) ?_
           try simp only [p3,p4]
           refine zc6 ?_
           refine dX _ _ ?_
           try clear dX fb
           refine wpIn_seq_k (fun b4 bg=>?_)
           refine wpIn_cond_true rfl ?_
           refine wpIn_skip ?_
           refine bg _ _ ?_
           try clear bg b4
           refine wpIn_seq_k (fun cc bp=>?_)
           refine wpIn_block ?_
           refine wpIn_seq_k (fun cx bv=>?_)
           refine rgY [0,1,2] ?_
           refine svY wide_wide 22 (.agg #[aJ,ai,aE,ay,aI,aO,ak,au,al,ae,aD,aF]) ?_
           try simp only [p3,p4]
           refine zk9 wide_wide 5 38 (.agg #[.bool false,.slice none 0 0,.bool false,.slice none 0 0,.bool false,.slice none 0 0,.bool false,.slice none 0 0,.bool false,.slice none 0 0,.bool false,.slice none 0 0]) [aJ,ai,aE,ay,aI,aO,ak,au,al,ae,aD,aF] ?_ ⟨d0,dY,d1,dk,dD,dR,ew,dG,cS,dK,dl,dn,trivial⟩
           have aY:=hJ _ _ _ none hJ96 (World.grownBy_alloc cB (.cells [aJ,ai,aE,ay,aI,aO,ak,au,al,ae,aD,aF].toArray 38) none) (fun r e=>by cases e)
           have bt:Lc _ _ #[aJ,ai,aE,ay,aI,aO,ak,au,al,ae,aD,aF] 38:=heap_alloc_new cB (.cells [aJ,ai,aE,ay,aI,aO,ak,au,al,ae,aD,aF].toArray 38)
           generalize cB.alloc (.cells [aJ,ai,aE,ay,aI,aO,ak,au,al,ae,aD,aF].toArray 38)=a0 at aY bt ⊢
           try simp only [p3,p4]
           refine zc6 ?_
           refine bv _ _ ?_
           try clear bv cx
           refine wpIn_seq_k (fun ch bF=>?_)
           refine rgY [0,1] ?_
           refine swY wide_wide 23 (.agg #[aJ,ai,aE,ay,aI,aO,ak,au,al,ae,aD,aF]) rfl (rl 38 0 [aJ,ai,aE,ay,aI,aO,ak,au,al,ae,aD,aF] bt) ?_
           try simp only [p3,p4]
           refine svY wide_wide 24 (.int .i64 0) ?_
           try simp only [p3,p4]
           refine zc6 ?_
           refine bF _ _ ?_
           try clear bF ch
           refine wpIn_block ?_
           refine wpIn_loop_rounds 5 ?_
           show Code.wpIn _ _ _ _ _ _ _
           refine wpIn_seq_k (fun b5 bJ=>?_)
           refine rgY [0] ?_
           refine svY wide_wide 25 (.bool true) ?_
           try simp only [p3,p4]
           refine zc6 ?_
           refine bJ _ _ ?_
           try clear bJ b5
           refine wpIn_seq_k (fun cm bz=>?_)
           refine wpIn_cond_true rfl ?_
           refine wpIn_skip ?_
           refine bz _ _ ?_
           try clear bz cm
           refine wpIn_seq_k (fun b9 bh=>?_)
           refine wpIn_block ?_
           refine wpIn_seq_k (fun cn bn=>?_)
           refine rgY [0,1,2] ?_
           refine svY wide_wide 26 (.agg #[aJ,ai,aE,ay]) ?_
           try simp only [p3,p4]
           refine zk9 wide_wide 7 36 (.agg #[.bool false,.slice none 0 0,.bool false,.slice none 0 0]) [aJ,ai,aE,ay] ?_ ⟨d0,dY,d1,dk,trivial⟩
           have aW:=hJ _ _ _ none aY (World.grownBy_alloc a0 (.cells [aJ,ai,aE,ay].toArray 36) none) (fun r e=>by cases e)
           have bK:Lc _ _ #[aJ,ai,aE,ay] 36:=heap_alloc_new a0 (.cells [aJ,ai,aE,ay].toArray 36)
           generalize a0.alloc (.cells [aJ,ai,aE,ay].toArray 36)=w109 at aW bK ⊢
           try simp only [p3,p4]
           refine zc6 ?_
           refine bn _ _ ?_
           try clear bn cn
           refine wpIn_seq_k (fun cD bu=>?_)
           refine wpIn_seq_k (fun bE aS=>?_)
           refine rgY [0,1,2,3,4] ?_
           refine svY wide_wide 27 (.func (.yield l) #[] #[]) ?_
           try simp only [p3,p4]
           refine svY wide_wide 28 (.int .i64 9) ?_
           try simp only [p3,p4]
           refine swY wide_wide 29 (.agg #[aJ,ai,aE,ay]) rfl (rl 36 0 [aJ,ai,aE,ay] bK) ?_
           try simp only [p3,p4]
           refine yi9 wide_wide 30 l (hY [0,1,2,3,4,5,6,7,8] 9 _ aW (by decide)) ?_ rfl rfl (by kernel_rfl) (by kernel_rfl)
           rintro fX aZ (⟨rfl,hJ112,_⟩ | ⟨rfl,hx112⟩)
           ·refine ⟨_,rfl,?_⟩
            try simp only [p3,p4]
            refine svY wide_wide 31 (.bool false) ?_
            try simp only [p3,p4]
            refine zc6 ?_
            refine aS _ _ ?_
            try clear aS bE
            refine wpIn_cond_false rfl ?_
            refine wpIn_skip ?_
            refine bu _ _ ?_
            try clear bu cD
            refine rgY [0,1,2] ?_
            refine svY wide_wide 32 (.int .i64 9) ?_
            try simp only [p3,p4]
            refine svY wide_wide 33 (.int .i64 10) ?_
            try simp only [p3,p4]
            refine svY wide_wide 3 (.int .i64 10) ?_
            try simp only [p3,p4]
            refine zc6 ?_
            refine bh _ _ ?_
            try clear bh b9
            refine rgY [0,1] ?_
            refine svY wide_wide 34 (.int .i64 1) ?_
            try simp only [p3,p4]
            refine svY wide_wide 24 (.int .i64 1) ?_
            try simp only [p3,p4]
            refine zc6 ?_
            show Code.roundsIn _ _ _ _ _ _ _ _
            show Code.wpIn _ _ _ _ _ _ _
            refine wpIn_seq_k (fun co bc=>?_)
            refine rgY [0] ?_
            refine svY wide_wide 25 (.bool true) ?_
            try simp only [p3,p4]
            refine zc6 ?_
            refine bc _ _ ?_
            try clear bc co
            refine wpIn_seq_k (fun cy bH=>?_)
            refine wpIn_cond_true rfl ?_
            refine wpIn_skip ?_
            refine bH _ _ ?_
            try clear bH cy
            refine wpIn_seq_k (fun bW a9=>?_)
            refine wpIn_block ?_
            refine wpIn_seq_k (fun bZ bB=>?_)
            refine rgY [0,1,2] ?_
            refine svY wide_wide 26 (.agg #[aI,aO,ak,au]) ?_
            try simp only [p3,p4]
            refine zk9 wide_wide 7 36 (.agg #[.bool false,.slice none 0 0,.bool false,.slice none 0 0]) [aI,aO,ak,au] ?_ ⟨dD,dR,ew,dG,trivial⟩
            have aV:=hJ _ _ _ none hJ112 (World.grownBy_alloc aZ (.cells [aI,aO,ak,au].toArray 36) none) (fun r e=>by cases e)
            have bC:Lc _ _ #[aI,aO,ak,au] 36:=heap_alloc_new aZ (.cells [aI,aO,ak,au].toArray 36)
            generalize aZ.alloc (.cells [aI,aO,ak,au].toArray 36)=w117 at aV bC ⊢
            try simp only [p3,p4]
            refine zc6 ?_
            refine bB _ _ ?_
            try clear bB bZ
            refine wpIn_seq_k (fun b7 bb=>?_)
            refine wpIn_seq_k (fun bw aU=>?_)
            refine rgY [0,1,2,3,4] ?_
            refine svY wide_wide 27 (.func (.yield l) #[] #[]) ?_
            try simp only [p3,p4]
            refine svY wide_wide 28 (.int .i64 10) ?_
            try simp only [p3,p4]
            refine swY wide_wide 29 (.agg #[aI,aO,ak,au]) rfl (rl 36 0 [aI,aO,ak,au] bC) ?_
            try simp only [p3,p4]
            refine yi9 wide_wide 30 l (hY [0,1,2,3,4,5,6,7,8,9] 10 _ aV (by decide)) ?_ rfl rfl (by kernel_rfl) (by kernel_rfl)
            rintro fV a1 (⟨rfl,hJ120,_⟩ | ⟨rfl,hx120⟩)
            ·refine ⟨_,rfl,?_⟩
             try simp only [p3,p4]
             refine svY wide_wide 31 (.bool false) ?_
             try simp only [p3,p4]
             refine zc6 ?_
             refine aU _ _ ?_
             try clear aU bw
             refine wpIn_cond_false rfl ?_
             refine wpIn_skip ?_
             refine bb _ _ ?_
             try clear bb b7
             refine rgY [0,1,2] ?_
             refine svY wide_wide 32 (.int .i64 10) ?_
             try simp only [p3,p4]
             refine svY wide_wide 33 (.int .i64 11) ?_
             try simp only [p3,p4]
             refine svY wide_wide 3 (.int .i64 11) ?_
             try simp only [p3,p4]
             refine zc6 ?_
             refine a9 _ _ ?_
             try clear a9 bW
             refine rgY [0,1] ?_
             refine svY wide_wide 34 (.int .i64 2) ?_
             try simp only [p3,p4]
             refine svY wide_wide 24 (.int .i64 2) ?_
             try simp only [p3,p4]
             refine zc6 ?_
             show Code.roundsIn _ _ _ _ _ _ _ _
             show Code.wpIn _ _ _ _ _ _ _
             refine wpIn_seq_k (fun cl bi=>?_)
             refine rgY [0] ?_
             refine svY wide_wide 25 (.bool true) ?_
             try simp only [p3,p4]
             refine zc6 ?_
             refine bi _ _ ?_
             try clear bi cl
             refine wpIn_seq_k (fun cu a3=>?_)
             refine wpIn_cond_true rfl ?_
             refine wpIn_skip ?_
             refine a3 _ _ ?_
             try clear a3 cu
             refine wpIn_seq_k (fun cq bG=>?_)
             refine wpIn_block ?_
             refine wpIn_seq_k (fun b8 bA=>?_)
             refine rgY [0,1,2] ?_
             refine svY wide_wide 26 (.agg #[al,ae,aD,aF]) ?_
             try simp only [p3,p4]
             refine zk9 wide_wide 7 36 (.agg #[.bool false,.slice none 0 0,.bool false,.slice none 0 0]) [al,ae,aD,aF] ?_ ⟨cS,dK,dl,dn,trivial⟩
             have aX:=hJ _ _ _ none hJ120 (World.grownBy_alloc a1 (.cells [al,ae,aD,aF].toArray 36) none) (fun r e=>by cases e)
             have bo:Lc _ _ #[al,ae,aD,aF] 36:=heap_alloc_new a1 (.cells [al,ae,aD,aF].toArray 36)
             generalize a1.alloc (.cells [al,ae,aD,aF].toArray 36)=w125 at aX bo ⊢
             try simp only [p3,p4]
             refine zc6 ?_
             refine bA _ _ ?_
             try clear bA b8
             refine wpIn_seq_k (fun bV bj=>?_)
             refine wpIn_seq_k (fun a4 aT=>?_)
             refine rgY [0,1,2,3,4] ?_
             refine svY wide_wide 27 (.func (.yield l) #[] #[]) ?_
             try simp only [p3,p4]
             refine svY wide_wide 28 (.int .i64 11) ?_
             try simp only [p3,p4]
             refine swY wide_wide 29 (.agg #[al,ae,aD,aF]) rfl (rl 36 0 [al,ae,aD,aF] bo) ?_
             try simp only [p3,p4]
             refine yi9 wide_wide 30 l (hY [0,1,2,3,4,5,6,7,8,9,10] 11 _ aX (by decide)) ?_ rfl rfl (by kernel_rfl) (by kernel_rfl)
             rintro ft e6 (⟨rfl,hJ128,_⟩ | ⟨rfl,hx128⟩)
             ·refine ⟨_,rfl,?_⟩
              try simp only [p3,p4]
              refine svY wide_wide 31 (.bool false) ?_
              try simp only [p3,p4]
              refine zc6 ?_
              refine aT _ _ ?_
              try clear aT a4
              refine wpIn_cond_false rfl ?_
              refine wpIn_skip ?_
              refine bj _ _ ?_
              try clear bj bV
              refine rgY [0,1,2] ?_
              refine svY wide_wide 32 (.int .i64 11) ?_
              try simp only [p3,p4]
              refine svY wide_wide 33 (.int .i64 12) ?_
              try simp only [p3,p4]
              refine svY wide_wide 3 (.int .i64 12) ?_
              try simp only [p3,p4]
              refine zc6 ?_
              refine bG _ _ ?_
              try clear bG cq
              refine rgY [0,1] ?_
              refine svY wide_wide 34 (.int .i64 3) ?_
              try simp only [p3,p4]
              refine svY wide_wide 24 (.int .i64 3) ?_
              try simp only [p3,p4]
              refine zc6 ?_
              show Code.roundsIn _ _ _ _ _ _ _ _
              show Code.wpIn _ _ _ _ _ _ _
              refine wpIn_seq_k (fun cj a2=>?_)
              refine rgY [0] ?_
              refine svY wide_wide 25 (.bool false) ?_
              try simp only [p3,p4]
              refine zc6 ?_
              refine a2 _ _ ?_
              try clear a2 cj
              refine wpIn_seq_k (fun fS fp=>?_)
              refine wpIn_cond_false rfl ?_
              refine wpIn_exit ?_
              simp only [Exit.then,Exit.inBlock,↓reduceIte]
              refine bp _ _ ?_
              try clear bp cc
              refine rgY [0,1] ?_
              refine svY wide_wide 35 (.int .i64 4) ?_
              try simp only [p3,p4]
              refine svY wide_wide 20 (.int .i64 4) ?_
              try simp only [p3,p4]
              refine zc6 ?_
              show Code.roundsIn _ _ _ _ _ _ _ _
              show Code.wpIn _ _ _ _ _ _ _
              refine wpIn_seq_k (fun cA ba=>?_)
              refine rgY [0] ?_
              refine svY wide_wide 21 (.bool false) ?_
              try simp only [p3,p4]
              refine zc6 ?_
              refine ba _ _ ?_
              try clear ba cA
              refine wpIn_seq_k (fun fA fT=>?_)
              refine wpIn_cond_false rfl ?_
              refine wpIn_exit ?_
              simp only [Exit.then,Exit.inBlock,↓reduceIte]
              go_end0
              exact ⟨⟨_,rfl⟩,.inl ⟨[0,1,2,3,4,5,6,7,8,9,10,11],rfl,hJ128⟩⟩
             ·refine ⟨_,rfl,?_⟩
              try simp only [p3,p4]
              refine svY wide_wide 31 (.bool true) ?_
              try simp only [p3,p4]
              refine zc6 ?_
              refine aT _ _ ?_
              try clear aT a4
              refine wpIn_cond_true rfl ?_
              refine wpIn_ret ?_
              simp only [Exit.then,Exit.inBlock]
              refine bodyPost_ret (results_none rfl _ _ _) rfl ?_
              exact ⟨⟨_,rfl⟩,.inr ⟨[0,1,2,3,4,5,6,7,8,9,10,11],⟨12,rfl⟩,hx128⟩⟩
            ·refine ⟨_,rfl,?_⟩
             try simp only [p3,p4]
             refine svY wide_wide 31 (.bool true) ?_
             try simp only [p3,p4]
             refine zc6 ?_
             refine aU _ _ ?_
             try clear aU bw
             refine wpIn_cond_true rfl ?_
             refine wpIn_ret ?_
             simp only [Exit.then,Exit.inBlock]
             refine bodyPost_ret (results_none rfl _ _ _) rfl ?_
             exact ⟨⟨_,rfl⟩,.inr ⟨[0,1,2,3,4,5,6,7,8,9,10],⟨11,rfl⟩,hx120⟩⟩
           ·refine ⟨_,rfl,?_⟩
            try simp only [p3,p4]
            refine svY wide_wide 31 (.bool true) ?_
            try simp only [p3,p4]
            refine zc6 ?_
            refine aS _ _ ?_
            try clear aS bE
            refine wpIn_cond_true rfl ?_
            refine wpIn_ret ?_
            simp only [Exit.then,Exit.inBlock]
            refine bodyPost_ret (results_none rfl _ _ _) rfl ?_
            exact ⟨⟨_,rfl⟩,.inr ⟨[0,1,2,3,4,5,6,7,8,9],⟨10,rfl⟩,hx112⟩⟩
          ·refine ⟨_,rfl,?_⟩
           try simp only [p3,p4]
           refine svY wide_wide 31 (.bool true) ?_
           try simp only [p3,p4]
           refine zc6 ?_
           refine bT _ _ ?_
           try clear bT eG
           refine wpIn_cond_true rfl ?_
           refine wpIn_ret ?_
           simp only [Exit.then,Exit.inBlock]
           refine bodyPost_ret (results_none rfl _ _ _) rfl ?_
           exact ⟨⟨_,rfl⟩,.inr ⟨[0,1,2,3,4,5,6,7,8],⟨9,rfl⟩,hx96⟩⟩
         ·refine ⟨_,rfl,?_⟩
          try simp only [p3,p4]
          refine svY wide_wide 31 (.bool true) ?_
          try simp only [p3,p4]
          refine zc6 ?_
          refine bM _ _ ?_
          try clear bM eo
          refine wpIn_cond_true rfl ?_
          refine wpIn_ret ?_
          simp only [Exit.then,Exit.inBlock]
          refine bodyPost_ret (results_none rfl _ _ _) rfl ?_
          exact ⟨⟨_,rfl⟩,.inr ⟨[0,1,2,3,4,5,6,7],⟨8,rfl⟩,hx88⟩⟩
        ·refine ⟨_,rfl,?_⟩
         try simp only [p3,p4]
         refine svY wide_wide 31 (.bool true) ?_
         try simp only [p3,p4]
         refine zc6 ?_
         refine bU _ _ ?_
         try clear bU dM
         refine wpIn_cond_true rfl ?_
         refine wpIn_ret ?_
         simp only [Exit.then,Exit.inBlock]
         refine bodyPost_ret (results_none rfl _ _ _) rfl ?_
         exact ⟨⟨_,rfl⟩,.inr ⟨[0,1,2,3,4,5,6],⟨7,rfl⟩,hx80⟩⟩
       ·refine ⟨_,rfl,?_⟩
        try simp only [p3,p4]
        refine svY wide_wide 31 (.bool true) ?_
        try simp only [p3,p4]
        refine zc6 ?_
        refine bR _ _ ?_
        try clear bR dx
        refine wpIn_cond_true rfl ?_
        refine wpIn_ret ?_
        simp only [Exit.then,Exit.inBlock]
        refine bodyPost_ret (results_none rfl _ _ _) rfl ?_
        exact ⟨⟨_,rfl⟩,.inr ⟨[0,1,2,3,4,5],⟨6,rfl⟩,hx64⟩⟩
      ·refine ⟨_,rfl,?_⟩
       try simp only [p3,p4]
       refine svY wide_wide 31 (.bool true) ?_
       try simp only [p3,p4]
       refine zc6 ?_
       refine bS _ _ ?_
       try clear bS dv
       refine wpIn_cond_true rfl ?_
       refine wpIn_ret ?_
       simp only [Exit.then,Exit.inBlock]
       refine bodyPost_ret (results_none rfl _ _ _) rfl ?_
       exact ⟨⟨_,rfl⟩,.inr ⟨[0,1,2,3,4],⟨5,rfl⟩,hx56⟩⟩
     ·refine ⟨_,rfl,?_⟩
      try simp only [p3,p4]
      refine svY wide_wide 31 (.bool true) ?_
      try simp only [p3,p4]
      refine zc6 ?_
      refine bO _ _ ?_
      try clear bO dc
      refine wpIn_cond_true rfl ?_
      refine wpIn_ret ?_
      simp only [Exit.then,Exit.inBlock]
      refine bodyPost_ret (results_none rfl _ _ _) rfl ?_
      exact ⟨⟨_,rfl⟩,.inr ⟨[0,1,2,3],⟨4,rfl⟩,hx48⟩⟩
    ·refine ⟨_,rfl,?_⟩
     try simp only [p3,p4]
     refine svY wide_wide 31 (.bool true) ?_
     try simp only [p3,p4]
     refine zc6 ?_
     refine bQ _ _ ?_
     try clear bQ cE
     refine wpIn_cond_true rfl ?_
     refine wpIn_ret ?_
     simp only [Exit.then,Exit.inBlock]
     refine bodyPost_ret (results_none rfl _ _ _) rfl ?_
     exact ⟨⟨_,rfl⟩,.inr ⟨[0,1,2],⟨3,rfl⟩,hx32⟩⟩
   ·refine ⟨_,rfl,?_⟩
    try simp only [p3,p4]
    refine svY wide_wide 31 (.bool true) ?_
    try simp only [p3,p4]
    refine zc6 ?_
    refine bN _ _ ?_
    try clear bN ez
    refine wpIn_cond_true rfl ?_
    refine wpIn_ret ?_
    simp only [Exit.then,Exit.inBlock]
    refine bodyPost_ret (results_none rfl _ _ _) rfl ?_
    exact ⟨⟨_,rfl⟩,.inr ⟨[0,1],⟨2,rfl⟩,hx24⟩⟩
  ·refine ⟨_,rfl,?_⟩
   try simp only [p3,p4]
   refine svY wide_wide 31 (.bool true) ?_
   try simp only [p3,p4]
   refine zc6 ?_
   refine bP _ _ ?_
   try clear bP dp
   refine wpIn_cond_true rfl ?_
   refine wpIn_ret ?_
   simp only [Exit.then,Exit.inBlock]
   refine bodyPost_ret (results_none rfl _ _ _) rfl ?_
   exact ⟨⟨_,rfl⟩,.inr ⟨[0],⟨1,rfl⟩,hx16⟩⟩
def yr6 (Ds:List Nat):List Deferred:=Ds.map (fun D=>⟨.collected D,#[]⟩)
def yr7 (P:Program) (fn:Func) (R:Ending→World→Prop):Exit→Act→World→Prop
 | .normal,a,w | .ret,a,w=>LeavesInM Fence.wide 9 P fn a.tmps R a.defers .returning w
 | _,_,_=>False
theorem enterN {P:Program} {f:FuncId} {fn:Func} {c:Code} {args:Array Value} {w:World} {R:Ending→World→Prop} (hf:P.funcs[f]?=some fn) (hb:fn.body=some c)
  (h:c.wp P (yr7 P fn R) {tmps:=args++Array.replicate (fn.ntmps - args.size) undef,defers:=[]} w):Calls P f args w R:=by
 refine (callsIn_wide (n:=9)).1 (callsIn_of_wp_marks hf hb trivial (wpIn_wide.2 (Code.wp_mono (fun e a w h=>?_) h)))
 cases e<;>first | exact h | exact h.elim
theorem yr8 {w:World} {D:Nat} {x:Option (List Deferred)} (o:Obj) (h:w.heap[D]?=some (.deferred x)):Wt 999999999 w (w.putObj D o):=
 ⟨rfl,rfl,rfl,by simp [World.putObj],fun b cs t fr _ hb=>(World.putObj_heap_other (fun e=>by subst e;rw [h] at hb;cases hb)).trans hb⟩
theorem Wt.trans {T:TypeId} {a b c:World} (h:Wt T a b) (k:Wt T b c):Wt T a c:=
 ⟨k.os.trans h.os,k.tape.trans h.tape,k.output.trans h.output,Nat.le_trans h.size k.size,fun b cs t fr ht hb=>k.block b cs t fr ht (h.block b cs t fr ht hb)⟩
theorem Wt.refl (T:TypeId) (w:World):Wt T w w:=⟨rfl,rfl,rfl,Nat.le_refl _,fun _ _ _ _ _ h=>h⟩
theorem yr9 {w0 w:World} {D:Nat} {o:Obj} (h:Gr w0 w) (hD:w0.heap.size≤D):Gr w0 (w.putObj D o):=
 ⟨h.os,h.tape,h.output,Nat.le_trans h.size (by simp [World.putObj]),fun k hk=>(World.putObj_heap_other (by omega)).trans (h.block k hk)⟩
theorem endN {P:Program} {fn:Func} {R:Ending→World→Prop} {tmps:Array Value} {w0:World}:∀ (Ds:List Nat) (w:World),Ds.Nodup→(∀ D ∈ Ds,w0.heap.size≤D∧w.heap[D]?=some (.deferred (some [])))→Gr w0 w→
  (∀ w',Wt 999999999 w w'→Gr w0 w'→∃ v,(results fn tmps).run P w'=.ok v w'∧R (.returned v) w')→LeavesInM Fence.wide 9 P fn tmps R (yr6 Ds) .returning w
 | [],w,_,_,hB,h=>h w (Wt.refl _ _) hB
 | D::Ds,w,hn,hD,hB,h=>by
  obtain ⟨h1,h2⟩:=hD D (by simp)
  obtain ⟨n1,n2⟩:=List.nodup_cons.1 hn
  refine ⟨by simp,.inl ⟨_,_,rfl,run_takeDeferred h2,?_⟩⟩
  exact endN Ds _ n2 (fun E hE=>⟨(hD E (by simp [hE])).1,(World.putObj_heap_other (fun e=>n1 (by rw [← e];exact hE))).trans (hD E (by simp [hE])).2⟩) (yr9 hB h1)
   (fun w' wt g=>h w' ((yr8 _ h2).trans wt) g)

theorem zj4 {β:Type} (B b:Nat) (cs:Array Value) (t:TypeId):OwnFrom B (fun (_:β) W=>Lc W b cs t):=fun _ X Y row hs hg hr=>by
 refine (hg.block b (zf6 hs) (fun e=>?_)).trans hs
 obtain ⟨_,o,ho,hc⟩:=hr b e.symm
 rw [show X.heap[b]?=_ from hs] at ho;cases ho;cases hc
theorem ys0 {β γ:Type} {B:Nat} {I:γ→β→World→Prop} (h:∀ x,OwnFrom B (I x)):OwnFrom B (fun s W=>∃ x,I x s W):=fun s X Y row ⟨x,hs⟩ hg hr=>⟨x,h x s X Y row hs hg hr⟩
theorem yd3 {β:Type} {B:Nat} {w0:World} (h:w0.heap.size≤B):OwnFrom B (fun (_:β) W=>Gr w0 W):=ownFrom_below (Nat.le_refl _) h
theorem zF5 {w w':World} {b:Nat} {cs:Array Value} {t:TypeId} (h:St w w' b) (hL:Lc w b cs t) (hs:w.heap.size≤w'.heap.size):KeepsOthers w w':=
 ⟨hs,fun k o hk ho=>(h.block k (fun e=>by subst e;rw [show w.heap[k]?=_ from hL] at hk;cases hk;cases ho)).trans hk⟩
theorem ys1 {w w':World} (h:Gr w w'):KeepsOthers w w':=⟨h.size,fun _ _ hk _=>h.heap hk⟩

def ent (L:List Value) (k:Fin 12):List Value:=[L.getD (4*k.val) undef,L.getD (4*k.val+1) undef,L.getD (4*k.val+2) undef,L.getD (4*k.val+3) undef]
theorem encs_ent (L:List Value) (k:Fin 12):encs L k=#[.int .i64 (k.val:Int),.agg (ent L k).toArray]:=rfl
theorem fin12 {p:Fin 12→Prop} (h0:p 0) (h1:p 1) (h2:p 2) (h3:p 3) (h4:p 4) (h5:p 5) (h6:p 6) (h7:p 7) (h8:p 8) (h9:p 9) (h10:p 10) (h11:p 11):∀ k,p k
 | 0=>h0 | 1=>h1 | 2=>h2 | 3=>h3 | 4=>h4 | 5=>h5 | 6=>h6 | 7=>h7 | 8=>h8 | 9=>h9 | 10=>h10 | 11=>h11
theorem zF6:∀ k:Fin 12,k ∈ all12:=fin12 (by decide) (by decide) (by decide) (by decide) (by decide) (by decide) (by decide) (by decide) (by decide) (by decide) (by decide) (by decide)
theorem ys2 {P:Program} {g:Operand} {d1 d2 s1 s2:Nat} {assign body:Code} {Q:Exit→Act→World→Prop} {l:List Value} {Ds:List Nat} {w:World} {gf:Nat} {lb:Array Value} {L:List Value}
  (hseq:SeqStopsA Fence.wide 8 P gf lb (encs L) (fun xs=>xs=all12) (fun pre=>∃ k,pre=all12.take k) 12 w)
  (I:List (Fin 12)→World→Prop) (Ix:Code→List (Fin 12)→World→Prop) (hI:OwnFrom w.heap.size I) (hIx:∀ c,OwnFrom w.heap.size (Ix c)) (h0:I [] w)
  (hass:∀ (ll:Nat) (k:Fin 12) (W:World) (K:Act→World→Prop),K ⟨((((l.set s1 (.int .i64 (k.val:Int))).set s2 (.agg (ent L k).toArray)).set d1 (.int .i64 (k.val:Int))).set d2 (.pointer (some ⟨W.heap.size,0,none⟩))).toArray,[]⟩ (W.alloc (.cells (ent L k).toArray 36))→
   assign.wpIn (Fence.wide.inRound ll) 7 P (Exit.then K (fun _ _ _=>False)) ⟨((l.set s1 (.int .i64 (k.val:Int))).set s2 (.agg (ent L k).toArray)).toArray,[]⟩ W)
  (hbody:∀ (ll B:Nat) (pre:List (Fin 12)) (k:Fin 12) (W:World),I pre W→w.heap.size≤B→Lc W B (ent L k).toArray 36→
   body.wpIn (Fence.wide.inRound ll) 7 P (ownPostG w.heap.size KeepsWalks I Ix (pre++[k]) W) ⟨((((l.set s1 (.int .i64 (k.val:Int))).set s2 (.agg (ent L k).toArray)).set d1 (.int .i64 (k.val:Int))).set d2 (.pointer (some ⟨B,0,none⟩))).toArray,[]⟩ W)
  (hdone:∀ (D:Nat) (W:World),w.heap.size≤D→I all12 W→W.heap[D]?=some (.deferred (some []))→Q .normal ⟨l.toArray,yr6 (D::Ds)⟩ W)
  (hstop:∀ (D:Nat) (c:Code) (pre:List (Fin 12)) (W:World),w.heap.size≤D→Ix c pre W→W.heap[D]?=some (.deferred (some []))→c.wp P Q ⟨l.toArray,yr6 (D::Ds)⟩ W)
  (hg:(⟨l.toArray,yr6 Ds⟩:Act).eval g=.func (.func gf) #[] lb:=by rfl) (eg:∀ args w,(callFunc gf args).run P w=.ok (.enter gf args) w):
  (Code.rangeFunc g #[s1,s2] assign body).wp P Q ⟨l.toArray,yr6 Ds⟩ w:=by
 refine (wpIn_wide (n:=9)).1 (wpIn_rangeFunc_ownH rfl (by decide) hg trivial eg hseq walksK_t (fun W l o o' h0 h1 h2 h3=>walksK_b (w:=w) W l o o' h0 h1 h2 h3) (Below.refl _ _) (fun _=>rfl) (fun pre W=>I pre W∧w.heap.size≤W.heap.size) Ix
  (hI.and (fun _ X Y _ hs hg _=>Nat.le_trans hs hg.size)) hIx ⟨h0,Nat.le_refl _⟩
  (fun k a' W=>∃ B,w.heap.size≤B∧Lc W B (ent L k).toArray 36∧a'=⟨((((l.set s1 (.int .i64 (k.val:Int))).set s2 (.agg (ent L k).toArray)).set d1 (.int .i64 (k.val:Int))).set d2 (.pointer (some ⟨B,0,none⟩))).toArray,[]⟩)
  (fun k a'=>ys0 fun B=>(ownFrom_pure _ _).and ((zj4 _ _ _ _).and (ownFrom_pure _ _))) ?_ ?_ ?_ ?_)
 ·intro ll pre k W K hi hK
  have e0:(#[s1,s2]:Array Tmp).zip (encs L k)=#[(s1,.int .i64 (k.val:Int)),(s2,.agg (ent L k).toArray)]:=by rw [encs_ent];simp
  have e:((#[s1,s2]:Array Tmp).zip (encs L k)).foldl (fun t (p,v)=>t.setIfInBounds p v) l.toArray=((l.set s1 (.int .i64 (k.val:Int))).set s2 (.agg (ent L k).toArray)).toArray:=by
   rw [e0]
   simp only [List.foldl_toArray',List.size_toArray,List.length_cons,List.length_nil,List.foldl_cons,List.foldl_nil,p2]
  dsimp only
  rw [e]
  refine hass ll k W K (hK _ _ ((KeepsOthers.alloc _ _).from _) (KeepsWalks.alloc _ _) ⟨hI.alloc _ hi.1,Nat.le_trans hi.2 (by simp)⟩ ⟨W.heap.size,hi.2,heap_alloc_new W _,rfl⟩)
 ·rintro ll pre k a' W hl _ hi ⟨B,hB,hLc,rfl⟩ _
  refine Code.wpIn_mono (fun e a W' h=>?_) (hbody ll B pre k W hi.1 hB hLc)
  cases e<;>first | exact h | exact ⟨h.1,h.2.1,h.2.2,Nat.le_trans hi.2 h.1.size⟩
 ·rintro D xs W hD rfl hi hm
  exact hdone D W hD hi.1 hm
 ·rintro D c pre W hD _ hi hm
  exact wpIn_wide.2 (hstop D c pre W hD hi hm)
theorem zL5 {vs:List Value} (h:∀ v ∈ vs,v.oneCell'=true):One1 vs:=by
 induction vs with
 | nil=>trivial
 | cons v vs ih=>exact ⟨h v (by simp),ih (fun u hu=>h u (by simp [hu]))⟩
theorem zA8 {L:List Value} (h:One1 L) {i:Nat} (hi:i<L.length):(L.getD i undef).oneCell'=true:=by
 rw [List.getD_eq_getElem?_getD,List.getElem?_eq_getElem hi]
 exact One1.all h _ (List.getElem_mem hi)
theorem zw8 {L:List Value} (h:One1 L) (h48:L.length=48) (k:Fin 12):One1 (ent L k):=
 ⟨zA8 h (by omega),zA8 h (by omega),zA8 h (by omega),zA8 h (by omega),trivial⟩
theorem zZ7 {L:List Value} (aa:L.length=48) (k:Fin 12):(L.drop (4*k.val)).take 4=ent L k:=by
 apply List.ext_getElem?
 intro i
 have hk:=k.isLt
 by_cases hi:i<4
 ·rw [List.getElem?_take_of_lt hi,List.getElem?_drop,List.getElem?_eq_getElem (by omega)]
  unfold ent
  simp only [List.getD_eq_getElem?_getD]
  match i,hi with
  | 0,_=>simp [List.getElem?_eq_getElem (show 4*k.val<L.length by omega)]
  | 1,_=>simp [List.getElem?_eq_getElem (show 4*k.val+1<L.length by omega)]
  | 2,_=>simp [List.getElem?_eq_getElem (show 4*k.val+2<L.length by omega)]
  | 3,_=>simp [List.getElem?_eq_getElem (show 4*k.val+3<L.length by omega)]
 ·rw [List.getElem?_eq_none (by simp;omega),List.getElem?_eq_none (by simp [ent];omega)]
structure Fills (m:Nat) (L:List Value) (pre:List (Fin 12)) (xs:List Value):Prop where
 len:xs.length=4*m
 one:One1 xs
 eq:∀ k ∈ pre,k.val<m→(xs.drop (4*k.val)).take 4=ent L k
theorem Fills.skip {m:Nat} {L xs:List Value} {pre:List (Fin 12)} {k:Fin 12} (h:Fills m L pre xs) (hk:¬ k.val<m):Fills m L (pre++[k]) xs:=
 ⟨h.len,h.one,fun j hj hm=>by
  rcases List.mem_append.1 hj with hj | hj
  ·exact h.eq j hj hm
  ·simp only [List.mem_singleton] at hj;subst hj;exact absurd hm hk⟩
theorem Fills.step {m:Nat} {L xs:List Value} {pre:List (Fin 12)} {k:Fin 12} (h:Fills m L pre xs) (h1:One1 L) (aa:L.length=48) (hk:k.val<m):
  ∃ ys,zd8 xs.toArray (4*k.val) (ent L k)=ys.toArray∧Fills m L (pre++[k]) ys:=by
 have hlen:(ent L k).length=4:=rfl
 have hw:=zo9 (ent L k) (4*k.val) xs (by rw [hlen,h.len];omega)
 refine ⟨_,hw,⟨?_,?_,?_⟩⟩
 ·simp [hlen,h.len];omega
 ·refine zL5 fun v hv=>?_
  rcases List.mem_append.1 hv with hv | hv
  ·rcases List.mem_append.1 hv with hv | hv
   ·exact One1.all h.one v (List.mem_of_mem_take hv)
   ·exact One1.all (zw8 h1 aa k) v hv
  ·exact One1.all h.one v (List.mem_of_mem_drop hv)
 ·intro j hj hm
  by_cases e:j=k
  ·subst e
   rw [List.append_assoc,List.drop_append_of_le_length (by simp [h.len];omega)]
   rw [List.drop_of_length_le (by simp;omega)]
   rw [List.nil_append,List.take_append_of_le_length (by simp [hlen]),List.take_of_length_le (by simp [hlen])]
  ·have hj':j ∈ pre:=by
    rcases List.mem_append.1 hj with hj | hj
    ·exact hj
    ·simp only [List.mem_singleton] at hj;exact absurd hj e
   rw [← h.eq j hj' hm]
   have hne:j.val≠k.val:=fun h=>e (Fin.ext h)
   apply List.ext_getElem?
   intro i
   by_cases hi:i<4
   ·rw [List.getElem?_take_of_lt hi,List.getElem?_take_of_lt hi,List.getElem?_drop,List.getElem?_drop]
    by_cases hlt:j.val<k.val
    ·rw [List.append_assoc,List.getElem?_append_left (by simp [h.len];omega),List.getElem?_take_of_lt (by omega)]
    ·rw [List.getElem?_append_right (by simp [h.len,hlen];omega),List.getElem?_drop]
     congr 1
     simp [h.len,hlen];omega
   ·rw [List.getElem?_eq_none (by simp;omega),List.getElem?_eq_none (by simp;omega)]
theorem Fills.done {m:Nat} {L xs:List Value} (h:Fills m L all12 xs) (hm:m≤12) (aa:L.length=48):xs=L.take (4*m):=by
 apply List.ext_getElem?
 intro i
 by_cases hi:i<4*m
 ·have hq:i/4<12:=by omega
  have:=h.eq ⟨i/4,hq⟩ (zF6 _) (by show i/4<m;omega)
  rw [← zZ7 aa] at this
  have h2:=congrArg (fun l=>l[i % 4]?) this
  simp only [] at h2
  rw [List.getElem?_take_of_lt (by omega),List.getElem?_take_of_lt (by omega),List.getElem?_drop,List.getElem?_drop] at h2
  have e:4*(i/4)+i % 4=i:=by omega
  rw [e] at h2
  rw [h2,List.getElem?_take_of_lt hi]
 ·rw [List.getElem?_eq_none (by rw [h.len];omega),List.getElem?_eq_none (by simp;omega)]
theorem yk3 {P:Program} {a:Act} {o:Oper} {w:World} (t:TypeId) (x y:Operand) (b len elem sz k:Nat) (hk:k<len) (hop:o.op=.indexAddr t x y:=by rfl) (hx:a.eval x=.pointer (some ⟨b,0,none⟩):=by rfl) (hy:a.eval y=.int .i64 (k:Int):=by rfl)
  (hu:P.underlying t=some (.array len elem):=by kernel_rfl) (hs:(P.info? elem).map (·.size)=some sz:=by kernel_rfl):RunV P a o w (.pointer (some ⟨b,sz*k,none⟩)):=by
 obtain ⟨i,hi,hsz⟩:=Option.map_eq_some_iff.1 hs
 have h2:(0:Int)≤(k:Int)∧(k:Int)<(len:Int):=by omega
 unfold RunV execOp
 simp only [hop,hx,hy]
 by_cases h0:sz*k=0<;>simp [Instr.indexAt,Instr.sureAddr,asIntOf,run_underlying hu,sizeOf,typeInfo,hi,hsz,h2,hk,h0,Addr.add,Nat.mul_comm k sz]
theorem zP5 {P:Program} {w:World} {fn:Func} {tmps:Array Value} {p:Tmp} {t:TypeId} (b:Nat) (v:Value) (tt:TypeId) (h:fn.results=#[.cell p t]) (hp:tmps.getD p undef=.pointer (some ⟨b,0,none⟩)) (hL:Lc w b #[v] tt) (hs:zi3 P t=true):
  (results fn tmps).run P w=.ok v w:=by
 have hl:(loadVar t ⟨b,0,none⟩).run P w=.ok v w:=by
  unfold zi3 at hs
  have hc:w.cell? ⟨b,0,none⟩=some v:=by rw [zb4 hL];rfl
  cases hd:P.underlying t with
  | none=>rw [hd] at hs;cases hs
  | some d=>
   rw [hd] at hs
   have hagg:(isAgg t).run P w=.ok false w:=by
    unfold isAgg
    rw [Sem.run_bind,run_underlying hd w]
    cases d<;>first | cases hs | rfl
   simp only [loadVar,Sem.run_bind,hagg,Result.andThen_ok]
   simp [load,Sem.run,hc]
 simp only [Array.getD_eq_getD_getElem?] at hp
 simp [results,h,asAddr,hp,hl]
def IsMk (w:World) (D:Nat):Prop:=w.heap[D]?=some (.deferred (some []))
theorem IsMk.gr {w w':World} {D:Nat} (h:IsMk w D) (g:Gr w w'):IsMk w' D:=g.heap h
theorem IsMk.lt {w:World} {D:Nat} (h:IsMk w D):D<w.heap.size:=zf6 h
theorem IsMk.ne {w:World} {D c:Nat} (h:IsMk w D) (hc:w.heap.size≤c):D≠c:=fun e=>by have:=h.lt;omega
theorem IsMk.st {w w':World} {b D:Nat} (hm:IsMk w D) (h:St w w' b) (hne:D≠b):IsMk w' D:=(h.block D hne).trans hm
theorem own_mk {β:Type} {w:World} {D:Nat} (h:IsMk w D):OwnFrom w.heap.size (fun (_:β) W=>IsMk W D):=fun _ X Y row hs hg hr=>
 (hg.block D (zf6 hs) (fun e=>by have:=(hr D e.symm).1;have:=h.lt;omega)).trans hs
theorem zZ8 {β:Type} (B:Nat) (w:World):OwnFrom B (fun (_:β) W=>Kp w W):=fun _ X Y row hs hg hr b cs fr hb=>by
 have h:=hs b cs fr hb
 refine (hg.block b (zf6 h) (fun e=>?_)).trans h
 obtain ⟨_,o,ho,hc⟩:=hr b e.symm
 rw [h] at ho;cases ho;cases hc
section
variable {P:Program} {ops:Array Oper} {Q:Exit→Act→World→Prop}
def zC5 (ops:Array Oper) (listed:Array Bool) (i:Nat):Bool:=
 decide (i<ops.size)&&(!listed.getD i true&&((ops[i]?).map (·.after.all fun e=>!Region.binds .any e||listed.getD e.on false)).getD false)
theorem zs7 (ops:Array Oper) (listed:Array Bool) (i:Nat):(Region.ready .any ops listed).contains i=zC5 ops listed i:=by
 rw [Bool.eq_iff_iff,List.contains_iff_mem]
 unfold Region.ready zC5
 rw [List.mem_filter,List.mem_range,Bool.and_eq_true (decide _),decide_eq_true_eq]
def zn3 (ops:Array Oper) (fl:List Fl) (tl:List (Bool × Nat)):List (Bool × Nat)→Array Bool→Bool
 | [],listed=>zs1 ops tl (setFl listed fl)&&
   fl.all fun f=>zC5 ops listed f.op&&decide (Region.ready .any ops (setFl listed (fl.filter (·.op !=f.op)))=[f.op])
 | (true,i)::rest,listed=>zC5 ops listed i&&Region.free .any ops listed i&&zn3 ops fl tl rest (listed.setIfInBounds i true)
 | (false,i)::rest,listed=>zC5 ops listed i&&decide (Region.ready .any ops (setFl listed fl)=[i])&&zn3 ops fl tl rest (listed.setIfInBounds i true)
theorem zC6 (fl:List Fl) (tl:List (Bool × Nat)):∀ (l:List (Bool × Nat)) (listed:Array Bool),zs9 ops fl tl l listed=zn3 ops fl tl l listed
 | [],listed=>by simp only [zs9,zn3,zs7]
 | (true,i)::rest,listed=>by simp only [zs9,zn3,zs7,zC6 fl tl rest]
 | (false,i)::rest,listed=>by simp only [zs9,zn3,zs7,zC6 fl tl rest]
theorem zI0 {id:Nat} {a:Act} {w:World} (S:World→Prop) (l:List (Bool × Nat)) (fl:List Fl) (tl:List (Bool × Nat)) (hm:P.follows .mixedOrders=true) (hs:Region.noSelect ops=true)
  (hok:zn3 ops fl tl l (Array.replicate ops.size false)=true) (hap:okAp ops fl l=true) (hal:okAl ops fl=true) (hl:l.length+fl.length+tl.length≤ops.size)
  (hQ:∀ c (a:Act) (d:Tmp) v w,Q (.panic c) (a.put (some d) v) w→Q (.panic c) a w) (hQ':∀ c (a:Act) (d:Tmp) v w,Q (.panic c) a w→Q (.panic c) (a.put (some d) v) w) (hSa:∀ w o,S w→S (w.alloc o)) (hS:S w.drew)
  (hz:∀ f ∈ fl,∀ w,(Instr.alloc f.ty true (.tuple #[])).run P w=.ok (.pointer (some ⟨w.heap.size,0,none⟩)) (w.alloc (.cells f.zero f.ty)))
  (h:zk2 P ops Q S (zP8 P ops Q S w.heap.size fl tl) l a w.drew):(Code.region id ops true).wp P Q a w:=
 zt0 S l fl tl hm hs (by rw [zC6];exact hok) hap hal hl hQ hQ' hSa hS hz h
end
section
variable {P:Program} {ops:Array Oper} {Q:Exit→Act→World→Prop}
def Agree (n:Nat) (listed:Array Bool) (m:Nat):Prop:=listed.size=n∧∀ i,listed.getD i false=m.testBit i
theorem Agree.t {n:Nat} {listed:Array Bool} {m i:Nat} (h:Agree n listed m) (hi:i<n):listed.getD i true=m.testBit i:=by
 rw [← h.2 i]
 have:i<listed.size:=by rw [h.1];exact hi
 simp [Array.getD,this]
theorem Agree.zero (n:Nat):Agree n (Array.replicate n false) 0:=⟨by simp,fun i=>by simp [Array.getD]⟩
theorem Agree.set {n:Nat} {listed:Array Bool} {m i:Nat} (h:Agree n listed m) (hi:i<n):Agree n (listed.setIfInBounds i true) (m|||2 ^ i):=by
 refine ⟨by simp [h.1],fun j=>?_⟩
 rw [Nat.testBit_or,Nat.testBit_two_pow,← h.2 j]
 have hs:i<listed.size:=by rw [h.1];exact hi
 by_cases e:i=j
 ·subst e;simp [Array.getD,hs]
 ·simp [Array.getD_eq_getD_getElem?,Array.getElem?_setIfInBounds_ne e,e]
def yk4 (m:Nat) (o:Oper):Bool:=o.after.all fun e=>!Region.binds .any e||m.testBit e.on
def zs8:List Oper→Nat→Nat→List Nat
 | [],_,_=>[]
 | o::r,k,m=>if !m.testBit k&&yk4 m o then k::zs8 r (k+1) m else zs8 r (k+1) m
def freeM (ops:Array Oper) (oi:Oper) (i m:Nat):List Oper→Nat→Bool
 | [],_=>true
 | oj::r,k=>(k==i||m.testBit k||(oj.after.any (fun e=>Region.binds .any e&&e.on==i)||oi.apart ops oj))&&freeM ops oi i m r (k+1)
def zn4 (ops:Array Oper) (m i:Nat):Bool:=match ops[i]? with | some o=>!m.testBit i&&yk4 m o | none=>false
theorem zp7 {listed:Array Bool} {m:Nat} (h:Agree ops.size listed m) (i:Nat):zC5 ops listed i=zn4 ops m i:=by
 unfold zC5 zn4 yk4
 by_cases hi:i<ops.size
 ·rw [decide_eq_true hi,Bool.true_and,Array.getElem?_eq_getElem hi]
  simp only [Option.map_some,Option.getD_some,h.t hi,h.2]
 ·rw [decide_eq_false hi,Bool.false_and,Array.getElem?_eq_none (by omega)]
theorem zn5 {listed:Array Bool} {m:Nat} (h:Agree ops.size listed m):Region.ready .any ops listed=zs8 ops.toList 0 m:=by
 have go:∀ (r:List Oper) (k:Nat),ops.toList.drop k=r→k+r.length=ops.size→(List.range' k r.length).filter (fun i=>!listed.getD i true&&((ops[i]?).map (·.after.all fun e=>!Region.binds .any e||listed.getD e.on false)).getD false)=zs8 r k m:=by
  intro r
  induction r with
  | nil=>intro k _ _;rfl
  | cons o r ih=>
   intro k hd hk
   simp only [List.length_cons] at hk
   have hk':k<ops.size:=by omega
   have ho:ops[k]?=some o:=by
    have:ops.toList[k]?=some o:=by
     have:=congrArg List.head? hd
     rw [List.head?_drop] at this
     simpa using this
    simpa using this
   have hd':ops.toList.drop (k+1)=r:=by
    have:=congrArg List.tail hd
    rw [List.tail_drop] at this
    simpa using this
   rw [List.length_cons,List.range'_succ,List.filter_cons,ih (k+1) hd' (by omega)]
   simp only [ho,Option.map_some,Option.getD_some,h.t hk',h.2]
   rfl
 unfold Region.ready
 have:=go ops.toList 0 rfl (by simp)
 rw [List.range_eq_range']
 simpa using this
theorem freeM_eq {listed:Array Bool} {m i:Nat} {oi:Oper} (h:Agree ops.size listed m) (hi:ops[i]?=some oi):Region.free .any ops listed i=freeM ops oi i m ops.toList 0:=by
 have go:∀ (r:List Oper) (k:Nat),ops.toList.drop k=r→k+r.length=ops.size→((List.range' k r.length).all fun j=>j==i||listed.getD j true||match ops[j]? with
   | some oj=>oj.after.any (fun e=>Region.binds .any e&&e.on==i)||oi.apart ops oj
   | none=>true)=freeM ops oi i m r k:=by
  intro r
  induction r with
  | nil=>intro k _ _;rfl
  | cons o r ih=>
   intro k hd hk
   simp only [List.length_cons] at hk
   have hk':k<ops.size:=by omega
   have ho:ops[k]?=some o:=by
    have:ops.toList[k]?=some o:=by
     have:=congrArg List.head? hd
     rw [List.head?_drop] at this
     simpa using this
    simpa using this
   have hd':ops.toList.drop (k+1)=r:=by
    have:=congrArg List.tail hd
    rw [List.tail_drop] at this
    simpa using this
   rw [List.length_cons,List.range'_succ,List.all_cons,ih (k+1) hd' (by omega)]
   simp only [ho,h.t hk']
   rfl
 unfold Region.free
 have:=go ops.toList 0 rfl (by simp)
 rw [Array.length_toList] at this
 simp only [hi]
 rw [List.range_eq_range']
 exact this
def zZ9 (ops:Array Oper) (m i:Nat):Bool:=match ops[i]? with | some o=>freeM ops o i m ops.toList 0 | none=>false
theorem zP6 {listed:Array Bool} {m:Nat} (h:Agree ops.size listed m) (i:Nat):Region.free .any ops listed i=zZ9 ops m i:=by
 unfold zZ9
 cases hi:ops[i]? with
 | none=>unfold Region.free;rw [hi]
 | some o=>exact freeM_eq h hi
def zI8 (ops:Array Oper):List (Bool × Nat)→Nat→Bool
 | [],m=>(zs8 ops.toList 0 m).isEmpty
 | (true,i)::rest,m=>zn4 ops m i&&zZ9 ops m i&&zI8 ops rest (m|||2 ^ i)
 | (false,i)::rest,m=>decide (zs8 ops.toList 0 m=[i])&&zI8 ops rest (m|||2 ^ i)
theorem zw9 {m i:Nat} (h:zn4 ops m i=true):i<ops.size:=by
 unfold zn4 at h
 split at h
 ·next o ho=>exact (Array.getElem?_eq_some_iff.1 ho).1
 ·cases h
theorem yk5 {listed:Array Bool} {m i:Nat} (h:Agree ops.size listed m) (hr:zs8 ops.toList 0 m=[i]):i<ops.size:=by
 rw [← zn5 h] at hr
 have:i ∈ Region.ready .any ops listed:=by rw [hr];simp
 unfold Region.ready at this
 exact List.mem_range.1 (List.mem_filter.1 this).1
theorem zC7:∀ (l:List (Bool × Nat)) (listed:Array Bool) (m:Nat),Agree ops.size listed m→zI8 ops l m=true→zs1 ops l listed=true
 | [],listed,m,h,ho=>by rw [zs1,zn5 h];exact ho
 | (true,i)::rest,listed,m,h,ho=>by
  simp only [zI8,Bool.and_eq_true] at ho
  have hi:=zw9 ho.1.1
  rw [zs1,zs7,zp7 h,zP6 h,ho.1.1,ho.1.2,zC7 rest _ _ (h.set hi) ho.2];rfl
 | (false,i)::rest,listed,m,h,ho=>by
  simp only [zI8,Bool.and_eq_true,decide_eq_true_eq] at ho
  have hi:=yk5 h ho.1
  rw [zs1,zn5 h,decide_eq_true ho.1,zC7 rest _ _ (h.set hi) ho.2];rfl
def setM (m:Nat) (fl:List Fl):Nat:=fl.foldl (fun m f=>m|||2 ^ f.op) m
theorem Agree.setFl:∀ (fl:List Fl) {n:Nat} {listed:Array Bool} {m:Nat},Agree n listed m→(∀ f ∈ fl,f.op<n)→Agree n (Go.Proofs.YtaldbfflkpgfoaaGreatDoor.setFl listed fl) (setM m fl)
 | [],_,_,_,h,_=>h
 | f::fl,n,listed,m,h,hf=>Agree.setFl fl (h.set (hf f (by simp))) (fun g hg=>hf g (by simp [hg]))
def zC8 (ops:Array Oper) (fl:List Fl) (tl:List (Bool × Nat)):List (Bool × Nat)→Nat→Bool
 | [],m=>zI8 ops tl (setM m fl)&&
   fl.all fun f=>zn4 ops m f.op&&decide (zs8 ops.toList 0 (setM m (fl.filter (·.op !=f.op)))=[f.op])
 | (true,i)::rest,m=>zn4 ops m i&&zZ9 ops m i&&zC8 ops fl tl rest (m|||2 ^ i)
 | (false,i)::rest,m=>zn4 ops m i&&decide (zs8 ops.toList 0 (setM m fl)=[i])&&zC8 ops fl tl rest (m|||2 ^ i)
theorem zC9 (fl:List Fl) (tl:List (Bool × Nat)) (hfl:∀ f ∈ fl,f.op<ops.size):∀ (l:List (Bool × Nat)) (listed:Array Bool) (m:Nat),Agree ops.size listed m→zC8 ops fl tl l m=true→zn3 ops fl tl l listed=true
 | [],listed,m,h,ho=>by
  simp only [zC8,Bool.and_eq_true,List.all_eq_true] at ho
  simp only [zn3,Bool.and_eq_true,List.all_eq_true]
  refine ⟨zC7 tl _ _ (Agree.setFl fl h hfl) ho.1,fun f hf=>?_⟩
  have hs:=Agree.setFl (fl.filter (·.op !=f.op)) h (fun g hg=>hfl g (List.mem_filter.1 hg).1)
  rw [zp7 h,zn5 hs]
  exact ho.2 f hf
 | (true,i)::rest,listed,m,h,ho=>by
  simp only [zC8,Bool.and_eq_true] at ho
  have hi:=zw9 ho.1.1
  rw [zn3,zp7 h,zP6 h,ho.1.1,ho.1.2,zC9 fl tl hfl rest _ _ (h.set hi) ho.2];rfl
 | (false,i)::rest,listed,m,h,ho=>by
  simp only [zC8,Bool.and_eq_true,decide_eq_true_eq] at ho
  have hi:=zw9 ho.1.1
  rw [zn3,zp7 h,zn5 (Agree.setFl fl h hfl),ho.1.1,decide_eq_true ho.1.2,zC9 fl tl hfl rest _ _ (h.set hi) ho.2];rfl
theorem zj7 {id:Nat} {a:Act} {w:World} (S:World→Prop) (l:List (Bool × Nat)) (fl:List Fl) (tl:List (Bool × Nat)) (hm:P.follows .mixedOrders=true) (hs:Region.noSelect ops=true)
  (hok:(zC8 ops fl tl l 0&&fl.all fun f=>decide (f.op<ops.size))=true) (hap:okAp ops fl l=true) (hal:okAl ops fl=true) (hl:l.length+fl.length+tl.length≤ops.size)
  (hQ:∀ c (a:Act) (d:Tmp) v w,Q (.panic c) (a.put (some d) v) w→Q (.panic c) a w) (hQ':∀ c (a:Act) (d:Tmp) v w,Q (.panic c) a w→Q (.panic c) (a.put (some d) v) w) (hSa:∀ w o,S w→S (w.alloc o)) (hS:S w.drew)
  (hz:∀ f ∈ fl,∀ w,(Instr.alloc f.ty true (.tuple #[])).run P w=.ok (.pointer (some ⟨w.heap.size,0,none⟩)) (w.alloc (.cells f.zero f.ty)))
  (h:zk2 P ops Q S (zP8 P ops Q S w.heap.size fl tl) l a w.drew):(Code.region id ops true).wp P Q a w:=by
 rw [Bool.and_eq_true,List.all_eq_true] at hok
 exact zI0 S l fl tl hm hs (zC9 fl tl (fun f hf=>of_decide_eq_true (hok.2 f hf)) l _ 0 (Agree.zero _) hok.1) hap hal hl hQ hQ' hSa hS hz h
end
set_option maxRecDepth 100000 in
set_option maxHeartbeats 1000000 in
theorem ments {c0 c1 c2 c3 c4 c5 c6 c7 c8 c9 aB aP aK ad aJ ax aI ai ae aM aR aQ aa az aw aj ar ac al aD av aA aC aG ak ab ah aH aq aL aE aF aN af aO ay ap au:Value} (w:World) (_o0:c0.oneCell'=true) (_o1:c1.oneCell'=true) (_o2:c2.oneCell'=true) (_o3:c3.oneCell'=true) (_o4:c4.oneCell'=true) (_o5:c5.oneCell'=true) (_o6:c6.oneCell'=true) (_o7:c7.oneCell'=true) (_o8:c8.oneCell'=true) (_o9:c9.oneCell'=true) (_o10:aB.oneCell'=true) (_o11:aP.oneCell'=true) (_o12:aK.oneCell'=true) (_o13:ad.oneCell'=true) (_o14:aJ.oneCell'=true) (_o15:ax.oneCell'=true) (_o16:aI.oneCell'=true) (_o17:ai.oneCell'=true) (_o18:ae.oneCell'=true) (_o19:aM.oneCell'=true) (_o20:aR.oneCell'=true) (_o21:aQ.oneCell'=true) (_o22:aa.oneCell'=true) (_o23:az.oneCell'=true) (_o24:aw.oneCell'=true) (_o25:aj.oneCell'=true) (_o26:ar.oneCell'=true) (_o27:ac.oneCell'=true) (_o28:al.oneCell'=true) (_o29:aD.oneCell'=true) (_o30:av.oneCell'=true) (_o31:aA.oneCell'=true) (_o32:aC.oneCell'=true) (_o33:aG.oneCell'=true) (_o34:ak.oneCell'=true) (_o35:ab.oneCell'=true) (_o36:ah.oneCell'=true) (_o37:aH.oneCell'=true) (_o38:aq.oneCell'=true) (_o39:aL.oneCell'=true) (_o40:aE.oneCell'=true) (_o41:aF.oneCell'=true) (_o42:aN.oneCell'=true) (_o43:af.oneCell'=true) (_o44:aO.oneCell'=true) (_o45:ay.oneCell'=true) (_o46:ap.oneCell'=true) (_o47:au.oneCell'=true):
    Calls Tryz.prog 61 #[(.agg #[c0,c1,c2,c3,c4,c5,c6,c7,c8,c9,aB,aP,aK,ad,aJ,ax,aI,ai,ae,aM,aR,aQ,aa,az,aw,aj,ar,ac,al,aD,av,aA,aC,aG,ak,ab,ah,aH,aq,aL,aE,aF,aN,af,aO,ay,ap,au])] w fun e w'=>(∃ bm,e=.returned (.func (.func 98) #[] #[.pointer (some ⟨bm,0,none⟩)])∧Lc w' bm #[c0,c1,c2,c3,c4,c5,c6,c7,c8,c9,aB,aP,aK,ad,aJ,ax,aI,ai,ae,aM,aR,aQ,aa,az,aw,aj,ar,ac,al,aD,av,aA,aC,aG,ak,ab,ah,aH,aq,aL,aE,aF,aN,af,aO,ay,ap,au] 41)∧Gr w w':=by
 go_enter Tryz.func61,Tryz.ntmps61
 have hB:=Gr.refl w
 refine wp_seq_k (fun K1 k1=>?_)
 refine rg [0,1] ?_
 refine se ?_
 refine eb 41 #[c0,c1,c2,c3,c4,c5,c6,c7,c8,c9,aB,aP,aK,ad,aJ,ax,aI,ai,ae,aM,aR,aQ,aa,az,aw,aj,ar,ac,al,aD,av,aA,aC,aG,ak,ab,ah,aH,aq,aL,aE,aF,aN,af,aO,ay,ap,au] 1 hB fun b2 w2 g2 L2 o2 q2 hB=>?_
 simp only [p3,p4]
 refine sv 2 .nilFunc ?_
 refine za0 ?_
 refine k1 _ _ ?_
 try clear k1 K1
 refine wp_seq_k (fun K3 k3=>?_)
 refine rg [0,1] ?_
 refine sv 3 (.func (.func 98) #[] #[(.pointer (some ⟨b2,0,none⟩))]) ?_
 refine sv 2 (.func (.func 98) #[] #[(.pointer (some ⟨b2,0,none⟩))]) ?_
 refine za0 ?_
 refine k3 _ _ ?_
 try clear k3 K3
 refine wp_ret ?_
 refine bodyPost_ret (v:=(.func (.func 98) #[] #[(.pointer (some ⟨b2,0,none⟩))])) (za7 rfl rfl) rfl ⟨?_,hB⟩
 exact ⟨_,rfl,L2⟩

theorem rcmp12 {xs ys:List Rat} (hx:xs.length=12) (hy:ys.length=12):(∀ j ∈ all12,yh3 (xs.getD j.val 0) (ys.getD j.val 0)=0)↔xs=ys:=by
 constructor
 ·intro h
  apply List.ext_getElem?
  intro i
  by_cases hi:i<12
  ·have:=zS0.1 (h ⟨i,hi⟩ (zF6 _))
   simp only [List.getD_eq_getElem?_getD,List.getElem?_eq_getElem (show i<xs.length by omega),List.getElem?_eq_getElem (show i<ys.length by omega),Option.getD_some] at this
   rw [List.getElem?_eq_getElem (show i<xs.length by omega),List.getElem?_eq_getElem (show i<ys.length by omega),this]
  ·rw [List.getElem?_eq_none (by omega),List.getElem?_eq_none (by omega)]
 ·rintro rfl j _
  exact zS0.2 rfl
set_option maxRecDepth 100000 in
set_option maxHeartbeats 4000000 in
theorem mequal {k m:Nat} {bc bG bj bN bD bf a2 bx bC a3 bE bO bd bi bJ a5 bR bM bL bp a4 a6 bT bt bu a8 bA bv bk bg bo bb bK bh bP bS bm bw bn bU a9 bz bH bF bq bQ ba a7:Value} {cQ cK cF cU cW cV cS cP cT cD cC cM:Rat} {aw aW ai aM aB ac aO aq au ae aV aN ad ap ar av aa aG aY aA az aZ ab aj aK aS aL aT aC aP aJ ax aQ ay a1 aE af ah aH a0 aU aD aF aI aX al aR ak:Value} {cY cR cX cE cB cH cL cO cZ cJ cN cG:Rat} {w:World} (bX:IsRat w k bc bG bj bN cQ) (cc:IsRat w k bD bf a2 bx cK) (cn:IsRat w k bC a3 bE bO cF) (b9:IsRat w k bd bi bJ a5 cU) (ce:IsRat w k bR bM bL bp cW) (ct:IsRat w k a4 a6 bT bt cV) (b7:IsRat w k bu a8 bA bv cS) (cd:IsRat w k bk bg bo bb cP) (cu:IsRat w k bK bh bP bS cT) (bY:IsRat w k bm bw bn bU cD) (cj:IsRat w k a9 bz bH bF cC) (co:IsRat w k bq bQ ba a7 cM) (bW:IsRat w m aw aW ai aM cY) (b5:IsRat w m aB ac aO aq cR) (bZ:IsRat w m au ae aV aN cX) (cg:IsRat w m ad ap ar av cE) (cq:IsRat w m aa aG aY aA cB) (cl:IsRat w m az aZ ab aj cH) (b8:IsRat w m aK aS aL aT cL) (ca:IsRat w m aC aP aJ ax cO) (ch:IsRat w m aQ ay a1 aE cZ) (cm:IsRat w m af ah aH a0 cJ) (bV:IsRat w m aU aD aF aI cN) (ck:IsRat w m aX al aR ak cG) (_hk:k+m≤90000):
    Calls Tryz.prog 16 #[(.agg #[bc,bG,bj,bN,bD,bf,a2,bx,bC,a3,bE,bO,bd,bi,bJ,a5,bR,bM,bL,bp,a4,a6,bT,bt,bu,a8,bA,bv,bk,bg,bo,bb,bK,bh,bP,bS,bm,bw,bn,bU,a9,bz,bH,bF,bq,bQ,ba,a7]),(.agg #[aw,aW,ai,aM,aB,ac,aO,aq,au,ae,aV,aN,ad,ap,ar,av,aa,aG,aY,aA,az,aZ,ab,aj,aK,aS,aL,aT,aC,aP,aJ,ax,aQ,ay,a1,aE,af,ah,aH,a0,aU,aD,aF,aI,aX,al,aR,ak])] w fun e w'=>e=.returned (.bool (decide ([cQ,cK,cF,cU,cW,cV,cS,cP,cT,cD,cC,cM]=[cY,cR,cX,cE,cB,cH,cL,cO,cZ,cJ,cN,cG])))∧Gr w w':=by
 have hmaone:One1 [bc,bG,bj,bN,bD,bf,a2,bx,bC,a3,bE,bO,bd,bi,bJ,a5,bR,bM,bL,bp,a4,a6,bT,bt,bu,a8,bA,bv,bk,bg,bo,bb,bK,bh,bP,bS,bm,bw,bn,bU,a9,bz,bH,bF,bq,bQ,ba,a7]:=⟨bX.one0,bX.one1,bX.one2,bX.one3,cc.one0,cc.one1,cc.one2,cc.one3,cn.one0,cn.one1,cn.one2,cn.one3,b9.one0,b9.one1,b9.one2,b9.one3,ce.one0,ce.one1,ce.one2,ce.one3,ct.one0,ct.one1,ct.one2,ct.one3,b7.one0,b7.one1,b7.one2,b7.one3,cd.one0,cd.one1,cd.one2,cd.one3,cu.one0,cu.one1,cu.one2,cu.one3,bY.one0,bY.one1,bY.one2,bY.one3,cj.one0,cj.one1,cj.one2,cj.one3,co.one0,co.one1,co.one2,co.one3,trivial⟩
 have hmbone:One1 [aw,aW,ai,aM,aB,ac,aO,aq,au,ae,aV,aN,ad,ap,ar,av,aa,aG,aY,aA,az,aZ,ab,aj,aK,aS,aL,aT,aC,aP,aJ,ax,aQ,ay,a1,aE,af,ah,aH,a0,aU,aD,aF,aI,aX,al,aR,ak]:=⟨bW.one0,bW.one1,bW.one2,bW.one3,b5.one0,b5.one1,b5.one2,b5.one3,bZ.one0,bZ.one1,bZ.one2,bZ.one3,cg.one0,cg.one1,cg.one2,cg.one3,cq.one0,cq.one1,cq.one2,cq.one3,cl.one0,cl.one1,cl.one2,cl.one3,b8.one0,b8.one1,b8.one2,b8.one3,ca.one0,ca.one1,ca.one2,ca.one3,ch.one0,ch.one1,ch.one2,ch.one3,cm.one0,cm.one1,cm.one2,cm.one3,bV.one0,bV.one1,bV.one2,bV.one3,ck.one0,ck.one1,ck.one2,ck.one3,trivial⟩
 have qa:∀ j:Fin 12,IsRat w k ([bc,bG,bj,bN,bD,bf,a2,bx,bC,a3,bE,bO,bd,bi,bJ,a5,bR,bM,bL,bp,a4,a6,bT,bt,bu,a8,bA,bv,bk,bg,bo,bb,bK,bh,bP,bS,bm,bw,bn,bU,a9,bz,bH,bF,bq,bQ,ba,a7].getD (4*j.val) undef) ([bc,bG,bj,bN,bD,bf,a2,bx,bC,a3,bE,bO,bd,bi,bJ,a5,bR,bM,bL,bp,a4,a6,bT,bt,bu,a8,bA,bv,bk,bg,bo,bb,bK,bh,bP,bS,bm,bw,bn,bU,a9,bz,bH,bF,bq,bQ,ba,a7].getD (4*j.val+1) undef) ([bc,bG,bj,bN,bD,bf,a2,bx,bC,a3,bE,bO,bd,bi,bJ,a5,bR,bM,bL,bp,a4,a6,bT,bt,bu,a8,bA,bv,bk,bg,bo,bb,bK,bh,bP,bS,bm,bw,bn,bU,a9,bz,bH,bF,bq,bQ,ba,a7].getD (4*j.val+2) undef) ([bc,bG,bj,bN,bD,bf,a2,bx,bC,a3,bE,bO,bd,bi,bJ,a5,bR,bM,bL,bp,a4,a6,bT,bt,bu,a8,bA,bv,bk,bg,bo,bb,bK,bh,bP,bS,bm,bw,bn,bU,a9,bz,bH,bF,bq,bQ,ba,a7].getD (4*j.val+3) undef) ([cQ,cK,cF,cU,cW,cV,cS,cP,cT,cD,cC,cM].getD j.val 0):=fin12 bX cc cn b9 ce ct b7 cd cu bY cj co
 have qb:∀ j:Fin 12,IsRat w m ([aw,aW,ai,aM,aB,ac,aO,aq,au,ae,aV,aN,ad,ap,ar,av,aa,aG,aY,aA,az,aZ,ab,aj,aK,aS,aL,aT,aC,aP,aJ,ax,aQ,ay,a1,aE,af,ah,aH,a0,aU,aD,aF,aI,aX,al,aR,ak].getD (4*j.val) undef) ([aw,aW,ai,aM,aB,ac,aO,aq,au,ae,aV,aN,ad,ap,ar,av,aa,aG,aY,aA,az,aZ,ab,aj,aK,aS,aL,aT,aC,aP,aJ,ax,aQ,ay,a1,aE,af,ah,aH,a0,aU,aD,aF,aI,aX,al,aR,ak].getD (4*j.val+1) undef) ([aw,aW,ai,aM,aB,ac,aO,aq,au,ae,aV,aN,ad,ap,ar,av,aa,aG,aY,aA,az,aZ,ab,aj,aK,aS,aL,aT,aC,aP,aJ,ax,aQ,ay,a1,aE,af,ah,aH,a0,aU,aD,aF,aI,aX,al,aR,ak].getD (4*j.val+2) undef) ([aw,aW,ai,aM,aB,ac,aO,aq,au,ae,aV,aN,ad,ap,ar,av,aa,aG,aY,aA,az,aZ,ab,aj,aK,aS,aL,aT,aC,aP,aJ,ax,aQ,ay,a1,aE,af,ah,aH,a0,aU,aD,aF,aI,aX,al,aR,ak].getD (4*j.val+3) undef) ([cY,cR,cX,cE,cB,cH,cL,cO,cZ,cJ,cN,cG].getD j.val 0):=fin12 bW b5 bZ cg cq cl b8 ca ch cm bV ck
 refine enterN Tryz.func16 rfl ?_
 simp only [Tryz.ntmps16,List.size_toArray,List.length_cons,List.length_nil,Nat.reduceAdd,Nat.reduceSub,Array.replicate_succ,Array.replicate_zero,List.push_toArray,List.append_toArray,List.nil_append,List.cons_append]
 have hB:=Gr.refl w
 refine wp_seq_k (fun K1 k1=>?_)
 refine rg [0,1,2] ?_
 refine se ?_
 refine eb 41 #[bc,bG,bj,bN,bD,bf,a2,bx,bC,a3,bE,bO,bd,bi,bJ,a5,bR,bM,bL,bp,a4,a6,bT,bt,bu,a8,bA,bv,bk,bg,bo,bb,bK,bh,bP,bS,bm,bw,bn,bU,a9,bz,bH,bF,bq,bQ,ba,a7] 2 hB fun b2 w2 g2 L2 o2 q2 hB=>?_
 simp only [p3,p4]
 refine se ?_
 refine eb 41 #[aw,aW,ai,aM,aB,ac,aO,aq,au,ae,aV,aN,ad,ap,ar,av,aa,aG,aY,aA,az,aZ,ab,aj,aK,aS,aL,aT,aC,aP,aJ,ax,aQ,ay,a1,aE,af,ah,aH,a0,aU,aD,aF,aI,aX,al,aR,ak] 3 hB fun b3 w3 g3 L3 o3 q3 hB=>?_
 simp only [p3,p4]
 refine se ?_
 refine zF8 4 (.bool false) #[.bool false] (some 4) rfl rfl (by kernel_rfl) rfl (fun b4 w4 g4 L4 q4=>?_)
 replace L2:=L2.gr g3
 have dm:=L2.ne q4
 replace q4:=Nat.le_trans (Below.size hB) q4
 replace hB:=hB.trans g4
 simp only [zB4,p3,p4]
 refine za0 ?_
 refine k1 _ _ ?_
 try clear k1 K1
 refine wp_seq_k (fun K5 k5=>?_)
 refine rg [0] ?_
 refine se ?_
 refine ea 116 #[.bool false,.slice none 0 0,.bool false,.slice none 0 0,.bool false,.slice none 0 0,.bool false,.slice none 0 0,.bool false,.slice none 0 0,.bool false,.slice none 0 0,.bool false,.slice none 0 0,.bool false,.slice none 0 0,.bool false,.slice none 0 0,.bool false,.slice none 0 0,.bool false,.slice none 0 0,.bool false,.slice none 0 0,.bool false,.slice none 0 0,.bool false,.slice none 0 0,.bool false,.slice none 0 0,.bool false,.slice none 0 0,.bool false,.slice none 0 0,.bool false,.slice none 0 0,.bool false,.slice none 0 0,.bool false,.slice none 0 0,.bool false,.slice none 0 0,.bool false,.slice none 0 0,.bool false,.slice none 0 0,.bool false,.slice none 0 0] 5 hB fun b6 w6 g6 L6 o6 q6 hB=>?_
 replace L2:=L2.gr g4
 have dc:=L2.ne o6
 replace L3:=L3.gr g4
 have db:=L3.ne o6
 have c7:=L4.ne o6
 simp only [p3,p4]
 refine za0 ?_
 refine k5 _ _ ?_
 try clear k5 K5
 refine wp_seq_k (fun K7 k7=>?_)
 refine wp_seq_k (fun K8 k8=>?_)
 refine rg [0,1] ?_
 replace L3:=L3.gr g6
 refine sw 10 (.agg #[aw,aW,ai,aM,aB,ac,aO,aq,au,ae,aV,aN,ad,ap,ar,av,aa,aG,aY,aA,az,aZ,ab,aj,aK,aS,aL,aT,aC,aP,aJ,ax,aQ,ay,a1,aE,af,ah,aH,a0,aU,aD,aF,aI,aX,al,aR,ak]) rfl (rl 41 0 [aw,aW,ai,aM,aB,ac,aO,aq,au,ae,aV,aN,ad,ap,ar,av,aa,aG,aY,aA,az,aZ,ab,aj,aK,aS,aL,aT,aC,aP,aJ,ax,aQ,ay,a1,aE,af,ah,aH,a0,aU,aD,aF,aI,aX,al,aR,ak] L3) ?_
 refine se ?_
 refine ec 11 (ments _ bW.one0 bW.one1 bW.one2 bW.one3 b5.one0 b5.one1 b5.one2 b5.one3 bZ.one0 bZ.one1 bZ.one2 bZ.one3 cg.one0 cg.one1 cg.one2 cg.one3 cq.one0 cq.one1 cq.one2 cq.one3 cl.one0 cl.one1 cl.one2 cl.one3 b8.one0 b8.one1 b8.one2 b8.one3 ca.one0 ca.one1 ca.one2 ca.one3 ch.one0 ch.one1 ch.one2 ch.one3 cm.one0 cm.one1 cm.one2 cm.one3 bV.one0 bV.one1 bV.one2 bV.one3 ck.one0 ck.one1 ck.one2 ck.one3) ?_
 rintro e9 w9 ⟨⟨dN,rfl,dw⟩,g9⟩
 refine ⟨_,rfl,?_⟩
 replace hB:=hB.trans g9
 simp only [p3,p4]
 refine za0 ?_
 refine k8 _ _ ?_
 try clear k8 K8
 refine wp_block ?_
 replace L2:=L2.gr (g6.trans g9)
 replace L3:=L3.gr g9
 replace L4:=L4.gr (g6.trans g9)
 replace L6:=L6.gr g9
 refine ys2 (Ds:=[]) (d1:=6) (d2:=7) (zD2 _ dN aw aW ai aM aB ac aO aq au ae aV aN ad ap ar av aa aG aY aA az aZ ab aj aK aS aL aT aC aP aJ ax aQ ay a1 aE af ah aH a0 aU aD aF aI aX al aR ak bW.one0 bW.one1 bW.one2 bW.one3 b5.one0 b5.one1 b5.one2 b5.one3 bZ.one0 bZ.one1 bZ.one2 bZ.one3 cg.one0 cg.one1 cg.one2 cg.one3 cq.one0 cq.one1 cq.one2 cq.one3 cl.one0 cl.one1 cl.one2 cl.one3 b8.one0 b8.one1 b8.one2 b8.one3 ca.one0 ca.one1 ca.one2 ca.one3 ch.one0 ch.one1 ch.one2 ch.one3 cm.one0 cm.one1 cm.one2 cm.one3 bV.one0 bV.one1 bV.one2 bV.one3 ck.one0 ck.one1 ck.one2 ck.one3 _ dw) (fun prs W'=>Gr w W'∧Kp w9 W'∧Lc W' b2 #[bc,bG,bj,bN,bD,bf,a2,bx,bC,a3,bE,bO,bd,bi,bJ,a5,bR,bM,bL,bp,a4,a6,bT,bt,bu,a8,bA,bv,bk,bg,bo,bb,bK,bh,bP,bS,bm,bw,bn,bU,a9,bz,bH,bF,bq,bQ,ba,a7] 41∧Lc W' b3 #[aw,aW,ai,aM,aB,ac,aO,aq,au,ae,aV,aN,ad,ap,ar,av,aa,aG,aY,aA,az,aZ,ab,aj,aK,aS,aL,aT,aC,aP,aJ,ax,aQ,ay,a1,aE,af,ah,aH,a0,aU,aD,aF,aI,aX,al,aR,ak] 41∧Lc W' b4 #[.bool false] 4∧∃ xs,Fills 12 [aw,aW,ai,aM,aB,ac,aO,aq,au,ae,aV,aN,ad,ap,ar,av,aa,aG,aY,aA,az,aZ,ab,aj,aK,aS,aL,aT,aC,aP,aJ,ax,aQ,ay,a1,aE,af,ah,aH,a0,aU,aD,aF,aI,aX,al,aR,ak] prs xs∧Lc W' b6 xs.toArray 116) (fun _ _ _=>False) ((yd3 hB.size).and ((zZ8 _ _).and ((zj4 _ _ _ _).and ((zj4 _ _ _ _).and ((zj4 _ _ _ _).and (ys0 fun xs=>(ownFrom_pure _ _).and (zj4 _ _ _ _))))))) (fun _ _ _ _ _ h _ _=>h) ⟨hB,Kp.refl _,L2,L3,L4,⟨_,⟨rfl,zL5 (by decide),fun _ h=>absurd h (by simp)⟩,L6⟩⟩ ?_ ?_ ?_ ?_ rfl (enters_of Tryz.func98 (by kernel_rfl) rfl)
 ·intro ll kk W K hK
  try simp only [p3,p4]
  refine wpIn_seq_k (fun K1 k1=>?_)
  refine rgI (zd6 ll) [0] ?_
  refine sv 6 (.int .i64 (kk.val:Int)) ?_
  try simp only [p3,p4]
  refine za0 ?_
  refine k1 _ _ ?_
  refine rgY [0,1] ?_
  refine zk9 (zd6 ll) 7 36 (.agg #[.bool false,.slice none 0 0,.bool false,.slice none 0 0]) (ent [aw,aW,ai,aM,aB,ac,aO,aq,au,ae,aV,aN,ad,ap,ar,av,aa,aG,aY,aA,az,aZ,ab,aj,aK,aS,aL,aT,aC,aP,aJ,ax,aQ,ay,a1,aE,af,ah,aH,a0,aU,aD,aF,aI,aX,al,aR,ak] kk) ?_ (zw8 hmbone rfl kk)
  try simp only [p3,p4]
  refine zc6 ?_
  exact hK
 ·rintro ll bB prs kk W ⟨hB,hkW,L2,L3,L4,xs,hF,L6⟩ hqB hLB
  try simp only [p3,p4]
  have hlt:=kk.isLt
  refine wpIn_block ?_
  refine rgI (zd6 ll) [0,1,2,3] ?_
  refine sv 14 (.int .i64 (kk.val:Int)) ?_
  try simp only [p3,p4]
  refine sw 15 (.agg (ent [aw,aW,ai,aM,aB,ac,aO,aq,au,ae,aV,aN,ad,ap,ar,av,aa,aG,aY,aA,az,aZ,ab,aj,aK,aS,aL,aT,aC,aP,aJ,ax,aQ,ay,a1,aE,af,ah,aH,a0,aU,aD,aF,aI,aX,al,aR,ak] kk).toArray) rfl (rl 36 0 (ent [aw,aW,ai,aM,aB,ac,aO,aq,au,ae,aV,aN,ad,ap,ar,av,aa,aG,aY,aA,az,aZ,ab,aj,aK,aS,aL,aT,aC,aP,aJ,ax,aQ,ay,a1,aE,af,ah,aH,a0,aU,aD,aF,aI,aX,al,aR,ak] kk) hLB) ?_
  try simp only [p3,p4]
  refine sw 16 (.pointer (some ⟨b6,4*kk.val,none⟩)) rfl (yk3 116 _ _ b6 12 36 4 kk.val hlt) ?_
  try simp only [p3,p4]
  obtain ⟨ys,hys,dJ⟩:=hF.step hmbone rfl hlt
  refine se ?_
  refine es 36 (4*kk.val) _ (ent [aw,aW,ai,aM,aB,ac,aO,aq,au,ae,aV,aN,ad,ap,ar,av,aa,aG,aY,aA,az,aZ,ab,aj,aK,aS,aL,aT,aC,aP,aJ,ax,aQ,ay,a1,aE,af,ah,aH,a0,aU,aD,aF,aI,aX,al,aR,ak] kk) ys.toArray L6 hB q6 (zw8 hmbone rfl kk) ?_ (hoff:=by simp [hF.len,ent];omega) (hcs:=hys)
  intro w1 st kp N g
  refine za0 ?_
  have ho:=zF5 st L6 (Nat.le_of_eq (by rw [st.size]))
  exact ⟨ho.from _,ho.walks,g,hkW.trans kp,st.lc L2 dc,st.lc L3 db,st.lc L4 c7,ys,dJ,N⟩
 ·rintro da dB dn ⟨dl,dI,df,dE,dh,xs,hF,de⟩ cy
  have dy:=hF.done (by decide) rfl
  subst dy
  clear hF
  have c5:=L4.ne dn
  replace dn:=Nat.le_trans (Below.size hB) dn
  replace hB:=dl
  replace L2:=df
  replace L4:=dh
  replace L6:=de
  change IsMk dB da at cy
  change Lc dB b6 #[aw,aW,ai,aM,aB,ac,aO,aq,au,ae,aV,aN,ad,ap,ar,av,aa,aG,aY,aA,az,aZ,ab,aj,aK,aS,aL,aT,aC,aP,aJ,ax,aQ,ay,a1,aE,af,ah,aH,a0,aU,aD,aF,aI,aX,al,aR,ak] 116 at L6
  refine k7 _ _ ?_
  try clear k7 K7
  refine wp_seq_k (fun dM dF=>?_)
  refine wp_seq_k (fun dO dG=>?_)
  refine rg [0,1] ?_
  refine sw 17 (.agg #[bc,bG,bj,bN,bD,bf,a2,bx,bC,a3,bE,bO,bd,bi,bJ,a5,bR,bM,bL,bp,a4,a6,bT,bt,bu,a8,bA,bv,bk,bg,bo,bb,bK,bh,bP,bS,bm,bw,bn,bU,a9,bz,bH,bF,bq,bQ,ba,a7]) rfl (rl 41 0 [bc,bG,bj,bN,bD,bf,a2,bx,bC,a3,bE,bO,bd,bi,bJ,a5,bR,bM,bL,bp,a4,a6,bT,bt,bu,a8,bA,bv,bk,bg,bo,bb,bK,bh,bP,bS,bm,bw,bn,bU,a9,bz,bH,bF,bq,bQ,ba,a7] L2) ?_
  refine se ?_
  refine ec 18 (ments _ bX.one0 bX.one1 bX.one2 bX.one3 cc.one0 cc.one1 cc.one2 cc.one3 cn.one0 cn.one1 cn.one2 cn.one3 b9.one0 b9.one1 b9.one2 b9.one3 ce.one0 ce.one1 ce.one2 ce.one3 ct.one0 ct.one1 ct.one2 ct.one3 b7.one0 b7.one1 b7.one2 b7.one3 cd.one0 cd.one1 cd.one2 cd.one3 cu.one0 cu.one1 cu.one2 cu.one3 bY.one0 bY.one1 bY.one2 bY.one3 cj.one0 cj.one1 cj.one2 cj.one3 co.one0 co.one1 co.one2 co.one3) ?_
  rintro e13 dC ⟨⟨dx,rfl,di⟩,dk⟩
  refine ⟨_,rfl,?_⟩
  replace hB:=hB.trans dk
  simp only [p3,p4]
  refine za0 ?_
  refine dG _ _ ?_
  try clear dG dO
  refine wp_block ?_
  replace L2:=L2.gr dk
  replace L4:=L4.gr dk
  replace L6:=L6.gr dk
  replace cy:=cy.gr dk
  refine ys2 (Ds:=[da]) (d1:=8) (d2:=9) (zD2 _ dx bc bG bj bN bD bf a2 bx bC a3 bE bO bd bi bJ a5 bR bM bL bp a4 a6 bT bt bu a8 bA bv bk bg bo bb bK bh bP bS bm bw bn bU a9 bz bH bF bq bQ ba a7 bX.one0 bX.one1 bX.one2 bX.one3 cc.one0 cc.one1 cc.one2 cc.one3 cn.one0 cn.one1 cn.one2 cn.one3 b9.one0 b9.one1 b9.one2 b9.one3 ce.one0 ce.one1 ce.one2 ce.one3 ct.one0 ct.one1 ct.one2 ct.one3 b7.one0 b7.one1 b7.one2 b7.one3 cd.one0 cd.one1 cd.one2 cd.one3 cu.one0 cu.one1 cu.one2 cu.one3 bY.one0 bY.one1 bY.one2 bY.one3 cj.one0 cj.one1 cj.one2 cj.one3 co.one0 co.one1 co.one2 co.one3 _ di) (fun prs W'=>Gr w W'∧Kp dC W'∧Lc W' b2 #[bc,bG,bj,bN,bD,bf,a2,bx,bC,a3,bE,bO,bd,bi,bJ,a5,bR,bM,bL,bp,a4,a6,bT,bt,bu,a8,bA,bv,bk,bg,bo,bb,bK,bh,bP,bS,bm,bw,bn,bU,a9,bz,bH,bF,bq,bQ,ba,a7] 41∧Lc W' b4 #[.bool false] 4∧Lc W' b6 #[aw,aW,ai,aM,aB,ac,aO,aq,au,ae,aV,aN,ad,ap,ar,av,aa,aG,aY,aA,az,aZ,ab,aj,aK,aS,aL,aT,aC,aP,aJ,ax,aQ,ay,a1,aE,af,ah,aH,a0,aU,aD,aF,aI,aX,al,aR,ak] 116∧IsMk W' da∧(∀ j ∈ prs,yh3 ([cQ,cK,cF,cU,cW,cV,cS,cP,cT,cD,cC,cM].getD j.val 0) ([cY,cR,cX,cE,cB,cH,cL,cO,cZ,cJ,cN,cG].getD j.val 0)=0)) (fun c prs W'=>c=.ret∧Gr w W'∧Kp dC W'∧Lc W' b2 #[bc,bG,bj,bN,bD,bf,a2,bx,bC,a3,bE,bO,bd,bi,bJ,a5,bR,bM,bL,bp,a4,a6,bT,bt,bu,a8,bA,bv,bk,bg,bo,bb,bK,bh,bP,bS,bm,bw,bn,bU,a9,bz,bH,bF,bq,bQ,ba,a7] 41∧Lc W' b4 #[.bool false] 4∧Lc W' b6 #[aw,aW,ai,aM,aB,ac,aO,aq,au,ae,aV,aN,ad,ap,ar,av,aa,aG,aY,aA,az,aZ,ab,aj,aK,aS,aL,aT,aC,aP,aJ,ax,aQ,ay,a1,aE,af,ah,aH,a0,aU,aD,aF,aI,aX,al,aR,ak] 116∧IsMk W' da∧(∃ j:Fin 12,yh3 ([cQ,cK,cF,cU,cW,cV,cS,cP,cT,cD,cC,cM].getD j.val 0) ([cY,cR,cX,cE,cB,cH,cL,cO,cZ,cJ,cN,cG].getD j.val 0)≠0)) ((yd3 hB.size).and ((zZ8 _ _).and ((zj4 _ _ _ _).and ((zj4 _ _ _ _).and ((zj4 _ _ _ _).and ((own_mk cy).and (ownFrom_pure _ _))))))) (fun c=>((ownFrom_pure _ _).and ((yd3 hB.size).and ((zZ8 _ _).and ((zj4 _ _ _ _).and ((zj4 _ _ _ _).and ((zj4 _ _ _ _).and ((own_mk cy).and (ownFrom_pure _ _))))))))) ⟨hB,Kp.refl _,L2,L4,L6,cy,fun _ h=>absurd h (by simp)⟩ ?_ ?_ ?_ ?_ rfl (enters_of Tryz.func98 (by kernel_rfl) rfl)
  ·intro ll kk W K hK
   try simp only [p3,p4]
   refine wpIn_seq_k (fun K1 k1=>?_)
   refine rgI (zd6 ll) [0] ?_
   refine sv 8 (.int .i64 (kk.val:Int)) ?_
   try simp only [p3,p4]
   refine za0 ?_
   refine k1 _ _ ?_
   refine rgY [0,1] ?_
   refine zk9 (zd6 ll) 9 36 (.agg #[.bool false,.slice none 0 0,.bool false,.slice none 0 0]) (ent [bc,bG,bj,bN,bD,bf,a2,bx,bC,a3,bE,bO,bd,bi,bJ,a5,bR,bM,bL,bp,a4,a6,bT,bt,bu,a8,bA,bv,bk,bg,bo,bb,bK,bh,bP,bS,bm,bw,bn,bU,a9,bz,bH,bF,bq,bQ,ba,a7] kk) ?_ (zw8 hmaone rfl kk)
   try simp only [p3,p4]
   refine zc6 ?_
   exact hK
  ·rintro ll bB prs kk W ⟨hB,hkW,L2,L4,L6,cy,hq⟩ hqB hLB
   try simp only [p3,p4]
   refine wpIn_block ?_
   refine wpIn_seq_k (fun K1 k1=>?_)
   have gd:=Gr.drew W
   refine ordI (zd6 ll) (fun w'=>Lc w' bB (ent [bc,bG,bj,bN,bD,bf,a2,bx,bC,a3,bE,bO,bd,bi,bJ,a5,bR,bM,bL,bp,a4,a6,bT,bt,bu,a8,bA,bv,bk,bg,bo,bb,bK,bh,bP,bS,bm,bw,bn,bU,a9,bz,bH,bF,bq,bQ,ba,a7] kk).toArray 36∧Lc w' b6 [aw,aW,ai,aM,aB,ac,aO,aq,au,ae,aV,aN,ad,ap,ar,av,aa,aG,aY,aA,az,aZ,ab,aj,aK,aS,aL,aT,aC,aP,aJ,ax,aQ,ay,a1,aE,af,ah,aH,a0,aU,aD,aF,aI,aX,al,aR,ak].toArray 116) [(true,0),(true,1),(true,2),(true,3),(false,4),(true,5)] (by kernel_rfl) (by kernel_rfl) (by kernel_rfl) (by decide) (fun _ _ _ _ _ h=>h) ⟨hLB.gr gd,L6.gr gd⟩ ?_
   refine ow 21 (.agg (ent [bc,bG,bj,bN,bD,bf,a2,bx,bC,a3,bE,bO,bd,bi,bJ,a5,bR,bM,bL,bp,a4,a6,bT,bt,bu,a8,bA,bv,bk,bg,bo,bb,bK,bh,bP,bS,bm,bw,bn,bU,a9,bz,bH,bF,bq,bQ,ba,a7] kk).toArray) rfl (fun w' hS=>rl 36 0 (ent [bc,bG,bj,bN,bD,bf,a2,bx,bC,a3,bE,bO,bd,bi,bJ,a5,bR,bM,bL,bp,a4,a6,bT,bt,bu,a8,bA,bv,bk,bg,bo,bb,bK,bh,bP,bS,bm,bw,bn,bU,a9,bz,bH,bF,bq,bQ,ba,a7] kk) hS.1) ?_
   refine ov 22 (.int .i64 (kk.val:Int)) ?_
   refine ow 23 (.pointer (some ⟨b6,4*kk.val,none⟩)) rfl (fun w' hS=>yk3 116 _ _ b6 12 36 4 kk.val kk.isLt) ?_
   refine ow 24 (.agg (ent [aw,aW,ai,aM,aB,ac,aO,aq,au,ae,aV,aN,ad,ap,ar,av,aa,aG,aY,aA,az,aZ,ab,aj,aK,aS,aL,aT,aC,aP,aJ,ax,aQ,ay,a1,aE,af,ah,aH,a0,aU,aD,aF,aI,aX,al,aR,ak] kk).toArray) rfl (fun w' hS=>rl 36 (4*kk.val) (ent [aw,aW,ai,aM,aB,ac,aO,aq,au,ae,aV,aN,ad,ap,ar,av,aa,aG,aY,aA,az,aZ,ab,aj,aK,aS,aL,aT,aC,aP,aJ,ax,aQ,ay,a1,aE,af,ah,aH,a0,aU,aD,aF,aI,aX,al,aR,ak] kk) hS.2 (hv:=zZ7 rfl kk)) ?_
   refine oe ?_
   refine ec 25 (zQ3 ((qa kk).kp (hB.trans gd).kp) ((qb kk).kp (hB.trans gd).kp) (by omega)) ?_
   rintro e1 w1 ⟨rfl,g1⟩
   refine ⟨_,rfl,?_⟩
   refine ⟨⟨hLB.gr (gd.trans g1),L6.gr (gd.trans g1)⟩,?_⟩
   refine ov 26 (.bool (yh3 ([cQ,cK,cF,cU,cW,cV,cS,cP,cT,cD,cC,cM].getD kk.val 0) ([cY,cR,cX,cE,cB,cH,cL,cO,cZ,cJ,cN,cG].getD kk.val 0) !=0)) ?_
   refine zb1 ?_
   refine k1 _ _ ?_
   clear k1 K1
   have g:=gd.trans g1
   have ho:=ys1 g
   refine wpIn_cond_split rfl (fun hb=>?_) (fun hb=>?_)
   ·refine wpIn_seq_k (fun K1 k1=>?_)
    refine rgI (zd6 ll) [0] ?_
    refine se ?_
    refine es 4 0 _ [.bool false] #[.bool false] (L4.gr g) (hB.trans g) q4 ⟨rfl,trivial⟩ ?_
    intro w2 st kp N g2
    refine za0 ?_
    refine k1 _ _ ?_
    clear k1 K1
    refine wpIn_ret ?_
    have dL:=zF5 st (L4.gr g) (Nat.le_of_eq (by rw [st.size]))
    exact ⟨(ho.trans dL).from _,rfl,g2,(hkW.trans g.kp).trans kp,st.lc (L2.gr g) dm,N,st.lc (L6.gr g) (Ne.symm c7),(cy.gr g).st st (Ne.symm c5),⟨kk,by simpa using hb⟩⟩
   ·refine wpIn_skip ?_
    refine ⟨ho.from _,ho.walks,hB.trans g,hkW.trans g.kp,L2.gr g,L4.gr g,L6.gr g,cy.gr g,fun j hj=>?_⟩
    rcases List.mem_append.1 hj with hj | hj
    · exact hq j hj
    · simp only [List.mem_singleton] at hj;subst hj;simpa using hb
  ·rintro dp dt c6 ⟨dl,du,dj,c4,dq,cA,hqd⟩ c9
   have c8:=L4.ne c6
   have cx:=cy.ne c6
   replace c6:=Nat.le_trans (Below.size hB) c6
   replace hB:=dl
   replace L4:=c4
   replace cy:=cA
   change IsMk dt dp at c9
   refine dF _ _ ?_
   try clear dF dM
   refine wp_seq_k (fun dK dD=>?_)
   refine rg [0] ?_
   refine se ?_
   refine es 4 0 (.bool true) [.bool true] #[.bool true] L4 hB q4 ⟨rfl,trivial⟩ fun dQ dd dH L4 hB=>?_
   refine za0 ?_
   refine dD _ _ ?_
   try clear dD dK
   refine wp_ret ?_
   replace c9:=c9.st dd (Ne.symm c8)
   replace cy:=cy.st dd (Ne.symm c5)
   refine endN [dp,da] _ (List.Pairwise.cons (List.forall_mem_cons.2 ⟨(Ne.symm cx),(fun _ h=>absurd h (by simp))⟩) (List.Pairwise.cons (fun _ h=>absurd h (by simp)) List.Pairwise.nil)) (List.forall_mem_cons.2 ⟨⟨c6,c9⟩,(List.forall_mem_cons.2 ⟨⟨dn,cy⟩,(fun _ h=>absurd h (by simp))⟩)⟩) hB (fun dR dA hB=>?_)
   replace L4:=dA.lc L4 (by decide)
   refine ⟨(.bool true),(zP5 _ _ _ rfl rfl L4 (by kernel_rfl)),?_,hB⟩
   exact (by rw [show decide (_=_)=true from decide_eq_true ((rcmp12 rfl rfl).1 hqd)])
  ·rintro dp c prs dt c6 ⟨rfl,dl,du,dj,c4,dq,cA,hleft⟩ c9
   have cx:=cy.ne c6
   replace c6:=Nat.le_trans (Below.size hB) c6
   replace hB:=dl
   replace L4:=c4
   replace cy:=cA
   change IsMk dt dp at c9
   refine wp_ret ?_
   simp only [Exit.then,Exit.inBlock]
   refine endN [dp,da] _ (List.Pairwise.cons (List.forall_mem_cons.2 ⟨(Ne.symm cx),(fun _ h=>absurd h (by simp))⟩) (List.Pairwise.cons (fun _ h=>absurd h (by simp)) List.Pairwise.nil)) (List.forall_mem_cons.2 ⟨⟨c6,c9⟩,(List.forall_mem_cons.2 ⟨⟨dn,cy⟩,(fun _ h=>absurd h (by simp))⟩)⟩) hB (fun dP dv hB=>?_)
   replace L4:=dv.lc L4 (by decide)
   refine ⟨(.bool false),(zP5 _ _ _ rfl rfl L4 (by kernel_rfl)),?_,hB⟩
   exact (by obtain ⟨j,hj⟩:=hleft;rw [show decide (_=_)=false from decide_eq_false (fun h=>hj ((rcmp12 rfl rfl).2 h j (zF6 j)))])
 ·intro D c prs W _ h;exact h.elim

end Go.Proofs.YtaldbfflkpgfoaaGreatDoor
namespace Go.Proofs.YtaldbfflkpgfoaaGreatDoor
def tz (M:Int) (a:Rat):Int:=a.num*(M/(a.den:Int))
end Go.Proofs.YtaldbfflkpgfoaaGreatDoor
namespace Go.Proofs.YtaldbfflkpgfoaaGreatDoor
open Go.RowKit
section
variable {P:Program} {a:Act} {o:Oper} {w:World} {Q:Exit→Act→World→Prop}
theorem rv_rem (t t2:TypeId) (x y:Operand) (A B:Int) (hop:o.op=.binOp .rem t x y t2) (hx:a.eval x=.int .i64 A) (hy:a.eval y=.int .i64 B) (hA:0≤A) (hB:0<B):RunV P a o w (.int .i64 (A % B)):=by
 have h0:¬ B=0:=by omega
 have e:Int.tmod A B=A % B:=Int.tmod_eq_emod_of_nonneg hA
 unfold RunV execOp
 simp only [hop,hx,hy]
 simp [go_sem,binOp,eqGuard,Op.intDiv,h0,e]
theorem ys7 (t t2:TypeId) (x y:Operand) (A B C:Int) (hop:o.op=.binOp .quo t x y t2) (hx:a.eval x=.int .i64 A) (hy:a.eval y=.int .i64 B) (hC:Int.tdiv A B=C) (h1:-9223372036854775808≤C) (h2:C≤9223372036854775807) (hB:0<B):RunV P a o w (.int .i64 C):=by
 have h0:¬ B=0:=by omega
 have e2:IntKind.i64.wrap C=C:=by rw [IntKind.wrap_i64];omega
 unfold RunV execOp
 simp only [hop,hx,hy]
 simp [go_sem,binOp,eqGuard,Op.intDiv,h0,hC,e2]
end

theorem IsRat.small {w:World} {K:Nat} {c0 c1 c2 c3:Value} {z:Int} (h:IsRat w K c0 c1 c2 c3 (z:Rat)) (h0:-9223372036854775808≤z) (h1:z≤9223372036854775807):IsRat w 64 c0 c1 c2 c3 (z:Rat):=by
 obtain ⟨hn,⟨D,hd,hD⟩,_⟩:=h
 have e1:((z:Rat)).num=z:=Rat.num_intCast z
 have e2:((z:Rat)).den=1:=Rat.den_intCast z
 rw [e1] at hn
 refine ⟨by rw [e1];exact hn.resz (Sz.i64 h0 h1),⟨D,hd.resz ?_,hD⟩,Nat.le_refl 64⟩
 unfold Sz
 rw [e2] at hD
 rcases hD with h | ⟨h,_⟩<;>subst h<;>decide
theorem zS5 {g n:Int} (hg:0≤g) (hn:0<n):Int.gcd n (g % n)=Int.gcd g n:=by
 obtain ⟨a,rfl⟩:=Int.eq_ofNat_of_zero_le hg
 obtain ⟨b,rfl⟩:=Int.eq_ofNat_of_zero_le (Int.le_of_lt hn)
 rw [← Int.natCast_emod,Int.gcd_natCast_natCast,Int.gcd_natCast_natCast,Nat.gcd_comm b,← Nat.gcd_rec,Nat.gcd_comm]
def zm1 (a1 a2 a3 a4:Rat):Int:=zE5 (zE5 (zE5 (zE5 1 (a1.den:Int)) (a2.den:Int)) (a3.den:Int)) (a4.den:Int)
def zL3 (a1 a2 a3 a4:Rat):Int:=if sgn a1.num=0 then (if sgn a2.num=0 then (if sgn a3.num=0 then sgn a4.num else sgn a3.num) else sgn a2.num) else sgn a1.num
def yi8 (a1 a2 a3 a4 x:Rat):Int:=x.num*(zm1 a1 a2 a3 a4/(x.den:Int))*zL3 a1 a2 a3 a4
def ye9 (a1 a2 a3 a4:Rat):Int:=
 (Int.gcd (Int.gcd (Int.gcd (Int.gcd 0 (yi8 a1 a2 a3 a4 a1):Int) (yi8 a1 a2 a3 a4 a2):Int) (yi8 a1 a2 a3 a4 a3):Int) (yi8 a1 a2 a3 a4 a4):Int)
def wz (a1 a2 a3 a4 x:Rat):Int:=yi8 a1 a2 a3 a4 x/ye9 a1 a2 a3 a4
theorem zm2 (a:Rat):0<(a.den:Int):=by have:=a.den_pos;omega
noncomputable def tabW:List (Nat × List (Nat × Ent)):=[(104,[(5,.flo [(true,0),(true,1),(true,2),(false,3),(false,4),(false,5),(true,6),(true,7),(true,8),(true,9)] [(10,7,34),(11,8,34)] [(false,12),(false,13),(true,14)] []),(6,.ord [(true,0),(true,1),(false,2),(false,3),(false,4)] [3]),(15,.flo [(true,0),(true,1),(false,2),(false,3),(true,4),(true,5),(true,6),(true,7)] [(8,14,34),(9,15,34)] [(false,10),(false,11),(true,12)] []),(16,.ord [(true,0),(true,1),(true,3),(true,5),(false,2),(false,4),(false,6),(false,7),(true,8),(false,9)] [10]),(17,.ort [(true,0),(true,1),(true,2),(true,3),(false,4),(false,5)] [11] [([5],11)]),(22,.ort [(true,0),(true,1),(true,2),(true,3),(true,4),(false,5),(true,6),(true,7),(true,8),(true,9),(true,10),(false,11)] [10] [([11],10)])])]
noncomputable def conW:List (Nat × ConT):=[(76,zY4),
 (130,cNum),
 (81,cDen),
 (96,zG8),
 (80,zY5),
 (122,zY6),
 (123,zY7)]
noncomputable def sysW:Sys:=⟨Tryz.prog,2,199,tabW,conW,fun _=>True⟩
theorem sysW_ok:sysW.OK where
 mixed:=by kernel_rfl
 calls:=fun f h0 h1=>by
  have:(List.range 199).all (fun f=>Nat.blt f 2||okCall Tryz.prog f)=true:=by kernel_rfl
  have:=List.all_eq_true.1 this f (List.mem_range.2 h1)
  simp only [Bool.or_eq_true] at this
  exact this.resolve_left (fun e=>by have:=zf3 e;exact absurd h0 (by show ¬ 2≤f;omega))
 tab:=by
  have:tabW.all (okTab Tryz.prog)=true:=by kernel_rfl
  exact fun x hx=>List.all_eq_true.1 this x hx
 lps:=zK8 (by kernel_rfl)
 con:=fun x hx=>by
  simp only [sysW,conW,List.mem_cons,List.not_mem_nil,or_false] at hx
  rcases hx with rfl | rfl | rfl | rfl | rfl | rfl | rfl
  ·exact zq6
  ·exact zy4
  ·exact zy5
  ·exact zk6
  ·exact zq7
  ·exact zq8
  ·exact zq9
 inv:=fun _ _ _ _=>trivial
def woS (a1 a2 a3 a4:Rat) (s:Int) (x:Rat):Int:=x.num*(zm1 a1 a2 a3 a4/(x.den:Int))*s
def wgS (a1 a2 a3 a4:Rat) (s:Int):Int:=(Int.gcd (Int.gcd (Int.gcd (Int.gcd 0 (woS a1 a2 a3 a4 s a1):Int) (woS a1 a2 a3 a4 s a2):Int) (woS a1 a2 a3 a4 s a3):Int) (woS a1 a2 a3 a4 s a4):Int)
def retW (z1 z2 z3 z4:Int):SV:=.so (.vg [.cz 57 0 40128 (z1),.cz 57 1 40128 (z1),.cz 59 0 40128 (z2),.cz 59 1 40128 (z2),.cz 61 0 40128 (z3),.cz 61 1 40128 (z3),.cz 63 0 40128 (z4),.cz 63 1 40128 (z4)])
def endW (a1 a2 a3 a4:Rat) (s:Int):Lf:=.as (decide (0<(a1.den:Int))) true (.as (decide (0<(a2.den:Int))) true (.as (decide (0<(a3.den:Int))) true (.as (decide (0<(a4.den:Int))) true (.as (decide (0<wgS a1 a2 a3 a4 s)) true (.as (decide (0<wgS a1 a2 a3 a4 s)) true (.as (decide (0<wgS a1 a2 a3 a4 s)) true (.as (decide (0<wgS a1 a2 a3 a4 s)) true (.ret (retW (woS a1 a2 a3 a4 s a1/wgS a1 a2 a3 a4 s) (woS a1 a2 a3 a4 s a2/wgS a1 a2 a3 a4 s) (woS a1 a2 a3 a4 s a3/wgS a1 a2 a3 a4 s) (woS a1 a2 a3 a4 s a4/wgS a1 a2 a3 a4 s))))))))))
def treeW (a1 a2 a3 a4:Rat):Lf:=.as (decide (0<(Int.gcd 1 (a1.den:Int):Int))) true (.as (decide (0<(Int.gcd (zE5 1 (a1.den:Int)) (a2.den:Int):Int))) true (.br (sgn a1.num==0)
 (.as (decide (0<(Int.gcd (zE5 (zE5 1 (a1.den:Int)) (a2.den:Int)) (a3.den:Int):Int))) true (.br (sgn a2.num==0) (.as (decide (0<(Int.gcd (zE5 (zE5 (zE5 1 (a1.den:Int)) (a2.den:Int)) (a3.den:Int)) (a4.den:Int):Int))) true (.br (sgn a3.num==0) (endW a1 a2 a3 a4 (sgn a4.num)) (endW a1 a2 a3 a4 (sgn a3.num)))) (.as (decide (0<(Int.gcd (zE5 (zE5 (zE5 1 (a1.den:Int)) (a2.den:Int)) (a3.den:Int)) (a4.den:Int):Int))) true (.as (sgn a2.num==0) false (endW a1 a2 a3 a4 (sgn a2.num))))))
 (.as (decide (0<(Int.gcd (zE5 (zE5 1 (a1.den:Int)) (a2.den:Int)) (a3.den:Int):Int))) true (.as (sgn a1.num==0) false (.as (decide (0<(Int.gcd (zE5 (zE5 (zE5 1 (a1.den:Int)) (a2.den:Int)) (a3.den:Int)) (a4.den:Int):Int))) true (.as (sgn a1.num==0) false (endW a1 a2 a3 a4 (sgn a1.num))))))))
theorem runW (a1 a2 a3 a4:Rat):runF sysW 104 [.so (.vg [.cr 0 0 8000 a1,.cr 0 1 8000 a1,.cr 0 2 8000 a1,.cr 0 3 8000 a1,.cr 1 0 8000 a2,.cr 1 1 8000 a2,.cr 1 2 8000 a2,.cr 1 3 8000 a2,.cr 2 0 8000 a3,.cr 2 1 8000 a3,.cr 2 2 8000 a3,.cr 2 3 8000 a3,.cr 3 0 8000 a4,.cr 3 1 8000 a4,.cr 3 2 8000 a4,.cr 3 3 8000 a4])] 4 0 (.s (.s (.s .e .e) (.f .e)) (.f (.f .e)))=some (treeW a1 a2 a3 a4):=by kernel_rfl
def zU0 (cs:List Value):Env:=⟨fun _=>0,fun j c=>cs.getD (4*j+c) undef,fun _ _=>undef,[]⟩
def okA (n:Nn) (X:Env) (W:World):List Cl→Prop
 | []=>True
 | c::l=>c.ok n X W∧okA n X W l
theorem zm6 {n:Nn} {X:Env} {W:World}:∀ {l:List Cl},okA n X W l→okL n X W l
 | [],_,_,h=>by cases h
 | c::l,hh,x,h=>by
  rcases List.mem_cons.1 h with rfl | h
  ·exact hh.1
  ·exact zm6 hh.2 x h
theorem okF1 {n:Nn} {X:Env} {W:World} {v:SV} (h:v.ok n X W):okF n X W [v]:=fun x hx=>by rw [List.mem_singleton] at hx;exact hx ▸ h
theorem zf5 (d:Int) (a:Rat):decide (0<(Int.gcd d (a.den:Int):Int))=true:=by
 have h:=a.den_pos
 have:0<Int.gcd d (a.den:Int):=Int.gcd_pos_of_ne_zero_right _ (by omega)
 exact decide_eq_true (by omega)
theorem zO9 {a1 a2 a3 a4:Rat} {s:Int} (hs:zL3 a1 a2 a3 a4=s) (hg:0<ye9 a1 a2 a3 a4):
  LOK (fun v=>v=retW (wz a1 a2 a3 a4 a1) (wz a1 a2 a3 a4 a2) (wz a1 a2 a3 a4 a3) (wz a1 a2 a3 a4 a4)) (endW a1 a2 a3 a4 s):=by
 subst hs
 have d:=fun a:Rat=>decide_eq_true (zm2 a)
 have g:decide (0<wgS a1 a2 a3 a4 (zL3 a1 a2 a3 a4))=true:=decide_eq_true hg
 exact ⟨d a1,d a2,d a3,d a4,g,g,g,g,rfl⟩
theorem treeW_ok {a1 a2 a3 a4:Rat} (hg:0<ye9 a1 a2 a3 a4):
  LOK (fun v=>v=retW (wz a1 a2 a3 a4 a1) (wz a1 a2 a3 a4 a2) (wz a1 a2 a3 a4 a3) (wz a1 a2 a3 a4 a4)) (treeW a1 a2 a3 a4):=by
 have t:=fun {z:Int} (h:(z==0)=true)=>eq_of_beq h
 have f:=fun {z:Int} (h:(z==0)=false)=>ne_of_beq_false h
 refine ⟨zf5 _ _,zf5 _ _,fun h1=>⟨zf5 _ _,fun h2=>⟨zf5 _ _,fun h3=>zO9 ?_ hg,fun h3=>zO9 ?_ hg⟩,fun h2=>⟨zf5 _ _,h2,zO9 ?_ hg⟩⟩,fun h1=>⟨zf5 _ _,h1,zf5 _ _,h1,zO9 ?_ hg⟩⟩
 ·unfold zL3;rw [if_pos (t h1),if_pos (t h2),if_pos (t h3)]
 ·unfold zL3;rw [if_pos (t h1),if_pos (t h2),if_neg (f h3)]
 ·unfold zL3;rw [if_pos (t h1),if_neg (f h2)]
 ·unfold zL3;rw [if_neg (f h1)]
theorem yf0 {k:Nat} {ac aq aa av:Value} {a1:Rat} {af ah ab aj:Value} {a2:Rat} {ai al ar ad:Value} {a3:Rat} {ap ae au ak:Value} {a4:Rat} {w:World} (h1:IsRat w k ac aq aa av a1) (h2:IsRat w k af ah ab aj a2) (h3:IsRat w k ai al ar ad a3) (h4:IsRat w k ap ae au ak a4) (hg:0<ye9 a1 a2 a3 a4) (hk:k≤8000):
  Calls Tryz.prog 104 #[.agg #[ac,aq,aa,av,af,ah,ab,aj,ai,al,ar,ad,ap,ae,au,ak]] w fun e w'=>(∃ t0 t1 t2 t3 t4 t5 t6 t7,e=.returned (.agg #[t0,t1,t2,t3,t4,t5,t6,t7])∧IsInt w' 40128 t0 t1 (wz a1 a2 a3 a4 a1)∧IsInt w' 40128 t2 t3 (wz a1 a2 a3 a4 a2)∧IsInt w' 40128 t4 t5 (wz a1 a2 a3 a4 a3)∧IsInt w' 40128 t6 t7 (wz a1 a2 a3 a4 a4))∧Gr w w':=by
 replace h1:=h1.mono hk
 replace h2:=h2.mono hk
 replace h3:=h3.mono hk
 replace h4:=h4.mono hk
 refine (zf8 sysW sysW_ok (runW a1 a2 a3 a4) (X:=zU0 [ac,aq,aa,av,af,ah,ab,aj,ai,al,ar,ad,ap,ae,au,ak]) trivial (okF1 (zm6 ⟨⟨rfl,h1⟩,⟨rfl,h1⟩,⟨rfl,h1⟩,⟨rfl,h1⟩,⟨rfl,h2⟩,⟨rfl,h2⟩,⟨rfl,h2⟩,⟨rfl,h2⟩,⟨rfl,h3⟩,⟨rfl,h3⟩,⟨rfl,h3⟩,⟨rfl,h3⟩,⟨rfl,h4⟩,⟨rfl,h4⟩,⟨rfl,h4⟩,⟨rfl,h4⟩,trivial⟩)) (treeW_ok hg)).mono fun e w' he=>?_
 obtain ⟨v,X',n,rfl,g,_,hv,rfl⟩:=he
 exact ⟨⟨_,_,_,_,_,_,_,_,rfl,(hv _ (.head _)).2,(hv _ (.tail _ (.tail _ (.head _)))).2,(hv _ (.tail _ (.tail _ (.tail _ (.tail _ (.head _)))))).2,(hv _ (.tail _ (.tail _ (.tail _ (.tail _ (.tail _ (.tail _ (.head _)))))))).2⟩,g⟩
theorem wsgn_ne {a1 a2 a3 a4:Rat} (h:¬(a1=0∧a2=0∧a3=0∧a4=0)):zL3 a1 a2 a3 a4≠0:=by
 unfold zL3
 have z:∀ a:Rat,sgn a.num=0→a=0:=fun a ha=>Rat.num_eq_zero.1 (zc8.1 ha)
 split
 ·next h1=>
  split
  ·next h2=>
   split
   ·next h3=>exact fun h4=>h ⟨z _ h1,z _ h2,z _ h3,z _ h4⟩
   ·assumption
  ·assumption
 ·assumption
theorem zB9 {d:Int} (q:Rat) (_h:0<d):d∣zE5 d (q.den:Int)∧(q.den:Int)∣zE5 d (q.den:Int):=by
 obtain ⟨h1,h2⟩:=gcd_ex d q
 unfold zE5
 refine ⟨?_,Int.dvd_mul_left _ _⟩
 obtain ⟨c,hc⟩:=h2
 have h3:(Int.gcd d (q.den:Int):Int)∣(q.den:Int):=Int.gcd_dvd_right ..
 obtain ⟨e,he⟩:=h3
 generalize (Int.gcd d (q.den:Int):Int)=g at*
 refine ⟨e,?_⟩
 rw [he,hc,Int.mul_ediv_cancel_left c (by omega)]
 rw [← Int.mul_assoc,Int.mul_comm c g,Int.mul_assoc]
theorem zH5 (a1 a2 a3 a4:Rat):0<zm1 a1 a2 a3 a4:=zl3 _ (zl3 _ (zl3 _ (zl3 _ (by omega))))
theorem zH6 (a1 a2 a3 a4:Rat):(a1.den:Int)∣zm1 a1 a2 a3 a4∧(a2.den:Int)∣zm1 a1 a2 a3 a4∧(a3.den:Int)∣zm1 a1 a2 a3 a4∧(a4.den:Int)∣zm1 a1 a2 a3 a4:=by
 have p1:(0:Int)<1:=by omega
 have p2:=zl3 a1 p1
 have p3:=zl3 a2 p2
 have p4:=zl3 a3 p3
 have d1:=zB9 a1 p1
 have d2:=zB9 a2 p2
 have d3:=zB9 a3 p3
 have d4:=zB9 a4 p4
 unfold zm1
 exact ⟨Int.dvd_trans d1.2 (Int.dvd_trans d2.1 (Int.dvd_trans d3.1 d4.1)),Int.dvd_trans d2.2 (Int.dvd_trans d3.1 d4.1),Int.dvd_trans d3.2 d4.1,d4.2⟩
theorem zL2 {d x:Int} (hd:0<d) (hx:0<x) (h:x∣d):0<d/x:=by
 obtain ⟨c,rfl⟩:=h
 rw [Int.mul_ediv_cancel_left c (by omega)]
 rcases Int.lt_or_le 0 c with h3 | h3
 ·exact h3
 ·have:=Int.mul_nonpos_of_nonneg_of_nonpos (Int.le_of_lt hx) h3;omega
theorem zw5 {a1 a2 a3 a4 x:Rat} (hs:zL3 a1 a2 a3 a4≠0) (hd:(x.den:Int)∣zm1 a1 a2 a3 a4) (h:yi8 a1 a2 a3 a4 x=0):x=0:=by
 have h1:=zL2 (zH5 a1 a2 a3 a4) (zm2 x) hd
 unfold yi8 at h
 rcases Int.mul_eq_zero.1 h with h | h
 ·rcases Int.mul_eq_zero.1 h with h | h
  ·exact Rat.num_eq_zero.1 h
  ·omega
 ·exact absurd h hs
theorem zC0 {a1 a2 a3 a4:Rat} (h:¬(a1=0∧a2=0∧a3=0∧a4=0)):0<ye9 a1 a2 a3 a4:=by
 have hs:=wsgn_ne h
 have hd:=zH6 a1 a2 a3 a4
 have h0:0≤ye9 a1 a2 a3 a4:=Int.natCast_nonneg _
 rcases Int.lt_or_le 0 (ye9 a1 a2 a3 a4) with h1 | h1
 ·exact h1
 ·exfalso
  apply h
  have e:ye9 a1 a2 a3 a4=0:=by omega
  unfold ye9 at e
  have e1:=Int.gcd_eq_zero_iff.1 (Int.natCast_eq_zero.1 e)
  have e2:=Int.gcd_eq_zero_iff.1 (Int.natCast_eq_zero.1 e1.1)
  have e3:=Int.gcd_eq_zero_iff.1 (Int.natCast_eq_zero.1 e2.1)
  have e4:=Int.gcd_eq_zero_iff.1 (Int.natCast_eq_zero.1 e3.1)
  exact ⟨zw5 hs hd.1 e4.2,zw5 hs hd.2.1 e3.2,zw5 hs hd.2.2.1 e2.2,zw5 hs hd.2.2.2 e1.2⟩
def zH8 (a11 a12 a13 a21 a22 a23 a31 a32 a33:Rat):Rat × Rat × Rat × Rat:=
 if sgn ((((0+1)+a11)+a22)+a33).num=0 then (if sgn ((1+a11) - (a22+a33)).num=0 then (if sgn ((1+a22) - (a11+a33)).num=0 then ((a21 - a12),(a13+a31),(a23+a32),((1+a33) - (a11+a22))) else ((a13 - a31),(a12+a21),((1+a22) - (a11+a33)),(a23+a32))) else ((a32 - a23),((1+a11) - (a22+a33)),(a12+a21),(a13+a31))) else (((((0+1)+a11)+a22)+a33),(a32 - a23),(a13 - a31),(a21 - a12))
def wzq (r:Rat × Rat × Rat × Rat) (i:Nat):Int:=wz r.1 r.2.1 r.2.2.1 r.2.2.2 (match i with | 0=>r.1 | 1=>r.2.1 | 2=>r.2.2.1 | _=>r.2.2.2)
section
variable {a11 a12 a13 a21 a22 a23 a31 a32 a33:Rat}
theorem qrow1f (h0:(sgn ((((0+1)+a11)+a22)+a33).num==(0:Int))=false):zH8 a11 a12 a13 a21 a22 a23 a31 a32 a33=(((((0+1)+a11)+a22)+a33),(a32 - a23),(a13 - a31),(a21 - a12)):=by
 unfold zH8
 simp only [beq_eq_false_iff_ne,ne_eq] at h0
 rw [if_neg h0]
theorem yw8 (h0:(sgn ((((0+1)+a11)+a22)+a33).num==(0:Int))=false):0<ye9 ((((0+1)+a11)+a22)+a33) (a32 - a23) (a13 - a31) (a21 - a12):=zC0 (by
 rintro ⟨h5,h6,h7,h8⟩
 rw [h5] at h0;exact absurd h0 (by decide))
theorem qrow2f (h0:(sgn ((((0+1)+a11)+a22)+a33).num==(0:Int))=true) (h1:(sgn ((1+a11) - (a22+a33)).num==(0:Int))=false):zH8 a11 a12 a13 a21 a22 a23 a31 a32 a33=((a32 - a23),((1+a11) - (a22+a33)),(a12+a21),(a13+a31)):=by
 unfold zH8
 simp only [beq_iff_eq,beq_eq_false_iff_ne,ne_eq] at h0 h1
 rw [if_pos h0,if_neg h1]
theorem yw9 (_h0:(sgn ((((0+1)+a11)+a22)+a33).num==(0:Int))=true) (h1:(sgn ((1+a11) - (a22+a33)).num==(0:Int))=false):0<ye9 (a32 - a23) ((1+a11) - (a22+a33)) (a12+a21) (a13+a31):=zC0 (by
 rintro ⟨h5,h6,h7,h8⟩
 rw [h6] at h1;exact absurd h1 (by decide))
theorem qrow3f (h0:(sgn ((((0+1)+a11)+a22)+a33).num==(0:Int))=true) (h1:(sgn ((1+a11) - (a22+a33)).num==(0:Int))=true) (h2:(sgn ((1+a22) - (a11+a33)).num==(0:Int))=false):zH8 a11 a12 a13 a21 a22 a23 a31 a32 a33=((a13 - a31),(a12+a21),((1+a22) - (a11+a33)),(a23+a32)):=by
 unfold zH8
 simp only [beq_iff_eq,beq_eq_false_iff_ne,ne_eq] at h0 h1 h2
 rw [if_pos h0,if_pos h1,if_neg h2]
theorem yx0 (_h0:(sgn ((((0+1)+a11)+a22)+a33).num==(0:Int))=true) (_h1:(sgn ((1+a11) - (a22+a33)).num==(0:Int))=true) (h2:(sgn ((1+a22) - (a11+a33)).num==(0:Int))=false):0<ye9 (a13 - a31) (a12+a21) ((1+a22) - (a11+a33)) (a23+a32):=zC0 (by
 rintro ⟨h5,h6,h7,h8⟩
 rw [h7] at h2;exact absurd h2 (by decide))
theorem qrow3t (h0:(sgn ((((0+1)+a11)+a22)+a33).num==(0:Int))=true) (h1:(sgn ((1+a11) - (a22+a33)).num==(0:Int))=true) (h2:(sgn ((1+a22) - (a11+a33)).num==(0:Int))=true):zH8 a11 a12 a13 a21 a22 a23 a31 a32 a33=((a21 - a12),(a13+a31),(a23+a32),((1+a33) - (a11+a22))):=by
 unfold zH8
 simp only [beq_iff_eq] at h0 h1 h2
 rw [if_pos h0,if_pos h1,if_pos h2]
theorem yx1 (h0:(sgn ((((0+1)+a11)+a22)+a33).num==(0:Int))=true) (h1:(sgn ((1+a11) - (a22+a33)).num==(0:Int))=true) (h2:(sgn ((1+a22) - (a11+a33)).num==(0:Int))=true):0<ye9 (a21 - a12) (a13+a31) (a23+a32) ((1+a33) - (a11+a22)):=zC0 (by
 rintro ⟨h5,h6,h7,h8⟩
 simp only [beq_iff_eq,zc8,Rat.num_eq_zero] at h0 h1 h2
 grind)
end
end Go.Proofs.YtaldbfflkpgfoaaGreatDoor
