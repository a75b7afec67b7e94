/- Joined of: Gen36, Gen39, Gen9, Gen61, R1j, Ve, Gen62, Syc, Gen91, In, Gen90, Rf, Fl, Gen92, Scal, Stq, Wh. -/
import Derived.Test.YtaldbfflkpgfoaaGreatDoorPartD
import Derived.Test.YtaldbfflkpgfoaaGreatDoorPartC
import Derived.Test.YtaldbfflkpgfoaaGreatDoorPartA
import Derived.Test.YtaldbfflkpgfoaaGreatDoorPartB
import Derived.RangeFuncFrom
import Derived.RangeFuncWrites
import Derived.RangeFuncMany
import Derived.RangeFuncLeaves
import Derived.RangeFuncCalls
import Derived.RangeFuncBound
import Derived.TacticsIn
import Derived.LoopNIn
import Derived.RangeFuncNested
import Init.Data.Rat.Lemmas
namespace Go.Proofs.YtaldbfflkpgfoaaGreatDoor
open Go.RowKit

set_option maxRecDepth 100000 in
set_option maxHeartbeats 1000000 in
theorem read_w {k:Nat} (q:Rat) (hq:Sz k q.num∧Sz k (q.den:Int)) (_hk:k≤20000) (aD:64≤k) (most:Int) (_hlong:((za1 q).length:Int)≤most) (w:World) (hm:Mx w) (hw:q.den=1):
    Calls Tryz.prog 120 #[(.string ⟨(za1 (q):List UInt8).toArray⟩),(.int .i64 (most))] w fun e w'=>(∃ c0 c1 c2 c3,e=.returned (.tuple #[.agg #[c0,c1,c2,c3],.int .i64 0])∧IsRat w' k c0 c1 c2 c3 q)∧Gr w w':=by
 have hl:decide (most<((za1 q).length:Int))=false:=by simp;omega
 go_enter Tryz.func120,Tryz.ntmps120
 have hB:=Gr.refl w
 refine wp_seq_k (fun K1 k1=>?_)
 refine rg [0,1] ?_
 refine se ?_
 refine ea 36 #[.bool false,.slice none 0 0,.bool false,.slice none 0 0] 4 hB fun b2 w2 g2 L2 o2 q2 hB=>?_
 simp only [p3,p4]
 refine sv 5 (.int .i64 0) ?_
 refine za0 ?_
 refine k1 _ _ ?_
 try clear k1 K1
 refine wp_seq_k (fun K3 k3=>?_)
 refine rg [0,1] ?_
 refine sv 13 (.string ⟨(za1 (q):List UInt8).toArray⟩) ?_
 refine sv 6 (.string ⟨(za1 (q):List UInt8).toArray⟩) ?_
 refine za0 ?_
 refine k3 _ _ ?_
 try clear k3 K3
 refine wp_seq_k (fun K4 k4=>?_)
 refine rg [0,1,2,3,4,5,6,7,8] ?_
 refine sv 15 (.string ⟨(za1 (q):List UInt8).toArray⟩) ?_
 refine se ?_
 refine ec 16 (cut_w q hq.1 hq.2 (by omega) hw (hm.gr hB)) ?_
 rintro e5 w5 ⟨rfl,g5⟩
 refine ⟨_,rfl,?_⟩
 replace hB:=hB.trans g5
 simp only [p3,p4]
 refine sv 14 (.tuple #[(.string ⟨(Lib.itoa (q.num):List UInt8).toArray⟩),(.string ⟨([]:List UInt8).toArray⟩),.bool false]) ?_
 refine sv 17 (.string ⟨(Lib.itoa (q.num):List UInt8).toArray⟩) ?_
 refine sv 18 (.string ⟨([]:List UInt8).toArray⟩) ?_
 refine sv 19 (.bool false) ?_
 refine sv 7 (.string ⟨(Lib.itoa (q.num):List UInt8).toArray⟩) ?_
 refine sv 8 (.string ⟨([]:List UInt8).toArray⟩) ?_
 refine sv 9 (.bool false) ?_
 refine za0 ?_
 refine k4 _ _ ?_
 try clear k4 K4
 refine wp_seq_k (fun K6 k6=>?_)
 refine wp_block ?_
 refine wp_seq_k (fun K7 k7=>?_)
 refine rg [0,1,2,3,4] ?_
 refine sv 21 (.string ⟨(za1 (q):List UInt8).toArray⟩) ?_
 refine sv 22 (.int .i64 (((za1 (q)).length:Int))) ?_
 refine sv 23 (.int .i64 (most)) ?_
 refine sw 24 (.bool false) rfl (RunV.bool (x:=decide (most<((za1 (q)).length:Int))) (rvk (by kernel_rfl)) hl) ?_
 refine sv 20 (.bool false) ?_
 refine za0 ?_
 refine k7 _ _ ?_
 try clear k7 K7
 refine wp_cond_false rfl ?_
 refine wp_seq_k (fun K8 k8=>?_)
 refine rg [0,1,2,3,4,5,6,7,8,9,10,11,12] ?_
 refine sv 27 (.string ⟨(Lib.itoa (q.num):List UInt8).toArray⟩) ?_
 refine se ?_
 refine ec 28 (zp6 (q.num) _) ?_
 rintro e9 w9 ⟨rfl,g9⟩
 refine ⟨_,rfl,?_⟩
 replace hB:=hB.trans g9
 simp only [p3,p4]
 refine se ?_
 refine ec 29 (zJ1 q.num hq.1 (by omega) _) ?_
 rintro aK aI ⟨rfl,ak⟩
 refine ⟨_,rfl,?_⟩
 replace hB:=hB.trans ak
 simp only [p3,p4]
 refine sv 30 (.bool false) ?_
 refine sv 31 (.bool false) ?_
 refine sv 32 (.bool false) ?_
 refine sv 33 (.bool false) ?_
 refine ss 34 ?_
 refine ss 35 ?_
 refine ss 36 ?_
 refine sv 37 (.bool false) ?_
 refine sv 38 (.bool false) ?_
 refine sv 26 (.bool false) ?_
 refine za0 ?_
 refine k8 _ _ ?_
 try clear k8 K8
 refine wp_cond_false rfl ?_
 refine wp_seq_k (fun az av=>?_)
 refine rg [0,1,2,3,4,5,6] ?_
 refine sv 41 (.bool false) ?_
 refine sv 42 (.bool false) ?_
 refine ss 43 ?_
 refine ss 44 ?_
 refine ss 45 ?_
 refine sv 46 (.bool false) ?_
 refine sv 40 (.bool false) ?_
 refine za0 ?_
 refine av _ _ ?_
 try clear av az
 refine wp_cond_false rfl ?_
 refine wp_skip ?_
 refine k6 _ _ ?_
 try clear k6 K6
 refine wp_seq_k (fun aB ax=>?_)
 refine rg [0,1,2,3,4,5,6,7] ?_
 refine sv 49 (.string ⟨(Lib.itoa (q.num):List UInt8).toArray⟩) ?_
 refine se ?_
 refine ec 50 (zq8 (q.num) hq.1 (by omega) _) ?_
 rintro e13 aM ⟨⟨ab,aa,rfl,ac⟩,aq⟩
 refine ⟨_,rfl,?_⟩
 replace hB:=hB.trans aq
 simp only [p3,p4]
 refine sv 48 (.tuple #[(.agg #[ab,aa]),.int .i64 0]) ?_
 refine sv 51 (.agg #[ab,aa]) ?_
 refine sv 52 (.int .i64 0) ?_
 refine se ?_
 refine ea 34 #[.bool false,.slice none 0 0] 10 hB fun aN aJ ap ai aF aA hB=>?_
 replace L2:=L2.gr (g5.trans (g9.trans (ak.trans aq)))
 have ad:=L2.ne aF
 simp only [p3,p4]
 refine se ?_
 refine es 34 0 (.agg #[ab,aa]) [ab,aa] #[ab,aa] ai hB aA ⟨ac.one0,ac.one1,trivial⟩ fun aO aj ae ai hB=>?_
 refine sv 11 (.int .i64 0) ?_
 refine za0 ?_
 refine ax _ _ ?_
 try clear ax aB
 refine wp_seq_k (fun aH al=>?_)
 refine wp_seq_k (fun ay au=>?_)
 refine rg [0,1] ?_
 refine sv 53 (.int .i64 0) ?_
 refine sv 54 (.bool false) ?_
 refine za0 ?_
 refine au _ _ ?_
 try clear au ay
 refine wp_cond_false rfl ?_
 refine wp_skip ?_
 refine al _ _ ?_
 try clear al aH
 refine wp_seq_k (fun aL aQ=>?_)
 refine wp_seq_k (fun aC aw=>?_)
 refine rg [0,1] ?_
 refine sv 56 (.bool false) ?_
 refine sv 57 (.bool true) ?_
 refine za0 ?_
 refine aw _ _ ?_
 try clear aw aC
 refine wp_cond_true rfl ?_
 refine wp_seq_k (fun aG ar=>?_)
 refine rg [0,1,2,3] ?_
 refine sw 58 (.agg #[ab,aa]) rfl (rl 34 0 [ab,aa] ai) ?_
 refine sv 59 (.agg #[ab,aa,.bool false,.slice none 0 0]) ?_
 refine se ?_
 replace L2:=aj.lc (L2.gr ap) ad
 refine es 36 0 (.agg #[ab,aa,.bool false,.slice none 0 0]) [ab,aa,.bool false,.slice none 0 0] #[ab,aa,.bool false,.slice none 0 0] L2 hB q2 ⟨ac.one0,ac.one1,rfl,rfl,trivial⟩ fun aP aE ah L2 hB=>?_
 refine sv 5 (.int .i64 0) ?_
 refine za0 ?_
 refine ar _ _ ?_
 try clear ar aG
 refine wp_ret ?_
 simp only [Exit.then]
 refine bodyPost_ret (v:=(.tuple #[(.agg #[ab,aa,.bool false,.slice none 0 0]),.int .i64 0])) (za4 _ _ _ rfl rfl L2 (by kernel_rfl) rfl) rfl ⟨?_,hB⟩
 have af:=ap.kp.trans (ae.trans ah)
 replace ac:=ac.kp af
 exact ⟨_,_,_,_,rfl,by have:=IsRat.int ac aD;rw [zJ0 hw] at this;exact this⟩

set_option maxRecDepth 100000 in
set_option maxHeartbeats 1000000 in
theorem read_f {k:Nat} (q:Rat) (hq:Sz k q.num∧Sz k (q.den:Int)) (_hk:k≤20000) (ba:64≤k) (most:Int) (_hlong:((za1 q).length:Int)≤most) (w:World) (hm:Mx w) (hw:¬ q.den=1):
    Calls Tryz.prog 120 #[(.string ⟨(za1 (q):List UInt8).toArray⟩),(.int .i64 (most))] w fun e w'=>(∃ c0 c1 c2 c3,e=.returned (.tuple #[.agg #[c0,c1,c2,c3],.int .i64 0])∧IsRat w' k c0 c1 c2 c3 q)∧Gr w w':=by
 have hl:decide (most<((za1 q).length:Int))=false:=by simp;omega
 have h1:(sgn ((q.den:Int) - 1)==(0:Int))=false:=by rw [beq_eq_false_iff_ne];exact fun e=>hw (by have:=zc2.1 e;omega)
 have h2:(sgn ((Int.gcd (q.num) ((q.den:Int)):Int) - 1) !=(0:Int))=false:=by rw [yd2];rfl
 go_enter Tryz.func120,Tryz.ntmps120
 have hB:=Gr.refl w
 refine wp_seq_k (fun K1 k1=>?_)
 refine rg [0,1] ?_
 refine se ?_
 refine ea 36 #[.bool false,.slice none 0 0,.bool false,.slice none 0 0] 4 hB fun b2 w2 g2 L2 o2 q2 hB=>?_
 simp only [p3,p4]
 refine sv 5 (.int .i64 0) ?_
 refine za0 ?_
 refine k1 _ _ ?_
 try clear k1 K1
 refine wp_seq_k (fun K3 k3=>?_)
 refine rg [0,1] ?_
 refine sv 13 (.string ⟨(za1 (q):List UInt8).toArray⟩) ?_
 refine sv 6 (.string ⟨(za1 (q):List UInt8).toArray⟩) ?_
 refine za0 ?_
 refine k3 _ _ ?_
 try clear k3 K3
 refine wp_seq_k (fun K4 k4=>?_)
 refine rg [0,1,2,3,4,5,6,7,8] ?_
 refine sv 15 (.string ⟨(za1 (q):List UInt8).toArray⟩) ?_
 refine se ?_
 refine ec 16 (cut_f q hq.1 hq.2 (by omega) hw (hm.gr hB)) ?_
 rintro e5 w5 ⟨rfl,g5⟩
 refine ⟨_,rfl,?_⟩
 replace hB:=hB.trans g5
 simp only [p3,p4]
 refine sv 14 (.tuple #[(.string ⟨(Lib.itoa (q.num):List UInt8).toArray⟩),(.string ⟨(Lib.itoa ((q.den:Int)):List UInt8).toArray⟩),.bool true]) ?_
 refine sv 17 (.string ⟨(Lib.itoa (q.num):List UInt8).toArray⟩) ?_
 refine sv 18 (.string ⟨(Lib.itoa ((q.den:Int)):List UInt8).toArray⟩) ?_
 refine sv 19 (.bool true) ?_
 refine sv 7 (.string ⟨(Lib.itoa (q.num):List UInt8).toArray⟩) ?_
 refine sv 8 (.string ⟨(Lib.itoa ((q.den:Int)):List UInt8).toArray⟩) ?_
 refine sv 9 (.bool true) ?_
 refine za0 ?_
 refine k4 _ _ ?_
 try clear k4 K4
 refine wp_seq_k (fun K6 k6=>?_)
 refine wp_block ?_
 refine wp_seq_k (fun K7 k7=>?_)
 refine rg [0,1,2,3,4] ?_
 refine sv 21 (.string ⟨(za1 (q):List UInt8).toArray⟩) ?_
 refine sv 22 (.int .i64 (((za1 (q)).length:Int))) ?_
 refine sv 23 (.int .i64 (most)) ?_
 refine sw 24 (.bool false) rfl (RunV.bool (x:=decide (most<((za1 (q)).length:Int))) (rvk (by kernel_rfl)) hl) ?_
 refine sv 20 (.bool false) ?_
 refine za0 ?_
 refine k7 _ _ ?_
 try clear k7 K7
 refine wp_cond_false rfl ?_
 refine wp_seq_k (fun K8 k8=>?_)
 refine rg [0,1,2,3,4,5,6,7,8,9,10,11,12] ?_
 refine sv 27 (.string ⟨(Lib.itoa (q.num):List UInt8).toArray⟩) ?_
 refine se ?_
 refine ec 28 (zp6 (q.num) _) ?_
 rintro e9 w9 ⟨rfl,g9⟩
 refine ⟨_,rfl,?_⟩
 replace hB:=hB.trans g9
 simp only [p3,p4]
 refine se ?_
 refine ec 29 (zJ1 q.num hq.1 (by omega) _) ?_
 rintro bC bu ⟨rfl,aK⟩
 refine ⟨_,rfl,?_⟩
 replace hB:=hB.trans aK
 simp only [p3,p4]
 refine sv 30 (.bool false) ?_
 refine sv 31 (.bool false) ?_
 refine sv 32 (.bool true) ?_
 refine sv 33 (.bool true) ?_
 refine sv 34 (.string ⟨(Lib.itoa ((q.den:Int)):List UInt8).toArray⟩) ?_
 refine se ?_
 refine ec 35 (yy0 q.den hq.2 (by omega) _) ?_
 rintro e11 bQ ⟨rfl,aO⟩
 refine ⟨_,rfl,?_⟩
 replace hB:=hB.trans aO
 simp only [p3,p4]
 refine sv 36 (.bool false) ?_
 refine sv 37 (.bool false) ?_
 refine sv 38 (.bool false) ?_
 refine sv 26 (.bool false) ?_
 refine za0 ?_
 refine k8 _ _ ?_
 try clear k8 K8
 refine wp_cond_false rfl ?_
 refine wp_seq_k (fun a5 aZ=>?_)
 refine rg [0,1,2,3,4,5,6] ?_
 refine sv 41 (.bool true) ?_
 refine sv 42 (.bool true) ?_
 refine sv 43 (.string ⟨(Lib.itoa ((q.den:Int)):List UInt8).toArray⟩) ?_
 refine se ?_
 refine ec 44 (yd0 q.den hq.2 q.den_pos (by omega) _) ?_
 rintro e13 bE ⟨⟨aL,rfl,aD⟩,aM⟩
 refine ⟨_,rfl,?_⟩
 replace hB:=hB.trans aM
 simp only [p3,p4]
 refine sw 45 (.bool false) rfl (RunV.bool (x:=((aL)==([]:List UInt8))) (zu0 9 9 _ _ (aL) ([]) rfl rfl rfl) aD) ?_
 refine sv 46 (.bool false) ?_
 refine sv 40 (.bool false) ?_
 refine za0 ?_
 refine aZ _ _ ?_
 try clear aZ a5
 refine wp_cond_false rfl ?_
 refine wp_skip ?_
 refine k6 _ _ ?_
 try clear k6 K6
 refine wp_seq_k (fun bk aR=>?_)
 refine rg [0,1,2,3,4,5,6,7] ?_
 refine sv 49 (.string ⟨(Lib.itoa (q.num):List UInt8).toArray⟩) ?_
 refine se ?_
 refine ec 50 (zq8 (q.num) hq.1 (by omega) _) ?_
 rintro bL bJ ⟨⟨ae,af,rfl,aj⟩,aT⟩
 refine ⟨_,rfl,?_⟩
 replace hB:=hB.trans aT
 simp only [p3,p4]
 refine sv 48 (.tuple #[(.agg #[ae,af]),.int .i64 0]) ?_
 refine sv 51 (.agg #[ae,af]) ?_
 refine sv 52 (.int .i64 0) ?_
 refine se ?_
 refine ea 34 #[.bool false,.slice none 0 0] 10 hB fun bi bn aQ aa a0 a6 hB=>?_
 replace L2:=L2.gr (g5.trans (g9.trans (aK.trans (aO.trans (aM.trans aT)))))
 have ap:=L2.ne a0
 simp only [p3,p4]
 refine se ?_
 refine es 34 0 (.agg #[ae,af]) [ae,af] #[ae,af] aa hB a6 ⟨aj.one0,aj.one1,trivial⟩ fun bp aH aI aa hB=>?_
 refine sv 11 (.int .i64 0) ?_
 refine za0 ?_
 refine aR _ _ ?_
 try clear aR bk
 refine wp_seq_k (fun bb aV=>?_)
 refine wp_seq_k (fun a7 aU=>?_)
 refine rg [0,1] ?_
 refine sv 53 (.int .i64 0) ?_
 refine sv 54 (.bool false) ?_
 refine za0 ?_
 refine aU _ _ ?_
 try clear aU a7
 refine wp_cond_false rfl ?_
 refine wp_skip ?_
 refine aV _ _ ?_
 try clear aV bb
 refine wp_seq_k (fun bc aN=>?_)
 refine wp_seq_k (fun bd aP=>?_)
 refine rg [0,1] ?_
 refine sv 56 (.bool true) ?_
 refine sv 57 (.bool false) ?_
 refine za0 ?_
 refine aP _ _ ?_
 try clear aP bd
 refine wp_cond_false rfl ?_
 refine wp_skip ?_
 refine aN _ _ ?_
 try clear aN bc
 refine wp_seq_k (fun a1 aS=>?_)
 refine rg [0,1,2,3,4,5,6,7] ?_
 refine sv 61 (.string ⟨(Lib.itoa ((q.den:Int)):List UInt8).toArray⟩) ?_
 refine se ?_
 refine ec 62 (zq8 ((q.den:Int)) hq.2 (by omega) _) ?_
 rintro e23 bN ⟨⟨ac,ad,rfl,ah⟩,aB⟩
 refine ⟨_,rfl,?_⟩
 replace hB:=hB.trans aB
 simp only [p3,p4]
 refine sv 60 (.tuple #[(.agg #[ac,ad]),.int .i64 0]) ?_
 refine sv 63 (.agg #[ac,ad]) ?_
 refine sv 64 (.int .i64 0) ?_
 refine se ?_
 refine ea 34 #[.bool false,.slice none 0 0] 12 hB fun a9 bP aA ab aX a3 hB=>?_
 replace L2:=(aH.lc (L2.gr aQ) ap).gr aB
 have al:=L2.ne aX
 replace aa:=aa.gr aB
 have ak:=aa.ne aX
 simp only [p3,p4]
 refine se ?_
 refine es 34 0 (.agg #[ac,ad]) [ac,ad] #[ac,ad] ab hB a3 ⟨ah.one0,ah.one1,trivial⟩ fun bg ax ay ab hB=>?_
 refine sv 11 (.int .i64 0) ?_
 refine za0 ?_
 refine aS _ _ ?_
 try clear aS a1
 refine wp_seq_k (fun bh aW=>?_)
 refine wp_seq_k (fun a4 aY=>?_)
 have ai:=Gr.drew bg
 replace hB:=hB.trans ai
 replace aa:=(ax.lc (aa.gr aA) ak).gr ai
 replace ab:=ab.gr ai
 refine za2 (fun w'=>Lc w' bi #[ae,af] 34∧Lc w' a9 #[ac,ad] 34) [(true,0),(true,1),(true,2),(true,3),(false,4),(false,5),(true,6),(true,7),(true,8),(true,9),(true,10),(false,11),(false,12),(false,13),(true,14),(true,15)] (by kernel_rfl) (by kernel_rfl) (by kernel_rfl) (by decide) (fun _ _ _ _ _ h=>h) ⟨aa,ab⟩ ?_
 refine ov 65 (.int .i64 0) ?_
 refine ov 66 (.bool false) ?_
 refine ov 67 (.bool false) ?_
 refine ow 68 (.agg #[ac,ad]) rfl (fun w' hS=>(rl 34 0 [ac,ad] hS.2)) ?_
 refine oe ?_
 refine ec 69 (zG7 _) ?_
 rintro bA bM ⟨⟨bG,bv,rfl,bf⟩,ar⟩
 refine ⟨_,rfl,?_⟩
 replace hB:=hB.trans ar
 replace aa:=aa.gr ar
 replace ab:=ab.gr ar
 refine ⟨⟨aa,ab⟩,?_⟩
 simp only [p3,p4]
 refine oe ?_
 have aE:=aA.kp.trans (ay.trans (ai.kp.trans ar.kp))
 replace ah:=ah.kp aE
 refine ec 70 (ze0 ah bf (by omega) (by omega)) ?_
 rintro bH bD ⟨rfl,aq⟩
 refine ⟨_,rfl,?_⟩
 replace hB:=hB.trans aq
 replace aa:=aa.gr aq
 replace ab:=ab.gr aq
 refine ⟨⟨aa,ab⟩,?_⟩
 simp only [p3,p4]
 refine ow 71 (.bool false) rfl (fun w' hS=>(RunV.bool (x:=(sgn ((q.den:Int) - 1)==(0:Int))) (rvk (by kernel_rfl)) h1)) ?_
 refine ov 72 (.bool false) ?_
 refine ov 73 (.bool false) ?_
 refine ow 74 (.agg #[ae,af]) rfl (fun w' hS=>(rl 34 0 [ae,af] hS.1)) ?_
 refine ow 75 (.agg #[ac,ad]) rfl (fun w' hS=>(rl 34 0 [ac,ad] hS.2)) ?_
 refine oe ?_
 have aG:=aQ.kp.trans (aI.trans (aB.kp.trans (aA.kp.trans (ay.trans (ai.kp.trans (ar.kp.trans aq.kp))))))
 replace aj:=aj.kp aG
 replace ah:=ah.kp aq.kp
 refine ec 76 (yb5 aj ah (by omega)) ?_
 rintro bF bq ⟨⟨bK,bO,rfl,aC⟩,av⟩
 refine ⟨_,rfl,?_⟩
 replace hB:=hB.trans av
 replace aa:=aa.gr av
 replace ab:=ab.gr av
 refine ⟨⟨aa,ab⟩,?_⟩
 simp only [p3,p4]
 refine oe ?_
 refine ec 77 (zG7 _) ?_
 rintro bw bx ⟨⟨bo,bz,rfl,bj⟩,au⟩
 refine ⟨_,rfl,?_⟩
 replace hB:=hB.trans au
 replace aa:=aa.gr au
 replace ab:=ab.gr au
 refine ⟨⟨aa,ab⟩,?_⟩
 simp only [p3,p4]
 refine oe ?_
 replace aC:=aC.kp au.kp
 refine ec 78 (ze0 aC bj (by omega) (by omega)) ?_
 rintro bt bB ⟨rfl,az⟩
 refine ⟨_,rfl,?_⟩
 replace hB:=hB.trans az
 replace aa:=aa.gr az
 replace ab:=ab.gr az
 refine ⟨⟨aa,ab⟩,?_⟩
 simp only [p3,p4]
 refine ow 79 (.bool false) rfl (fun w' hS=>(RunV.bool (x:=(sgn ((Int.gcd (q.num) ((q.den:Int)):Int) - 1) !=(0:Int))) (rvk (by kernel_rfl)) h2)) ?_
 refine ov 80 (.bool false) ?_
 refine zb8 ?_
 refine aY _ _ ?_
 try clear aY a4
 refine wp_cond_false rfl ?_
 refine wp_skip ?_
 refine aW _ _ ?_
 try clear aW bh
 refine wp_seq_k (fun a2 aJ=>?_)
 refine rg [0,1,2,3,4] ?_
 refine sw 82 (.agg #[ae,af]) rfl (rl 34 0 [ae,af] aa) ?_
 refine sw 83 (.agg #[ac,ad]) rfl (rl 34 0 [ac,ad] ab) ?_
 refine sv 84 (.agg #[ae,af,ac,ad]) ?_
 refine se ?_
 replace L2:=(ax.lc (L2.gr aA) al).gr (ai.trans (ar.trans (aq.trans (av.trans (au.trans az)))))
 refine es 36 0 (.agg #[ae,af,ac,ad]) [ae,af,ac,ad] #[ae,af,ac,ad] L2 hB q2 ⟨aj.one0,aj.one1,ah.one0,ah.one1,trivial⟩ fun bm a8 aF L2 hB=>?_
 refine sv 5 (.int .i64 0) ?_
 refine za0 ?_
 refine aJ _ _ ?_
 try clear aJ a2
 refine wp_ret ?_
 refine bodyPost_ret (v:=(.tuple #[(.agg #[ae,af,ac,ad]),.int .i64 0])) (za4 _ _ _ rfl rfl L2 (by kernel_rfl) rfl) rfl ⟨?_,hB⟩
 have aw:=av.kp.trans (au.kp.trans (az.kp.trans aF))
 replace aj:=aj.kp aw
 replace ah:=ah.kp aw
 exact ⟨_,_,_,_,rfl,yd1 aj ah ba⟩

theorem read_q {k:Nat} (q:Rat) (hq:Sz k q.num∧Sz k (q.den:Int)) (hk:k≤20000) (h64:64≤k) (most:Int) (hlong:((za1 q).length:Int)≤most) (w:World) (hm:Mx w):
  Calls Tryz.prog 120 #[(.string ⟨(za1 (q):List UInt8).toArray⟩),(.int .i64 (most))] w fun e w'=>(∃ c0 c1 c2 c3,e=.returned (.tuple #[.agg #[c0,c1,c2,c3],.int .i64 0])∧IsRat w' k c0 c1 c2 c3 q)∧Gr w w':=by
 by_cases hw:q.den=1
 ·exact read_w q hq hk h64 most hlong w hm hw
 ·exact read_f q hq hk h64 most hlong w hm hw

set_option maxRecDepth 100000 in
set_option maxHeartbeats 1000000 in
theorem zG8 {k:Nat} (q:Rat) (hq:Sz k q.num∧Sz k (q.den:Int)) (hk:k≤20000) (af:64≤k) (_hlong:((za1 q).length:Int)≤400) (w:World) (hm:Mx w):
    Calls Tryz.prog 94 #[(.string ⟨(za1 (q):List UInt8).toArray⟩)] w fun e w'=>(∃ c0 c1 c2 c3,e=.returned (.tuple #[.agg #[c0,c1,c2,c3],.int .i64 0])∧IsRat w' k c0 c1 c2 c3 q)∧Gr w w':=by
 go_enter Tryz.func94,Tryz.ntmps94
 have hB:=Gr.refl w
 refine wp_seq_k (fun K1 k1=>?_)
 refine rg [0,1] ?_
 refine se ?_
 refine ea 36 #[.bool false,.slice none 0 0,.bool false,.slice none 0 0] 2 hB fun b2 w2 g2 L2 o2 q2 hB=>?_
 simp only [p3,p4]
 refine sv 3 (.int .i64 0) ?_
 refine za0 ?_
 refine k1 _ _ ?_
 try clear k1 K1
 refine wp_seq_k (fun K3 k3=>?_)
 refine rg [0,1,2,3,4,5] ?_
 refine sv 4 (.string ⟨(za1 (q):List UInt8).toArray⟩) ?_
 refine se ?_
 refine ec 5 (read_q q hq hk af 400 (by omega) _ (hm.gr hB)) ?_
 rintro e4 w4 ⟨⟨ac,aa,ab,ad,rfl,h4⟩,g4⟩
 refine ⟨_,rfl,?_⟩
 replace hB:=hB.trans g4
 simp only [p3,p4]
 refine sv 6 (.agg #[ac,aa,ab,ad]) ?_
 refine sv 7 (.int .i64 0) ?_
 refine se ?_
 replace L2:=L2.gr g4
 refine es 36 0 (.agg #[ac,aa,ab,ad]) [ac,aa,ab,ad] #[ac,aa,ab,ad] L2 hB q2 ⟨h4.one0,h4.one1,h4.one2,h4.one3,trivial⟩ fun w5 ah ae L2 hB=>?_
 refine sv 3 (.int .i64 0) ?_
 refine za0 ?_
 refine k3 _ _ ?_
 try clear k3 K3
 refine wp_ret ?_
 refine bodyPost_ret (v:=(.tuple #[(.agg #[ac,aa,ab,ad]),.int .i64 0])) (za4 _ _ _ rfl rfl L2 (by kernel_rfl) rfl) rfl ⟨?_,hB⟩
 replace h4:=h4.kp ae
 exact ⟨_,_,_,_,rfl,h4⟩

set_option maxRecDepth 100000 in
set_option maxHeartbeats 1000000 in
theorem readr_q {k:Nat} (q:Rat) (hq:Sz k q.num∧Sz k (q.den:Int)) (hk:k≤20000) (af:64≤k) (_hlong:((za1 q).length:Int)≤65536) (w:World) (hm:Mx w):
    Calls Tryz.prog 107 #[(.string ⟨(za1 (q):List UInt8).toArray⟩)] w fun e w'=>(∃ c0 c1 c2 c3,e=.returned (.tuple #[.agg #[c0,c1,c2,c3],.int .i64 0])∧IsRat w' k c0 c1 c2 c3 q)∧Gr w w':=by
 go_enter Tryz.func107,Tryz.ntmps107
 have hB:=Gr.refl w
 refine wp_seq_k (fun K1 k1=>?_)
 refine rg [0,1] ?_
 refine se ?_
 refine ea 36 #[.bool false,.slice none 0 0,.bool false,.slice none 0 0] 2 hB fun b2 w2 g2 L2 o2 q2 hB=>?_
 simp only [p3,p4]
 refine sv 3 (.int .i64 0) ?_
 refine za0 ?_
 refine k1 _ _ ?_
 try clear k1 K1
 refine wp_seq_k (fun K3 k3=>?_)
 refine rg [0,1,2,3,4,5] ?_
 refine sv 4 (.string ⟨(za1 (q):List UInt8).toArray⟩) ?_
 refine se ?_
 refine ec 5 (read_q q hq hk af 65536 (by omega) _ (hm.gr hB)) ?_
 rintro e4 w4 ⟨⟨ac,aa,ab,ad,rfl,h4⟩,g4⟩
 refine ⟨_,rfl,?_⟩
 replace hB:=hB.trans g4
 simp only [p3,p4]
 refine sv 6 (.agg #[ac,aa,ab,ad]) ?_
 refine sv 7 (.int .i64 0) ?_
 refine se ?_
 replace L2:=L2.gr g4
 refine es 36 0 (.agg #[ac,aa,ab,ad]) [ac,aa,ab,ad] #[ac,aa,ab,ad] L2 hB q2 ⟨h4.one0,h4.one1,h4.one2,h4.one3,trivial⟩ fun w5 ah ae L2 hB=>?_
 refine sv 3 (.int .i64 0) ?_
 refine za0 ?_
 refine k3 _ _ ?_
 try clear k3 K3
 refine wp_ret ?_
 refine bodyPost_ret (v:=(.tuple #[(.agg #[ac,aa,ab,ad]),.int .i64 0])) (za4 _ _ _ rfl rfl L2 (by kernel_rfl) rfl) rfl ⟨?_,hB⟩
 replace h4:=h4.kp ae
 exact ⟨_,_,_,_,rfl,h4⟩

set_option maxRecDepth 100000 in
set_option maxHeartbeats 1000000 in
theorem div_a {k m:Nat} {u0 u1 u2 u3 v0 v1 v2 v3:Value} {a b:Rat} {w:World} (ha:IsRat w k u0 u1 u2 u3 a) (hb:IsRat w m v0 v1 v2 v3 b) (_hk:k+m≤100000) (h0:b.num≠0):
    Calls Tryz.prog 58 #[(.agg #[u0,u1,u2,u3]),(.agg #[v0,v1,v2,v3])] w fun e w'=>(∃ c0 c1 c2 c3,e=.returned (.tuple #[.agg #[c0,c1,c2,c3],.int .i64 0])∧IsRat w' (k+m) c0 c1 c2 c3 (a/b))∧Gr w w':=by
 have hka:=ha.big
 have hkb:=hb.big
 have he:(sgn (b).num==(0:Int))=false:=by rw [beq_eq_false_iff_ne];exact fun e=>h0 (zc2.1 e)
 go_enter Tryz.func58,Tryz.ntmps58
 have hB:=Gr.refl w
 refine wp_seq_k (fun K1 k1=>?_)
 refine rg [0,1,2,3] ?_
 refine se ?_
 refine eb 36 #[u0,u1,u2,u3] 2 hB fun b2 w2 g2 L2 o2 q2 hB=>?_
 simp only [p3,p4]
 refine se ?_
 refine eb 36 #[v0,v1,v2,v3] 3 hB fun b3 w3 g3 L3 o3 q3 hB=>?_
 simp only [p3,p4]
 refine se ?_
 refine ea 36 #[.bool false,.slice none 0 0,.bool false,.slice none 0 0] 4 hB fun b4 w4 g4 L4 o4 q4 hB=>?_
 replace L2:=L2.gr g3
 have ah:=L2.ne o4
 have aj:=L3.ne o4
 simp only [p3,p4]
 refine sv 5 (.int .i64 0) ?_
 refine za0 ?_
 refine k1 _ _ ?_
 try clear k1 K1
 refine wp_seq_k (fun K5 k5=>?_)
 refine wp_seq_k (fun K6 k6=>?_)
 refine rg [0,1,2] ?_
 replace L3:=L3.gr g4
 refine sw 6 (.agg #[v0,v1,v2,v3]) rfl (rl 36 0 [v0,v1,v2,v3] L3) ?_
 refine se ?_
 have aD:=g2.kp.trans (g3.kp.trans g4.kp)
 replace hb:=hb.kp aD
 refine ec 7 (zM8 hb) ?_
 rintro e7 w7 ⟨rfl,g7⟩
 refine ⟨_,rfl,?_⟩
 replace hB:=hB.trans g7
 simp only [p3,p4]
 refine sw 8 (.bool false) rfl (RunV.bool (x:=(sgn (b).num==(0:Int))) (rvk (by kernel_rfl)) he) ?_
 refine za0 ?_
 refine k6 _ _ ?_
 try clear k6 K6
 refine wp_cond_false rfl ?_
 refine wp_skip ?_
 refine k5 _ _ ?_
 try clear k5 K5
 refine wp_seq_k (fun K9 k9=>?_)
 have aa:=Gr.drew w7
 replace hB:=hB.trans aa
 replace L2:=L2.gr (g4.trans (g7.trans aa))
 replace L3:=L3.gr (g7.trans aa)
 refine za2 (fun w'=>Lc w' b2 #[u0,u1,u2,u3] 36∧Lc w' b3 #[v0,v1,v2,v3] 36) [(true,0),(true,1),(true,2),(true,5),(true,7),(true,8),(false,3),(false,4),(false,6),(false,9),(false,10),(false,11),(true,12)] (by kernel_rfl) (by kernel_rfl) (by kernel_rfl) (by decide) (fun _ _ _ _ _ h=>h) ⟨L2,L3⟩ ?_
 refine ov 10 (.pointer (some ⟨b2,0,none⟩)) ?_
 refine ow 11 (.agg #[u0,u1]) rfl (fun w' hS=>(rl 34 0 [u0,u1] hS.1)) ?_
 refine ow 12 (.agg #[v0,v1,v2,v3]) rfl (fun w' hS=>(rl 36 0 [v0,v1,v2,v3] hS.2)) ?_
 refine ow 15 (.agg #[u0,u1,u2,u3]) rfl (fun w' hS=>(rl 36 0 [u0,u1,u2,u3] hS.1)) ?_
 refine ov 17 (.pointer (some ⟨b3,0,none⟩)) ?_
 refine ow 18 (.agg #[v0,v1]) rfl (fun w' hS=>(rl 34 0 [v0,v1] hS.2)) ?_
 refine oe ?_
 have ay:=g7.kp.trans aa.kp
 replace hb:=hb.kp ay
 refine ec 13 (zn5 hb) ?_
 rintro aI aO ⟨⟨aE,aS,rfl,aB⟩,ae⟩
 refine ⟨_,rfl,?_⟩
 replace hB:=hB.trans ae
 replace L2:=L2.gr ae
 replace L3:=L3.gr ae
 refine ⟨⟨L2,L3⟩,?_⟩
 simp only [p3,p4]
 refine oe ?_
 have au:=g2.kp.trans (g3.kp.trans (g4.kp.trans (g7.kp.trans (aa.kp.trans ae.kp))))
 replace ha:=ha.kp au
 refine ec 14 (zp8 ha.num aB (by omega)) ?_
 rintro e32 aR ⟨⟨aM,aQ,rfl,av⟩,ad⟩
 refine ⟨_,rfl,?_⟩
 replace hB:=hB.trans ad
 replace L2:=L2.gr ad
 replace L3:=L3.gr ad
 refine ⟨⟨L2,L3⟩,?_⟩
 simp only [p3,p4]
 refine oe ?_
 replace ha:=ha.kp ad.kp
 refine ec 16 (zn5 ha) ?_
 rintro aJ aP ⟨⟨aF,aV,rfl,aA⟩,ac⟩
 refine ⟨_,rfl,?_⟩
 replace hB:=hB.trans ac
 replace L2:=L2.gr ac
 replace L3:=L3.gr ac
 refine ⟨⟨L2,L3⟩,?_⟩
 simp only [p3,p4]
 refine oe ?_
 have aw:=ae.kp.trans (ad.kp.trans ac.kp)
 replace hb:=hb.kp aw
 refine ec 19 (zp8 aA hb.num (by omega)) ?_
 rintro aL aH ⟨⟨aU,aK,rfl,aC⟩,ai⟩
 refine ⟨_,rfl,?_⟩
 replace hB:=hB.trans ai
 replace L2:=L2.gr ai
 replace L3:=L3.gr ai
 refine ⟨⟨L2,L3⟩,?_⟩
 simp only [p3,p4]
 refine oe ?_
 have az:=ac.kp.trans ai.kp
 replace av:=av.kp az
 refine ec 20 (yx7 (k+m) av aC (Int.mul_ne_zero (Int.ne_of_gt (Int.natCast_pos.2 a.den_pos)) h0) (by omega) (by omega) (by omega) (by omega)) ?_
 rintro aT aG ⟨⟨ap,al,ak,aq,rfl,ab⟩,ar⟩
 refine ⟨_,rfl,?_⟩
 replace hB:=hB.trans ar
 replace L2:=L2.gr ar
 replace L3:=L3.gr ar
 refine ⟨⟨L2,L3⟩,?_⟩
 simp only [p3,p4]
 refine oe ?_
 replace L4:=L4.gr (g7.trans (aa.trans (ae.trans (ad.trans (ac.trans (ai.trans ar))))))
 refine es 36 0 (.agg #[ap,al,ak,aq]) [ap,al,ak,aq] #[ap,al,ak,aq] L4 hB q4 ⟨ab.one0,ab.one1,ab.one2,ab.one3,trivial⟩ fun aN af ax L4 hB=>?_
 replace L2:=af.lc L2 ah
 replace L3:=af.lc L3 aj
 refine ⟨⟨L2,L3⟩,?_⟩
 refine ov 5 (.int .i64 0) ?_
 refine zb8 ?_
 refine k9 _ _ ?_
 try clear k9 K9
 refine wp_ret ?_
 refine bodyPost_ret (v:=(.tuple #[(.agg #[ap,al,ak,aq]),.int .i64 0])) (za4 _ _ _ rfl rfl L4 (by kernel_rfl) rfl) rfl ⟨?_,hB⟩
 replace ab:=ab.kp ax
 exact ⟨_,_,_,_,rfl,by rw [← yc8];exact ab⟩

set_option maxRecDepth 100000 in
set_option maxHeartbeats 1000000 in
theorem div_0 {k m:Nat} {u0 u1 u2 u3 v0 v1 v2 v3:Value} {a b:Rat} {w:World} (_ha:IsRat w k u0 u1 u2 u3 a) (hb:IsRat w m v0 v1 v2 v3 b) (h0:b.num=0):
    Calls Tryz.prog 58 #[(.agg #[u0,u1,u2,u3]),(.agg #[v0,v1,v2,v3])] w fun e w'=>e=.returned (.tuple #[.agg #[.bool false,.slice none 0 0,.bool false,.slice none 0 0],.int .i64 19])∧Gr w w':=by
 have he:(sgn (b).num==(0:Int))=true:=by rw [h0];rfl
 go_enter Tryz.func58,Tryz.ntmps58
 have hB:=Gr.refl w
 refine wp_seq_k (fun K1 k1=>?_)
 refine rg [0,1,2,3] ?_
 refine se ?_
 refine eb 36 #[u0,u1,u2,u3] 2 hB fun b2 w2 g2 L2 o2 q2 hB=>?_
 simp only [p3,p4]
 refine se ?_
 refine eb 36 #[v0,v1,v2,v3] 3 hB fun b3 w3 g3 L3 o3 q3 hB=>?_
 simp only [p3,p4]
 refine se ?_
 refine ea 36 #[.bool false,.slice none 0 0,.bool false,.slice none 0 0] 4 hB fun b4 w4 g4 L4 o4 q4 hB=>?_
 simp only [p3,p4]
 refine sv 5 (.int .i64 0) ?_
 refine za0 ?_
 refine k1 _ _ ?_
 try clear k1 K1
 refine wp_seq_k (fun K5 k5=>?_)
 refine wp_seq_k (fun K6 k6=>?_)
 refine rg [0,1,2] ?_
 replace L3:=L3.gr g4
 refine sw 6 (.agg #[v0,v1,v2,v3]) rfl (rl 36 0 [v0,v1,v2,v3] L3) ?_
 refine se ?_
 have aa:=g2.kp.trans (g3.kp.trans g4.kp)
 replace hb:=hb.kp aa
 refine ec 7 (zM8 hb) ?_
 rintro e7 w7 ⟨rfl,g7⟩
 refine ⟨_,rfl,?_⟩
 replace hB:=hB.trans g7
 simp only [p3,p4]
 refine sw 8 (.bool true) rfl (RunV.bool (x:=(sgn (b).num==(0:Int))) (rvk (by kernel_rfl)) he) ?_
 refine za0 ?_
 refine k6 _ _ ?_
 try clear k6 K6
 refine wp_cond_true rfl ?_
 refine wp_seq_k (fun K9 k9=>?_)
 refine rg [0,1,2] ?_
 refine sv 9 (.agg #[.bool false,.slice none 0 0,.bool false,.slice none 0 0]) ?_
 refine se ?_
 replace L4:=L4.gr g7
 refine es 36 0 (.agg #[.bool false,.slice none 0 0,.bool false,.slice none 0 0]) [.bool false,.slice none 0 0,.bool false,.slice none 0 0] #[.bool false,.slice none 0 0,.bool false,.slice none 0 0] L4 hB q4 ⟨rfl,rfl,rfl,rfl,trivial⟩ fun ad ab ac L4 hB=>?_
 refine sv 5 (.int .i64 19) ?_
 refine za0 ?_
 refine k9 _ _ ?_
 try clear k9 K9
 refine wp_ret ?_
 simp only [Exit.then]
 refine bodyPost_ret (v:=(.tuple #[(.agg #[.bool false,.slice none 0 0,.bool false,.slice none 0 0]),.int .i64 19])) (za4 _ _ _ rfl rfl L4 (by kernel_rfl) rfl) rfl ⟨?_,hB⟩
 exact rfl

set_option maxRecDepth 100000 in
set_option maxHeartbeats 1000000 in
theorem r2_div {k m:Nat} (a b:Rat) (ha:Sz k a.num∧Sz k (a.den:Int)) (hb:Sz m b.num∧Sz m (b.den:Int)) (h0:b.num≠0) (_hk:k+m≤19998) (w:World):
    Calls Tryz.prog 64 #[(.string ⟨(za1 (a):List UInt8).toArray⟩),(.string ⟨(za1 (b):List UInt8).toArray⟩)] w fun e w'=>e=.returned (.string ⟨(za1 (a/b)).toArray⟩)∧Gr w w':=by
 go_enter Tryz.func64,Tryz.ntmps64
 have hB:=Gr.refl w
 refine wp_seq_k (fun K1 k1=>?_)
 refine rg [0] ?_
 refine sv 4 (.string ⟨([]:List UInt8).toArray⟩) ?_
 refine za0 ?_
 refine k1 _ _ ?_
 try clear k1 K1
 refine wp_seq_k (fun K2 k2=>?_)
 refine rg [0,1,2,3,4,5,6] ?_
 refine sv 10 (.string ⟨(za1 (a):List UInt8).toArray⟩) ?_
 refine se ?_
 refine ec 11 (zg8 a ha.1 ha.2 (by omega) _) ?_
 rintro e3 w3 ⟨rfl,g3⟩
 refine ⟨_,rfl,?_⟩
 replace hB:=hB.trans g3
 simp only [p3,p4]
 refine sv 9 (.tuple #[(.string ⟨(Lib.itoa (a.num):List UInt8).toArray⟩),(.string ⟨(Lib.itoa ((a.den:Int)):List UInt8).toArray⟩)]) ?_
 refine sv 12 (.string ⟨(Lib.itoa (a.num):List UInt8).toArray⟩) ?_
 refine sv 13 (.string ⟨(Lib.itoa ((a.den:Int)):List UInt8).toArray⟩) ?_
 refine sv 5 (.string ⟨(Lib.itoa (a.num):List UInt8).toArray⟩) ?_
 refine sv 6 (.string ⟨(Lib.itoa ((a.den:Int)):List UInt8).toArray⟩) ?_
 refine za0 ?_
 refine k2 _ _ ?_
 try clear k2 K2
 refine wp_seq_k (fun K4 k4=>?_)
 refine rg [0,1,2,3,4,5,6] ?_
 refine sv 15 (.string ⟨(za1 (b):List UInt8).toArray⟩) ?_
 refine se ?_
 refine ec 16 (zg8 b hb.1 hb.2 (by omega) _) ?_
 rintro e5 w5 ⟨rfl,g5⟩
 refine ⟨_,rfl,?_⟩
 replace hB:=hB.trans g5
 simp only [p3,p4]
 refine sv 14 (.tuple #[(.string ⟨(Lib.itoa (b.num):List UInt8).toArray⟩),(.string ⟨(Lib.itoa ((b.den:Int)):List UInt8).toArray⟩)]) ?_
 refine sv 17 (.string ⟨(Lib.itoa (b.num):List UInt8).toArray⟩) ?_
 refine sv 18 (.string ⟨(Lib.itoa ((b.den:Int)):List UInt8).toArray⟩) ?_
 refine sv 7 (.string ⟨(Lib.itoa (b.num):List UInt8).toArray⟩) ?_
 refine sv 8 (.string ⟨(Lib.itoa ((b.den:Int)):List UInt8).toArray⟩) ?_
 refine za0 ?_
 refine k4 _ _ ?_
 try clear k4 K4
 refine wp_seq_k (fun K6 k6=>?_)
 refine rg [0,1,2,3,4,5,6,7] ?_
 refine sv 19 (.string ⟨(Lib.itoa (a.num):List UInt8).toArray⟩) ?_
 refine sv 20 (.string ⟨(Lib.itoa ((b.den:Int)):List UInt8).toArray⟩) ?_
 refine se ?_
 refine ec 21 (zI8 (a.num) ((b.den:Int)) ha.1 hb.2 (by omega) _) ?_
 rintro e7 w7 ⟨rfl,g7⟩
 refine ⟨_,rfl,?_⟩
 replace hB:=hB.trans g7
 simp only [p3,p4]
 refine sv 22 (.string ⟨(Lib.itoa ((a.den:Int)):List UInt8).toArray⟩) ?_
 refine sv 23 (.string ⟨(Lib.itoa (b.num):List UInt8).toArray⟩) ?_
 refine se ?_
 refine ec 24 (zI8 ((a.den:Int)) (b.num) ha.2 hb.1 (by omega) _) ?_
 rintro e8 w8 ⟨rfl,g8⟩
 refine ⟨_,rfl,?_⟩
 replace hB:=hB.trans g8
 simp only [p3,p4]
 refine se ?_
 refine ec 25 (yt8 (a.num*(b.den:Int)) ((a.den:Int)*b.num) _ rfl (ha.1.mul hb.2) ((ha.2.mul hb.1).mono (by omega)) (Int.mul_ne_zero (Int.ne_of_gt (zr4 a)) h0) (by omega) _) ?_
 rintro e9 w9 ⟨rfl,g9⟩
 refine ⟨_,rfl,?_⟩
 replace hB:=hB.trans g9
 simp only [p3,p4]
 refine sv 4 (.string ⟨(za1 (Rat.divInt (a.num*(b.den:Int)) ((a.den:Int)*b.num)):List UInt8).toArray⟩) ?_
 refine za0 ?_
 refine k6 _ _ ?_
 try clear k6 K6
 refine wp_ret ?_
 refine bodyPost_ret (v:=(.string ⟨(za1 (Rat.divInt (a.num*(b.den:Int)) ((a.den:Int)*b.num)):List UInt8).toArray⟩)) (zb0 rfl rfl) rfl ⟨?_,hB⟩
 exact (by rw [yc8])

set_option maxRecDepth 100000 in
set_option maxHeartbeats 1000000 in
theorem yh0 {k:Nat} {ae al aa ak ad ap ab aj ai ac af ah:Value} {a1 a2 a3:Rat} {w:World} (au:IsRat w k ae al aa ak a1) (ar:IsRat w k ad ap ab aj a2) (aq:IsRat w k ai ac af ah a3) (_hk:k≤25000) (ht:Tab w):
    Calls Tryz.prog 44 #[(.agg #[ae,al,aa,ak,ad,ap,ab,aj,ai,ac,af,ah])] w fun e w'=>e=.returned (.agg #[.string ⟨(za1 (a1)).toArray⟩,.string ⟨(za1 (a2)).toArray⟩,.string ⟨(za1 (a3)).toArray⟩])∧Gr w w':=by
 go_enter Tryz.func44,Tryz.ntmps44
 have hB:=Gr.refl w
 refine wp_seq_k (fun K1 k1=>?_)
 refine rg [0,1] ?_
 refine se ?_
 refine eb 38 #[ae,al,aa,ak,ad,ap,ab,aj,ai,ac,af,ah] 1 hB fun b2 w2 g2 L2 o2 q2 hB=>?_
 simp only [p3,p4]
 refine se ?_
 refine ea 25 #[(.string ⟨([]:List UInt8).toArray⟩),(.string ⟨([]:List UInt8).toArray⟩),(.string ⟨([]:List UInt8).toArray⟩)] 2 hB fun b3 w3 g3 L3 o3 q3 hB=>?_
 simp only [p3,p4]
 refine za0 ?_
 refine k1 _ _ ?_
 try clear k1 K1
 refine wp_seq_k (fun K4 k4=>?_)
 refine rg [0] ?_
 refine se ?_
 refine ea 25 #[(.string ⟨([]:List UInt8).toArray⟩),(.string ⟨([]:List UInt8).toArray⟩),(.string ⟨([]:List UInt8).toArray⟩)] 3 hB fun b5 w5 g5 L5 o5 q5 hB=>?_
 replace L2:=L2.gr g3
 have av:=L3.ne o5
 simp only [p3,p4]
 refine za0 ?_
 refine k4 _ _ ?_
 try clear k4 K4
 refine wp_seq_k (fun K6 k6=>?_)
 refine wp_seq_k (fun K7 k7=>?_)
 refine rg [0,1] ?_
 replace L2:=L2.gr g5
 refine sw 6 (.agg #[ae,al,aa,ak,ad,ap,ab,aj,ai,ac,af,ah]) rfl (rl 38 0 [ae,al,aa,ak,ad,ap,ab,aj,ai,ac,af,ah] L2) ?_
 refine sv 7 (.int .i64 0) ?_
 refine za0 ?_
 refine k7 _ _ ?_
 try clear k7 K7
 refine wp_block ?_
 refine wp_loop_rounds 4 ?_
 show Code.wp _ _ _ _ _
 refine wp_seq_k (fun K8 k8=>?_)
 refine rg [0] ?_
 refine sv 8 (.bool true) ?_
 refine za0 ?_
 refine k8 _ _ ?_
 try clear k8 K8
 refine wp_seq_k (fun K9 k9=>?_)
 refine wp_cond_true rfl ?_
 refine wp_skip ?_
 refine k9 _ _ ?_
 try clear k9 K9
 refine wp_seq_k (fun bv bc=>?_)
 refine wp_block ?_
 refine wp_seq_k (fun bp a0=>?_)
 refine rg [0,1,2,3,4] ?_
 refine sv 9 (.int .i64 0) ?_
 refine sv 10 (.agg #[ae,al,aa,ak]) ?_
 refine se ?_
 refine ea 36 #[.bool false,.slice none 0 0,.bool false,.slice none 0 0] 5 hB fun bH bK aG aU bb q12 hB=>?_
 replace L3:=L3.gr g5
 have ax:=L3.ne bb
 have aB:=L5.ne bb
 simp only [p3,p4]
 refine sv 4 (.int .i64 0) ?_
 refine se ?_
 refine es 36 0 (.agg #[ae,al,aa,ak]) [ae,al,aa,ak] #[ae,al,aa,ak] aU hB q12 ⟨au.one0,au.one1,au.one2,au.one3,trivial⟩ fun bJ aH aC aU hB=>?_
 refine za0 ?_
 refine a0 _ _ ?_
 try clear a0 bp
 refine rg [0,1,2,3,4] ?_
 refine sv 11 (.int .i64 0) ?_
 refine sw 12 (.agg #[ae,al,aa,ak]) rfl (rl 36 0 [ae,al,aa,ak] aU) ?_
 refine se ?_
 have aO:=g2.kp.trans (g3.kp.trans (g5.kp.trans (aG.kp.trans aC)))
 replace au:=au.kp aO
 refine ec 13 (zE2 au (by omega) (ht.gr hB)) ?_
 rintro bG bR ⟨rfl,aE⟩
 refine ⟨_,rfl,?_⟩
 replace hB:=hB.trans aE
 simp only [p3,p4]
 refine sv 14 (.pointer (some ⟨b5,0,none⟩)) ?_
 refine se ?_
 replace L5:=(aH.lc (L5.gr aG) aB).gr aE
 refine es 23 0 (.string ⟨(za1 (a1):List UInt8).toArray⟩) [(.string ⟨(za1 (a1):List UInt8).toArray⟩)] #[(.string ⟨(za1 (a1):List UInt8).toArray⟩),(.string ⟨([]:List UInt8).toArray⟩),(.string ⟨([]:List UInt8).toArray⟩)] L5 hB q5 ⟨rfl,trivial⟩ fun bE aS aD L5 hB=>?_
 refine za0 ?_
 refine bc _ _ ?_
 try clear bc bv
 refine rg [0,1] ?_
 refine sv 15 (.int .i64 1) ?_
 refine sv 7 (.int .i64 1) ?_
 refine za0 ?_
 show Code.rounds _ _ _ _ _ _
 show Code.wp _ _ _ _ _
 refine wp_seq_k (fun bo bd=>?_)
 refine rg [0] ?_
 refine sv 8 (.bool true) ?_
 refine za0 ?_
 refine bd _ _ ?_
 try clear bd bo
 refine wp_seq_k (fun bj a9=>?_)
 refine wp_cond_true rfl ?_
 refine wp_skip ?_
 refine a9 _ _ ?_
 try clear a9 bj
 refine wp_seq_k (fun bC a5=>?_)
 refine wp_block ?_
 refine wp_seq_k (fun bm a7=>?_)
 refine rg [0,1,2,3,4] ?_
 refine sv 9 (.int .i64 1) ?_
 refine sv 10 (.agg #[ad,ap,ab,aj]) ?_
 refine se ?_
 refine ea 36 #[.bool false,.slice none 0 0,.bool false,.slice none 0 0] 5 hB fun bN bL aL aN a4 bB hB=>?_
 replace L3:=aS.lc ((aH.lc (L3.gr aG) ax).gr aE) av
 have ay:=L3.ne a4
 have aA:=L5.ne a4
 simp only [p3,p4]
 refine sv 4 (.int .i64 1) ?_
 refine se ?_
 refine es 36 0 (.agg #[ad,ap,ab,aj]) [ad,ap,ab,aj] #[ad,ap,ab,aj] aN hB bB ⟨ar.one0,ar.one1,ar.one2,ar.one3,trivial⟩ fun bP aI aJ aN hB=>?_
 refine za0 ?_
 refine a7 _ _ ?_
 try clear a7 bm
 refine rg [0,1,2,3,4] ?_
 refine sv 11 (.int .i64 1) ?_
 refine sw 12 (.agg #[ad,ap,ab,aj]) rfl (rl 36 0 [ad,ap,ab,aj] aN) ?_
 refine se ?_
 have aR:=g2.kp.trans (g3.kp.trans (g5.kp.trans (aG.kp.trans (aC.trans (aE.kp.trans (aD.trans (aL.kp.trans aJ)))))))
 replace ar:=ar.kp aR
 refine ec 13 (zE2 ar (by omega) (ht.gr hB)) ?_
 rintro e23 bQ ⟨rfl,aK⟩
 refine ⟨_,rfl,?_⟩
 replace hB:=hB.trans aK
 simp only [p3,p4]
 refine sv 14 (.pointer (some ⟨b5,1,none⟩)) ?_
 refine se ?_
 replace L5:=(aI.lc (L5.gr aL) aA).gr aK
 refine es 23 1 (.string ⟨(za1 (a2):List UInt8).toArray⟩) [(.string ⟨(za1 (a2):List UInt8).toArray⟩)] #[(.string ⟨(za1 (a1):List UInt8).toArray⟩),(.string ⟨(za1 (a2):List UInt8).toArray⟩),(.string ⟨([]:List UInt8).toArray⟩)] L5 hB q5 ⟨rfl,trivial⟩ fun bO aM aP L5 hB=>?_
 refine za0 ?_
 refine a5 _ _ ?_
 try clear a5 bC
 refine rg [0,1] ?_
 refine sv 15 (.int .i64 2) ?_
 refine sv 7 (.int .i64 2) ?_
 refine za0 ?_
 show Code.rounds _ _ _ _ _ _
 show Code.wp _ _ _ _ _
 refine wp_seq_k (fun bw ba=>?_)
 refine rg [0] ?_
 refine sv 8 (.bool true) ?_
 refine za0 ?_
 refine ba _ _ ?_
 try clear ba bw
 refine wp_seq_k (fun bA bf=>?_)
 refine wp_cond_true rfl ?_
 refine wp_skip ?_
 refine bf _ _ ?_
 try clear bf bA
 refine wp_seq_k (fun bt a6=>?_)
 refine wp_block ?_
 refine wp_seq_k (fun bx bg=>?_)
 refine rg [0,1,2,3,4] ?_
 refine sv 9 (.int .i64 2) ?_
 refine sv 10 (.agg #[ai,ac,af,ah]) ?_
 refine se ?_
 refine ea 36 #[.bool false,.slice none 0 0,.bool false,.slice none 0 0] 5 hB fun bU bM aW aT aZ bk hB=>?_
 replace L3:=aM.lc ((aI.lc (L3.gr aL) ay).gr aK) av
 have aw:=L3.ne aZ
 have az:=L5.ne aZ
 simp only [p3,p4]
 refine sv 4 (.int .i64 2) ?_
 refine se ?_
 refine es 36 0 (.agg #[ai,ac,af,ah]) [ai,ac,af,ah] #[ai,ac,af,ah] aT hB bk ⟨aq.one0,aq.one1,aq.one2,aq.one3,trivial⟩ fun bD aF aX aT hB=>?_
 refine za0 ?_
 refine bg _ _ ?_
 try clear bg bx
 refine rg [0,1,2,3,4] ?_
 refine sv 11 (.int .i64 2) ?_
 refine sw 12 (.agg #[ai,ac,af,ah]) rfl (rl 36 0 [ai,ac,af,ah] aT) ?_
 refine se ?_
 have aQ:=g2.kp.trans (g3.kp.trans (g5.kp.trans (aG.kp.trans (aC.trans (aE.kp.trans (aD.trans (aL.kp.trans (aJ.trans (aK.kp.trans (aP.trans (aW.kp.trans aX)))))))))))
 replace aq:=aq.kp aQ
 refine ec 13 (zE2 aq (by omega) (ht.gr hB)) ?_
 rintro e32 bS ⟨rfl,aV⟩
 refine ⟨_,rfl,?_⟩
 replace hB:=hB.trans aV
 simp only [p3,p4]
 refine sv 14 (.pointer (some ⟨b5,2,none⟩)) ?_
 refine se ?_
 replace L5:=(aF.lc (L5.gr aW) az).gr aV
 refine es 23 2 (.string ⟨(za1 (a3):List UInt8).toArray⟩) [(.string ⟨(za1 (a3):List UInt8).toArray⟩)] #[(.string ⟨(za1 (a1):List UInt8).toArray⟩),(.string ⟨(za1 (a2):List UInt8).toArray⟩),(.string ⟨(za1 (a3):List UInt8).toArray⟩)] L5 hB q5 ⟨rfl,trivial⟩ fun bW aY bi L5 hB=>?_
 refine za0 ?_
 refine a6 _ _ ?_
 try clear a6 bt
 refine rg [0,1] ?_
 refine sv 15 (.int .i64 3) ?_
 refine sv 7 (.int .i64 3) ?_
 refine za0 ?_
 show Code.rounds _ _ _ _ _ _
 show Code.wp _ _ _ _ _
 refine wp_seq_k (fun bz bh=>?_)
 refine rg [0] ?_
 refine sv 8 (.bool false) ?_
 refine za0 ?_
 refine bh _ _ ?_
 try clear bh bz
 refine wp_seq_k (fun bT bV=>?_)
 refine wp_cond_false rfl ?_
 refine wp_exit ?_
 simp only [Exit.then,Exit.inBlock,↓reduceIte]
 refine k6 _ _ ?_
 try clear k6 K6
 refine wp_seq_k (fun bq a8=>?_)
 refine rg [0,1] ?_
 refine sw 16 (.agg #[(.string ⟨(za1 (a1):List UInt8).toArray⟩),(.string ⟨(za1 (a2):List UInt8).toArray⟩),(.string ⟨(za1 (a3):List UInt8).toArray⟩)]) rfl (rl 25 0 [(.string ⟨(za1 (a1):List UInt8).toArray⟩),(.string ⟨(za1 (a2):List UInt8).toArray⟩),(.string ⟨(za1 (a3):List UInt8).toArray⟩)] L5) ?_
 refine se ?_
 replace L3:=aY.lc ((aF.lc (L3.gr aW) aw).gr aV) av
 refine es 25 0 (.agg #[(.string ⟨(za1 (a1):List UInt8).toArray⟩),(.string ⟨(za1 (a2):List UInt8).toArray⟩),(.string ⟨(za1 (a3):List UInt8).toArray⟩)]) [(.string ⟨(za1 (a1):List UInt8).toArray⟩),(.string ⟨(za1 (a2):List UInt8).toArray⟩),(.string ⟨(za1 (a3):List UInt8).toArray⟩)] #[(.string ⟨(za1 (a1):List UInt8).toArray⟩),(.string ⟨(za1 (a2):List UInt8).toArray⟩),(.string ⟨(za1 (a3):List UInt8).toArray⟩)] L3 hB q3 ⟨rfl,rfl,rfl,trivial⟩ fun bF bn bu L3 hB=>?_
 refine za0 ?_
 refine a8 _ _ ?_
 try clear a8 bq
 refine wp_ret ?_
 refine bodyPost_ret (v:=(.agg #[(.string ⟨(za1 (a1):List UInt8).toArray⟩),(.string ⟨(za1 (a2):List UInt8).toArray⟩),(.string ⟨(za1 (a3):List UInt8).toArray⟩)])) (za9 _ _ _ rfl rfl L3 (by kernel_rfl)) rfl ⟨?_,hB⟩
 exact rfl

set_option maxRecDepth 10000 in
set_option maxHeartbeats 4000000 in
theorem yx1 (n:Int) (h0:0≤n) (h1:n≤9223372036854775807) (w:World):
  Calls Tryz.prog 102 #[.int .i64 n] w fun e w'=>e=.returned (.string ⟨(Lib.itoa n).toArray⟩)∧Gr w w':=by
 obtain ⟨len,hnx⟩:=NX.exists n.toNat
 have hl:len≤64:=hnx.len_bits (k:=63) (by omega)
 rw [show ((n.toNat:Nat):Int)=n by omega] at hnx
 go_enter Tryz.func102,Tryz.ntmps102
 go_wp2
 go_loopw [3,4] (fun d m wr=>∃ (k:Nat) (v:Value) (M:Int),d=v∧m=.int .i64 M∧0≤M∧M≤9223372036854775807∧k≤len∧Hid (M=tn n k∧OwnS wr 3 w.heap.size v (zk1 .i64 k (td n)))∧Below w.heap.size w wr) (fun _ m _=>(intOf m).toNat)
 case atStart=>exact ⟨0,_,n,rfl,rfl,h0,h1,Nat.zero_le _,⟨rfl,OwnS.nil _ _ _⟩,Below.refl _ _⟩
 case round=>
  obtain ⟨k,v,M,rfl,rfl,m0,m1,hk,hz,hB⟩:=hrel
  by_cases hp:0<M
  ·have hne:(M !=0)=true:=by simp;omega
   have hkl:k<len:=by
    rcases Nat.lt_or_ge k len with h | h
    ·exact h
    ·have:=zB4 hnx.top h
     have:=hz.out.1
     omega
   have d0:0≤M % 10:=by omega
   go_wp2_with (at_builtin;refine zb9 rfl (.tmp 17) (.tmp 19) _ (by rfl) 3 w.heap.size _ _ _ (by rfl) (hz.out.2.gr (Gr.alloc _ _)) _ _ _ (by rfl) (heap_alloc_new _ _) rfl w (hB.alloc hB.size _) (by rw [zb2];omega) 8 (by decide) Tryz.underlying175 zf0 rfl (by have:=hB.size;simp;omega) ?_)
   intro v1 w1 hown aa _ _
   go_wp2
   go_roundw
   case rel=>
    refine ⟨k+1,_,M/10,rfl,rfl,by omega,by omega,hkl,⟨by rw [zd4,hz.out.1],?_⟩,aa⟩
    rw [zd5,show td n k=M % 10 by unfold td;rw [hz.out.1]]
    exact hown
   case measure=>simp [intOf];omega
  ·have hM:M=0:=by omega
   subst hM
   obtain ⟨ao,cap,rfl,hcap,_,hrow⟩:=hz.out.2.drow
   have hx:tn ((n.toNat:Nat):Int) k=0:=by rw [show ((n.toNat:Nat):Int)=n by omega];exact hz.out.1.symm
   have hrow':DRow wr ao k (td ((n.toNat:Nat):Int)):=by rw [show ((n.toNat:Nat):Int)=n by omega];exact hrow
   have ab:¬ n<0:=by omega
   have htx:=zR3 false ao k cap n.toNat wr (by omega) hcap hx hrow'
   rw [zf4 (z:=n) (.inr ⟨rfl,by omega⟩)] at htx
   clear hx hrow hrow'
   go_wp2_with fail
   (with_reducible refine htx.mono ?_)
   rintro e w2 ⟨rfl,g2⟩
   clear htx
   go_wp2
   go_ret
   exact ⟨rfl,Below.trans hB (Below.mono g2 hB.size)⟩
set_option maxRecDepth 10000 in
set_option maxHeartbeats 4000000 in
theorem yx2 (n:Int) (h0:n<0) (h1:-9223372036854775808≤n) (w:World):
  Calls Tryz.prog 102 #[.int .i64 n] w fun e w'=>e=.returned (.string ⟨(Lib.itoa n).toArray⟩)∧Gr w w':=by
 obtain ⟨len,hnx⟩:=NX.exists n.natAbs
 have hl:len≤65:=hnx.len_bits (k:=64) (by omega)
 go_enter Tryz.func102,Tryz.ntmps102
 go_wp2
 go_loopw [3,4] (fun d m wr=>∃ (k:Nat) (v:Value) (M:Int),d=v∧m=.int .i64 M∧M≤0∧-9223372036854775808≤M∧k≤len∧Hid (-M=tn (n.natAbs:Int) k∧OwnS wr 3 w.heap.size v (zk1 .i64 k (td (n.natAbs:Int))))∧Below w.heap.size w wr) (fun _ m _=>(-intOf m).toNat)
 case atStart=>exact ⟨0,_,n,rfl,rfl,by omega,h1,Nat.zero_le _,⟨by rw [zg9];omega,OwnS.nil _ _ _⟩,Below.refl _ _⟩
 case round=>
  obtain ⟨k,v,M,rfl,rfl,m0,m1,hk,hz,hB⟩:=hrel
  by_cases hp:M<0
  ·have hne:(M !=0)=true:=by simp;omega
   have hkl:k<len:=by
    rcases Nat.lt_or_ge k len with h | h
    ·exact h
    ·have:=zB4 hnx.top h
     have:=hz.out.1
     omega
   obtain ⟨A,hA⟩:∃ A:Int,A=-M:=⟨_,rfl⟩
   have htm:M.tmod 10=-(A % 10):=by
    rw [hA,show M=-(-M) by omega,Int.neg_tmod,Int.tmod_eq_emod_of_nonneg (by omega),Int.neg_neg]
   have htd:M.tdiv 10=-(A/10):=by
    rw [hA,show M=-(-M) by omega,Int.neg_tdiv,Int.tdiv_eq_ediv_of_nonneg (by omega),Int.neg_neg]
   have d0:0≤A % 10:=by omega
   have d1:A % 10<10:=by omega
   have d2:0≤A/10:=by omega
   have d3:A/10≤9223372036854775807:=by omega
   have HA:=Lib.hid hA
   clear hA
   by_cases hx:A % 10=0
   ·have hxx:¬ -(A % 10)<0:=by omega
    go_wp2_with (at_builtin;refine zb9 rfl (.tmp 17) (.tmp 19) _ (by rfl) 3 w.heap.size _ _ _ (by rfl) (hz.out.2.gr (Gr.alloc _ _)) _ _ _ (by rfl) (heap_alloc_new _ _) rfl w (hB.alloc hB.size _) (by rw [zb2];omega) 8 (by decide) Tryz.underlying175 zf0 rfl (by have:=hB.size;simp;omega) ?_)
    intro v1 w1 hown aa _ _
    go_wp2
    go_roundw
    case rel=>
     refine ⟨k+1,_,-(A/10),rfl,rfl,by omega,by omega,hkl,⟨by rw [zd4,← hz.out.1,HA.out];omega,?_⟩,aa⟩
     rw [zd5,show td (n.natAbs:Int) k=0 by unfold td;rw [← hz.out.1,← HA.out];exact hx]
     exact hown
    case measure=>simp [intOf];have:=HA.out;omega
   ·have hxx:-(A % 10)<0:=by omega
    go_wp2_with (at_builtin;refine zb9 rfl (.tmp 17) (.tmp 19) _ (by rfl) 3 w.heap.size _ _ _ (by rfl) (hz.out.2.gr (Gr.alloc _ _)) _ _ _ (by rfl) (heap_alloc_new _ _) rfl w (hB.alloc hB.size _) (by rw [zb2];omega) 8 (by decide) Tryz.underlying175 zf0 rfl (by have:=hB.size;simp;omega) ?_)
    intro v1 w1 hown aa _ _
    go_wp2
    go_roundw
    case rel=>
     refine ⟨k+1,_,-(A/10),rfl,rfl,by omega,by omega,hkl,⟨by rw [zd4,← hz.out.1,HA.out];omega,?_⟩,aa⟩
     rw [zd5,show td (n.natAbs:Int) k=A % 10 by unfold td;rw [← hz.out.1,← HA.out]]
     exact hown
    case measure=>simp [intOf];have:=HA.out;omega
  ·have hM:M=0:=by omega
   subst hM
   obtain ⟨ao,cap,rfl,hcap,_,hrow⟩:=hz.out.2.drow
   have hx:tn (n.natAbs:Int) k=0:=by have:=hz.out.1;omega
   have htx:=zR3 true ao k cap n.natAbs wr (by omega) hcap hx hrow
   rw [zf4 (z:=n) (.inl ⟨rfl,by omega⟩)] at htx
   clear hx hrow
   go_wp2_with fail
   (with_reducible refine htx.mono ?_)
   rintro e w2 ⟨rfl,g2⟩
   clear htx
   go_wp2
   go_ret
   exact ⟨rfl,Below.trans hB (Below.mono g2 hB.size)⟩
theorem r1_from (n:Int) (h0:-9223372036854775808≤n) (h1:n≤9223372036854775807) (w:World):
  Calls Tryz.prog 102 #[.int .i64 n] w fun e w'=>e=.returned (.string ⟨(Lib.itoa n).toArray⟩)∧Gr w w':=by
 rcases Int.lt_or_le n 0 with h | h
 ·exact yx2 n h h0 w
 ·exact yx1 n h h1 w
section
variable {P:Program} {ops:Array Oper} {Q:Exit→Act→World→Prop} {S0:World→Prop} {HS:List (List Nat × (World→Prop))}
end
set_option maxRecDepth 100000 in
set_option maxHeartbeats 1000000 in
theorem r2_from (z:Int) (_h0:-9223372036854775808≤z) (_h1:z≤9223372036854775807) (w:World):
    Calls Tryz.prog 65 #[(.int .i64 (z))] w fun e w'=>e=.returned (.string ⟨(za1 (((z:Int):Rat))).toArray⟩)∧Gr w w':=by
 go_enter Tryz.func65,Tryz.ntmps65
 have hB:=Gr.refl w
 refine wp_seq_k (fun K1 k1=>?_)
 refine rg [0] ?_
 refine sv 2 (.string ⟨([]:List UInt8).toArray⟩) ?_
 refine za0 ?_
 refine k1 _ _ ?_
 try clear k1 K1
 refine wp_seq_k (fun K2 k2=>?_)
 refine rg [0,1,2] ?_
 refine sv 3 (.int .i64 (z)) ?_
 refine se ?_
 refine ec 4 (r1_from (z) (by omega) (by omega) _) ?_
 rintro e3 w3 ⟨rfl,g3⟩
 refine ⟨_,rfl,?_⟩
 replace hB:=hB.trans g3
 simp only [p3,p4]
 refine sv 2 (.string ⟨(Lib.itoa ((z)):List UInt8).toArray⟩) ?_
 refine za0 ?_
 refine k2 _ _ ?_
 try clear k2 K2
 refine wp_ret ?_
 refine bodyPost_ret (v:=(.string ⟨(Lib.itoa ((z)):List UInt8).toArray⟩)) (zb0 rfl rfl) rfl ⟨?_,hB⟩
 exact (by rw [ratL_iz])

set_option maxRecDepth 100000 in
set_option maxHeartbeats 4000000 in
theorem vparse0 {k:Nat} (a1:Rat) (a2:Rat) (a3:Rat) (bU:RS k a1) (b4:RS k a2) (bO:RS k a3) (_hk:k≤20000) (_h64:64≤k) (l1:((za1 a1).length:Int)≤400) (l2:((za1 a2).length:Int)≤400) (l3:((za1 a3).length:Int)≤400) (w:World) (hm:Mx w):
    Calls Tryz.prog 93 #[(.agg #[(.string ⟨(za1 (a1):List UInt8).toArray⟩),(.string ⟨(za1 (a2):List UInt8).toArray⟩),(.string ⟨(za1 (a3):List UInt8).toArray⟩)]),(.func (.func 94) #[] #[])] w fun e w'=>(∃ t0 t1 t2 t3 t4 t5 t6 t7 t8 t9 bf bo,e=.returned (.tuple #[.agg #[t0,t1,t2,t3,t4,t5,t6,t7,t8,t9,bf,bo],.int .i64 0])∧IsRat w' k t0 t1 t2 t3 (a1)∧IsRat w' k t4 t5 t6 t7 (a2)∧IsRat w' k t8 t9 bf bo (a3))∧Gr w w':=by
 go_enter Tryz.func93,Tryz.ntmps93
 have hB:=Gr.refl w
 refine wp_seq_k (fun K1 k1=>?_)
 refine rg [0,1,2] ?_
 refine se ?_
 refine eb 25 #[(.string ⟨(za1 (a1):List UInt8).toArray⟩),(.string ⟨(za1 (a2):List UInt8).toArray⟩),(.string ⟨(za1 (a3):List UInt8).toArray⟩)] 2 hB fun b2 w2 g2 L2 o2 q2 hB=>?_
 simp only [p3,p4]
 refine se ?_
 refine ea 38 #[.bool false,.slice none 0 0,.bool false,.slice none 0 0,.bool false,.slice none 0 0,.bool false,.slice none 0 0,.bool false,.slice none 0 0,.bool false,.slice none 0 0] 4 hB fun b3 w3 g3 L3 o3 q3 hB=>?_
 simp only [p3,p4]
 refine sv 5 (.int .i64 0) ?_
 refine za0 ?_
 refine k1 _ _ ?_
 try clear k1 K1
 refine wp_seq_k (fun K4 k4=>?_)
 refine rg [0] ?_
 refine se ?_
 refine ea 38 #[.bool false,.slice none 0 0,.bool false,.slice none 0 0,.bool false,.slice none 0 0,.bool false,.slice none 0 0,.bool false,.slice none 0 0,.bool false,.slice none 0 0] 6 hB fun b5 w5 g5 L5 o5 q5 hB=>?_
 replace L2:=L2.gr g3
 have av:=L3.ne o5
 simp only [p3,p4]
 refine za0 ?_
 refine k4 _ _ ?_
 try clear k4 K4
 refine wp_seq_k (fun K6 k6=>?_)
 refine wp_seq_k (fun K7 k7=>?_)
 refine rg [0,1] ?_
 replace L2:=L2.gr g5
 refine sw 11 (.agg #[(.string ⟨(za1 (a1):List UInt8).toArray⟩),(.string ⟨(za1 (a2):List UInt8).toArray⟩),(.string ⟨(za1 (a3):List UInt8).toArray⟩)]) rfl (rl 25 0 [(.string ⟨(za1 (a1):List UInt8).toArray⟩),(.string ⟨(za1 (a2):List UInt8).toArray⟩),(.string ⟨(za1 (a3):List UInt8).toArray⟩)] L2) ?_
 refine sv 12 (.int .i64 0) ?_
 refine za0 ?_
 refine k7 _ _ ?_
 try clear k7 K7
 refine wp_block ?_
 refine wp_loop_rounds 4 ?_
 show Code.wp _ _ _ _ _
 refine wp_seq_k (fun K8 k8=>?_)
 refine rg [0] ?_
 refine sv 13 (.bool true) ?_
 refine za0 ?_
 refine k8 _ _ ?_
 try clear k8 K8
 refine wp_seq_k (fun K9 k9=>?_)
 refine wp_cond_true rfl ?_
 refine wp_skip ?_
 refine k9 _ _ ?_
 try clear k9 K9
 refine wp_seq_k (fun bX bt=>?_)
 refine wp_block ?_
 refine wp_seq_k (fun bF bj=>?_)
 refine rg [0,1,2,3] ?_
 refine sv 14 (.int .i64 0) ?_
 refine sv 15 (.string ⟨(za1 (a1):List UInt8).toArray⟩) ?_
 refine sv 7 (.int .i64 0) ?_
 refine sv 8 (.string ⟨(za1 (a1):List UInt8).toArray⟩) ?_
 refine za0 ?_
 refine bj _ _ ?_
 try clear bj bF
 refine wp_seq_k (fun bL bx=>?_)
 refine rg [0,1,2,3,4,5,6,7,8] ?_
 refine sv 17 (.func (.func 94) #[] #[]) ?_
 refine sv 18 (.string ⟨(za1 (a1):List UInt8).toArray⟩) ?_
 refine se ?_
 refine ec 19 (zG8 (a1) bU (by omega) (by omega) l1 _ (hm.gr hB)) ?_
 rintro e13 ch ⟨⟨aa,ab,ac,ad,rfl,aq⟩,aR⟩
 refine ⟨_,rfl,?_⟩
 replace hB:=hB.trans aR
 simp only [p3,p4]
 refine sv 16 (.tuple #[(.agg #[aa,ab,ac,ad]),.int .i64 0]) ?_
 refine sv 20 (.agg #[aa,ab,ac,ad]) ?_
 refine sv 21 (.int .i64 0) ?_
 refine se ?_
 refine ea 36 #[.bool false,.slice none 0 0,.bool false,.slice none 0 0] 9 hB fun cj ca aP aW bm bJ hB=>?_
 replace L3:=L3.gr (g5.trans aR)
 have aC:=L3.ne bm
 replace L5:=L5.gr aR
 have aA:=L5.ne bm
 simp only [p3,p4]
 refine se ?_
 refine es 36 0 (.agg #[aa,ab,ac,ad]) [aa,ab,ac,ad] #[aa,ab,ac,ad] aW hB bJ ⟨aq.one0,aq.one1,aq.one2,aq.one3,trivial⟩ fun ck aK aO aW hB=>?_
 refine sv 10 (.int .i64 0) ?_
 refine za0 ?_
 refine bx _ _ ?_
 try clear bx bL
 refine wp_seq_k (fun b6 a5=>?_)
 refine wp_seq_k (fun bC bc=>?_)
 refine rg [0,1] ?_
 refine sv 22 (.int .i64 0) ?_
 refine sv 23 (.bool false) ?_
 refine za0 ?_
 refine bc _ _ ?_
 try clear bc bC
 refine wp_cond_false rfl ?_
 refine wp_skip ?_
 refine a5 _ _ ?_
 try clear a5 b6
 refine rg [0,1,2,3] ?_
 refine sv 26 (.int .i64 0) ?_
 refine sw 27 (.agg #[aa,ab,ac,ad]) rfl (rl 36 0 [aa,ab,ac,ad] aW) ?_
 refine sv 28 (.pointer (some ⟨b5,0,none⟩)) ?_
 refine se ?_
 replace L5:=aK.lc (L5.gr aP) aA
 refine es 36 0 (.agg #[aa,ab,ac,ad]) [aa,ab,ac,ad] #[aa,ab,ac,ad,.bool false,.slice none 0 0,.bool false,.slice none 0 0,.bool false,.slice none 0 0,.bool false,.slice none 0 0] L5 hB q5 ⟨aq.one0,aq.one1,aq.one2,aq.one3,trivial⟩ fun co aY aQ L5 hB=>?_
 refine za0 ?_
 refine bt _ _ ?_
 try clear bt bX
 refine rg [0,1] ?_
 refine sv 29 (.int .i64 1) ?_
 refine sv 12 (.int .i64 1) ?_
 refine za0 ?_
 show Code.rounds _ _ _ _ _ _
 show Code.wp _ _ _ _ _
 refine wp_seq_k (fun bN bn=>?_)
 refine rg [0] ?_
 refine sv 13 (.bool true) ?_
 refine za0 ?_
 refine bn _ _ ?_
 try clear bn bN
 refine wp_seq_k (fun bR a8=>?_)
 refine wp_cond_true rfl ?_
 refine wp_skip ?_
 refine a8 _ _ ?_
 try clear a8 bR
 refine wp_seq_k (fun bT bh=>?_)
 refine wp_block ?_
 refine wp_seq_k (fun bB bk=>?_)
 refine rg [0,1,2,3] ?_
 refine sv 14 (.int .i64 1) ?_
 refine sv 15 (.string ⟨(za1 (a2):List UInt8).toArray⟩) ?_
 refine sv 7 (.int .i64 1) ?_
 refine sv 8 (.string ⟨(za1 (a2):List UInt8).toArray⟩) ?_
 refine za0 ?_
 refine bk _ _ ?_
 try clear bk bB
 refine wp_seq_k (fun bD bi=>?_)
 refine rg [0,1,2,3,4,5,6,7,8] ?_
 refine sv 17 (.func (.func 94) #[] #[]) ?_
 refine sv 18 (.string ⟨(za1 (a2):List UInt8).toArray⟩) ?_
 refine se ?_
 refine ec 19 (zG8 (a2) b4 (by omega) (by omega) l2 _ (hm.gr hB)) ?_
 rintro cl cy ⟨⟨ai,ae,af,ah,rfl,au⟩,aN⟩
 refine ⟨_,rfl,?_⟩
 replace hB:=hB.trans aN
 simp only [p3,p4]
 refine sv 16 (.tuple #[(.agg #[ai,ae,af,ah]),.int .i64 0]) ?_
 refine sv 20 (.agg #[ai,ae,af,ah]) ?_
 refine sv 21 (.int .i64 0) ?_
 refine se ?_
 refine ea 36 #[.bool false,.slice none 0 0,.bool false,.slice none 0 0] 9 hB fun b8 cq aM aS bd bY hB=>?_
 replace L3:=(aY.lc (aK.lc (L3.gr aP) aC) av).gr aN
 have aE:=L3.ne bd
 replace L5:=L5.gr aN
 have aB:=L5.ne bd
 simp only [p3,p4]
 refine se ?_
 refine es 36 0 (.agg #[ai,ae,af,ah]) [ai,ae,af,ah] #[ai,ae,af,ah] aS hB bY ⟨au.one0,au.one1,au.one2,au.one3,trivial⟩ fun cg aH aG aS hB=>?_
 refine sv 10 (.int .i64 0) ?_
 refine za0 ?_
 refine bi _ _ ?_
 try clear bi bD
 refine wp_seq_k (fun bK bu=>?_)
 refine wp_seq_k (fun bV a7=>?_)
 refine rg [0,1] ?_
 refine sv 22 (.int .i64 0) ?_
 refine sv 23 (.bool false) ?_
 refine za0 ?_
 refine a7 _ _ ?_
 try clear a7 bV
 refine wp_cond_false rfl ?_
 refine wp_skip ?_
 refine bu _ _ ?_
 try clear bu bK
 refine rg [0,1,2,3] ?_
 refine sv 26 (.int .i64 1) ?_
 refine sw 27 (.agg #[ai,ae,af,ah]) rfl (rl 36 0 [ai,ae,af,ah] aS) ?_
 refine sv 28 (.pointer (some ⟨b5,4,none⟩)) ?_
 refine se ?_
 replace L5:=aH.lc (L5.gr aM) aB
 refine es 36 4 (.agg #[ai,ae,af,ah]) [ai,ae,af,ah] #[aa,ab,ac,ad,ai,ae,af,ah,.bool false,.slice none 0 0,.bool false,.slice none 0 0] L5 hB q5 ⟨au.one0,au.one1,au.one2,au.one3,trivial⟩ fun cu aX aJ L5 hB=>?_
 refine za0 ?_
 refine bh _ _ ?_
 try clear bh bT
 refine rg [0,1] ?_
 refine sv 29 (.int .i64 2) ?_
 refine sv 12 (.int .i64 2) ?_
 refine za0 ?_
 show Code.rounds _ _ _ _ _ _
 show Code.wp _ _ _ _ _
 refine wp_seq_k (fun bZ a9=>?_)
 refine rg [0] ?_
 refine sv 13 (.bool true) ?_
 refine za0 ?_
 refine a9 _ _ ?_
 try clear a9 bZ
 refine wp_seq_k (fun bG bb=>?_)
 refine wp_cond_true rfl ?_
 refine wp_skip ?_
 refine bb _ _ ?_
 try clear bb bG
 refine wp_seq_k (fun bH bq=>?_)
 refine wp_block ?_
 refine wp_seq_k (fun bz a4=>?_)
 refine rg [0,1,2,3] ?_
 refine sv 14 (.int .i64 2) ?_
 refine sv 15 (.string ⟨(za1 (a3):List UInt8).toArray⟩) ?_
 refine sv 7 (.int .i64 2) ?_
 refine sv 8 (.string ⟨(za1 (a3):List UInt8).toArray⟩) ?_
 refine za0 ?_
 refine a4 _ _ ?_
 try clear a4 bz
 refine wp_seq_k (fun bQ a6=>?_)
 refine rg [0,1,2,3,4,5,6,7,8] ?_
 refine sv 17 (.func (.func 94) #[] #[]) ?_
 refine sv 18 (.string ⟨(za1 (a3):List UInt8).toArray⟩) ?_
 refine se ?_
 refine ec 19 (zG8 (a3) bO (by omega) (by omega) l3 _ (hm.gr hB)) ?_
 rintro ce cx ⟨⟨ak,ap,aj,al,rfl,ar⟩,aF⟩
 refine ⟨_,rfl,?_⟩
 replace hB:=hB.trans aF
 simp only [p3,p4]
 refine sv 16 (.tuple #[(.agg #[ak,ap,aj,al]),.int .i64 0]) ?_
 refine sv 20 (.agg #[ak,ap,aj,al]) ?_
 refine sv 21 (.int .i64 0) ?_
 refine se ?_
 refine ea 36 #[.bool false,.slice none 0 0,.bool false,.slice none 0 0] 9 hB fun cn cd aL aU ba bE hB=>?_
 replace L3:=(aX.lc (aH.lc (L3.gr aM) aE) av).gr aF
 have ax:=L3.ne ba
 replace L5:=L5.gr aF
 have az:=L5.ne ba
 simp only [p3,p4]
 refine se ?_
 refine es 36 0 (.agg #[ak,ap,aj,al]) [ak,ap,aj,al] #[ak,ap,aj,al] aU hB bE ⟨ar.one0,ar.one1,ar.one2,ar.one3,trivial⟩ fun cc aI ay aU hB=>?_
 refine sv 10 (.int .i64 0) ?_
 refine za0 ?_
 refine a6 _ _ ?_
 try clear a6 bQ
 refine wp_seq_k (fun bA bp=>?_)
 refine wp_seq_k (fun bM bw=>?_)
 refine rg [0,1] ?_
 refine sv 22 (.int .i64 0) ?_
 refine sv 23 (.bool false) ?_
 refine za0 ?_
 refine bw _ _ ?_
 try clear bw bM
 refine wp_cond_false rfl ?_
 refine wp_skip ?_
 refine bp _ _ ?_
 try clear bp bA
 refine rg [0,1,2,3] ?_
 refine sv 26 (.int .i64 2) ?_
 refine sw 27 (.agg #[ak,ap,aj,al]) rfl (rl 36 0 [ak,ap,aj,al] aU) ?_
 refine sv 28 (.pointer (some ⟨b5,8,none⟩)) ?_
 refine se ?_
 replace L5:=aI.lc (L5.gr aL) az
 refine es 36 8 (.agg #[ak,ap,aj,al]) [ak,ap,aj,al] #[aa,ab,ac,ad,ai,ae,af,ah,ak,ap,aj,al] L5 hB q5 ⟨ar.one0,ar.one1,ar.one2,ar.one3,trivial⟩ fun b9 aZ aw L5 hB=>?_
 refine za0 ?_
 refine bq _ _ ?_
 try clear bq bH
 refine rg [0,1] ?_
 refine sv 29 (.int .i64 3) ?_
 refine sv 12 (.int .i64 3) ?_
 refine za0 ?_
 show Code.rounds _ _ _ _ _ _
 show Code.wp _ _ _ _ _
 refine wp_seq_k (fun bW bg=>?_)
 refine rg [0] ?_
 refine sv 13 (.bool false) ?_
 refine za0 ?_
 refine bg _ _ ?_
 try clear bg bW
 refine wp_seq_k (fun cm b7=>?_)
 refine wp_cond_false rfl ?_
 refine wp_exit ?_
 simp only [Exit.then,Exit.inBlock,↓reduceIte]
 refine k6 _ _ ?_
 try clear k6 K6
 refine wp_seq_k (fun bP bv=>?_)
 refine rg [0,1,2] ?_
 refine sw 30 (.agg #[aa,ab,ac,ad,ai,ae,af,ah,ak,ap,aj,al]) rfl (rl 38 0 [aa,ab,ac,ad,ai,ae,af,ah,ak,ap,aj,al] L5) ?_
 refine se ?_
 replace L3:=aZ.lc (aI.lc (L3.gr aL) ax) av
 refine es 38 0 (.agg #[aa,ab,ac,ad,ai,ae,af,ah,ak,ap,aj,al]) [aa,ab,ac,ad,ai,ae,af,ah,ak,ap,aj,al] #[aa,ab,ac,ad,ai,ae,af,ah,ak,ap,aj,al] L3 hB q3 ⟨aq.one0,aq.one1,aq.one2,aq.one3,au.one0,au.one1,au.one2,au.one3,ar.one0,ar.one1,ar.one2,ar.one3,trivial⟩ fun ct bS aD L3 hB=>?_
 refine sv 5 (.int .i64 0) ?_
 refine za0 ?_
 refine bv _ _ ?_
 try clear bv bP
 refine wp_ret ?_
 refine bodyPost_ret (v:=(.tuple #[(.agg #[aa,ab,ac,ad,ai,ae,af,ah,ak,ap,aj,al]),.int .i64 0])) (za4 _ _ _ rfl rfl L3 (by kernel_rfl) rfl) rfl ⟨?_,hB⟩
 have aT:=aP.kp.trans (aO.trans (aQ.trans (aN.kp.trans (aM.kp.trans (aG.trans (aJ.trans (aF.kp.trans (aL.kp.trans (ay.trans (aw.trans aD))))))))))
 replace aq:=aq.kp aT
 have aV:=aM.kp.trans (aG.trans (aJ.trans (aF.kp.trans (aL.kp.trans (ay.trans (aw.trans aD))))))
 replace au:=au.kp aV
 have a0:=aL.kp.trans (ay.trans (aw.trans aD))
 replace ar:=ar.kp a0
 exact ⟨_,_,_,_,_,_,_,_,_,_,_,_,rfl,aq,au,ar⟩

set_option maxRecDepth 100000 in
set_option maxHeartbeats 1000000 in
theorem vparse_v {k:Nat} (a1:Rat) (a2:Rat) (a3:Rat) (ay:RS k a1) (az:RS k a2) (aA:RS k a3) (_hk:k≤20000) (_h64:64≤k) (l1:((za1 a1).length:Int)≤400) (l2:((za1 a2).length:Int)≤400) (l3:((za1 a3).length:Int)≤400) (w:World) (hm:Mx w):
    Calls Tryz.prog 57 #[(.agg #[(.string ⟨(za1 (a1):List UInt8).toArray⟩),(.string ⟨(za1 (a2):List UInt8).toArray⟩),(.string ⟨(za1 (a3):List UInt8).toArray⟩)])] w fun e w'=>(∃ t0 t1 t2 t3 t4 t5 t6 t7 t8 t9 aw ax,e=.returned (.tuple #[.agg #[t0,t1,t2,t3,t4,t5,t6,t7,t8,t9,aw,ax],.int .i64 0])∧IsRat w' k t0 t1 t2 t3 (a1)∧IsRat w' k t4 t5 t6 t7 (a2)∧IsRat w' k t8 t9 aw ax (a3))∧Gr w w':=by
 go_enter Tryz.func57,Tryz.ntmps57
 have hB:=Gr.refl w
 refine wp_seq_k (fun K1 k1=>?_)
 refine rg [0,1,2] ?_
 refine se ?_
 refine eb 25 #[(.string ⟨(za1 (a1):List UInt8).toArray⟩),(.string ⟨(za1 (a2):List UInt8).toArray⟩),(.string ⟨(za1 (a3):List UInt8).toArray⟩)] 1 hB fun b2 w2 g2 L2 o2 q2 hB=>?_
 simp only [p3,p4]
 refine se ?_
 refine ea 38 #[.bool false,.slice none 0 0,.bool false,.slice none 0 0,.bool false,.slice none 0 0,.bool false,.slice none 0 0,.bool false,.slice none 0 0,.bool false,.slice none 0 0] 2 hB fun b3 w3 g3 L3 o3 q3 hB=>?_
 simp only [p3,p4]
 refine sv 3 (.int .i64 0) ?_
 refine za0 ?_
 refine k1 _ _ ?_
 try clear k1 K1
 refine wp_seq_k (fun K4 k4=>?_)
 refine rg [0,1,2,3,4,5] ?_
 replace L2:=L2.gr g3
 refine sw 4 (.agg #[(.string ⟨(za1 (a1):List UInt8).toArray⟩),(.string ⟨(za1 (a2):List UInt8).toArray⟩),(.string ⟨(za1 (a3):List UInt8).toArray⟩)]) rfl (rl 25 0 [(.string ⟨(za1 (a1):List UInt8).toArray⟩),(.string ⟨(za1 (a2):List UInt8).toArray⟩),(.string ⟨(za1 (a3):List UInt8).toArray⟩)] L2) ?_
 refine se ?_
 refine ec 5 (vparse0 (a1) (a2) (a3) ay az aA (by omega) (by omega) l1 l2 l3 _ (hm.gr hB)) ?_
 rintro e5 w5 ⟨⟨aj,ae,al,af,ak,ai,ac,ah,ad,ap,aa,ab,rfl,au,ar,aq⟩,g5⟩
 refine ⟨_,rfl,?_⟩
 replace hB:=hB.trans g5
 simp only [p3,p4]
 refine sv 6 (.agg #[aj,ae,al,af,ak,ai,ac,ah,ad,ap,aa,ab]) ?_
 refine sv 7 (.int .i64 0) ?_
 refine se ?_
 replace L3:=L3.gr g5
 refine es 38 0 (.agg #[aj,ae,al,af,ak,ai,ac,ah,ad,ap,aa,ab]) [aj,ae,al,af,ak,ai,ac,ah,ad,ap,aa,ab] #[aj,ae,al,af,ak,ai,ac,ah,ad,ap,aa,ab] L3 hB q3 ⟨au.one0,au.one1,au.one2,au.one3,ar.one0,ar.one1,ar.one2,ar.one3,aq.one0,aq.one1,aq.one2,aq.one3,trivial⟩ fun w6 aB av L3 hB=>?_
 refine sv 3 (.int .i64 0) ?_
 refine za0 ?_
 refine k4 _ _ ?_
 try clear k4 K4
 refine wp_ret ?_
 refine bodyPost_ret (v:=(.tuple #[(.agg #[aj,ae,al,af,ak,ai,ac,ah,ad,ap,aa,ab]),.int .i64 0])) (za4 _ _ _ rfl rfl L3 (by kernel_rfl) rfl) rfl ⟨?_,hB⟩
 replace au:=au.kp av
 replace ar:=ar.kp av
 replace aq:=aq.kp av
 exact ⟨_,_,_,_,_,_,_,_,_,_,_,_,rfl,au,ar,aq⟩

theorem yt1 {a1 a2 a3:Rat} {X Y Z:List UInt8} (h1:(za1 a1==X)=true) (h2:(za1 a2==Y)=true) (h3:(za1 a3==Z)=true):sEq [za1 a1,za1 a2,za1 a3] [X,Y,Z]=true:=by
 simp only [sEq,h1,h2,h3];rfl
def nilC:Cl→Bool
 | .cv (.slice none 0 0)=>true
 | _=>false
def falC:Cl→Bool
 | .cb _ (some false)=>true
 | _=>false
def zB0:SV→Option (Nat × Rat)
 | .so (.vg [.cr j 0 k q,.cr j1 1 _ _,.cr j2 2 _ _,.cr j3 3 _ _])=>if Nat.beq j1 j&&Nat.beq j2 j&&Nat.beq j3 j then some (k,q) else none
 | .so (.vg [a,b,c,d])=>if falC a&&nilC b&&falC c&&nilC d then some (64,0) else none
 | _=>none
section
variable {n:Nn} {X:Env} {w w':World}
theorem zy3 {c:Cl} (h:falC c=true) (hc:c.ok n X w):c.den X=.bool false:=by
 unfold falC at h
 split at h
 ·exact congrArg Value.bool (hc.2 false rfl)
 ·cases h
theorem zy4 {c:Cl} (h:nilC c=true):c.den X=.slice none 0 0:=by
 unfold nilC at h
 split at h
 ·rfl
 ·cases h
theorem zg3 {v:SV} {k:Nat} {q:Rat} (h:zB0 v=some (k,q)) (hv:v.ok n X w):∃ a b c d,v.den X=.agg #[a,b,c,d]∧IsRat w k a b c d q:=by
 unfold zB0 at h
 split at h
 ·rename_i j k' q' j1 _ _ j2 _ _ j3 _ _
  split at h
  ·rename_i hj
   simp only [Bool.and_eq_true,Nat.beq_eq] at hj
   obtain ⟨⟨rfl,rfl⟩,rfl⟩:=hj
   cases h
   have:=(hv (.cr j3 0 k q) (by simp)).2
   exact ⟨_,_,_,_,rfl,this⟩
  ·cases h
 ·rename_i a b c d _
  split at h
  ·rename_i hh
   simp only [Bool.and_eq_true] at hh
   obtain ⟨⟨⟨h1,h2⟩,h3⟩,h4⟩:=hh
   cases h
   refine ⟨.bool false,.slice none 0 0,.bool false,.slice none 0 0,?_,IsRat.zero w (Nat.le_refl _)⟩
   simp only [SV.den,TV.den,dnL,List.map_cons,List.map_nil,zy3 h1 (hv a (by simp)),zy4 h2,zy3 h3 (hv c (by simp)),zy4 h4]
  ·cases h
 ·cases h
def zD0 (j k:Nat) (q:Rat):SV:=.so (.vg [.cr j 0 k q,.cr j 1 k q,.cr j 2 k q,.cr j 3 k q])
def Env.pushR (X:Env) (n:Nat) (c0 c1 c2 c3:Value):Env:={X with R:=fun i c=>if i=n then (if c=0 then c0 else if c=1 then c1 else if c=2 then c2 else c3) else X.R i c}
theorem Env.pushR_agree (X:Env) (n:Nn) (c0 c1 c2 c3:Value):Agr n X (X.pushR n.r c0 c1 c2 c3):=⟨fun _ _=>rfl,fun i c hi=>by simp only [Env.pushR];rw [if_neg (by omega)],fun _ _ _=>rfl,rfl⟩
theorem zk9 {e:Ending} {k:Nat} {q:Rat} (h:(∃ c0 c1 c2 c3,e=.returned (.agg #[c0,c1,c2,c3])∧IsRat w' k c0 c1 c2 c3 q)∧Gr w w'):(Tr.leaf (zD0 n.r k q) 1 0).holds n X w e w':=by
 obtain ⟨⟨c0,c1,c2,c3,rfl,h1⟩,g⟩:=h
 refine ⟨X.pushR n.r c0 c1 c2 c3,?_,g,Env.pushR_agree _ _ _ _ _ _,fun c hc=>?_⟩
 ·simp [zD0,SV.den,TV.den,dnL,Cl.den,Env.pushR]
 ·have hg:IsRat w' k ((X.pushR n.r c0 c1 c2 c3).R n.r 0) ((X.pushR n.r c0 c1 c2 c3).R n.r 1) ((X.pushR n.r c0 c1 c2 c3).R n.r 2) ((X.pushR n.r c0 c1 c2 c3).R n.r 3) q:=by
   simpa [Env.pushR] using h1
  have hlt:Nat.blt n.r (n.r+1)=true:=zp7 (by omega)
  simp only [List.mem_cons,List.not_mem_nil,or_false] at hc
  rcases hc with rfl | rfl | rfl | rfl<;>refine ⟨?_,hg⟩<;>simp only [Cl.lt,hlt]<;>rfl
theorem zb6 {e:Ending} {v:SV} (h:e=.returned (v.den X)∧Gr w w') (hv:v.ok n X w'):(Tr.leaf v 0 0).holds n X w e w':=⟨X,h.1,h.2,.refl _ _,hv⟩
end
def zj6 (lim:Nat) (g:Nat→Nat→Nat) (op:Rat→Rat→Rat):ConT:=fun args nr _=>match args with
 | [x,y]=>match zB0 x,zB0 y with
  | some (k,a),some (m,b)=>if Nat.ble (k+m) lim then some (.leaf (zD0 nr (g k m) (op a b)) 1 0) else none
  | _,_=>none
 | _=>none
theorem zc4 {P:Program} {I:World→Prop} {f lim:Nat} {g:Nat→Nat→Nat} {op:Rat→Rat→Rat} (h:∀ {k m:Nat} {u0 u1 u2 u3 v0 v1 v2 v3:Value} {a b:Rat} {w:World},IsRat w k u0 u1 u2 u3 a→IsRat w m v0 v1 v2 v3 b→k+m≤lim→
  Calls P f #[.agg #[u0,u1,u2,u3],.agg #[v0,v1,v2,v3]] w fun e w'=>(∃ c0 c1 c2 c3,e=.returned (.agg #[c0,c1,c2,c3])∧IsRat w' (g k m) c0 c1 c2 c3 (op a b))∧Gr w w'):ConOK P I f (zj6 lim g op):=by
 intro args X n w T _ ha hT _
 unfold zj6 at hT
 split at hT
 ·rename_i x y
  split at hT
  ·rename_i k a m b h1 h2
   split at hT
   ·rename_i hle
    simp only [Nat.ble_eq] at hle
    cases hT
    obtain ⟨u0,u1,u2,u3,e1,f1⟩:=zg3 h1 (ha x (by simp))
    obtain ⟨v0,v1,v2,v3,e2,f2⟩:=zg3 h2 (ha y (by simp))
    simp only [List.map_cons,List.map_nil,e1,e2]
    exact (h f1 f2 hle).mono fun e w' he=>zk9 he
   ·cases hT
  ·cases hT
 ·cases hT

def zS7:SV→Option (Nat × Int)
 | .so (.vg [.cz j 0 k z,.cz j1 1 _ _])=>if Nat.beq j1 j then some (k,z) else none
 | .so (.vg [.cr j 0 k q,.cr j1 1 _ _])=>if Nat.beq j1 j then some (k,q.num) else none
 | .so (.vg [a,b])=>if falC a&&nilC b then some (64,0) else none
 | _=>none
def txC:Cl→Option (Nat × Rat)
 | .cw _ (some (k,q))=>some (k,q)
 | .cw [b] none=>if Nat.beq b.toNat 48 then some (1,0) else none
 | _=>none
def zY6:SV→Option (Nat × Rat)
 | .so (.vc c)=>txC c
 | _=>none
def as64:SV→Option Int
 | .so (.vc (.ci .i64 z lo hi))=>if ile (-9223372036854775808) lo&&ile hi 9223372036854775807 then some z else none
 | _=>none
def zy5 (j k:Nat) (z:Int):SV:=.so (.vg [.cz j 0 k z,.cz j 1 k z])
def txt (k:Nat) (q:Rat):SV:=.so (.vc (.cw (za1 q) (some (k,q))))
def sgnV (z:Int):SV:=.so (.vc (.ci .i64 z (-1) 1))
section
variable {n:Nn} {X:Env} {w w':World}
theorem zn9 {v:SV} {k:Nat} {z:Int} (h:zS7 v=some (k,z)) (hv:v.ok n X w):∃ a b,v.den X=.agg #[a,b]∧IsInt w k a b z:=by
 unfold zS7 at h
 split at h
 ·rename_i j k' q' j1 _ _
  split at h
  ·rename_i hj
   simp only [Nat.beq_eq] at hj
   subst hj
   cases h
   exact ⟨_,_,rfl,(hv (.cz j1 0 k z) (by simp)).2⟩
  ·cases h
 ·rename_i j k' q' j1 _ _
  split at h
  ·rename_i hj
   simp only [Nat.beq_eq] at hj
   subst hj
   cases h
   exact ⟨_,_,rfl,IsRat.num (hv (.cr j1 0 k q') (by simp)).2⟩
  ·cases h
 ·rename_i a b _ _
  split at h
  ·rename_i hh
   simp only [Bool.and_eq_true] at hh
   cases h
   refine ⟨.bool false,.slice none 0 0,?_,IsInt.zero w 64⟩
   simp only [SV.den,TV.den,dnL,List.map_cons,List.map_nil,zy3 hh.1 (hv a (by simp)),zy4 hh.2]
  ·cases h
 ·cases h
theorem ye4:za1 0=([48]:List UInt8):=eq_of_beq (zq6 (by kernel_rfl) (zh4 0 (by kernel_rfl) (by decide)))
theorem zl0 {c:Cl} {k:Nat} {q:Rat} (h:txC c=some (k,q)) (hv:c.ok n X w):c.den X=.string ⟨(za1 q).toArray⟩∧RS k q:=by
 unfold txC at h
 split at h
 ·rename_i l k' q'
  cases h
  obtain ⟨h1,h2⟩:=hv.2 k q rfl
  exact ⟨by rw [← h1];rfl,h2⟩
 ·rename_i b
  split at h
  ·rename_i hb
   cases h
   have:b=48:=UInt8.toNat_inj.1 (Nat.eq_of_beq_eq_true hb)
   exact ⟨by rw [ye4,this];rfl,Nat.two_pow_pos 1,Nat.one_lt_two_pow (by decide)⟩
  ·cases h
 ·cases h
theorem zg4 {v:SV} {k:Nat} {q:Rat} (h:zY6 v=some (k,q)) (hv:v.ok n X w):v.den X=.string ⟨(za1 q).toArray⟩∧Sz k q.num∧Sz k (q.den:Int):=by
 unfold zY6 at h
 split at h
 ·rename_i c
  exact zl0 h hv
 ·cases h
theorem zS8 {v:SV} {z:Int} (h:as64 v=some z) (hv:v.ok n X w):v.den X=.int .i64 z∧-9223372036854775808≤z∧z≤9223372036854775807:=by
 unfold as64 at h
 split at h
 ·split at h
  ·rename_i hh
   simp only [zh7,Bool.and_eq_true,decide_eq_true_eq] at hh
   cases h
   exact ⟨rfl,Int.le_trans hh.1 hv.2.1,Int.le_trans hv.2.2 hh.2⟩
  ·cases h
 ·cases h
def Env.pushZ (X:Env) (n:Nat) (c0 c1:Value):Env:={X with Z:=fun i c=>if i=n then (if c=0 then c0 else c1) else X.Z i c}
theorem Env.pushZ_agree (X:Env) (n:Nn) (c0 c1:Value):Agr n X (X.pushZ n.z c0 c1):=⟨fun _ _=>rfl,fun _ _ _=>rfl,fun i c hi=>by simp only [Env.pushZ];rw [if_neg (by omega)],rfl⟩
theorem zK4 {k:Nat} {z:Int} {c0 c1:Value} (h1:IsInt w' k c0 c1 z):(zy5 n.z k z).den (X.pushZ n.z c0 c1)=.agg #[c0,c1]∧(zy5 n.z k z).ok ⟨n.b,n.r,n.z+1⟩ (X.pushZ n.z c0 c1) w':=by
 refine ⟨by simp [zy5,SV.den,TV.den,dnL,Cl.den,Env.pushZ],fun c hc=>?_⟩
 have hg:IsInt w' k ((X.pushZ n.z c0 c1).Z n.z 0) ((X.pushZ n.z c0 c1).Z n.z 1) z:=by simpa [Env.pushZ] using h1
 have hlt:Nat.blt n.z (n.z+1)=true:=zp7 (by omega)
 simp only [List.mem_cons,List.not_mem_nil,or_false] at hc
 rcases hc with rfl | rfl<;>refine ⟨?_,hg⟩<;>simp only [Cl.lt,hlt]<;>rfl
theorem zh8 {e:Ending} {k:Nat} {z:Int} (h:(∃ c0 c1,e=.returned (.agg #[c0,c1])∧IsInt w' k c0 c1 z)∧Gr w w'):(Tr.leaf (zy5 n.z k z) 0 1).holds n X w e w':=by
 obtain ⟨⟨c0,c1,rfl,h1⟩,g⟩:=h
 obtain ⟨a,b⟩:=zK4 (n:=n) (X:=X) h1
 exact ⟨X.pushZ n.z c0 c1,by rw [a],g,Env.pushZ_agree _ _ _ _,b⟩
theorem yC8 {k:Nat} {q:Rat} {c0 c1 c2 c3:Value} (h1:IsRat w' k c0 c1 c2 c3 q):(zD0 n.r k q).den (X.pushR n.r c0 c1 c2 c3)=.agg #[c0,c1,c2,c3]∧(zD0 n.r k q).ok ⟨n.b,n.r+1,n.z⟩ (X.pushR n.r c0 c1 c2 c3) w':=by
 obtain ⟨X',a,b,c,d⟩:=zk9 (n:=n) (X:=X) (w:=w') (e:=.returned (.agg #[c0,c1,c2,c3])) ⟨⟨c0,c1,c2,c3,rfl,h1⟩,Gr.refl w'⟩
 refine ⟨by simp [zD0,SV.den,TV.den,dnL,Cl.den,Env.pushR],fun c hc=>?_⟩
 have hg:IsRat w' k ((X.pushR n.r c0 c1 c2 c3).R n.r 0) ((X.pushR n.r c0 c1 c2 c3).R n.r 1) ((X.pushR n.r c0 c1 c2 c3).R n.r 2) ((X.pushR n.r c0 c1 c2 c3).R n.r 3) q:=by simpa [Env.pushR] using h1
 have hlt:Nat.blt n.r (n.r+1)=true:=zp7 (by omega)
 simp only [List.mem_cons,List.not_mem_nil,or_false] at hc
 rcases hc with rfl | rfl | rfl | rfl<;>refine ⟨?_,hg⟩<;>simp only [Cl.lt,hlt]<;>rfl
def ratE (j k:Nat) (q:Rat) (e:Int):SV:=.st [.vg [.cr j 0 k q,.cr j 1 k q,.cr j 2 k q,.cr j 3 k q],.vc (.ci .i64 e e e)]
theorem zt2 {e:Ending} {k:Nat} {q:Rat} {er:Int} (h:(∃ c0 c1 c2 c3,e=.returned (.tuple #[.agg #[c0,c1,c2,c3],.int .i64 er])∧IsRat w' k c0 c1 c2 c3 q)∧Gr w w'):(Tr.leaf (ratE n.r k q er) 1 0).holds n X w e w':=by
 obtain ⟨⟨c0,c1,c2,c3,rfl,h1⟩,g⟩:=h
 obtain ⟨a,b⟩:=yC8 (n:=n) (X:=X) h1
 refine ⟨X.pushR n.r c0 c1 c2 c3,?_,g,Env.pushR_agree _ _ _ _ _ _,fun x hx=>?_⟩
 ·have a':TV.den (X.pushR n.r c0 c1 c2 c3) (.vg [.cr n.r 0 k q,.cr n.r 1 k q,.cr n.r 2 k q,.cr n.r 3 k q])=.agg #[c0,c1,c2,c3]:=a
  simp only [ratE,SV.den,List.map_cons,List.map_nil,a']
  rfl
 ·simp only [List.mem_cons,List.not_mem_nil,or_false] at hx
  rcases hx with rfl | rfl
  ·exact b
  ·exact ⟨rfl,Int.le_refl _,Int.le_refl _⟩
theorem zK5 {k:Nat} {q:Rat} (h:Sz k q.num∧Sz k (q.den:Int)):(txt k q).ok n X w:=⟨rfl,fun k' q' e=>by cases e;exact ⟨rfl,h⟩⟩
theorem zY7 (z:Int):-1≤sgn z∧sgn z≤1:=by unfold sgn;split<;>(try split)<;>decide
end
section
variable {P:Program} {I:World→Prop} {f lim:Nat}
def zZ9 {α:Type} (g:SV→Option α) (c:α→Nat→Nat→Option Tr):ConT:=fun args nr nz=>match args with
 | [x]=>match g x with
  | some a=>c a nr nz
  | none=>none
 | _=>none
def yC9 {α β:Type} (g:SV→Option α) (g2:SV→Option β) (c:α→β→Nat→Nat→Option Tr):ConT:=fun args nr nz=>match args with
 | [x,y]=>match g x,g2 y with
  | some a,some b=>c a b nr nz
  | _,_=>none
 | _=>none
theorem zf8 {α:Type} {g:SV→Option α} {c:α→Nat→Nat→Option Tr}
  (h:∀ (a:α) (x:SV) (n:Nn) (X:Env) (w:World) (T:Tr),I w→g x=some a→x.ok n X w→c a n.r n.z=some T→T.pre→Calls P f #[x.den X] w fun e w'=>T.holds n X w e w'):ConOK P I f (zZ9 g c):=by
 intro args X n w T hI ha hT hp
 unfold zZ9 at hT
 split at hT
 ·rename_i x
  split at hT
  ·rename_i a h1
   exact h a x n X w T hI h1 (ha x (by simp)) hT hp
  ·cases hT
 ·cases hT
theorem zj7 {α β:Type} {g:SV→Option α} {g2:SV→Option β} {c:α→β→Nat→Nat→Option Tr}
  (h:∀ (a:α) (b:β) (x y:SV) (n:Nn) (X:Env) (w:World) (T:Tr),I w→g x=some a→g2 y=some b→x.ok n X w→y.ok n X w→c a b n.r n.z=some T→T.pre→Calls P f #[x.den X,y.den X] w fun e w'=>T.holds n X w e w'):ConOK P I f (yC9 g g2 c):=by
 intro args X n w T hI ha hT hp
 unfold yC9 at hT
 split at hT
 ·rename_i x y
  split at hT
  ·rename_i a b h1 h2
   exact h a b x y n X w T hI h1 h2 (ha x (by simp)) (ha y (by simp)) hT hp
  ·cases hT
 ·cases hT
end
def tr (b:Bool) (T:Tr):Option Tr:=if b then some T else none
theorem zd1 {b:Bool} {T U:Tr} (h:tr b T=some U):b=true∧T=U:=by
 unfold tr at h
 split at h
 ·cases h;exact ⟨by assumption,rfl⟩
 ·cases h
theorem IsRat.szr {w:World} {k:Nat} {c0 c1 c2 c3:Value} {q:Rat} (h:IsRat w k c0 c1 c2 c3 q):Sz k q.num∧Sz k (q.den:Int):=by
 refine ⟨h.num.sz,?_⟩
 obtain ⟨D,h2,rfl | ⟨rfl,e⟩⟩:=h.den
 ·exact h2.sz
 ·rw [e]
  have:=h.big
  show (1:Nat)<2 ^ k
  exact Nat.one_lt_two_pow (by omega)
def cNeg:ConT:=zZ9 zB0 fun | (k,a),nr,_=>some (.leaf (zD0 nr k (-a)) 1 0)
def zY8:ConT:=zZ9 as64 fun z nr _=>some (.leaf (zD0 nr 64 (z:Rat)) 1 0)
def zY9:ConT:=yC9 zB0 zB0 fun | (k,a),(m,b),_,_=>tr (Nat.ble (k+m) 100000) (.leaf (sgnV (yo1 a b)) 0 0)
def zS9:ConT:=zZ9 zB0 fun | (_k,a),_,_=>some (.leaf (sgnV (sgn a.num)) 0 0)
def zZ0:ConT:=zZ9 zB0 fun | (k,a),_,_=>tr (Nat.ble k 800000) (.leaf (txt k a) 0 0)
def cNum:ConT:=zZ9 zB0 fun | (k,a),_,nz=>some (.leaf (zy5 nz k a.num) 0 1)
def cDen:ConT:=zZ9 zB0 fun | (k,a),_,nz=>some (.leaf (zy5 nz k (a.den:Int)) 0 1)
def cDiv:ConT:=yC9 zB0 zB0 fun | (k,a),(m,b),nr,_=>tr (Nat.ble (k+m) 100000) (.br (decide (b=0)) (.leaf (.st [.vg [.cb false (some false),.cv (.slice none 0 0),.cb false (some false),.cv (.slice none 0 0)],.vc (.ci .i64 19 19 19)]) 0 0) (.leaf (ratE nr (k+m) (a/b) 0) 1 0))
def zy6:ConT:=zZ9 as64 fun z _ nz=>some (.leaf (zy5 nz 64 z) 0 1)
def zT0:ConT:=yC9 zS7 zS7 fun | (k,a),(m,b),_,nz=>tr (Nat.ble (k+m) 1000000) (.leaf (zy5 nz (k+m) (a*b)) 0 1)
def zT1:ConT:=yC9 zS7 zS7 fun | (k,a),(m,b),_,nz=>tr (Nat.ble (k+m) 1000000) (.leaf (zy5 nz (k+m) (Int.gcd a b)) 0 1)
def zT2:ConT:=yC9 zS7 zS7 fun | (k,a),(m,b),_,nz=>tr (Nat.ble (k+k+m+m+66) 1000000) (.as (decide (0<b)) (.leaf (.st [.vg [.cz nz 0 k (a/b),.cz nz 1 k (a/b)],.vg [.cz (nz+1) 0 m (a % b),.cz (nz+1) 1 m (a % b)],.vc (.ci .i64 0 0 0)]) 0 2))
def zZ1:ConT:=zZ9 zS7 fun | (_k,a),_,_=>some (.leaf (.st [.vc (.ci .i64 (yp0 a) (-9223372036854775808) 9223372036854775807),.vc (.cb (zL7 a) none)]) 0 0)
def cTT (g:Nat→Nat→Nat) (op:Rat→Rat→Rat):ConT:=yC9 zY6 zY6 fun | (k,a),(m,b),_,_=>tr (Nat.ble (k+m) 19998) (.leaf (txt (g k m) (op a b)) 0 0)
def zZ2:ConT:=yC9 zY6 zY6 fun | (k,a),(m,b),_,_=>tr (Nat.ble (k+m) 19998) (.as (decide (b≠0)) (.leaf (txt (k+m) (a/b)) 0 0))
def zZ3:ConT:=zZ9 zY6 fun | (k,a),_,_=>tr (Nat.ble k 19998) (.leaf (txt k (-a)) 0 0)
def zD1:ConT:=zZ9 as64 fun z _ _=>some (.leaf (txt 64 (z:Rat)) 0 0)
def zt8 (most:Nat):ConT:=zZ9 zY6 fun | (k,a),nr,_=>tr (Nat.ble k 20000&&Nat.ble (2*k+5) most) (.leaf (ratE nr (max k 64) a 0) 1 0)
section
variable {I:World→Prop}
theorem zu9:ConOK Tryz.prog I 108 cNeg:=zf8 fun ⟨k,a⟩ x n X w T _ h1 h2 hT _=>by
 cases hT
 obtain ⟨u0,u1,u2,u3,e1,f1⟩:=zg3 h1 h2
 rw [e1]
 exact (neg_r f1).mono fun e w' he=>zk9 he
theorem zo0:ConOK Tryz.prog I 59 zY8:=zf8 fun a x n X w T _ h1 h2 hT _=>by
 cases hT
 obtain ⟨e1,h3,h4⟩:=zS8 h1 h2
 rw [e1]
 exact (zV0 a h3 h4 w).mono fun e w' he=>zk9 he
theorem zo1:ConOK Tryz.prog I 37 zY9:=zj7 fun ⟨k,a⟩ ⟨m,b⟩ x y n X w T _ h1 h2 hx hy hT _=>by
 obtain ⟨hb,rfl⟩:=zd1 hT
 obtain ⟨u0,u1,u2,u3,e1,f1⟩:=zg3 h1 hx
 obtain ⟨v0,v1,v2,v3,e2,f2⟩:=zg3 h2 hy
 rw [e1,e2]
 exact (zV1 f1 f2 (by simpa using hb)).mono fun e w' he=>zb6 he ⟨rfl,zY7 _⟩
theorem zl1:ConOK Tryz.prog I 76 zS9:=zf8 fun ⟨k,a⟩ x n X w T _ h1 h2 hT _=>by
 cases hT
 obtain ⟨u0,u1,u2,u3,e1,f1⟩:=zg3 h1 h2
 rw [e1]
 exact (zM8 f1).mono fun e w' he=>zb6 he ⟨rfl,zY7 _⟩
theorem zo2 (hI:∀ w,I w→Tab w):ConOK Tryz.prog I 87 zZ0:=zf8 fun ⟨k,a⟩ x n X w T hw h1 h2 hT _=>by
 obtain ⟨hb,rfl⟩:=zd1 hT
 obtain ⟨u0,u1,u2,u3,e1,f1⟩:=zg3 h1 h2
 rw [e1]
 exact (zE2 f1 (by simpa using hb) (hI w hw)).mono fun e w' he=>zb6 he (zK5 f1.szr)
theorem zs0:ConOK Tryz.prog I 130 cNum:=zf8 fun ⟨k,a⟩ x n X w T _ h1 h2 hT _=>by
 cases hT
 obtain ⟨u0,u1,u2,u3,e1,f1⟩:=zg3 h1 h2
 rw [e1]
 exact (num_r f1).mono fun e w' he=>zh8 he
theorem zs1:ConOK Tryz.prog I 81 cDen:=zf8 fun ⟨k,a⟩ x n X w T _ h1 h2 hT _=>by
 cases hT
 obtain ⟨u0,u1,u2,u3,e1,f1⟩:=zg3 h1 h2
 rw [e1]
 exact (zn5 f1).mono fun e w' he=>zh8 he
theorem num_ne {q:Rat} (h:q≠0):q.num≠0:=fun e=>h (Rat.num_eq_zero.1 e)
theorem zv0:ConOK Tryz.prog I 58 cDiv:=zj7 fun ⟨k,a⟩ ⟨m,b⟩ x y n X w T _ h1 h2 hx hy hT _=>by
 obtain ⟨hb,rfl⟩:=zd1 hT
 obtain ⟨u0,u1,u2,u3,e1,f1⟩:=zg3 h1 hx
 obtain ⟨v0,v1,v2,v3,e2,f2⟩:=zg3 h2 hy
 rw [e1,e2]
 by_cases h0:b=0
 ·refine (div_0 f1 f2 (by rw [h0];rfl)).mono fun e w' he=>⟨fun _=>zb6 he fun x hx=>?_,fun h=>absurd h0 (of_decide_eq_false h)⟩
  simp only [List.mem_cons,List.not_mem_nil,or_false] at hx
  rcases hx with rfl | rfl
  ·intro c hc
   simp only [List.mem_cons,List.not_mem_nil,or_false] at hc
   rcases hc with rfl | rfl | rfl | rfl<;>refine ⟨rfl,?_⟩<;>first | rfl | (intro v hv;cases hv;rfl)
  ·exact ⟨rfl,Int.le_refl _,Int.le_refl _⟩
 ·exact (div_a f1 f2 (by simpa using hb) (num_ne h0)).mono fun e w' he=>⟨fun h=>absurd (of_decide_eq_true h) h0,fun _=>zt2 he⟩
theorem zh9:ConOK Tryz.prog I 96 zy6:=zf8 fun a x n X w T _ h1 h2 hT _=>by
 cases hT
 obtain ⟨e1,h3,h4⟩:=zS8 h1 h2
 rw [e1]
 exact (yh5 a h3 h4 w).mono fun e w' he=>zh8 he
theorem zl2:ConOK Tryz.prog I 80 zT0:=zj7 fun ⟨k,a⟩ ⟨m,b⟩ x y n X w T _ h1 h2 hx hy hT _=>by
 obtain ⟨hb,rfl⟩:=zd1 hT
 obtain ⟨u0,u1,e1,f1⟩:=zn9 h1 hx
 obtain ⟨v0,v1,e2,f2⟩:=zn9 h2 hy
 rw [e1,e2]
 exact (zp8 f1 f2 (by simpa using hb)).mono fun e w' he=>zh8 he
theorem zl3:ConOK Tryz.prog I 122 zT1:=zj7 fun ⟨k,a⟩ ⟨m,b⟩ x y n X w T _ h1 h2 hx hy hT _=>by
 obtain ⟨hb,rfl⟩:=zd1 hT
 obtain ⟨u0,u1,e1,f1⟩:=zn9 h1 hx
 obtain ⟨v0,v1,e2,f2⟩:=zn9 h2 hy
 rw [e1,e2]
 exact (yb5 f1 f2 (by simpa using hb)).mono fun e w' he=>zh8 he
theorem zl4:ConOK Tryz.prog I 123 zT2:=zj7 fun ⟨k,a⟩ ⟨m,b⟩ x y n X w T _ h1 h2 hx hy hT hp=>by
 obtain ⟨hb,rfl⟩:=zd1 hT
 obtain ⟨u0,u1,e1,f1⟩:=zn9 h1 hx
 obtain ⟨v0,v1,e2,f2⟩:=zn9 h2 hy
 rw [e1,e2]
 refine (zw5 f1 f2 (of_decide_eq_true hp.1) (by simpa using hb)).mono fun e w' he=>?_
 obtain ⟨⟨c0,c1,c2,c3,rfl,g1,g2⟩,g⟩:=he
 have k1:=zK4 (n:=n) (X:=X) g1
 have ab:=Env.pushZ_agree X n c0 c1
 have k2:=zK4 (n:=⟨n.b,n.r,n.z+1⟩) (X:=X.pushZ n.z c0 c1) g2
 have aa:=Env.pushZ_agree (X.pushZ n.z c0 c1) ⟨n.b,n.r,n.z+1⟩ c2 c3
 refine ⟨_,?_,g,ab.trans (aa.mono ⟨Nat.le_refl _,Nat.le_refl _,Nat.le_succ _⟩),fun x hx=>?_⟩
 ·have a1:TV.den ((X.pushZ n.z c0 c1).pushZ (n.z+1) c2 c3) (.vg [.cz n.z 0 k (a/b),.cz n.z 1 k (a/b)])=.agg #[c0,c1]:=by
   rw [← TV.den_agree aa (x:=.vg _) (W:=w') k1.2];exact k1.1
  have a2:TV.den ((X.pushZ n.z c0 c1).pushZ (n.z+1) c2 c3) (.vg [.cz (n.z+1) 0 m (a % b),.cz (n.z+1) 1 m (a % b)])=.agg #[c2,c3]:=k2.1
  simp only [SV.den,List.map_cons,List.map_nil,a1,a2]
  rfl
 ·simp only [List.mem_cons,List.not_mem_nil,or_false] at hx
  rcases hx with rfl | rfl | rfl
  ·exact TV.ok_to (x:=.vg _) (m:=⟨n.b,n.r,n.z+1⟩) (n:=⟨n.b,n.r,n.z+2⟩) ⟨Nat.le_refl _,Nat.le_refl _,Nat.le_succ _⟩ aa (Kp.refl w') k1.2
  ·exact k2.2
  ·exact ⟨rfl,Int.le_refl _,Int.le_refl _⟩
theorem zo3:ConOK Tryz.prog I 68 zZ1:=zf8 fun ⟨k,a⟩ x n X w T _ h1 h2 hT _=>by
 cases hT
 obtain ⟨u0,u1,e1,f1⟩:=zn9 h1 h2
 rw [e1]
 refine (int_i f1).mono fun e w' he=>zb6 he fun x hx=>?_
 simp only [List.mem_cons,List.not_mem_nil,or_false] at hx
 rcases hx with rfl | rfl
 ·refine ⟨rfl,?_⟩
  simp only [Cl.good,yp0]
  split
  ·rename_i h;simpa [zL7] using h
  ·decide
 ·exact ⟨rfl,fun v hv=>by cases hv⟩
theorem zo4:ConOK Tryz.prog I 105 (cTT (fun k m=>k+m+1) fun a b=>a+b):=zj7 fun ⟨k,a⟩ ⟨m,b⟩ x y n X w T _ h1 h2 hx hy hT _=>by
 obtain ⟨hb,rfl⟩:=zd1 hT
 obtain ⟨e1,f1⟩:=zg4 h1 hx
 obtain ⟨e2,f2⟩:=zg4 h2 hy
 rw [e1,e2]
 exact (r2_add a b f1 f2 (by simpa using hb) w).mono fun e w' he=>zb6 he (zK5 (RS.add f1 f2))
theorem zo5:ConOK Tryz.prog I 132 (cTT (fun k m=>k+m+1) fun a b=>a - b):=zj7 fun ⟨k,a⟩ ⟨m,b⟩ x y n X w T _ h1 h2 hx hy hT _=>by
 obtain ⟨hb,rfl⟩:=zd1 hT
 obtain ⟨e1,f1⟩:=zg4 h1 hx
 obtain ⟨e2,f2⟩:=zg4 h2 hy
 rw [e1,e2]
 exact (r2_sub a b f1 f2 (by simpa using hb) w).mono fun e w' he=>zb6 he (zK5 (RS.sub f1 f2))
theorem zo6:ConOK Tryz.prog I 106 (cTT (fun k m=>k+m) fun a b=>a*b):=zj7 fun ⟨k,a⟩ ⟨m,b⟩ x y n X w T _ h1 h2 hx hy hT _=>by
 obtain ⟨hb,rfl⟩:=zd1 hT
 obtain ⟨e1,f1⟩:=zg4 h1 hx
 obtain ⟨e2,f2⟩:=zg4 h2 hy
 rw [e1,e2]
 exact (r2_mul a b f1 f2 (by simpa using hb) w).mono fun e w' he=>zb6 he (zK5 (RS.mul f1 f2))
theorem zo7:ConOK Tryz.prog I 64 zZ2:=zj7 fun ⟨k,a⟩ ⟨m,b⟩ x y n X w T _ h1 h2 hx hy hT hp=>by
 obtain ⟨hb,rfl⟩:=zd1 hT
 obtain ⟨e1,f1⟩:=zg4 h1 hx
 obtain ⟨e2,f2⟩:=zg4 h2 hy
 have h0:=num_ne (of_decide_eq_true hp.1)
 rw [e1,e2]
 exact (r2_div a b f1 f2 h0 (by simpa using hb) w).mono fun e w' he=>zb6 he (zK5 (RS.div f1 f2 h0))
theorem zo8:ConOK Tryz.prog I 115 zZ3:=zf8 fun ⟨k,a⟩ x n X w T _ h1 h2 hT _=>by
 obtain ⟨hb,rfl⟩:=zd1 hT
 obtain ⟨e1,f1⟩:=zg4 h1 h2
 rw [e1]
 exact (r2_neg a f1 (by simpa using hb) w).mono fun e w' he=>zb6 he (zK5 (RS.neg f1))
theorem zj8:ConOK Tryz.prog I 65 zD1:=zf8 fun a x n X w T _ h1 h2 hT _=>by
 cases hT
 obtain ⟨e1,h3,h4⟩:=zS8 h1 h2
 rw [e1]
 exact (r2_from a h3 h4 w).mono fun e w' he=>zb6 he (zK5 (RS.int (show a.natAbs<2 ^ 64 by omega) (by decide)))
theorem zo9 (hI:∀ w,I w→Mx w):ConOK Tryz.prog I 94 (zt8 400):=zf8 fun ⟨k,a⟩ x n X w T hw h1 h2 hT _=>by
 obtain ⟨hb,rfl⟩:=zd1 hT
 simp only [Bool.and_eq_true,Nat.ble_eq] at hb
 obtain ⟨e1,f1⟩:=zg4 h1 h2
 rw [e1]
 have hl:=zn4 f1.1 f1.2
 exact (zG8 (k:=max k 64) a ⟨f1.1.mono (by omega),f1.2.mono (by omega)⟩ (by omega) (by omega) (by omega) w (hI w hw)).mono fun e w' he=>zt2 he
theorem zp0 (hI:∀ w,I w→Mx w):ConOK Tryz.prog I 107 (zt8 65536):=zf8 fun ⟨k,a⟩ x n X w T hw h1 h2 hT _=>by
 obtain ⟨hb,rfl⟩:=zd1 hT
 simp only [Bool.and_eq_true,Nat.ble_eq] at hb
 obtain ⟨e1,f1⟩:=zg4 h1 h2
 rw [e1]
 have hl:=zn4 f1.1 f1.2
 exact (readr_q (k:=max k 64) a ⟨f1.1.mono (by omega),f1.2.mono (by omega)⟩ (by omega) (by omega) (by omega) w (hI w hw)).mono fun e w' he=>zt2 he
end
structure WideF (F:Fence):Prop where
 fn:∀ f,F.fn f
 depth:F.depth=none
 calls:∀ {n:Nat} {P:Program} {f:FuncId} {args:Array Value} {w:World} {R:Ending→World→Prop},Calls P f args w R→CallsIn F n P f args w R
 rows:∀ {n:Nat} {P:Program} {row:String} {args:Array Value} {w:World} {R:Value→World→Prop},Rows P row args w R→RowsIn F n P row args w R
theorem wide_wide:WideF Fence.wide:=
 ⟨fun _=>trivial,rfl,fun h=>callsIn_wide.2 h,fun h c cs _=>let ⟨v,w',r,s⟩:=h c cs;⟨v,w',r,stepsIn_wide.2 s⟩⟩
theorem zd8 (l:Nat):WideF (Fence.wide.inRound l):=
 ⟨fun _=>trivial,rfl,fun h=>CallsIn.inRound l (callsIn_wide.2 h),fun h=>wide_wide.rows h⟩
def zi2 (o:Oper):Bool:=match o.op with | .defer _=>false | _=>true
section
variable {P:Program} {F:Fence} {n:Nat} {a:Act} {o:Oper} {w:World} {Q:Exit→Act→World→Prop} {K:Act→World→Prop} {ops:Array Oper}
theorem zw3 (h:zi2 o=true):o.semAt F.round a.eval=execOp a.eval o:=
 Oper.semAt_eq _ _ _ (fun c e=>by unfold zi2 at h;rw [e] at h;cases h)
theorem opIn (hF:WideF F) (hd:zi2 o=true) (h:o.wp P a w K Q):o.wpIn F n P a w K Q:=by
 refine ⟨fun f _=>hF.fn f,?_⟩
 rw [zw3 hd]
 unfold Oper.wp at h
 have hdep:F.depth.isSome=true→1≤n:=by rw [hF.depth];intro e;cases e
 generalize (execOp a.eval o).run P w=r at*
 cases r with
 | ok x w'=>
  cases x with
  | value v=>exact h
  | skip=>exact h
  | defer d=>exact h
  | enter f args=>exact ⟨hdep,(hF.calls h).mono fun e w2 he=>by cases e<;>exact he⟩
  | row row args=>exact ⟨hdep,hF.rows h⟩
  | _=>exact h.elim
 | halt x w'=>cases x<;>first | exact h | exact h.elim
theorem zm2 (hF:WideF F) (hd:ops.all zi2=true) (hQ:¬ LetsOut Q):∀ (r:List Nat) (a:Act) (w:World),wpOps P ops Q r a w→wpOpsIn F n P ops Q r a w
 | [],_,_,h=>h
 | i::rest,a,w,h=>by
  unfold wpOps at h
  unfold wpOpsIn
  cases ho:ops[i]? with
  | none=>rw [ho] at h;exact zm2 hF hd hQ rest a w h
  | some o=>
   rw [ho] at h
   dsimp only at h ⊢
   have hdo:zi2 o=true:=by
    obtain ⟨hi,e⟩:=Array.getElem?_eq_some_iff.1 ho
    have:=Array.all_eq_true.1 hd i hi
    rw [e] at this;exact this
   split
   ·next hw=>
    rw [if_pos hw] at h
    rcases h with h | ⟨_,h⟩
    ·exact opIn hF hdo (Oper.wp_mono (fun a w h=>zm2 hF hd hQ rest a w h) h)
    ·exact absurd h hQ
   ·next hw=>
    rw [if_neg hw] at h
    exact ⟨fun f _=>hF.fn f,zm2 hF hd hQ rest _ w h⟩
theorem rgI (hF:WideF F) {id:Nat} (r:List Nat) (h:wpOps P ops Q r a w) (hr:List.range ops.size=r:=by rfl) (hd:ops.all zi2=true:=by kernel_rfl) (hQ:¬ LetsOut Q:=by rintro ⟨_,_,h⟩;exact h):(Code.region id ops false).wpIn F n P Q a w:=
 wpIn_region (by rw [hr];exact zm2 hF hd hQ r a w h)
theorem ordI (hF:WideF F) {id:Nat} (S:World→Prop) (l:List (Bool × Nat)) (hm:P.follows .mixedOrders=true) (hs:Region.noSelect ops=true)
  (hok:zu2 ops l (Array.replicate ops.size false)=true) (hl:l.length≤ops.size) (hQ:∀ c (a:Act) (d:Tmp) v w,Q (.panic c) (a.put (some d) v) w→Q (.panic c) a w) (hS:S w.drew)
  (h:zg7 P ops Q S l a w.drew) (hd:ops.all zi2=true:=by kernel_rfl) (aa:¬ LetsOut Q:=by rintro ⟨_,_,h⟩;exact h):(Code.region id ops true).wpIn F n P Q a w:=
 wpIn_region_draw fun t=>by
  simp only [Region.schedule,hm,Bool.true_or,if_true]
  exact zm2 hF hd aa _ _ _ (wpAny_sound ops.size t _ a _ (wpAny_of_held _ _ _ _ (zn1 hs hQ l _ _ _ _ hl hok hS h)))
variable {l:List Value} {ds:List Deferred}
theorem rgY {id:Nat} (r:List Nat) (h:wpOpsIn F n P ops Q r a w) (hr:List.range ops.size=r:=by rfl):(Code.region id ops false).wpIn F n P Q a w:=wpIn_region (by rw [hr];exact h)
theorem svY (hF:WideF F) {i:Nat} {rest:List Nat} (d:Nat) (v:Value) (h:wpOpsIn F n P ops Q rest ⟨(l.set d v).toArray,ds⟩ w) (ho:ops[i]?=some o:=by rfl) (hd:o.dst=some d:=by rfl) (hw:Region.wanted o (yielded ops (⟨l.toArray,ds⟩:Act).tmps)=true:=by kernel_rfl)
  (hv:(execOp (⟨l.toArray,ds⟩:Act).eval o).run P w=.ok (.value v) w:=by kernel_rfl) (hnd:zi2 o=true:=by kernel_rfl):wpOpsIn F n P ops Q (i::rest) ⟨l.toArray,ds⟩ w:=by
 unfold wpOpsIn
 simp only [ho,hw,if_true]
 refine opIn hF hnd ?_
 unfold Oper.wp
 rw [hv]
 show wpOpsIn F n P ops Q rest ((⟨l.toArray,ds⟩:Act).put o.dst v) w
 rw [hd,zL2];exact h
theorem swY (hF:WideF F) {i:Nat} {rest:List Nat} (d:Nat) (v:Value) (ho:ops[i]?=some o) (hv:RunV P ⟨l.toArray,ds⟩ o w v) (h:wpOpsIn F n P ops Q rest ⟨(l.set d v).toArray,ds⟩ w) (hd:o.dst=some d:=by rfl) (hw:Region.wanted o (yielded ops (⟨l.toArray,ds⟩:Act).tmps)=true:=by kernel_rfl)
  (hnd:zi2 o=true:=by kernel_rfl):wpOpsIn F n P ops Q (i::rest) ⟨l.toArray,ds⟩ w:=svY hF d v h ho hd hw hv hnd
theorem zc7 (h:Q .normal a w):wpOpsIn F n P ops Q [] a w:=h
theorem yb4 (w:World) (cs:Array Value) (t:TypeId) (off:Nat) (v:Value):(w.alloc (.cells cs t)).setCell ⟨w.heap.size,off,none⟩ v=w.alloc (.cells (cs.setIfInBounds off v) t):=by
 have e:∀ f:Obj→Obj,f (.cells cs t)=.cells (cs.setIfInBounds off v) t→(w.heap.push (.cells cs t)).modify w.heap.size f=w.heap.push (.cells (cs.setIfInBounds off v) t):=fun f hf=>by
  apply Array.ext_getElem?
  intro i
  rw [Array.getElem?_modify]
  by_cases h:w.heap.size=i
  ·subst h;simp [hf]
  ·rw [if_neg h,Array.getElem?_push,Array.getElem?_push]
   rw [if_neg (fun e=>h e.symm),if_neg (fun e=>h e.symm)]
 unfold World.setCell World.alloc
 simp only []
 rw [e _ rfl]
theorem zC0 (w:World) (t:TypeId):∀ (vs:List Value) (cs:Array Value) (off:Nat),(w.alloc (.cells cs t)).setCells w.heap.size off vs=w.alloc (.cells (ze1 cs off vs) t)
 | [],_,_=>rfl
 | v::vs,cs,off=>by
  show ((w.alloc (.cells cs t)).setCell ⟨w.heap.size,off,none⟩ v).setCells w.heap.size (off+1) vs=_
  rw [yb4,zC0 w t vs];rfl
theorem zm8 (hF:WideF F) {i j:Nat} {rest:List Nat} {o2:Oper} {y:Operand} (d t:Nat) (z:Value) (vs:List Value) (h:wpOpsIn F n P ops Q rest ⟨(l.set d (.pointer (some ⟨w.heap.size,0,none⟩))).toArray,ds⟩ (w.alloc (.cells vs.toArray t)))
  (h1:One1 vs) (ho:ops[i]?=some o:=by rfl) (ad:ops[j]?=some o2:=by rfl) (hd:o.dst=some d:=by rfl) (hop:o.op=.alloc t:=by rfl) (ab:o2.op=.store t (.tmp d) y:=by rfl) (ac:o2.dst=none:=by rfl)
  (hw:Region.wanted o (yielded ops (⟨l.toArray,ds⟩:Act).tmps)=true:=by kernel_rfl) (ae:∀ p,Region.wanted o2 (yielded ops (⟨(l.set d p).toArray,ds⟩:Act).tmps)=true:=by intro p;rfl)
  (hx:∀ p,(⟨(l.set d p).toArray,ds⟩:Act).eval (.tmp d)=p:=by intro p;rfl) (hy:∀ p,(⟨(l.set d p).toArray,ds⟩:Act).eval y=.agg vs.toArray:=by intro p;rfl)
  (hz:(P.info? t).map (fun i=>(i.zero,i.size))=some (some z,vs.length):=by kernel_rfl) (hzs:z.cells.size=vs.length:=by rfl) (hnd:zi2 o=true:=by kernel_rfl) (aa:zi2 o2=true:=by kernel_rfl):wpOpsIn F n P ops Q (i::j::rest) ⟨l.toArray,ds⟩ w:=by
 obtain ⟨info,hi,hzz⟩:=Option.map_eq_some_iff.1 hz
 simp only [Prod.mk.injEq] at hzz
 unfold wpOpsIn
 simp only [ho,hw,if_true]
 refine opIn hF hnd ?_
 unfold Oper.wp execOp
 simp only [hop,Instr.alloc,zeroValue,typeInfo,newVar,Sem.run_bind,zA4,Result.andThen_ok,Sem.run_pure,run_program,hi,hzz.1]
 show wpOpsIn F n P ops Q (j::rest) ((⟨l.toArray,ds⟩:Act).put o.dst _) _
 rw [hd,zL2]
 unfold wpOpsIn
 simp only [ad,ae,if_true]
 refine opIn hF aa ?_
 have hL:Lc (w.alloc (.cells z.cells t)) w.heap.size z.cells t:=heap_alloc_new w _
 have hrun:(storeVar t ⟨w.heap.size,0,none⟩ (.agg vs.toArray)).run P (w.alloc (.cells z.cells t))=.ok () (w.alloc (.cells vs.toArray t)):=by
  have h3:=run_storeCells_cells (P:=P) w.heap.size 0 vs 0 (w.alloc (.cells z.cells t)) (fun j hj=>by rw [Nat.add_zero,zb1 hL];simp;omega) (fun j hj=>zl5 hL _) h1.all
  simp only [Nat.add_zero] at h3
  rw [zC0] at h3
  have e:ze1 z.cells 0 vs=vs.toArray:=by
   have h4:=zr8 vs 0 z.cells.toList (by simp;omega)
   rw [Array.toArray_toList] at h4
   rw [h4]
   simp [hzs]
  rw [e] at h3
  have hc:(Value.agg vs.toArray).cells=vs.toArray:=rfl
  simp [storeVar,sizeOf,typeInfo,hi,hzz.2,hc,h3]
 unfold Oper.wp execOp
 simp only [ab,hx,hy,Instr.storeAt,Instr.sureAddr,Sem.run_bind,Sem.run_pure,Result.andThen_ok,hrun,Oper.upon,ac,Act.put]
 exact h
theorem yo9 (hF:WideF F) {i:Nat} {rest:List Nat} (d ll:Nat) {args:Array Value} {R:Ending→World→Prop} (hy:YieldAt F (n - 1) P ll args w R) (h:∀ e w',R e w'→∃ v,e=.returned v∧wpOpsIn F n P ops Q rest ⟨(l.set d v).toArray,ds⟩ w')
  (ho:ops[i]?=some o) (hd:o.dst=some d) (hw:Region.wanted o (yielded ops (⟨l.toArray,ds⟩:Act).tmps)=true)
  (hv:(execOp (⟨l.toArray,ds⟩:Act).eval o).run P w=(Instr.yield ll args).run P w) (hnd:zi2 o=true:=by kernel_rfl):wpOpsIn F n P ops Q (i::rest) ⟨l.toArray,ds⟩ w:=by
 unfold wpOpsIn
 simp only [ho,hw,if_true]
 obtain ⟨fn,tmps,assign,body,hrun,hR⟩:=hy
 refine ⟨fun f _=>hF.fn f,?_⟩
 rw [zw3 hnd,hv,hrun]
 refine ⟨(by rw [hF.depth];intro e;cases e),hR.mono fun e w' he=>?_⟩
 obtain ⟨v,rfl,hk⟩:=h e w' he
 show wpOpsIn F n P ops Q rest ((⟨l.toArray,ds⟩:Act).put o.dst v) w'
 rw [hd,zL2];exact hk
end
def encs (L:List Value) (k:Fin 12):Array Value:=#[.int .i64 (k.val:Int),.agg #[L.getD (4*k.val) undef,L.getD (4*k.val+1) undef,L.getD (4*k.val+2) undef,L.getD (4*k.val+3) undef]]
def all12:List (Fin 12):=[0,1,2,3,4,5,6,7,8,9,10,11]
set_option maxRecDepth 100000 in
set_option maxHeartbeats 4000000 in
theorem zG9 (n bm:Nat) (c0 c1 c2 c3 c4 c5 c6 c7 c8 c9 aH aF ar aA ak aI aC al az aL aQ ac ah aJ ab ax aN ay aE aD au aR aB af aa aM ai aP aG aj ad aq aw av ae ap aK aO:Value) (o0:c0.oneCell'=true) (o1:c1.oneCell'=true) (o2:c2.oneCell'=true) (o3:c3.oneCell'=true) (o4:c4.oneCell'=true) (o5:c5.oneCell'=true) (o6:c6.oneCell'=true) (o7:c7.oneCell'=true) (o8:c8.oneCell'=true) (o9:c9.oneCell'=true) (dc:aH.oneCell'=true) (et:aF.oneCell'=true) (cW:ar.oneCell'=true) (dZ:aA.oneCell'=true) (eK:ak.oneCell'=true) (dM:aI.oneCell'=true) (d8:aC.oneCell'=true) (dO:al.oneCell'=true) (dm:az.oneCell'=true) (cK:aL.oneCell'=true) (eD:aQ.oneCell'=true) (d6:ac.oneCell'=true) (eN:ah.oneCell'=true) (dA:aJ.oneCell'=true) (eR:ab.oneCell'=true) (de:ax.oneCell'=true) (db:aN.oneCell'=true) (ed:ay.oneCell'=true) (cY:aE.oneCell'=true) (dK:aD.oneCell'=true) (dq:au.oneCell'=true) (dn:aR.oneCell'=true) (di:aB.oneCell'=true) (ej:af.oneCell'=true) (ew:aa.oneCell'=true) (dv:aM.oneCell'=true) (eu:ai.oneCell'=true) (dt:aP.oneCell'=true) (dh:aG.oneCell'=true) (eH:aj.oneCell'=true) (cP:ad.oneCell'=true) (eV:aq.oneCell'=true) (cH:aw.oneCell'=true) (eC:av.oneCell'=true) (ep:ae.oneCell'=true) (dJ:ap.oneCell'=true) (dx:aK.oneCell'=true) (d9:aO.oneCell'=true) (w:World) (dB:Lc w bm #[c0,c1,c2,c3,c4,c5,c6,c7,c8,c9,aH,aF,ar,aA,ak,aI,aC,al,az,aL,aQ,ac,ah,aJ,ab,ax,aN,ay,aE,aD,au,aR,aB,af,aa,aM,ai,aP,aG,aj,ad,aq,aw,av,ae,ap,aK,aO] 41):
    SeqStopsA Fence.wide n Tryz.prog 98 #[.pointer (some ⟨bm,0,none⟩)] (encs [c0,c1,c2,c3,c4,c5,c6,c7,c8,c9,aH,aF,ar,aA,ak,aI,aC,al,az,aL,aQ,ac,ah,aJ,ab,ax,aN,ay,aE,aD,au,aR,aB,af,aa,aM,ai,aP,aG,aj,ad,aq,aw,av,ae,ap,aK,aO]) (fun xs=>xs=all12) (fun pre=>∃ k,pre=all12.take k) 12 w:=fun l J Jx W hW hJ hJx hY e9=>by
  have hL:Lc W bm #[c0,c1,c2,c3,c4,c5,c6,c7,c8,c9,aH,aF,ar,aA,ak,aI,aC,al,az,aL,aQ,ac,ah,aJ,ab,ax,aN,ay,aE,aD,au,aR,aB,af,aa,aM,ai,aP,aG,aj,ad,aq,aw,av,ae,ap,aK,aO] 41:=by
    have:=hW.block bm dB.lt
    unfold Lc at*
    rw [this];exact dB
  refine callsIn_of_wp Tryz.func98 rfl trivial ?_ rfl
  simp only [Tryz.ntmps98,List.size_toArray,List.length_cons,List.length_nil,Nat.reduceAdd,Nat.reduceSub,Array.replicate_succ,Array.replicate_zero,List.push_toArray,List.append_toArray,List.nil_append,List.cons_append]
  refine wpIn_seq_k (fun K1 k1=>?_)
  refine rgY [0] ?_
  refine svY wide_wide 3 (.int .i64 0) ?_
  try simp only [p3,p4]
  refine zc7 ?_
  refine k1 _ _ ?_
  try clear k1 K1
  refine wpIn_seq_k (fun K2 k2=>?_)
  refine rgY [0,1,2,3,4,5,6,7,8,9,10,11,12] ?_
  refine svY wide_wide 8 (.pointer (some ⟨bm,0,none⟩)) ?_
  try simp only [p3,p4]
  refine svY wide_wide 9 (.pointer (some ⟨bm,0,none⟩)) ?_
  try simp only [p3,p4]
  refine swY wide_wide 10 (.agg #[c0,c1,c2,c3,c4,c5,c6,c7,c8,c9,aH,aF]) rfl (rl 38 0 [c0,c1,c2,c3,c4,c5,c6,c7,c8,c9,aH,aF] hL) ?_
  try simp only [p3,p4]
  refine svY wide_wide 11 (.pointer (some ⟨bm,0,none⟩)) ?_
  try simp only [p3,p4]
  refine svY wide_wide 12 (.pointer (some ⟨bm,12,none⟩)) ?_
  try simp only [p3,p4]
  refine swY wide_wide 13 (.agg #[ar,aA,ak,aI,aC,al,az,aL,aQ,ac,ah,aJ]) rfl (rl 38 12 [ar,aA,ak,aI,aC,al,az,aL,aQ,ac,ah,aJ] hL) ?_
  try simp only [p3,p4]
  refine svY wide_wide 14 (.pointer (some ⟨bm,0,none⟩)) ?_
  try simp only [p3,p4]
  refine svY wide_wide 15 (.pointer (some ⟨bm,24,none⟩)) ?_
  try simp only [p3,p4]
  refine swY wide_wide 16 (.agg #[ab,ax,aN,ay,aE,aD,au,aR,aB,af,aa,aM]) rfl (rl 38 24 [ab,ax,aN,ay,aE,aD,au,aR,aB,af,aa,aM] hL) ?_
  try simp only [p3,p4]
  refine svY wide_wide 17 (.pointer (some ⟨bm,36,none⟩)) ?_
  try simp only [p3,p4]
  refine swY wide_wide 18 (.agg #[ai,aP,aG,aj,ad,aq,aw,av,ae,ap,aK,aO]) rfl (rl 38 36 [ai,aP,aG,aj,ad,aq,aw,av,ae,ap,aK,aO] hL) ?_
  try simp only [p3,p4]
  refine svY wide_wide 19 (.agg #[c0,c1,c2,c3,c4,c5,c6,c7,c8,c9,aH,aF,ar,aA,ak,aI,aC,al,az,aL,aQ,ac,ah,aJ,ab,ax,aN,ay,aE,aD,au,aR,aB,af,aa,aM,ai,aP,aG,aj,ad,aq,aw,av,ae,ap,aK,aO]) ?_
  try simp only [p3,p4]
  refine svY wide_wide 20 (.int .i64 0) ?_
  try simp only [p3,p4]
  refine zc7 ?_
  refine k2 _ _ ?_
  try clear k2 K2
  refine wpIn_block ?_
  refine wpIn_loop_rounds 5 ?_
  show Code.wpIn _ _ _ _ _ _ _
  refine wpIn_seq_k (fun K3 k3=>?_)
  refine rgY [0] ?_
  refine svY wide_wide 21 (.bool true) ?_
  try simp only [p3,p4]
  refine zc7 ?_
  refine k3 _ _ ?_
  try clear k3 K3
  refine wpIn_seq_k (fun K4 k4=>?_)
  refine wpIn_cond_true rfl ?_
  refine wpIn_skip ?_
  refine k4 _ _ ?_
  try clear k4 K4
  refine wpIn_seq_k (fun K5 k5=>?_)
  refine wpIn_block ?_
  refine wpIn_seq_k (fun K6 k6=>?_)
  refine rgY [0,1,2] ?_
  refine svY wide_wide 22 (.agg #[c0,c1,c2,c3,c4,c5,c6,c7,c8,c9,aH,aF]) ?_
  try simp only [p3,p4]
  refine zm8 wide_wide 5 38 (.agg #[.bool false,.slice none 0 0,.bool false,.slice none 0 0,.bool false,.slice none 0 0,.bool false,.slice none 0 0,.bool false,.slice none 0 0,.bool false,.slice none 0 0]) [c0,c1,c2,c3,c4,c5,c6,c7,c8,c9,aH,aF] ?_ ⟨o0,o1,o2,o3,o4,o5,o6,o7,o8,o9,dc,et,trivial⟩
  have d2:=hJ _ _ _ none e9 (World.grownBy_alloc W (.cells [c0,c1,c2,c3,c4,c5,c6,c7,c8,c9,aH,aF].toArray 38) none) (fun r e=>by cases e)
  have L7:Lc _ _ #[c0,c1,c2,c3,c4,c5,c6,c7,c8,c9,aH,aF] 38:=heap_alloc_new W (.cells [c0,c1,c2,c3,c4,c5,c6,c7,c8,c9,aH,aF].toArray 38)
  generalize W.alloc (.cells [c0,c1,c2,c3,c4,c5,c6,c7,c8,c9,aH,aF].toArray 38)=w7 at d2 L7 ⊢
  try simp only [p3,p4]
  refine zc7 ?_
  refine k6 _ _ ?_
  try clear k6 K6
  refine wpIn_seq_k (fun K8 k8=>?_)
  refine rgY [0,1] ?_
  refine swY wide_wide 23 (.agg #[c0,c1,c2,c3,c4,c5,c6,c7,c8,c9,aH,aF]) rfl (rl 38 0 [c0,c1,c2,c3,c4,c5,c6,c7,c8,c9,aH,aF] L7) ?_
  try simp only [p3,p4]
  refine svY wide_wide 24 (.int .i64 0) ?_
  try simp only [p3,p4]
  refine zc7 ?_
  refine k8 _ _ ?_
  try clear k8 K8
  refine wpIn_block ?_
  refine wpIn_loop_rounds 5 ?_
  show Code.wpIn _ _ _ _ _ _ _
  refine wpIn_seq_k (fun K9 k9=>?_)
  refine rgY [0] ?_
  refine svY wide_wide 25 (.bool true) ?_
  try simp only [p3,p4]
  refine zc7 ?_
  refine k9 _ _ ?_
  try clear k9 K9
  refine wpIn_seq_k (fun f5 dH=>?_)
  refine wpIn_cond_true rfl ?_
  refine wpIn_skip ?_
  refine dH _ _ ?_
  try clear dH f5
  refine wpIn_seq_k (fun fM dw=>?_)
  refine wpIn_block ?_
  refine wpIn_seq_k (fun e6 dR=>?_)
  refine rgY [0,1,2] ?_
  refine svY wide_wide 26 (.agg #[c0,c1,c2,c3]) ?_
  try simp only [p3,p4]
  refine zm8 wide_wide 7 36 (.agg #[.bool false,.slice none 0 0,.bool false,.slice none 0 0]) [c0,c1,c2,c3] ?_ ⟨o0,o1,o2,o3,trivial⟩
  have a8:=hJ _ _ _ none d2 (World.grownBy_alloc w7 (.cells [c0,c1,c2,c3].toArray 36) none) (fun r e=>by cases e)
  have eh:Lc _ _ #[c0,c1,c2,c3] 36:=heap_alloc_new w7 (.cells [c0,c1,c2,c3].toArray 36)
  generalize w7.alloc (.cells [c0,c1,c2,c3].toArray 36)=w13 at a8 eh ⊢
  try simp only [p3,p4]
  refine zc7 ?_
  refine dR _ _ ?_
  try clear dR e6
  refine wpIn_seq_k (fun fE dy=>?_)
  refine wpIn_seq_k (fun cG bS=>?_)
  refine rgY [0,1,2,3,4] ?_
  refine svY wide_wide 27 (.func (.yield l) #[] #[]) ?_
  try simp only [p3,p4]
  refine svY wide_wide 28 (.int .i64 0) ?_
  try simp only [p3,p4]
  refine swY wide_wide 29 (.agg #[c0,c1,c2,c3]) rfl (rl 36 0 [c0,c1,c2,c3] eh) ?_
  try simp only [p3,p4]
  refine yo9 wide_wide 30 l (hY [] 0 _ a8 (by decide)) ?_ rfl rfl (by kernel_rfl) (by kernel_rfl)
  rintro gs bV (⟨rfl,hJ16,_⟩ | ⟨rfl,hx16⟩)
  ·refine ⟨_,rfl,?_⟩
   try simp only [p3,p4]
   refine svY wide_wide 31 (.bool false) ?_
   try simp only [p3,p4]
   refine zc7 ?_
   refine bS _ _ ?_
   try clear bS cG
   refine wpIn_cond_false rfl ?_
   refine wpIn_skip ?_
   refine dy _ _ ?_
   try clear dy fE
   refine rgY [0,1,2] ?_
   refine svY wide_wide 32 (.int .i64 0) ?_
   try simp only [p3,p4]
   refine svY wide_wide 33 (.int .i64 1) ?_
   try simp only [p3,p4]
   refine svY wide_wide 3 (.int .i64 1) ?_
   try simp only [p3,p4]
   refine zc7 ?_
   refine dw _ _ ?_
   try clear dw fM
   refine rgY [0,1] ?_
   refine svY wide_wide 34 (.int .i64 1) ?_
   try simp only [p3,p4]
   refine svY wide_wide 24 (.int .i64 1) ?_
   try simp only [p3,p4]
   refine zc7 ?_
   show Code.roundsIn _ _ _ _ _ _ _ _
   show Code.wpIn _ _ _ _ _ _ _
   refine wpIn_seq_k (fun e1 ez=>?_)
   refine rgY [0] ?_
   refine svY wide_wide 25 (.bool true) ?_
   try simp only [p3,p4]
   refine zc7 ?_
   refine ez _ _ ?_
   try clear ez e1
   refine wpIn_seq_k (fun f0 eO=>?_)
   refine wpIn_cond_true rfl ?_
   refine wpIn_skip ?_
   refine eO _ _ ?_
   try clear eO f0
   refine wpIn_seq_k (fun fb dC=>?_)
   refine wpIn_block ?_
   refine wpIn_seq_k (fun f2 cR=>?_)
   refine rgY [0,1,2] ?_
   refine svY wide_wide 26 (.agg #[c4,c5,c6,c7]) ?_
   try simp only [p3,p4]
   refine zm8 wide_wide 7 36 (.agg #[.bool false,.slice none 0 0,.bool false,.slice none 0 0]) [c4,c5,c6,c7] ?_ ⟨o4,o5,o6,o7,trivial⟩
   have bj:=hJ _ _ _ none hJ16 (World.grownBy_alloc bV (.cells [c4,c5,c6,c7].toArray 36) none) (fun r e=>by cases e)
   have ee:Lc _ _ #[c4,c5,c6,c7] 36:=heap_alloc_new bV (.cells [c4,c5,c6,c7].toArray 36)
   generalize bV.alloc (.cells [c4,c5,c6,c7].toArray 36)=w21 at bj ee ⊢
   try simp only [p3,p4]
   refine zc7 ?_
   refine cR _ _ ?_
   try clear cR f2
   refine wpIn_seq_k (fun fK eJ=>?_)
   refine wpIn_seq_k (fun cU bR=>?_)
   refine rgY [0,1,2,3,4] ?_
   refine svY wide_wide 27 (.func (.yield l) #[] #[]) ?_
   try simp only [p3,p4]
   refine svY wide_wide 28 (.int .i64 1) ?_
   try simp only [p3,p4]
   refine swY wide_wide 29 (.agg #[c4,c5,c6,c7]) rfl (rl 36 0 [c4,c5,c6,c7] ee) ?_
   try simp only [p3,p4]
   refine yo9 wide_wide 30 l (hY [0] 1 _ bj (by decide)) ?_ rfl rfl (by kernel_rfl) (by kernel_rfl)
   rintro gj ce (⟨rfl,hJ24,_⟩ | ⟨rfl,hx24⟩)
   ·refine ⟨_,rfl,?_⟩
    try simp only [p3,p4]
    refine svY wide_wide 31 (.bool false) ?_
    try simp only [p3,p4]
    refine zc7 ?_
    refine bR _ _ ?_
    try clear bR cU
    refine wpIn_cond_false rfl ?_
    refine wpIn_skip ?_
    refine eJ _ _ ?_
    try clear eJ fK
    refine rgY [0,1,2] ?_
    refine svY wide_wide 32 (.int .i64 1) ?_
    try simp only [p3,p4]
    refine svY wide_wide 33 (.int .i64 2) ?_
    try simp only [p3,p4]
    refine svY wide_wide 3 (.int .i64 2) ?_
    try simp only [p3,p4]
    refine zc7 ?_
    refine dC _ _ ?_
    try clear dC fb
    refine rgY [0,1] ?_
    refine svY wide_wide 34 (.int .i64 2) ?_
    try simp only [p3,p4]
    refine svY wide_wide 24 (.int .i64 2) ?_
    try simp only [p3,p4]
    refine zc7 ?_
    show Code.roundsIn _ _ _ _ _ _ _ _
    show Code.wpIn _ _ _ _ _ _ _
    refine wpIn_seq_k (fun e7 dQ=>?_)
    refine rgY [0] ?_
    refine svY wide_wide 25 (.bool true) ?_
    try simp only [p3,p4]
    refine zc7 ?_
    refine dQ _ _ ?_
    try clear dQ e7
    refine wpIn_seq_k (fun f6 dF=>?_)
    refine wpIn_cond_true rfl ?_
    refine wpIn_skip ?_
    refine dF _ _ ?_
    try clear dF f6
    refine wpIn_seq_k (fun fU eU=>?_)
    refine wpIn_block ?_
    refine wpIn_seq_k (fun fu cQ=>?_)
    refine rgY [0,1,2] ?_
    refine svY wide_wide 26 (.agg #[c8,c9,aH,aF]) ?_
    try simp only [p3,p4]
    refine zm8 wide_wide 7 36 (.agg #[.bool false,.slice none 0 0,.bool false,.slice none 0 0]) [c8,c9,aH,aF] ?_ ⟨o8,o9,dc,et,trivial⟩
    have bC:=hJ _ _ _ none hJ24 (World.grownBy_alloc ce (.cells [c8,c9,aH,aF].toArray 36) none) (fun r e=>by cases e)
    have ey:Lc _ _ #[c8,c9,aH,aF] 36:=heap_alloc_new ce (.cells [c8,c9,aH,aF].toArray 36)
    generalize ce.alloc (.cells [c8,c9,aH,aF].toArray 36)=w29 at bC ey ⊢
    try simp only [p3,p4]
    refine zc7 ?_
    refine cQ _ _ ?_
    try clear cQ fu
    refine wpIn_seq_k (fun fy em=>?_)
    refine wpIn_seq_k (fun cX bM=>?_)
    refine rgY [0,1,2,3,4] ?_
    refine svY wide_wide 27 (.func (.yield l) #[] #[]) ?_
    try simp only [p3,p4]
    refine svY wide_wide 28 (.int .i64 2) ?_
    try simp only [p3,p4]
    refine swY wide_wide 29 (.agg #[c8,c9,aH,aF]) rfl (rl 36 0 [c8,c9,aH,aF] ey) ?_
    try simp only [p3,p4]
    refine yo9 wide_wide 30 l (hY [0,1] 2 _ bC (by decide)) ?_ rfl rfl (by kernel_rfl) (by kernel_rfl)
    rintro e32 cB (⟨rfl,hJ32,_⟩ | ⟨rfl,hx32⟩)
    ·refine ⟨_,rfl,?_⟩
     try simp only [p3,p4]
     refine svY wide_wide 31 (.bool false) ?_
     try simp only [p3,p4]
     refine zc7 ?_
     refine bM _ _ ?_
     try clear bM cX
     refine wpIn_cond_false rfl ?_
     refine wpIn_skip ?_
     refine em _ _ ?_
     try clear em fy
     refine rgY [0,1,2] ?_
     refine svY wide_wide 32 (.int .i64 2) ?_
     try simp only [p3,p4]
     refine svY wide_wide 33 (.int .i64 3) ?_
     try simp only [p3,p4]
     refine svY wide_wide 3 (.int .i64 3) ?_
     try simp only [p3,p4]
     refine zc7 ?_
     refine eU _ _ ?_
     try clear eU fU
     refine rgY [0,1] ?_
     refine svY wide_wide 34 (.int .i64 3) ?_
     try simp only [p3,p4]
     refine svY wide_wide 24 (.int .i64 3) ?_
     try simp only [p3,p4]
     refine zc7 ?_
     show Code.roundsIn _ _ _ _ _ _ _ _
     show Code.wpIn _ _ _ _ _ _ _
     refine wpIn_seq_k (fun eZ cL=>?_)
     refine rgY [0] ?_
     refine svY wide_wide 25 (.bool false) ?_
     try simp only [p3,p4]
     refine zc7 ?_
     refine cL _ _ ?_
     try clear cL eZ
     refine wpIn_seq_k (fun gh gd=>?_)
     refine wpIn_cond_false rfl ?_
     refine wpIn_exit ?_
     simp only [Exit.then,Exit.inBlock,↓reduceIte]
     refine k5 _ _ ?_
     try clear k5 K5
     refine rgY [0,1] ?_
     refine svY wide_wide 35 (.int .i64 1) ?_
     try simp only [p3,p4]
     refine svY wide_wide 20 (.int .i64 1) ?_
     try simp only [p3,p4]
     refine zc7 ?_
     show Code.roundsIn _ _ _ _ _ _ _ _
     show Code.wpIn _ _ _ _ _ _ _
     refine wpIn_seq_k (fun fT dS=>?_)
     refine rgY [0] ?_
     refine svY wide_wide 21 (.bool true) ?_
     try simp only [p3,p4]
     refine zc7 ?_
     refine dS _ _ ?_
     try clear dS fT
     refine wpIn_seq_k (fun fX dU=>?_)
     refine wpIn_cond_true rfl ?_
     refine wpIn_skip ?_
     refine dU _ _ ?_
     try clear dU fX
     refine wpIn_seq_k (fun fP cS=>?_)
     refine wpIn_block ?_
     refine wpIn_seq_k (fun fJ dD=>?_)
     refine rgY [0,1,2] ?_
     refine svY wide_wide 22 (.agg #[ar,aA,ak,aI,aC,al,az,aL,aQ,ac,ah,aJ]) ?_
     try simp only [p3,p4]
     refine zm8 wide_wide 5 38 (.agg #[.bool false,.slice none 0 0,.bool false,.slice none 0 0,.bool false,.slice none 0 0,.bool false,.slice none 0 0,.bool false,.slice none 0 0,.bool false,.slice none 0 0]) [ar,aA,ak,aI,aC,al,az,aL,aQ,ac,ah,aJ] ?_ ⟨cW,dZ,eK,dM,d8,dO,dm,cK,eD,d6,eN,dA,trivial⟩
     have bz:=hJ _ _ _ none hJ32 (World.grownBy_alloc cB (.cells [ar,aA,ak,aI,aC,al,az,aL,aQ,ac,ah,aJ].toArray 38) none) (fun r e=>by cases e)
     have en:Lc _ _ #[ar,aA,ak,aI,aC,al,az,aL,aQ,ac,ah,aJ] 38:=heap_alloc_new cB (.cells [ar,aA,ak,aI,aC,al,az,aL,aQ,ac,ah,aJ].toArray 38)
     generalize cB.alloc (.cells [ar,aA,ak,aI,aC,al,az,aL,aQ,ac,ah,aJ].toArray 38)=ck at bz en ⊢
     try simp only [p3,p4]
     refine zc7 ?_
     refine dD _ _ ?_
     try clear dD fJ
     refine wpIn_seq_k (fun e2 eG=>?_)
     refine rgY [0,1] ?_
     refine swY wide_wide 23 (.agg #[ar,aA,ak,aI,aC,al,az,aL,aQ,ac,ah,aJ]) rfl (rl 38 0 [ar,aA,ak,aI,aC,al,az,aL,aQ,ac,ah,aJ] en) ?_
     try simp only [p3,p4]
     refine svY wide_wide 24 (.int .i64 0) ?_
     try simp only [p3,p4]
     refine zc7 ?_
     refine eG _ _ ?_
     try clear eG e2
     refine wpIn_block ?_
     refine wpIn_loop_rounds 5 ?_
     show Code.wpIn _ _ _ _ _ _ _
     refine wpIn_seq_k (fun fx eA=>?_)
     refine rgY [0] ?_
     refine svY wide_wide 25 (.bool true) ?_
     try simp only [p3,p4]
     refine zc7 ?_
     refine eA _ _ ?_
     try clear eA fx
     refine wpIn_seq_k (fun fj dY=>?_)
     refine wpIn_cond_true rfl ?_
     refine wpIn_skip ?_
     refine dY _ _ ?_
     try clear dY fj
     refine wpIn_seq_k (fun fc dL=>?_)
     refine wpIn_block ?_
     refine wpIn_seq_k (fun fG eB=>?_)
     refine rgY [0,1,2] ?_
     refine svY wide_wide 26 (.agg #[ar,aA,ak,aI]) ?_
     try simp only [p3,p4]
     refine zm8 wide_wide 7 36 (.agg #[.bool false,.slice none 0 0,.bool false,.slice none 0 0]) [ar,aA,ak,aI] ?_ ⟨cW,dZ,eK,dM,trivial⟩
     have bb:=hJ _ _ _ none bz (World.grownBy_alloc ck (.cells [ar,aA,ak,aI].toArray 36) none) (fun r e=>by cases e)
     have dN:Lc _ _ #[ar,aA,ak,aI] 36:=heap_alloc_new ck (.cells [ar,aA,ak,aI].toArray 36)
     generalize ck.alloc (.cells [ar,aA,ak,aI].toArray 36)=w45 at bb dN ⊢
     try simp only [p3,p4]
     refine zc7 ?_
     refine eB _ _ ?_
     try clear eB fG
     refine wpIn_seq_k (fun fR d4=>?_)
     refine wpIn_seq_k (fun eY bO=>?_)
     refine rgY [0,1,2,3,4] ?_
     refine svY wide_wide 27 (.func (.yield l) #[] #[]) ?_
     try simp only [p3,p4]
     refine svY wide_wide 28 (.int .i64 3) ?_
     try simp only [p3,p4]
     refine swY wide_wide 29 (.agg #[ar,aA,ak,aI]) rfl (rl 36 0 [ar,aA,ak,aI] dN) ?_
     try simp only [p3,p4]
     refine yo9 wide_wide 30 l (hY [0,1,2] 3 _ bb (by decide)) ?_ rfl rfl (by kernel_rfl) (by kernel_rfl)
     rintro gi bY (⟨rfl,hJ48,_⟩ | ⟨rfl,hx48⟩)
     ·refine ⟨_,rfl,?_⟩
      try simp only [p3,p4]
      refine svY wide_wide 31 (.bool false) ?_
      try simp only [p3,p4]
      refine zc7 ?_
      refine bO _ _ ?_
      try clear bO eY
      refine wpIn_cond_false rfl ?_
      refine wpIn_skip ?_
      refine d4 _ _ ?_
      try clear d4 fR
      refine rgY [0,1,2] ?_
      refine svY wide_wide 32 (.int .i64 3) ?_
      try simp only [p3,p4]
      refine svY wide_wide 33 (.int .i64 4) ?_
      try simp only [p3,p4]
      refine svY wide_wide 3 (.int .i64 4) ?_
      try simp only [p3,p4]
      refine zc7 ?_
      refine dL _ _ ?_
      try clear dL fc
      refine rgY [0,1] ?_
      refine svY wide_wide 34 (.int .i64 1) ?_
      try simp only [p3,p4]
      refine svY wide_wide 24 (.int .i64 1) ?_
      try simp only [p3,p4]
      refine zc7 ?_
      show Code.roundsIn _ _ _ _ _ _ _ _
      show Code.wpIn _ _ _ _ _ _ _
      refine wpIn_seq_k (fun fS dT=>?_)
      refine rgY [0] ?_
      refine svY wide_wide 25 (.bool true) ?_
      try simp only [p3,p4]
      refine zc7 ?_
      refine dT _ _ ?_
      try clear dT fS
      refine wpIn_seq_k (fun fd eo=>?_)
      refine wpIn_cond_true rfl ?_
      refine wpIn_skip ?_
      refine eo _ _ ?_
      try clear eo fd
      refine wpIn_seq_k (fun ff dX=>?_)
      refine wpIn_block ?_
      refine wpIn_seq_k (fun fi cF=>?_)
      refine rgY [0,1,2] ?_
      refine svY wide_wide 26 (.agg #[aC,al,az,aL]) ?_
      try simp only [p3,p4]
      refine zm8 wide_wide 7 36 (.agg #[.bool false,.slice none 0 0,.bool false,.slice none 0 0]) [aC,al,az,aL] ?_ ⟨d8,dO,dm,cK,trivial⟩
      have bK:=hJ _ _ _ none hJ48 (World.grownBy_alloc bY (.cells [aC,al,az,aL].toArray 36) none) (fun r e=>by cases e)
      have dV:Lc _ _ #[aC,al,az,aL] 36:=heap_alloc_new bY (.cells [aC,al,az,aL].toArray 36)
      generalize bY.alloc (.cells [aC,al,az,aL].toArray 36)=w53 at bK dV ⊢
      try simp only [p3,p4]
      refine zc7 ?_
      refine cF _ _ ?_
      try clear cF fi
      refine wpIn_seq_k (fun fO cE=>?_)
      refine wpIn_seq_k (fun eP bT=>?_)
      refine rgY [0,1,2,3,4] ?_
      refine svY wide_wide 27 (.func (.yield l) #[] #[]) ?_
      try simp only [p3,p4]
      refine svY wide_wide 28 (.int .i64 4) ?_
      try simp only [p3,p4]
      refine swY wide_wide 29 (.agg #[aC,al,az,aL]) rfl (rl 36 0 [aC,al,az,aL] dV) ?_
      try simp only [p3,p4]
      refine yo9 wide_wide 30 l (hY [0,1,2,3] 4 _ bK (by decide)) ?_ rfl rfl (by kernel_rfl) (by kernel_rfl)
      rintro gf b9 (⟨rfl,hJ56,_⟩ | ⟨rfl,hx56⟩)
      ·refine ⟨_,rfl,?_⟩
       try simp only [p3,p4]
       refine svY wide_wide 31 (.bool false) ?_
       try simp only [p3,p4]
       refine zc7 ?_
       refine bT _ _ ?_
       try clear bT eP
       refine wpIn_cond_false rfl ?_
       refine wpIn_skip ?_
       refine cE _ _ ?_
       try clear cE fO
       refine rgY [0,1,2] ?_
       refine svY wide_wide 32 (.int .i64 4) ?_
       try simp only [p3,p4]
       refine svY wide_wide 33 (.int .i64 5) ?_
       try simp only [p3,p4]
       refine svY wide_wide 3 (.int .i64 5) ?_
       try simp only [p3,p4]
       refine zc7 ?_
       refine dX _ _ ?_
       try clear dX ff
       refine rgY [0,1] ?_
       refine svY wide_wide 34 (.int .i64 2) ?_
       try simp only [p3,p4]
       refine svY wide_wide 24 (.int .i64 2) ?_
       try simp only [p3,p4]
       refine zc7 ?_
       show Code.roundsIn _ _ _ _ _ _ _ _
       show Code.wpIn _ _ _ _ _ _ _
       refine wpIn_seq_k (fun f7 d7=>?_)
       refine rgY [0] ?_
       refine svY wide_wide 25 (.bool true) ?_
       try simp only [p3,p4]
       refine zc7 ?_
       refine d7 _ _ ?_
       try clear d7 f7
       refine wpIn_seq_k (fun fk eL=>?_)
       refine wpIn_cond_true rfl ?_
       refine wpIn_skip ?_
       refine eL _ _ ?_
       try clear eL fk
       refine wpIn_seq_k (fun ga dW=>?_)
       refine wpIn_block ?_
       refine wpIn_seq_k (fun e4 eQ=>?_)
       refine rgY [0,1,2] ?_
       refine svY wide_wide 26 (.agg #[aQ,ac,ah,aJ]) ?_
       try simp only [p3,p4]
       refine zm8 wide_wide 7 36 (.agg #[.bool false,.slice none 0 0,.bool false,.slice none 0 0]) [aQ,ac,ah,aJ] ?_ ⟨eD,d6,eN,dA,trivial⟩
       have bg:=hJ _ _ _ none hJ56 (World.grownBy_alloc b9 (.cells [aQ,ac,ah,aJ].toArray 36) none) (fun r e=>by cases e)
       have dP:Lc _ _ #[aQ,ac,ah,aJ] 36:=heap_alloc_new b9 (.cells [aQ,ac,ah,aJ].toArray 36)
       generalize b9.alloc (.cells [aQ,ac,ah,aJ].toArray 36)=w61 at bg dP ⊢
       try simp only [p3,p4]
       refine zc7 ?_
       refine eQ _ _ ?_
       try clear eQ e4
       refine wpIn_seq_k (fun fz eT=>?_)
       refine wpIn_seq_k (fun dj bQ=>?_)
       refine rgY [0,1,2,3,4] ?_
       refine svY wide_wide 27 (.func (.yield l) #[] #[]) ?_
       try simp only [p3,p4]
       refine svY wide_wide 28 (.int .i64 5) ?_
       try simp only [p3,p4]
       refine swY wide_wide 29 (.agg #[aQ,ac,ah,aJ]) rfl (rl 36 0 [aQ,ac,ah,aJ] dP) ?_
       try simp only [p3,p4]
       refine yo9 wide_wide 30 l (hY [0,1,2,3,4] 5 _ bg (by decide)) ?_ rfl rfl (by kernel_rfl) (by kernel_rfl)
       rintro ge b8 (⟨rfl,hJ64,_⟩ | ⟨rfl,hx64⟩)
       ·refine ⟨_,rfl,?_⟩
        try simp only [p3,p4]
        refine svY wide_wide 31 (.bool false) ?_
        try simp only [p3,p4]
        refine zc7 ?_
        refine bQ _ _ ?_
        try clear bQ dj
        refine wpIn_cond_false rfl ?_
        refine wpIn_skip ?_
        refine eT _ _ ?_
        try clear eT fz
        refine rgY [0,1,2] ?_
        refine svY wide_wide 32 (.int .i64 5) ?_
        try simp only [p3,p4]
        refine svY wide_wide 33 (.int .i64 6) ?_
        try simp only [p3,p4]
        refine svY wide_wide 3 (.int .i64 6) ?_
        try simp only [p3,p4]
        refine zc7 ?_
        refine dW _ _ ?_
        try clear dW ga
        refine rgY [0,1] ?_
        refine svY wide_wide 34 (.int .i64 3) ?_
        try simp only [p3,p4]
        refine svY wide_wide 24 (.int .i64 3) ?_
        try simp only [p3,p4]
        refine zc7 ?_
        show Code.roundsIn _ _ _ _ _ _ _ _
        show Code.wpIn _ _ _ _ _ _ _
        refine wpIn_seq_k (fun fV ef=>?_)
        refine rgY [0] ?_
        refine svY wide_wide 25 (.bool false) ?_
        try simp only [p3,p4]
        refine zc7 ?_
        refine ef _ _ ?_
        try clear ef fV
        refine wpIn_seq_k (fun gk gm=>?_)
        refine wpIn_cond_false rfl ?_
        refine wpIn_exit ?_
        simp only [Exit.then,Exit.inBlock,↓reduceIte]
        refine cS _ _ ?_
        try clear cS fP
        refine rgY [0,1] ?_
        refine svY wide_wide 35 (.int .i64 2) ?_
        try simp only [p3,p4]
        refine svY wide_wide 20 (.int .i64 2) ?_
        try simp only [p3,p4]
        refine zc7 ?_
        show Code.roundsIn _ _ _ _ _ _ _ _
        show Code.wpIn _ _ _ _ _ _ _
        refine wpIn_seq_k (fun ft cM=>?_)
        refine rgY [0] ?_
        refine svY wide_wide 21 (.bool true) ?_
        try simp only [p3,p4]
        refine zc7 ?_
        refine cM _ _ ?_
        try clear cM ft
        refine wpIn_seq_k (fun fh dE=>?_)
        refine wpIn_cond_true rfl ?_
        refine wpIn_skip ?_
        refine dE _ _ ?_
        try clear dE fh
        refine wpIn_seq_k (fun fN eE=>?_)
        refine wpIn_block ?_
        refine wpIn_seq_k (fun fW el=>?_)
        refine rgY [0,1,2] ?_
        refine svY wide_wide 22 (.agg #[ab,ax,aN,ay,aE,aD,au,aR,aB,af,aa,aM]) ?_
        try simp only [p3,p4]
        refine zm8 wide_wide 5 38 (.agg #[.bool false,.slice none 0 0,.bool false,.slice none 0 0,.bool false,.slice none 0 0,.bool false,.slice none 0 0,.bool false,.slice none 0 0,.bool false,.slice none 0 0]) [ab,ax,aN,ay,aE,aD,au,aR,aB,af,aa,aM] ?_ ⟨eR,de,db,ed,cY,dK,dq,dn,di,ej,ew,dv,trivial⟩
        have bD:=hJ _ _ _ none hJ64 (World.grownBy_alloc b8 (.cells [ab,ax,aN,ay,aE,aD,au,aR,aB,af,aa,aM].toArray 38) none) (fun r e=>by cases e)
        have dp:Lc _ _ #[ab,ax,aN,ay,aE,aD,au,aR,aB,af,aa,aM] 38:=heap_alloc_new b8 (.cells [ab,ax,aN,ay,aE,aD,au,aR,aB,af,aa,aM].toArray 38)
        generalize b8.alloc (.cells [ab,ax,aN,ay,aE,aD,au,aR,aB,af,aa,aM].toArray 38)=b6 at bD dp ⊢
        try simp only [p3,p4]
        refine zc7 ?_
        refine el _ _ ?_
        try clear el fW
        refine wpIn_seq_k (fun fg eX=>?_)
        refine rgY [0,1] ?_
        refine swY wide_wide 23 (.agg #[ab,ax,aN,ay,aE,aD,au,aR,aB,af,aa,aM]) rfl (rl 38 0 [ab,ax,aN,ay,aE,aD,au,aR,aB,af,aa,aM] dp) ?_
        try simp only [p3,p4]
        refine svY wide_wide 24 (.int .i64 0) ?_
        try simp only [p3,p4]
        refine zc7 ?_
        refine eX _ _ ?_
        try clear eX fg
        refine wpIn_block ?_
        refine wpIn_loop_rounds 5 ?_
        show Code.wpIn _ _ _ _ _ _ _
        refine wpIn_seq_k (fun fD cT=>?_)
        refine rgY [0] ?_
        refine svY wide_wide 25 (.bool true) ?_
        try simp only [p3,p4]
        refine zc7 ?_
        refine cT _ _ ?_
        try clear cT fD
        refine wpIn_seq_k (fun fF dk=>?_)
        refine wpIn_cond_true rfl ?_
        refine wpIn_skip ?_
        refine dk _ _ ?_
        try clear dk fF
        refine wpIn_seq_k (fun e3 df=>?_)
        refine wpIn_block ?_
        refine wpIn_seq_k (fun f4 da=>?_)
        refine rgY [0,1,2] ?_
        refine svY wide_wide 26 (.agg #[ab,ax,aN,ay]) ?_
        try simp only [p3,p4]
        refine zm8 wide_wide 7 36 (.agg #[.bool false,.slice none 0 0,.bool false,.slice none 0 0]) [ab,ax,aN,ay] ?_ ⟨eR,de,db,ed,trivial⟩
        have bd:=hJ _ _ _ none bD (World.grownBy_alloc b6 (.cells [ab,ax,aN,ay].toArray 36) none) (fun r e=>by cases e)
        have dd:Lc _ _ #[ab,ax,aN,ay] 36:=heap_alloc_new b6 (.cells [ab,ax,aN,ay].toArray 36)
        generalize b6.alloc (.cells [ab,ax,aN,ay].toArray 36)=w77 at bd dd ⊢
        try simp only [p3,p4]
        refine zc7 ?_
        refine da _ _ ?_
        try clear da f4
        refine wpIn_seq_k (fun fL cN=>?_)
        refine wpIn_seq_k (fun cV bN=>?_)
        refine rgY [0,1,2,3,4] ?_
        refine svY wide_wide 27 (.func (.yield l) #[] #[]) ?_
        try simp only [p3,p4]
        refine svY wide_wide 28 (.int .i64 6) ?_
        try simp only [p3,p4]
        refine swY wide_wide 29 (.agg #[ab,ax,aN,ay]) rfl (rl 36 0 [ab,ax,aN,ay] dd) ?_
        try simp only [p3,p4]
        refine yo9 wide_wide 30 l (hY [0,1,2,3,4,5] 6 _ bd (by decide)) ?_ rfl rfl (by kernel_rfl) (by kernel_rfl)
        rintro gp bZ (⟨rfl,hJ80,_⟩ | ⟨rfl,hx80⟩)
        ·refine ⟨_,rfl,?_⟩
         try simp only [p3,p4]
         refine svY wide_wide 31 (.bool false) ?_
         try simp only [p3,p4]
         refine zc7 ?_
         refine bN _ _ ?_
         try clear bN cV
         refine wpIn_cond_false rfl ?_
         refine wpIn_skip ?_
         refine cN _ _ ?_
         try clear cN fL
         refine rgY [0,1,2] ?_
         refine svY wide_wide 32 (.int .i64 6) ?_
         try simp only [p3,p4]
         refine svY wide_wide 33 (.int .i64 7) ?_
         try simp only [p3,p4]
         refine svY wide_wide 3 (.int .i64 7) ?_
         try simp only [p3,p4]
         refine zc7 ?_
         refine df _ _ ?_
         try clear df e3
         refine rgY [0,1] ?_
         refine svY wide_wide 34 (.int .i64 1) ?_
         try simp only [p3,p4]
         refine svY wide_wide 24 (.int .i64 1) ?_
         try simp only [p3,p4]
         refine zc7 ?_
         show Code.roundsIn _ _ _ _ _ _ _ _
         show Code.wpIn _ _ _ _ _ _ _
         refine wpIn_seq_k (fun fY eW=>?_)
         refine rgY [0] ?_
         refine svY wide_wide 25 (.bool true) ?_
         try simp only [p3,p4]
         refine zc7 ?_
         refine eW _ _ ?_
         try clear eW fY
         refine wpIn_seq_k (fun f1 dI=>?_)
         refine wpIn_cond_true rfl ?_
         refine wpIn_skip ?_
         refine dI _ _ ?_
         try clear dI f1
         refine wpIn_seq_k (fun fm cO=>?_)
         refine wpIn_block ?_
         refine wpIn_seq_k (fun fo ei=>?_)
         refine rgY [0,1,2] ?_
         refine svY wide_wide 26 (.agg #[aE,aD,au,aR]) ?_
         try simp only [p3,p4]
         refine zm8 wide_wide 7 36 (.agg #[.bool false,.slice none 0 0,.bool false,.slice none 0 0]) [aE,aD,au,aR] ?_ ⟨cY,dK,dq,dn,trivial⟩
         have a9:=hJ _ _ _ none hJ80 (World.grownBy_alloc bZ (.cells [aE,aD,au,aR].toArray 36) none) (fun r e=>by cases e)
         have dG:Lc _ _ #[aE,aD,au,aR] 36:=heap_alloc_new bZ (.cells [aE,aD,au,aR].toArray 36)
         generalize bZ.alloc (.cells [aE,aD,au,aR].toArray 36)=w85 at a9 dG ⊢
         try simp only [p3,p4]
         refine zc7 ?_
         refine ei _ _ ?_
         try clear ei fo
         refine wpIn_seq_k (fun fQ d0=>?_)
         refine wpIn_seq_k (fun eI bP=>?_)
         refine rgY [0,1,2,3,4] ?_
         refine svY wide_wide 27 (.func (.yield l) #[] #[]) ?_
         try simp only [p3,p4]
         refine svY wide_wide 28 (.int .i64 7) ?_
         try simp only [p3,p4]
         refine swY wide_wide 29 (.agg #[aE,aD,au,aR]) rfl (rl 36 0 [aE,aD,au,aR] dG) ?_
         try simp only [p3,p4]
         refine yo9 wide_wide 30 l (hY [0,1,2,3,4,5,6] 7 _ a9 (by decide)) ?_ rfl rfl (by kernel_rfl) (by kernel_rfl)
         rintro gg b5 (⟨rfl,hJ88,_⟩ | ⟨rfl,hx88⟩)
         ·refine ⟨_,rfl,?_⟩
          try simp only [p3,p4]
          refine svY wide_wide 31 (.bool false) ?_
          try simp only [p3,p4]
          refine zc7 ?_
          refine bP _ _ ?_
          try clear bP eI
          refine wpIn_cond_false rfl ?_
          refine wpIn_skip ?_
          refine d0 _ _ ?_
          try clear d0 fQ
          refine rgY [0,1,2] ?_
          refine svY wide_wide 32 (.int .i64 7) ?_
          try simp only [p3,p4]
          refine svY wide_wide 33 (.int .i64 8) ?_
          try simp only [p3,p4]
          refine svY wide_wide 3 (.int .i64 8) ?_
          try simp only [p3,p4]
          refine zc7 ?_
          refine cO _ _ ?_
          try clear cO fm
          refine rgY [0,1] ?_
          refine svY wide_wide 34 (.int .i64 2) ?_
          try simp only [p3,p4]
          refine svY wide_wide 24 (.int .i64 2) ?_
          try simp only [p3,p4]
          refine zc7 ?_
          show Code.roundsIn _ _ _ _ _ _ _ _
          show Code.wpIn _ _ _ _ _ _ _
          refine wpIn_seq_k (fun f8 cJ=>?_)
          refine rgY [0] ?_
          refine svY wide_wide 25 (.bool true) ?_
          try simp only [p3,p4]
          refine zc7 ?_
          refine cJ _ _ ?_
          try clear cJ f8
          refine wpIn_seq_k (fun gb d1=>?_)
          refine wpIn_cond_true rfl ?_
          refine wpIn_skip ?_
          refine d1 _ _ ?_
          try clear d1 gb
          refine wpIn_seq_k (fun fH eS=>?_)
          refine wpIn_block ?_
          refine wpIn_seq_k (fun gc eF=>?_)
          refine rgY [0,1,2] ?_
          refine svY wide_wide 26 (.agg #[aB,af,aa,aM]) ?_
          try simp only [p3,p4]
          refine zm8 wide_wide 7 36 (.agg #[.bool false,.slice none 0 0,.bool false,.slice none 0 0]) [aB,af,aa,aM] ?_ ⟨di,ej,ew,dv,trivial⟩
          have a4:=hJ _ _ _ none hJ88 (World.grownBy_alloc b5 (.cells [aB,af,aa,aM].toArray 36) none) (fun r e=>by cases e)
          have cZ:Lc _ _ #[aB,af,aa,aM] 36:=heap_alloc_new b5 (.cells [aB,af,aa,aM].toArray 36)
          generalize b5.alloc (.cells [aB,af,aa,aM].toArray 36)=w93 at a4 cZ ⊢
          try simp only [p3,p4]
          refine zc7 ?_
          refine eF _ _ ?_
          try clear eF gc
          refine wpIn_seq_k (fun fp eM=>?_)
          refine wpIn_seq_k (fun du bU=>?_)
          refine rgY [0,1,2,3,4] ?_
          refine svY wide_wide 27 (.func (.yield l) #[] #[]) ?_
          try simp only [p3,p4]
          refine svY wide_wide 28 (.int .i64 8) ?_
          try simp only [p3,p4]
          refine swY wide_wide 29 (.agg #[aB,af,aa,aM]) rfl (rl 36 0 [aB,af,aa,aM] cZ) ?_
          try simp only [p3,p4]
          refine yo9 wide_wide 30 l (hY [0,1,2,3,4,5,6,7] 8 _ a4 (by decide)) ?_ rfl rfl (by kernel_rfl) (by kernel_rfl)
          rintro gl cD (⟨rfl,hJ96,_⟩ | ⟨rfl,hx96⟩)
          ·refine ⟨_,rfl,?_⟩
           try simp only [p3,p4]
           refine svY wide_wide 31 (.bool false) ?_
           try simp only [p3,p4]
           refine zc7 ?_
           refine bU _ _ ?_
           try clear bU du
           refine wpIn_cond_false rfl ?_
           refine wpIn_skip ?_
           refine eM _ _ ?_
           try clear eM fp
           refine rgY [0,1,2] ?_
           refine svY wide_wide 32 (.int .i64 8) ?_
           try simp only [p3,p4]
           refine svY wide_wide 33 (.int .i64 9) ?_
           try simp only [p3,p4]
           refine svY wide_wide 3 (.int .i64 9) ?_
           try simp only [p3,p4]
           refine zc7 ?_
           refine eS _ _ ?_
           try clear eS fH
           refine rgY [0,1] ?_
           refine svY wide_wide 34 (.int .i64 3) ?_
           try simp only [p3,p4]
           refine svY wide_wide 24 (.int .i64 3) ?_
           try simp only [p3,p4]
           refine zc7 ?_
           show Code.roundsIn _ _ _ _ _ _ _ _
           show Code.wpIn _ _ _ _ _ _ _
           refine wpIn_seq_k (fun fq d5=>?_)
           refine rgY [0] ?_
           refine svY wide_wide 25 (.bool false) ?_
           try simp only [p3,p4]
           refine zc7 ?_
           refine d5 _ _ ?_
           try clear d5 fq
           refine wpIn_seq_k (fun gq gn=>?_)
           refine wpIn_cond_false rfl ?_
           refine wpIn_exit ?_
           simp only [Exit.then,Exit.inBlock,↓reduceIte]
           refine eE _ _ ?_
           try clear eE fN
           refine rgY [0,1] ?_
           refine svY wide_wide 35 (.int .i64 3) ?_
           try simp only [p3,p4]
           refine svY wide_wide 20 (.int .i64 3) ?_
           try simp only [p3,p4]
           refine zc7 ?_
           show Code.roundsIn _ _ _ _ _ _ _ _
           show Code.wpIn _ _ _ _ _ _ _
           refine wpIn_seq_k (fun fZ dl=>?_)
           refine rgY [0] ?_
           refine svY wide_wide 21 (.bool true) ?_
           try simp only [p3,p4]
           refine zc7 ?_
           refine dl _ _ ?_
           try clear dl fZ
           refine wpIn_seq_k (fun cu bi=>?_)
           refine wpIn_cond_true rfl ?_
           refine wpIn_skip ?_
           refine bi _ _ ?_
           try clear bi cu
           refine wpIn_seq_k (fun b4 bc=>?_)
           refine wpIn_block ?_
           refine wpIn_seq_k (fun co bF=>?_)
           refine rgY [0,1,2] ?_
           refine svY wide_wide 22 (.agg #[ai,aP,aG,aj,ad,aq,aw,av,ae,ap,aK,aO]) ?_
           try simp only [p3,p4]
           refine zm8 wide_wide 5 38 (.agg #[.bool false,.slice none 0 0,.bool false,.slice none 0 0,.bool false,.slice none 0 0,.bool false,.slice none 0 0,.bool false,.slice none 0 0,.bool false,.slice none 0 0]) [ai,aP,aG,aj,ad,aq,aw,av,ae,ap,aK,aO] ?_ ⟨eu,dt,dh,eH,cP,eV,cH,eC,ep,dJ,dx,d9,trivial⟩
           have aY:=hJ _ _ _ none hJ96 (World.grownBy_alloc cD (.cells [ai,aP,aG,aj,ad,aq,aw,av,ae,ap,aK,aO].toArray 38) none) (fun r e=>by cases e)
           have bE:Lc _ _ #[ai,aP,aG,aj,ad,aq,aw,av,ae,ap,aK,aO] 38:=heap_alloc_new cD (.cells [ai,aP,aG,aj,ad,aq,aw,av,ae,ap,aK,aO].toArray 38)
           generalize cD.alloc (.cells [ai,aP,aG,aj,ad,aq,aw,av,ae,ap,aK,aO].toArray 38)=a0 at aY bE ⊢
           try simp only [p3,p4]
           refine zc7 ?_
           refine bF _ _ ?_
           try clear bF co
           refine wpIn_seq_k (fun cj bA=>?_)
           refine rgY [0,1] ?_
           refine swY wide_wide 23 (.agg #[ai,aP,aG,aj,ad,aq,aw,av,ae,ap,aK,aO]) rfl (rl 38 0 [ai,aP,aG,aj,ad,aq,aw,av,ae,ap,aK,aO] bE) ?_
           try simp only [p3,p4]
           refine svY wide_wide 24 (.int .i64 0) ?_
           try simp only [p3,p4]
           refine zc7 ?_
           refine bA _ _ ?_
           try clear bA cj
           refine wpIn_block ?_
           refine wpIn_loop_rounds 5 ?_
           show Code.wpIn _ _ _ _ _ _ _
           refine wpIn_seq_k (fun cc bq=>?_)
           refine rgY [0] ?_
           refine svY wide_wide 25 (.bool true) ?_
           try simp only [p3,p4]
           refine zc7 ?_
           refine bq _ _ ?_
           try clear bq cc
           refine wpIn_seq_k (fun cm bt=>?_)
           refine wpIn_cond_true rfl ?_
           refine wpIn_skip ?_
           refine bt _ _ ?_
           try clear bt cm
           refine wpIn_seq_k (fun bW a6=>?_)
           refine wpIn_block ?_
           refine wpIn_seq_k (fun cq a2=>?_)
           refine rgY [0,1,2] ?_
           refine svY wide_wide 26 (.agg #[ai,aP,aG,aj]) ?_
           try simp only [p3,p4]
           refine zm8 wide_wide 7 36 (.agg #[.bool false,.slice none 0 0,.bool false,.slice none 0 0]) [ai,aP,aG,aj] ?_ ⟨eu,dt,dh,eH,trivial⟩
           have aW:=hJ _ _ _ none aY (World.grownBy_alloc a0 (.cells [ai,aP,aG,aj].toArray 36) none) (fun r e=>by cases e)
           have a3:Lc _ _ #[ai,aP,aG,aj] 36:=heap_alloc_new a0 (.cells [ai,aP,aG,aj].toArray 36)
           generalize a0.alloc (.cells [ai,aP,aG,aj].toArray 36)=w109 at aW a3 ⊢
           try simp only [p3,p4]
           refine zc7 ?_
           refine a2 _ _ ?_
           try clear a2 cq
           refine wpIn_seq_k (fun cn bv=>?_)
           refine wpIn_seq_k (fun a5 aT=>?_)
           refine rgY [0,1,2,3,4] ?_
           refine svY wide_wide 27 (.func (.yield l) #[] #[]) ?_
           try simp only [p3,p4]
           refine svY wide_wide 28 (.int .i64 9) ?_
           try simp only [p3,p4]
           refine swY wide_wide 29 (.agg #[ai,aP,aG,aj]) rfl (rl 36 0 [ai,aP,aG,aj] a3) ?_
           try simp only [p3,p4]
           refine yo9 wide_wide 30 l (hY [0,1,2,3,4,5,6,7,8] 9 _ aW (by decide)) ?_ rfl rfl (by kernel_rfl) (by kernel_rfl)
           rintro fA aZ (⟨rfl,hJ112,_⟩ | ⟨rfl,hx112⟩)
           ·refine ⟨_,rfl,?_⟩
            try simp only [p3,p4]
            refine svY wide_wide 31 (.bool false) ?_
            try simp only [p3,p4]
            refine zc7 ?_
            refine aT _ _ ?_
            try clear aT a5
            refine wpIn_cond_false rfl ?_
            refine wpIn_skip ?_
            refine bv _ _ ?_
            try clear bv cn
            refine rgY [0,1,2] ?_
            refine svY wide_wide 32 (.int .i64 9) ?_
            try simp only [p3,p4]
            refine svY wide_wide 33 (.int .i64 10) ?_
            try simp only [p3,p4]
            refine svY wide_wide 3 (.int .i64 10) ?_
            try simp only [p3,p4]
            refine zc7 ?_
            refine a6 _ _ ?_
            try clear a6 bW
            refine rgY [0,1] ?_
            refine svY wide_wide 34 (.int .i64 1) ?_
            try simp only [p3,p4]
            refine svY wide_wide 24 (.int .i64 1) ?_
            try simp only [p3,p4]
            refine zc7 ?_
            show Code.roundsIn _ _ _ _ _ _ _ _
            show Code.wpIn _ _ _ _ _ _ _
            refine wpIn_seq_k (fun cd bH=>?_)
            refine rgY [0] ?_
            refine svY wide_wide 25 (.bool true) ?_
            try simp only [p3,p4]
            refine zc7 ?_
            refine bH _ _ ?_
            try clear bH cd
            refine wpIn_seq_k (fun bX bk=>?_)
            refine wpIn_cond_true rfl ?_
            refine wpIn_skip ?_
            refine bk _ _ ?_
            try clear bk bX
            refine wpIn_seq_k (fun cg bo=>?_)
            refine wpIn_block ?_
            refine wpIn_seq_k (fun ca bf=>?_)
            refine rgY [0,1,2] ?_
            refine svY wide_wide 26 (.agg #[ad,aq,aw,av]) ?_
            try simp only [p3,p4]
            refine zm8 wide_wide 7 36 (.agg #[.bool false,.slice none 0 0,.bool false,.slice none 0 0]) [ad,aq,aw,av] ?_ ⟨cP,eV,cH,eC,trivial⟩
            have aX:=hJ _ _ _ none hJ112 (World.grownBy_alloc aZ (.cells [ad,aq,aw,av].toArray 36) none) (fun r e=>by cases e)
            have bw:Lc _ _ #[ad,aq,aw,av] 36:=heap_alloc_new aZ (.cells [ad,aq,aw,av].toArray 36)
            generalize aZ.alloc (.cells [ad,aq,aw,av].toArray 36)=w117 at aX bw ⊢
            try simp only [p3,p4]
            refine zc7 ?_
            refine bf _ _ ?_
            try clear bf ca
            refine wpIn_seq_k (fun cl bh=>?_)
            refine wpIn_seq_k (fun bJ aU=>?_)
            refine rgY [0,1,2,3,4] ?_
            refine svY wide_wide 27 (.func (.yield l) #[] #[]) ?_
            try simp only [p3,p4]
            refine svY wide_wide 28 (.int .i64 10) ?_
            try simp only [p3,p4]
            refine swY wide_wide 29 (.agg #[ad,aq,aw,av]) rfl (rl 36 0 [ad,aq,aw,av] bw) ?_
            try simp only [p3,p4]
            refine yo9 wide_wide 30 l (hY [0,1,2,3,4,5,6,7,8,9] 10 _ aX (by decide)) ?_ rfl rfl (by kernel_rfl) (by kernel_rfl)
            rintro f9 a1 (⟨rfl,hJ120,_⟩ | ⟨rfl,hx120⟩)
            ·refine ⟨_,rfl,?_⟩
             try simp only [p3,p4]
             refine svY wide_wide 31 (.bool false) ?_
             try simp only [p3,p4]
             refine zc7 ?_
             refine aU _ _ ?_
             try clear aU bJ
             refine wpIn_cond_false rfl ?_
             refine wpIn_skip ?_
             refine bh _ _ ?_
             try clear bh cl
             refine rgY [0,1,2] ?_
             refine svY wide_wide 32 (.int .i64 10) ?_
             try simp only [p3,p4]
             refine svY wide_wide 33 (.int .i64 11) ?_
             try simp only [p3,p4]
             refine svY wide_wide 3 (.int .i64 11) ?_
             try simp only [p3,p4]
             refine zc7 ?_
             refine bo _ _ ?_
             try clear bo cg
             refine rgY [0,1] ?_
             refine svY wide_wide 34 (.int .i64 2) ?_
             try simp only [p3,p4]
             refine svY wide_wide 24 (.int .i64 2) ?_
             try simp only [p3,p4]
             refine zc7 ?_
             show Code.roundsIn _ _ _ _ _ _ _ _
             show Code.wpIn _ _ _ _ _ _ _
             refine wpIn_seq_k (fun cA bx=>?_)
             refine rgY [0] ?_
             refine svY wide_wide 25 (.bool true) ?_
             try simp only [p3,p4]
             refine zc7 ?_
             refine bx _ _ ?_
             try clear bx cA
             refine wpIn_seq_k (fun ch bp=>?_)
             refine wpIn_cond_true rfl ?_
             refine wpIn_skip ?_
             refine bp _ _ ?_
             try clear bp ch
             refine wpIn_seq_k (fun b7 bu=>?_)
             refine wpIn_block ?_
             refine wpIn_seq_k (fun cy bn=>?_)
             refine rgY [0,1,2] ?_
             refine svY wide_wide 26 (.agg #[ae,ap,aK,aO]) ?_
             try simp only [p3,p4]
             refine zm8 wide_wide 7 36 (.agg #[.bool false,.slice none 0 0,.bool false,.slice none 0 0]) [ae,ap,aK,aO] ?_ ⟨ep,dJ,dx,d9,trivial⟩
             have aV:=hJ _ _ _ none hJ120 (World.grownBy_alloc a1 (.cells [ae,ap,aK,aO].toArray 36) none) (fun r e=>by cases e)
             have bG:Lc _ _ #[ae,ap,aK,aO] 36:=heap_alloc_new a1 (.cells [ae,ap,aK,aO].toArray 36)
             generalize a1.alloc (.cells [ae,ap,aK,aO].toArray 36)=w125 at aV bG ⊢
             try simp only [p3,p4]
             refine zc7 ?_
             refine bn _ _ ?_
             try clear bn cy
             refine wpIn_seq_k (fun cx a7=>?_)
             refine wpIn_seq_k (fun bB aS=>?_)
             refine rgY [0,1,2,3,4] ?_
             refine svY wide_wide 27 (.func (.yield l) #[] #[]) ?_
             try simp only [p3,p4]
             refine svY wide_wide 28 (.int .i64 11) ?_
             try simp only [p3,p4]
             refine swY wide_wide 29 (.agg #[ae,ap,aK,aO]) rfl (rl 36 0 [ae,ap,aK,aO] bG) ?_
             try simp only [p3,p4]
             refine yo9 wide_wide 30 l (hY [0,1,2,3,4,5,6,7,8,9,10] 11 _ aV (by decide)) ?_ rfl rfl (by kernel_rfl) (by kernel_rfl)
             rintro e0 e8 (⟨rfl,hJ128,_⟩ | ⟨rfl,hx128⟩)
             ·refine ⟨_,rfl,?_⟩
              try simp only [p3,p4]
              refine svY wide_wide 31 (.bool false) ?_
              try simp only [p3,p4]
              refine zc7 ?_
              refine aS _ _ ?_
              try clear aS bB
              refine wpIn_cond_false rfl ?_
              refine wpIn_skip ?_
              refine a7 _ _ ?_
              try clear a7 cx
              refine rgY [0,1,2] ?_
              refine svY wide_wide 32 (.int .i64 11) ?_
              try simp only [p3,p4]
              refine svY wide_wide 33 (.int .i64 12) ?_
              try simp only [p3,p4]
              refine svY wide_wide 3 (.int .i64 12) ?_
              try simp only [p3,p4]
              refine zc7 ?_
              refine bu _ _ ?_
              try clear bu b7
              refine rgY [0,1] ?_
              refine svY wide_wide 34 (.int .i64 3) ?_
              try simp only [p3,p4]
              refine svY wide_wide 24 (.int .i64 3) ?_
              try simp only [p3,p4]
              refine zc7 ?_
              show Code.roundsIn _ _ _ _ _ _ _ _
              show Code.wpIn _ _ _ _ _ _ _
              refine wpIn_seq_k (fun ct ba=>?_)
              refine rgY [0] ?_
              refine svY wide_wide 25 (.bool false) ?_
              try simp only [p3,p4]
              refine zc7 ?_
              refine ba _ _ ?_
              try clear ba ct
              refine wpIn_seq_k (fun fC fI=>?_)
              refine wpIn_cond_false rfl ?_
              refine wpIn_exit ?_
              simp only [Exit.then,Exit.inBlock,↓reduceIte]
              refine bc _ _ ?_
              try clear bc b4
              refine rgY [0,1] ?_
              refine svY wide_wide 35 (.int .i64 4) ?_
              try simp only [p3,p4]
              refine svY wide_wide 20 (.int .i64 4) ?_
              try simp only [p3,p4]
              refine zc7 ?_
              show Code.roundsIn _ _ _ _ _ _ _ _
              show Code.wpIn _ _ _ _ _ _ _
              refine wpIn_seq_k (fun cC bL=>?_)
              refine rgY [0] ?_
              refine svY wide_wide 21 (.bool false) ?_
              try simp only [p3,p4]
              refine zc7 ?_
              refine bL _ _ ?_
              try clear bL cC
              refine wpIn_seq_k (fun fB e5=>?_)
              refine wpIn_cond_false rfl ?_
              refine wpIn_exit ?_
              simp only [Exit.then,Exit.inBlock,↓reduceIte]
              go_end0
              exact ⟨⟨_,rfl⟩,.inl ⟨[0,1,2,3,4,5,6,7,8,9,10,11],rfl,hJ128⟩⟩
             ·refine ⟨_,rfl,?_⟩
              try simp only [p3,p4]
              refine svY wide_wide 31 (.bool true) ?_
              try simp only [p3,p4]
              refine zc7 ?_
              refine aS _ _ ?_
              try clear aS bB
              refine wpIn_cond_true rfl ?_
              refine wpIn_ret ?_
              simp only [Exit.then,Exit.inBlock]
              refine bodyPost_ret (results_none rfl _ _ _) rfl ?_
              exact ⟨⟨_,rfl⟩,.inr ⟨[0,1,2,3,4,5,6,7,8,9,10,11],⟨12,rfl⟩,hx128⟩⟩
            ·refine ⟨_,rfl,?_⟩
             try simp only [p3,p4]
             refine svY wide_wide 31 (.bool true) ?_
             try simp only [p3,p4]
             refine zc7 ?_
             refine aU _ _ ?_
             try clear aU bJ
             refine wpIn_cond_true rfl ?_
             refine wpIn_ret ?_
             simp only [Exit.then,Exit.inBlock]
             refine bodyPost_ret (results_none rfl _ _ _) rfl ?_
             exact ⟨⟨_,rfl⟩,.inr ⟨[0,1,2,3,4,5,6,7,8,9,10],⟨11,rfl⟩,hx120⟩⟩
           ·refine ⟨_,rfl,?_⟩
            try simp only [p3,p4]
            refine svY wide_wide 31 (.bool true) ?_
            try simp only [p3,p4]
            refine zc7 ?_
            refine aT _ _ ?_
            try clear aT a5
            refine wpIn_cond_true rfl ?_
            refine wpIn_ret ?_
            simp only [Exit.then,Exit.inBlock]
            refine bodyPost_ret (results_none rfl _ _ _) rfl ?_
            exact ⟨⟨_,rfl⟩,.inr ⟨[0,1,2,3,4,5,6,7,8,9],⟨10,rfl⟩,hx112⟩⟩
          ·refine ⟨_,rfl,?_⟩
           try simp only [p3,p4]
           refine svY wide_wide 31 (.bool true) ?_
           try simp only [p3,p4]
           refine zc7 ?_
           refine bU _ _ ?_
           try clear bU du
           refine wpIn_cond_true rfl ?_
           refine wpIn_ret ?_
           simp only [Exit.then,Exit.inBlock]
           refine bodyPost_ret (results_none rfl _ _ _) rfl ?_
           exact ⟨⟨_,rfl⟩,.inr ⟨[0,1,2,3,4,5,6,7,8],⟨9,rfl⟩,hx96⟩⟩
         ·refine ⟨_,rfl,?_⟩
          try simp only [p3,p4]
          refine svY wide_wide 31 (.bool true) ?_
          try simp only [p3,p4]
          refine zc7 ?_
          refine bP _ _ ?_
          try clear bP eI
          refine wpIn_cond_true rfl ?_
          refine wpIn_ret ?_
          simp only [Exit.then,Exit.inBlock]
          refine bodyPost_ret (results_none rfl _ _ _) rfl ?_
          exact ⟨⟨_,rfl⟩,.inr ⟨[0,1,2,3,4,5,6,7],⟨8,rfl⟩,hx88⟩⟩
        ·refine ⟨_,rfl,?_⟩
         try simp only [p3,p4]
         refine svY wide_wide 31 (.bool true) ?_
         try simp only [p3,p4]
         refine zc7 ?_
         refine bN _ _ ?_
         try clear bN cV
         refine wpIn_cond_true rfl ?_
         refine wpIn_ret ?_
         simp only [Exit.then,Exit.inBlock]
         refine bodyPost_ret (results_none rfl _ _ _) rfl ?_
         exact ⟨⟨_,rfl⟩,.inr ⟨[0,1,2,3,4,5,6],⟨7,rfl⟩,hx80⟩⟩
       ·refine ⟨_,rfl,?_⟩
        try simp only [p3,p4]
        refine svY wide_wide 31 (.bool true) ?_
        try simp only [p3,p4]
        refine zc7 ?_
        refine bQ _ _ ?_
        try clear bQ dj
        refine wpIn_cond_true rfl ?_
        refine wpIn_ret ?_
        simp only [Exit.then,Exit.inBlock]
        refine bodyPost_ret (results_none rfl _ _ _) rfl ?_
        exact ⟨⟨_,rfl⟩,.inr ⟨[0,1,2,3,4,5],⟨6,rfl⟩,hx64⟩⟩
      ·refine ⟨_,rfl,?_⟩
       try simp only [p3,p4]
       refine svY wide_wide 31 (.bool true) ?_
       try simp only [p3,p4]
       refine zc7 ?_
       refine bT _ _ ?_
       try clear bT eP
       refine wpIn_cond_true rfl ?_
       refine wpIn_ret ?_
       simp only [Exit.then,Exit.inBlock]
       refine bodyPost_ret (results_none rfl _ _ _) rfl ?_
       exact ⟨⟨_,rfl⟩,.inr ⟨[0,1,2,3,4],⟨5,rfl⟩,hx56⟩⟩
     ·refine ⟨_,rfl,?_⟩
      try simp only [p3,p4]
      refine svY wide_wide 31 (.bool true) ?_
      try simp only [p3,p4]
      refine zc7 ?_
      refine bO _ _ ?_
      try clear bO eY
      refine wpIn_cond_true rfl ?_
      refine wpIn_ret ?_
      simp only [Exit.then,Exit.inBlock]
      refine bodyPost_ret (results_none rfl _ _ _) rfl ?_
      exact ⟨⟨_,rfl⟩,.inr ⟨[0,1,2,3],⟨4,rfl⟩,hx48⟩⟩
    ·refine ⟨_,rfl,?_⟩
     try simp only [p3,p4]
     refine svY wide_wide 31 (.bool true) ?_
     try simp only [p3,p4]
     refine zc7 ?_
     refine bM _ _ ?_
     try clear bM cX
     refine wpIn_cond_true rfl ?_
     refine wpIn_ret ?_
     simp only [Exit.then,Exit.inBlock]
     refine bodyPost_ret (results_none rfl _ _ _) rfl ?_
     exact ⟨⟨_,rfl⟩,.inr ⟨[0,1,2],⟨3,rfl⟩,hx32⟩⟩
   ·refine ⟨_,rfl,?_⟩
    try simp only [p3,p4]
    refine svY wide_wide 31 (.bool true) ?_
    try simp only [p3,p4]
    refine zc7 ?_
    refine bR _ _ ?_
    try clear bR cU
    refine wpIn_cond_true rfl ?_
    refine wpIn_ret ?_
    simp only [Exit.then,Exit.inBlock]
    refine bodyPost_ret (results_none rfl _ _ _) rfl ?_
    exact ⟨⟨_,rfl⟩,.inr ⟨[0,1],⟨2,rfl⟩,hx24⟩⟩
  ·refine ⟨_,rfl,?_⟩
   try simp only [p3,p4]
   refine svY wide_wide 31 (.bool true) ?_
   try simp only [p3,p4]
   refine zc7 ?_
   refine bS _ _ ?_
   try clear bS cG
   refine wpIn_cond_true rfl ?_
   refine wpIn_ret ?_
   simp only [Exit.then,Exit.inBlock]
   refine bodyPost_ret (results_none rfl _ _ _) rfl ?_
   exact ⟨⟨_,rfl⟩,.inr ⟨[0],⟨1,rfl⟩,hx16⟩⟩
def yy4 (Ds:List Nat):List Deferred:=Ds.map (fun D=>⟨.collected D,#[]⟩)
def yy5 (P:Program) (fn:Func) (R:Ending→World→Prop):Exit→Act→World→Prop
 | .normal,a,w | .ret,a,w=>LeavesInM Fence.wide 9 P fn a.tmps R a.defers .returning w
 | _,_,_=>False
theorem enterN {P:Program} {f:FuncId} {fn:Func} {c:Code} {args:Array Value} {w:World} {R:Ending→World→Prop} (hf:P.funcs[f]?=some fn) (hb:fn.body=some c)
  (h:c.wp P (yy5 P fn R) {tmps:=args++Array.replicate (fn.ntmps - args.size) undef,defers:=[]} w):Calls P f args w R:=by
 refine (callsIn_wide (n:=9)).1 (callsIn_of_wp_marks hf hb trivial (wpIn_wide.2 (Code.wp_mono (fun e a w h=>?_) h)))
 cases e<;>first | exact h | exact h.elim
theorem yy6 {w:World} {D:Nat} {x:Option (List Deferred)} (o:Obj) (h:w.heap[D]?=some (.deferred x)):Wt 999999999 w (w.putObj D o):=
 ⟨rfl,rfl,rfl,by simp [World.putObj],fun b cs t fr _ hb=>(World.putObj_heap_other (fun e=>by subst e;rw [h] at hb;cases hb)).trans hb⟩
theorem Wt.trans {T:TypeId} {a b c:World} (h:Wt T a b) (k:Wt T b c):Wt T a c:=
 ⟨k.os.trans h.os,k.tape.trans h.tape,k.output.trans h.output,Nat.le_trans h.size k.size,fun b cs t fr ht hb=>k.block b cs t fr ht (h.block b cs t fr ht hb)⟩
theorem Wt.refl (T:TypeId) (w:World):Wt T w w:=⟨rfl,rfl,rfl,Nat.le_refl _,fun _ _ _ _ _ h=>h⟩
theorem yy7 {w0 w:World} {D:Nat} {o:Obj} (h:Gr w0 w) (hD:w0.heap.size≤D):Gr w0 (w.putObj D o):=
 ⟨h.os,h.tape,h.output,Nat.le_trans h.size (by simp [World.putObj]),fun k hk=>(World.putObj_heap_other (by omega)).trans (h.block k hk)⟩
theorem endN {P:Program} {fn:Func} {R:Ending→World→Prop} {tmps:Array Value} {w0:World}:∀ (Ds:List Nat) (w:World),Ds.Nodup→(∀ D ∈ Ds,w0.heap.size≤D∧w.heap[D]?=some (.deferred (some [])))→Gr w0 w→
  (∀ w',Wt 999999999 w w'→Gr w0 w'→∃ v,(results fn tmps).run P w'=.ok v w'∧R (.returned v) w')→LeavesInM Fence.wide 9 P fn tmps R (yy4 Ds) .returning w
 | [],w,_,_,hB,h=>h w (Wt.refl _ _) hB
 | D::Ds,w,hn,hD,hB,h=>by
  obtain ⟨h1,h2⟩:=hD D (by simp)
  obtain ⟨n1,n2⟩:=List.nodup_cons.1 hn
  refine ⟨by simp,.inl ⟨_,_,rfl,run_takeDeferred h2,?_⟩⟩
  exact endN Ds _ n2 (fun E hE=>⟨(hD E (by simp [hE])).1,(World.putObj_heap_other (fun e=>n1 (by rw [← e];exact hE))).trans (hD E (by simp [hE])).2⟩) (yy7 hB h1)
   (fun w' wt g=>h w' ((yy6 _ h2).trans wt) g)

theorem zk7 {β:Type} (B b:Nat) (cs:Array Value) (t:TypeId):OwnFrom B (fun (_:β) W=>Lc W b cs t):=fun _ X Y row hs hg hr=>by
 refine (hg.block b (zg0 hs) (fun e=>?_)).trans hs
 obtain ⟨_,o,ho,hc⟩:=hr b e.symm
 rw [show X.heap[b]?=_ from hs] at ho;cases ho;cases hc
theorem yy8 {β γ:Type} {B:Nat} {I:γ→β→World→Prop} (h:∀ x,OwnFrom B (I x)):OwnFrom B (fun s W=>∃ x,I x s W):=fun s X Y row ⟨x,hs⟩ hg hr=>⟨x,h x s X Y row hs hg hr⟩
theorem yj6 {β:Type} {B:Nat} {w0:World} (h:w0.heap.size≤B):OwnFrom B (fun (_:β) W=>Gr w0 W):=ownFrom_below (Nat.le_refl _) h
theorem zJ3 {w w':World} {b:Nat} {cs:Array Value} {t:TypeId} (h:St w w' b) (hL:Lc w b cs t) (hs:w.heap.size≤w'.heap.size):KeepsOthers w w':=
 ⟨hs,fun k o hk ho=>(h.block k (fun e=>by subst e;rw [show w.heap[k]?=_ from hL] at hk;cases hk;cases ho)).trans hk⟩
theorem yy9 {w w':World} (h:Gr w w'):KeepsOthers w w':=⟨h.size,fun _ _ hk _=>h.heap hk⟩

def ent (L:List Value) (k:Fin 12):List Value:=[L.getD (4*k.val) undef,L.getD (4*k.val+1) undef,L.getD (4*k.val+2) undef,L.getD (4*k.val+3) undef]
theorem encs_ent (L:List Value) (k:Fin 12):encs L k=#[.int .i64 (k.val:Int),.agg (ent L k).toArray]:=rfl
theorem fin12 {p:Fin 12→Prop} (h0:p 0) (h1:p 1) (h2:p 2) (h3:p 3) (h4:p 4) (h5:p 5) (h6:p 6) (h7:p 7) (h8:p 8) (h9:p 9) (h10:p 10) (h11:p 11):∀ k,p k
 | 0=>h0 | 1=>h1 | 2=>h2 | 3=>h3 | 4=>h4 | 5=>h5 | 6=>h6 | 7=>h7 | 8=>h8 | 9=>h9 | 10=>h10 | 11=>h11
theorem zJ4:∀ k:Fin 12,k ∈ all12:=fin12 (by decide) (by decide) (by decide) (by decide) (by decide) (by decide) (by decide) (by decide) (by decide) (by decide) (by decide) (by decide)
theorem yz0 {P:Program} {g:Operand} {d1 d2 s1 s2:Nat} {assign body:Code} {Q:Exit→Act→World→Prop} {l:List Value} {Ds:List Nat} {w:World} {gf:Nat} {lb:Array Value} {L:List Value}
  (hseq:SeqStopsA Fence.wide 8 P gf lb (encs L) (fun xs=>xs=all12) (fun pre=>∃ k,pre=all12.take k) 12 w)
  (I:List (Fin 12)→World→Prop) (Ix:Code→List (Fin 12)→World→Prop) (hI:OwnFrom w.heap.size I) (hIx:∀ c,OwnFrom w.heap.size (Ix c)) (h0:I [] w)
  (hass:∀ (ll:Nat) (k:Fin 12) (W:World) (K:Act→World→Prop),K ⟨((((l.set s1 (.int .i64 (k.val:Int))).set s2 (.agg (ent L k).toArray)).set d1 (.int .i64 (k.val:Int))).set d2 (.pointer (some ⟨W.heap.size,0,none⟩))).toArray,[]⟩ (W.alloc (.cells (ent L k).toArray 36))→
   assign.wpIn (Fence.wide.inRound ll) 7 P (Exit.then K (fun _ _ _=>False)) ⟨((l.set s1 (.int .i64 (k.val:Int))).set s2 (.agg (ent L k).toArray)).toArray,[]⟩ W)
  (hbody:∀ (ll B:Nat) (pre:List (Fin 12)) (k:Fin 12) (W:World),I pre W→w.heap.size≤B→Lc W B (ent L k).toArray 36→
   body.wpIn (Fence.wide.inRound ll) 7 P (ownPostG w.heap.size KeepsWalks I Ix (pre++[k]) W) ⟨((((l.set s1 (.int .i64 (k.val:Int))).set s2 (.agg (ent L k).toArray)).set d1 (.int .i64 (k.val:Int))).set d2 (.pointer (some ⟨B,0,none⟩))).toArray,[]⟩ W)
  (hdone:∀ (D:Nat) (W:World),w.heap.size≤D→I all12 W→W.heap[D]?=some (.deferred (some []))→Q .normal ⟨l.toArray,yy4 (D::Ds)⟩ W)
  (hstop:∀ (D:Nat) (c:Code) (pre:List (Fin 12)) (W:World),w.heap.size≤D→Ix c pre W→W.heap[D]?=some (.deferred (some []))→c.wp P Q ⟨l.toArray,yy4 (D::Ds)⟩ W)
  (hg:(⟨l.toArray,yy4 Ds⟩:Act).eval g=.func (.func gf) #[] lb:=by rfl) (eg:∀ args w,(callFunc gf args).run P w=.ok (.enter gf args) w):
  (Code.rangeFunc g #[s1,s2] assign body).wp P Q ⟨l.toArray,yy4 Ds⟩ w:=by
 refine (wpIn_wide (n:=9)).1 (wpIn_rangeFunc_ownH rfl (by decide) hg trivial eg hseq walksK_t (fun W l o o' h0 h1 h2 h3=>walksK_b (w:=w) W l o o' h0 h1 h2 h3) (Below.refl _ _) (fun _=>rfl) (fun pre W=>I pre W∧w.heap.size≤W.heap.size) Ix
  (hI.and (fun _ X Y _ hs hg _=>Nat.le_trans hs hg.size)) hIx ⟨h0,Nat.le_refl _⟩
  (fun k a' W=>∃ B,w.heap.size≤B∧Lc W B (ent L k).toArray 36∧a'=⟨((((l.set s1 (.int .i64 (k.val:Int))).set s2 (.agg (ent L k).toArray)).set d1 (.int .i64 (k.val:Int))).set d2 (.pointer (some ⟨B,0,none⟩))).toArray,[]⟩)
  (fun k a'=>yy8 fun B=>(ownFrom_pure _ _).and ((zk7 _ _ _ _).and (ownFrom_pure _ _))) ?_ ?_ ?_ ?_)
 ·intro ll pre k W K hi hK
  have e0:(#[s1,s2]:Array Tmp).zip (encs L k)=#[(s1,.int .i64 (k.val:Int)),(s2,.agg (ent L k).toArray)]:=by rw [encs_ent];simp
  have e:((#[s1,s2]:Array Tmp).zip (encs L k)).foldl (fun t (p,v)=>t.setIfInBounds p v) l.toArray=((l.set s1 (.int .i64 (k.val:Int))).set s2 (.agg (ent L k).toArray)).toArray:=by
   rw [e0]
   simp only [List.foldl_toArray',List.size_toArray,List.length_cons,List.length_nil,List.foldl_cons,List.foldl_nil,p2]
  dsimp only
  rw [e]
  refine hass ll k W K (hK _ _ ((KeepsOthers.alloc _ _).from _) (KeepsWalks.alloc _ _) ⟨hI.alloc _ hi.1,Nat.le_trans hi.2 (by simp)⟩ ⟨W.heap.size,hi.2,heap_alloc_new W _,rfl⟩)
 ·rintro ll pre k a' W hl _ hi ⟨B,hB,hLc,rfl⟩ _
  refine Code.wpIn_mono (fun e a W' h=>?_) (hbody ll B pre k W hi.1 hB hLc)
  cases e<;>first | exact h | exact ⟨h.1,h.2.1,h.2.2,Nat.le_trans hi.2 h.1.size⟩
 ·rintro D xs W hD rfl hi hm
  exact hdone D W hD hi.1 hm
 ·rintro D c pre W hD _ hi hm
  exact wpIn_wide.2 (hstop D c pre W hD hi hm)
theorem zP6 {vs:List Value} (h:∀ v ∈ vs,v.oneCell'=true):One1 vs:=by
 induction vs with
 | nil=>trivial
 | cons v vs ih=>exact ⟨h v (by simp),ih (fun u hu=>h u (by simp [hu]))⟩
theorem zE1 {L:List Value} (h:One1 L) {i:Nat} (hi:i<L.length):(L.getD i undef).oneCell'=true:=by
 rw [List.getD_eq_getElem?_getD,List.getElem?_eq_getElem hi]
 exact One1.all h _ (List.getElem_mem hi)
theorem zz7 {L:List Value} (h:One1 L) (h48:L.length=48) (k:Fin 12):One1 (ent L k):=
 ⟨zE1 h (by omega),zE1 h (by omega),zE1 h (by omega),zE1 h (by omega),trivial⟩
theorem yf8 {L:List Value} (aa:L.length=48) (k:Fin 12):(L.drop (4*k.val)).take 4=ent L k:=by
 apply List.ext_getElem?
 intro i
 have hk:=k.isLt
 by_cases hi:i<4
 ·rw [List.getElem?_take_of_lt hi,List.getElem?_drop,List.getElem?_eq_getElem (by omega)]
  unfold ent
  simp only [List.getD_eq_getElem?_getD]
  match i,hi with
  | 0,_=>simp [List.getElem?_eq_getElem (show 4*k.val<L.length by omega)]
  | 1,_=>simp [List.getElem?_eq_getElem (show 4*k.val+1<L.length by omega)]
  | 2,_=>simp [List.getElem?_eq_getElem (show 4*k.val+2<L.length by omega)]
  | 3,_=>simp [List.getElem?_eq_getElem (show 4*k.val+3<L.length by omega)]
 ·rw [List.getElem?_eq_none (by simp;omega),List.getElem?_eq_none (by simp [ent];omega)]
structure Fills (m:Nat) (L:List Value) (pre:List (Fin 12)) (xs:List Value):Prop where
 len:xs.length=4*m
 one:One1 xs
 eq:∀ k ∈ pre,k.val<m→(xs.drop (4*k.val)).take 4=ent L k
theorem Fills.skip {m:Nat} {L xs:List Value} {pre:List (Fin 12)} {k:Fin 12} (h:Fills m L pre xs) (hk:¬ k.val<m):Fills m L (pre++[k]) xs:=
 ⟨h.len,h.one,fun j hj hm=>by
  rcases List.mem_append.1 hj with hj | hj
  ·exact h.eq j hj hm
  ·simp only [List.mem_singleton] at hj;subst hj;exact absurd hm hk⟩
theorem Fills.step {m:Nat} {L xs:List Value} {pre:List (Fin 12)} {k:Fin 12} (h:Fills m L pre xs) (h1:One1 L) (aa:L.length=48) (hk:k.val<m):
  ∃ ys,ze1 xs.toArray (4*k.val) (ent L k)=ys.toArray∧Fills m L (pre++[k]) ys:=by
 have hlen:(ent L k).length=4:=rfl
 have hw:=zr8 (ent L k) (4*k.val) xs (by rw [hlen,h.len];omega)
 refine ⟨_,hw,⟨?_,?_,?_⟩⟩
 ·simp [hlen,h.len];omega
 ·refine zP6 fun v hv=>?_
  rcases List.mem_append.1 hv with hv | hv
  ·rcases List.mem_append.1 hv with hv | hv
   ·exact One1.all h.one v (List.mem_of_mem_take hv)
   ·exact One1.all (zz7 h1 aa k) v hv
  ·exact One1.all h.one v (List.mem_of_mem_drop hv)
 ·intro j hj hm
  by_cases e:j=k
  ·subst e
   rw [List.append_assoc,List.drop_append_of_le_length (by simp [h.len];omega)]
   rw [List.drop_of_length_le (by simp;omega)]
   rw [List.nil_append,List.take_append_of_le_length (by simp [hlen]),List.take_of_length_le (by simp [hlen])]
  ·have hj':j ∈ pre:=by
    rcases List.mem_append.1 hj with hj | hj
    ·exact hj
    ·simp only [List.mem_singleton] at hj;exact absurd hj e
   rw [← h.eq j hj' hm]
   have hne:j.val≠k.val:=fun h=>e (Fin.ext h)
   apply List.ext_getElem?
   intro i
   by_cases hi:i<4
   ·rw [List.getElem?_take_of_lt hi,List.getElem?_take_of_lt hi,List.getElem?_drop,List.getElem?_drop]
    by_cases hlt:j.val<k.val
    ·rw [List.append_assoc,List.getElem?_append_left (by simp [h.len];omega),List.getElem?_take_of_lt (by omega)]
    ·rw [List.getElem?_append_right (by simp [h.len,hlen];omega),List.getElem?_drop]
     congr 1
     simp [h.len,hlen];omega
   ·rw [List.getElem?_eq_none (by simp;omega),List.getElem?_eq_none (by simp;omega)]
theorem Fills.done {m:Nat} {L xs:List Value} (h:Fills m L all12 xs) (hm:m≤12) (aa:L.length=48):xs=L.take (4*m):=by
 apply List.ext_getElem?
 intro i
 by_cases hi:i<4*m
 ·have hq:i/4<12:=by omega
  have:=h.eq ⟨i/4,hq⟩ (zJ4 _) (by show i/4<m;omega)
  rw [← yf8 aa] at this
  have h2:=congrArg (fun l=>l[i % 4]?) this
  simp only [] at h2
  rw [List.getElem?_take_of_lt (by omega),List.getElem?_take_of_lt (by omega),List.getElem?_drop,List.getElem?_drop] at h2
  have e:4*(i/4)+i % 4=i:=by omega
  rw [e] at h2
  rw [h2,List.getElem?_take_of_lt hi]
 ·rw [List.getElem?_eq_none (by rw [h.len];omega),List.getElem?_eq_none (by simp;omega)]
theorem yq3 {P:Program} {a:Act} {o:Oper} {w:World} (t:TypeId) (x y:Operand) (b len elem sz k:Nat) (hk:k<len) (hop:o.op=.indexAddr t x y:=by rfl) (hx:a.eval x=.pointer (some ⟨b,0,none⟩):=by rfl) (hy:a.eval y=.int .i64 (k:Int):=by rfl)
  (hu:P.underlying t=some (.array len elem):=by kernel_rfl) (hs:(P.info? elem).map (·.size)=some sz:=by kernel_rfl):RunV P a o w (.pointer (some ⟨b,sz*k,none⟩)):=by
 obtain ⟨i,hi,hsz⟩:=Option.map_eq_some_iff.1 hs
 have h2:(0:Int)≤(k:Int)∧(k:Int)<(len:Int):=by omega
 unfold RunV execOp
 simp only [hop,hx,hy]
 by_cases h0:sz*k=0<;>simp [Instr.indexAt,Instr.sureAddr,asIntOf,run_underlying hu,sizeOf,typeInfo,hi,hsz,h2,hk,h0,Addr.add,Nat.mul_comm k sz]
theorem zU5 {P:Program} {w:World} {fn:Func} {tmps:Array Value} {p:Tmp} {t:TypeId} (b:Nat) (v:Value) (tt:TypeId) (h:fn.results=#[.cell p t]) (hp:tmps.getD p undef=.pointer (some ⟨b,0,none⟩)) (hL:Lc w b #[v] tt) (hs:zj3 P t=true):
  (results fn tmps).run P w=.ok v w:=by
 have hl:(loadVar t ⟨b,0,none⟩).run P w=.ok v w:=by
  unfold zj3 at hs
  have hc:w.cell? ⟨b,0,none⟩=some v:=by rw [zb1 hL];rfl
  cases hd:P.underlying t with
  | none=>rw [hd] at hs;cases hs
  | some d=>
   rw [hd] at hs
   have hagg:(isAgg t).run P w=.ok false w:=by
    unfold isAgg
    rw [Sem.run_bind,run_underlying hd w]
    cases d<;>first | cases hs | rfl
   simp only [loadVar,Sem.run_bind,hagg,Result.andThen_ok]
   simp [load,Sem.run,hc]
 simp only [Array.getD_eq_getD_getElem?] at hp
 simp [results,h,asAddr,hp,hl]
def IsMk (w:World) (D:Nat):Prop:=w.heap[D]?=some (.deferred (some []))
theorem IsMk.gr {w w':World} {D:Nat} (h:IsMk w D) (g:Gr w w'):IsMk w' D:=g.heap h
theorem IsMk.lt {w:World} {D:Nat} (h:IsMk w D):D<w.heap.size:=zg0 h
theorem IsMk.ne {w:World} {D c:Nat} (h:IsMk w D) (hc:w.heap.size≤c):D≠c:=fun e=>by have:=h.lt;omega
theorem IsMk.st {w w':World} {b D:Nat} (hm:IsMk w D) (h:St w w' b) (hne:D≠b):IsMk w' D:=(h.block D hne).trans hm
theorem own_mk {β:Type} {w:World} {D:Nat} (h:IsMk w D):OwnFrom w.heap.size (fun (_:β) W=>IsMk W D):=fun _ X Y row hs hg hr=>
 (hg.block D (zg0 hs) (fun e=>by have:=(hr D e.symm).1;have:=h.lt;omega)).trans hs
theorem yf9 {β:Type} (B:Nat) (w:World):OwnFrom B (fun (_:β) W=>Kp w W):=fun _ X Y row hs hg hr b cs fr hb=>by
 have h:=hs b cs fr hb
 refine (hg.block b (zg0 h) (fun e=>?_)).trans h
 obtain ⟨_,o,ho,hc⟩:=hr b e.symm
 rw [h] at ho;cases ho;cases hc
section
variable {P:Program} {ops:Array Oper} {Q:Exit→Act→World→Prop}
def zF9 (ops:Array Oper) (listed:Array Bool) (i:Nat):Bool:=
 decide (i<ops.size)&&(!listed.getD i true&&((ops[i]?).map (·.after.all fun e=>!Region.binds .any e||listed.getD e.on false)).getD false)
theorem zv5 (ops:Array Oper) (listed:Array Bool) (i:Nat):(Region.ready .any ops listed).contains i=zF9 ops listed i:=by
 rw [Bool.eq_iff_iff,List.contains_iff_mem]
 unfold Region.ready zF9
 rw [List.mem_filter,List.mem_range,Bool.and_eq_true (decide _),decide_eq_true_eq]
def zq3 (ops:Array Oper) (fl:List Fl) (tl:List (Bool × Nat)):List (Bool × Nat)→Array Bool→Bool
 | [],listed=>zu2 ops tl (setFl listed fl)&&
   fl.all fun f=>zF9 ops listed f.op&&decide (Region.ready .any ops (setFl listed (fl.filter (·.op !=f.op)))=[f.op])
 | (true,i)::rest,listed=>zF9 ops listed i&&Region.free .any ops listed i&&zq3 ops fl tl rest (listed.setIfInBounds i true)
 | (false,i)::rest,listed=>zF9 ops listed i&&decide (Region.ready .any ops (setFl listed fl)=[i])&&zq3 ops fl tl rest (listed.setIfInBounds i true)
theorem zG0 (fl:List Fl) (tl:List (Bool × Nat)):∀ (l:List (Bool × Nat)) (listed:Array Bool),zv7 ops fl tl l listed=zq3 ops fl tl l listed
 | [],listed=>by simp only [zv7,zq3,zv5]
 | (true,i)::rest,listed=>by simp only [zv7,zq3,zv5,zG0 fl tl rest]
 | (false,i)::rest,listed=>by simp only [zv7,zq3,zv5,zG0 fl tl rest]
theorem zL5 {id:Nat} {a:Act} {w:World} (S:World→Prop) (l:List (Bool × Nat)) (fl:List Fl) (tl:List (Bool × Nat)) (hm:P.follows .mixedOrders=true) (hs:Region.noSelect ops=true)
  (hok:zq3 ops fl tl l (Array.replicate ops.size false)=true) (hap:okAp ops fl l=true) (hal:okAl ops fl=true) (hl:l.length+fl.length+tl.length≤ops.size)
  (hQ:∀ c (a:Act) (d:Tmp) v w,Q (.panic c) (a.put (some d) v) w→Q (.panic c) a w) (hQ':∀ c (a:Act) (d:Tmp) v w,Q (.panic c) a w→Q (.panic c) (a.put (some d) v) w) (hSa:∀ w o,S w→S (w.alloc o)) (hS:S w.drew)
  (hz:∀ f ∈ fl,∀ w,(Instr.alloc f.ty true (.tuple #[])).run P w=.ok (.pointer (some ⟨w.heap.size,0,none⟩)) (w.alloc (.cells f.zero f.ty)))
  (h:zm1 P ops Q S (zU8 P ops Q S w.heap.size fl tl) l a w.drew):(Code.region id ops true).wp P Q a w:=
 zv8 S l fl tl hm hs (by rw [zG0];exact hok) hap hal hl hQ hQ' hSa hS hz h
end
section
variable {P:Program} {ops:Array Oper} {Q:Exit→Act→World→Prop}
def Agree (n:Nat) (listed:Array Bool) (m:Nat):Prop:=listed.size=n∧∀ i,listed.getD i false=m.testBit i
theorem Agree.t {n:Nat} {listed:Array Bool} {m i:Nat} (h:Agree n listed m) (hi:i<n):listed.getD i true=m.testBit i:=by
 rw [← h.2 i]
 have:i<listed.size:=by rw [h.1];exact hi
 simp [Array.getD,this]
theorem Agree.zero (n:Nat):Agree n (Array.replicate n false) 0:=⟨by simp,fun i=>by simp [Array.getD]⟩
theorem Agree.set {n:Nat} {listed:Array Bool} {m i:Nat} (h:Agree n listed m) (hi:i<n):Agree n (listed.setIfInBounds i true) (m|||2 ^ i):=by
 refine ⟨by simp [h.1],fun j=>?_⟩
 rw [Nat.testBit_or,Nat.testBit_two_pow,← h.2 j]
 have hs:i<listed.size:=by rw [h.1];exact hi
 by_cases e:i=j
 ·subst e;simp [Array.getD,hs]
 ·simp [Array.getD_eq_getD_getElem?,Array.getElem?_setIfInBounds_ne e,e]
def yq4 (m:Nat) (o:Oper):Bool:=o.after.all fun e=>!Region.binds .any e||m.testBit e.on
def zv6:List Oper→Nat→Nat→List Nat
 | [],_,_=>[]
 | o::r,k,m=>if !m.testBit k&&yq4 m o then k::zv6 r (k+1) m else zv6 r (k+1) m
def freeM (ops:Array Oper) (oi:Oper) (i m:Nat):List Oper→Nat→Bool
 | [],_=>true
 | oj::r,k=>(k==i||m.testBit k||(oj.after.any (fun e=>Region.binds .any e&&e.on==i)||oi.apart ops oj))&&freeM ops oi i m r (k+1)
def zq4 (ops:Array Oper) (m i:Nat):Bool:=match ops[i]? with | some o=>!m.testBit i&&yq4 m o | none=>false
theorem zs4 {listed:Array Bool} {m:Nat} (h:Agree ops.size listed m) (i:Nat):zF9 ops listed i=zq4 ops m i:=by
 unfold zF9 zq4 yq4
 by_cases hi:i<ops.size
 ·rw [decide_eq_true hi,Bool.true_and,Array.getElem?_eq_getElem hi]
  simp only [Option.map_some,Option.getD_some,h.t hi,h.2]
 ·rw [decide_eq_false hi,Bool.false_and,Array.getElem?_eq_none (by omega)]
theorem zq5 {listed:Array Bool} {m:Nat} (h:Agree ops.size listed m):Region.ready .any ops listed=zv6 ops.toList 0 m:=by
 have go:∀ (r:List Oper) (k:Nat),ops.toList.drop k=r→k+r.length=ops.size→(List.range' k r.length).filter (fun i=>!listed.getD i true&&((ops[i]?).map (·.after.all fun e=>!Region.binds .any e||listed.getD e.on false)).getD false)=zv6 r k m:=by
  intro r
  induction r with
  | nil=>intro k _ _;rfl
  | cons o r ih=>
   intro k hd hk
   simp only [List.length_cons] at hk
   have hk':k<ops.size:=by omega
   have ho:ops[k]?=some o:=by
    have:ops.toList[k]?=some o:=by
     have:=congrArg List.head? hd
     rw [List.head?_drop] at this
     simpa using this
    simpa using this
   have hd':ops.toList.drop (k+1)=r:=by
    have:=congrArg List.tail hd
    rw [List.tail_drop] at this
    simpa using this
   rw [List.length_cons,List.range'_succ,List.filter_cons,ih (k+1) hd' (by omega)]
   simp only [ho,Option.map_some,Option.getD_some,h.t hk',h.2]
   rfl
 unfold Region.ready
 have:=go ops.toList 0 rfl (by simp)
 rw [List.range_eq_range']
 simpa using this
theorem freeM_eq {listed:Array Bool} {m i:Nat} {oi:Oper} (h:Agree ops.size listed m) (hi:ops[i]?=some oi):Region.free .any ops listed i=freeM ops oi i m ops.toList 0:=by
 have go:∀ (r:List Oper) (k:Nat),ops.toList.drop k=r→k+r.length=ops.size→((List.range' k r.length).all fun j=>j==i||listed.getD j true||match ops[j]? with
   | some oj=>oj.after.any (fun e=>Region.binds .any e&&e.on==i)||oi.apart ops oj
   | none=>true)=freeM ops oi i m r k:=by
  intro r
  induction r with
  | nil=>intro k _ _;rfl
  | cons o r ih=>
   intro k hd hk
   simp only [List.length_cons] at hk
   have hk':k<ops.size:=by omega
   have ho:ops[k]?=some o:=by
    have:ops.toList[k]?=some o:=by
     have:=congrArg List.head? hd
     rw [List.head?_drop] at this
     simpa using this
    simpa using this
   have hd':ops.toList.drop (k+1)=r:=by
    have:=congrArg List.tail hd
    rw [List.tail_drop] at this
    simpa using this
   rw [List.length_cons,List.range'_succ,List.all_cons,ih (k+1) hd' (by omega)]
   simp only [ho,h.t hk']
   rfl
 unfold Region.free
 have:=go ops.toList 0 rfl (by simp)
 rw [Array.length_toList] at this
 simp only [hi]
 rw [List.range_eq_range']
 exact this
def yg0 (ops:Array Oper) (m i:Nat):Bool:=match ops[i]? with | some o=>freeM ops o i m ops.toList 0 | none=>false
theorem zU6 {listed:Array Bool} {m:Nat} (h:Agree ops.size listed m) (i:Nat):Region.free .any ops listed i=yg0 ops m i:=by
 unfold yg0
 cases hi:ops[i]? with
 | none=>unfold Region.free;rw [hi]
 | some o=>exact freeM_eq h hi
def zM3 (ops:Array Oper):List (Bool × Nat)→Nat→Bool
 | [],m=>(zv6 ops.toList 0 m).isEmpty
 | (true,i)::rest,m=>zq4 ops m i&&yg0 ops m i&&zM3 ops rest (m|||2 ^ i)
 | (false,i)::rest,m=>decide (zv6 ops.toList 0 m=[i])&&zM3 ops rest (m|||2 ^ i)
theorem zz8 {m i:Nat} (h:zq4 ops m i=true):i<ops.size:=by
 unfold zq4 at h
 split at h
 ·next o ho=>exact (Array.getElem?_eq_some_iff.1 ho).1
 ·cases h
theorem yq5 {listed:Array Bool} {m i:Nat} (h:Agree ops.size listed m) (hr:zv6 ops.toList 0 m=[i]):i<ops.size:=by
 rw [← zq5 h] at hr
 have:i ∈ Region.ready .any ops listed:=by rw [hr];simp
 unfold Region.ready at this
 exact List.mem_range.1 (List.mem_filter.1 this).1
theorem zG1:∀ (l:List (Bool × Nat)) (listed:Array Bool) (m:Nat),Agree ops.size listed m→zM3 ops l m=true→zu2 ops l listed=true
 | [],listed,m,h,ho=>by rw [zu2,zq5 h];exact ho
 | (true,i)::rest,listed,m,h,ho=>by
  simp only [zM3,Bool.and_eq_true] at ho
  have hi:=zz8 ho.1.1
  rw [zu2,zv5,zs4 h,zU6 h,ho.1.1,ho.1.2,zG1 rest _ _ (h.set hi) ho.2];rfl
 | (false,i)::rest,listed,m,h,ho=>by
  simp only [zM3,Bool.and_eq_true,decide_eq_true_eq] at ho
  have hi:=yq5 h ho.1
  rw [zu2,zq5 h,decide_eq_true ho.1,zG1 rest _ _ (h.set hi) ho.2];rfl
def setM (m:Nat) (fl:List Fl):Nat:=fl.foldl (fun m f=>m|||2 ^ f.op) m
theorem Agree.setFl:∀ (fl:List Fl) {n:Nat} {listed:Array Bool} {m:Nat},Agree n listed m→(∀ f ∈ fl,f.op<n)→Agree n (Go.Proofs.YtaldbfflkpgfoaaGreatDoor.setFl listed fl) (setM m fl)
 | [],_,_,_,h,_=>h
 | f::fl,n,listed,m,h,hf=>Agree.setFl fl (h.set (hf f (by simp))) (fun g hg=>hf g (by simp [hg]))
def zG2 (ops:Array Oper) (fl:List Fl) (tl:List (Bool × Nat)):List (Bool × Nat)→Nat→Bool
 | [],m=>zM3 ops tl (setM m fl)&&
   fl.all fun f=>zq4 ops m f.op&&decide (zv6 ops.toList 0 (setM m (fl.filter (·.op !=f.op)))=[f.op])
 | (true,i)::rest,m=>zq4 ops m i&&yg0 ops m i&&zG2 ops fl tl rest (m|||2 ^ i)
 | (false,i)::rest,m=>zq4 ops m i&&decide (zv6 ops.toList 0 (setM m fl)=[i])&&zG2 ops fl tl rest (m|||2 ^ i)
theorem zG3 (fl:List Fl) (tl:List (Bool × Nat)) (hfl:∀ f ∈ fl,f.op<ops.size):∀ (l:List (Bool × Nat)) (listed:Array Bool) (m:Nat),Agree ops.size listed m→zG2 ops fl tl l m=true→zq3 ops fl tl l listed=true
 | [],listed,m,h,ho=>by
  simp only [zG2,Bool.and_eq_true,List.all_eq_true] at ho
  simp only [zq3,Bool.and_eq_true,List.all_eq_true]
  refine ⟨zG1 tl _ _ (Agree.setFl fl h hfl) ho.1,fun f hf=>?_⟩
  have hs:=Agree.setFl (fl.filter (·.op !=f.op)) h (fun g hg=>hfl g (List.mem_filter.1 hg).1)
  rw [zs4 h,zq5 hs]
  exact ho.2 f hf
 | (true,i)::rest,listed,m,h,ho=>by
  simp only [zG2,Bool.and_eq_true] at ho
  have hi:=zz8 ho.1.1
  rw [zq3,zs4 h,zU6 h,ho.1.1,ho.1.2,zG3 fl tl hfl rest _ _ (h.set hi) ho.2];rfl
 | (false,i)::rest,listed,m,h,ho=>by
  simp only [zG2,Bool.and_eq_true,decide_eq_true_eq] at ho
  have hi:=zz8 ho.1.1
  rw [zq3,zs4 h,zq5 (Agree.setFl fl h hfl),ho.1.1,decide_eq_true ho.1.2,zG3 fl tl hfl rest _ _ (h.set hi) ho.2];rfl
theorem zL6 {id:Nat} {a:Act} {w:World} (S:World→Prop) (l:List (Bool × Nat)) (fl:List Fl) (tl:List (Bool × Nat)) (hm:P.follows .mixedOrders=true) (hs:Region.noSelect ops=true)
  (hok:(zG2 ops fl tl l 0&&fl.all fun f=>decide (f.op<ops.size))=true) (hap:okAp ops fl l=true) (hal:okAl ops fl=true) (hl:l.length+fl.length+tl.length≤ops.size)
  (hQ:∀ c (a:Act) (d:Tmp) v w,Q (.panic c) (a.put (some d) v) w→Q (.panic c) a w) (hQ':∀ c (a:Act) (d:Tmp) v w,Q (.panic c) a w→Q (.panic c) (a.put (some d) v) w) (hSa:∀ w o,S w→S (w.alloc o)) (hS:S w.drew)
  (hz:∀ f ∈ fl,∀ w,(Instr.alloc f.ty true (.tuple #[])).run P w=.ok (.pointer (some ⟨w.heap.size,0,none⟩)) (w.alloc (.cells f.zero f.ty)))
  (h:zm1 P ops Q S (zU8 P ops Q S w.heap.size fl tl) l a w.drew):(Code.region id ops true).wp P Q a w:=by
 rw [Bool.and_eq_true,List.all_eq_true] at hok
 exact zL5 S l fl tl hm hs (zG3 fl tl (fun f hf=>of_decide_eq_true (hok.2 f hf)) l _ 0 (Agree.zero _) hok.1) hap hal hl hQ hQ' hSa hS hz h
end
set_option maxRecDepth 100000 in
set_option maxHeartbeats 1000000 in
theorem ments {c0 c1 c2 c3 c4 c5 c6 c7 c8 c9 aP aG aO au ar aQ ay aF ap aw aJ ad af ak ab ah aC al aB az aR aM ax aN aa aA aj aI aL aq ai aK ae ac aD aH av aE:Value} (w:World) (_o0:c0.oneCell'=true) (_o1:c1.oneCell'=true) (_o2:c2.oneCell'=true) (_o3:c3.oneCell'=true) (_o4:c4.oneCell'=true) (_o5:c5.oneCell'=true) (_o6:c6.oneCell'=true) (_o7:c7.oneCell'=true) (_o8:c8.oneCell'=true) (_o9:c9.oneCell'=true) (_o10:aP.oneCell'=true) (_o11:aG.oneCell'=true) (_o12:aO.oneCell'=true) (_o13:au.oneCell'=true) (_o14:ar.oneCell'=true) (_o15:aQ.oneCell'=true) (_o16:ay.oneCell'=true) (_o17:aF.oneCell'=true) (_o18:ap.oneCell'=true) (_o19:aw.oneCell'=true) (_o20:aJ.oneCell'=true) (_o21:ad.oneCell'=true) (_o22:af.oneCell'=true) (_o23:ak.oneCell'=true) (_o24:ab.oneCell'=true) (_o25:ah.oneCell'=true) (_o26:aC.oneCell'=true) (_o27:al.oneCell'=true) (_o28:aB.oneCell'=true) (_o29:az.oneCell'=true) (_o30:aR.oneCell'=true) (_o31:aM.oneCell'=true) (_o32:ax.oneCell'=true) (_o33:aN.oneCell'=true) (_o34:aa.oneCell'=true) (_o35:aA.oneCell'=true) (_o36:aj.oneCell'=true) (_o37:aI.oneCell'=true) (_o38:aL.oneCell'=true) (_o39:aq.oneCell'=true) (_o40:ai.oneCell'=true) (_o41:aK.oneCell'=true) (_o42:ae.oneCell'=true) (_o43:ac.oneCell'=true) (_o44:aD.oneCell'=true) (_o45:aH.oneCell'=true) (_o46:av.oneCell'=true) (_o47:aE.oneCell'=true):
    Calls Tryz.prog 61 #[(.agg #[c0,c1,c2,c3,c4,c5,c6,c7,c8,c9,aP,aG,aO,au,ar,aQ,ay,aF,ap,aw,aJ,ad,af,ak,ab,ah,aC,al,aB,az,aR,aM,ax,aN,aa,aA,aj,aI,aL,aq,ai,aK,ae,ac,aD,aH,av,aE])] w fun e w'=>(∃ bm,e=.returned (.func (.func 98) #[] #[.pointer (some ⟨bm,0,none⟩)])∧Lc w' bm #[c0,c1,c2,c3,c4,c5,c6,c7,c8,c9,aP,aG,aO,au,ar,aQ,ay,aF,ap,aw,aJ,ad,af,ak,ab,ah,aC,al,aB,az,aR,aM,ax,aN,aa,aA,aj,aI,aL,aq,ai,aK,ae,ac,aD,aH,av,aE] 41)∧Gr w w':=by
 go_enter Tryz.func61,Tryz.ntmps61
 have hB:=Gr.refl w
 refine wp_seq_k (fun K1 k1=>?_)
 refine rg [0,1] ?_
 refine se ?_
 refine eb 41 #[c0,c1,c2,c3,c4,c5,c6,c7,c8,c9,aP,aG,aO,au,ar,aQ,ay,aF,ap,aw,aJ,ad,af,ak,ab,ah,aC,al,aB,az,aR,aM,ax,aN,aa,aA,aj,aI,aL,aq,ai,aK,ae,ac,aD,aH,av,aE] 1 hB fun b2 w2 g2 L2 o2 q2 hB=>?_
 simp only [p3,p4]
 refine sv 2 .nilFunc ?_
 refine za0 ?_
 refine k1 _ _ ?_
 try clear k1 K1
 refine wp_seq_k (fun K3 k3=>?_)
 refine rg [0,1] ?_
 refine sv 3 (.func (.func 98) #[] #[(.pointer (some ⟨b2,0,none⟩))]) ?_
 refine sv 2 (.func (.func 98) #[] #[(.pointer (some ⟨b2,0,none⟩))]) ?_
 refine za0 ?_
 refine k3 _ _ ?_
 try clear k3 K3
 refine wp_ret ?_
 refine bodyPost_ret (v:=(.func (.func 98) #[] #[(.pointer (some ⟨b2,0,none⟩))])) (zb0 rfl rfl) rfl ⟨?_,hB⟩
 exact ⟨_,rfl,L2⟩

theorem rcmp12 {xs ys:List Rat} (hx:xs.length=12) (hy:ys.length=12):(∀ j ∈ all12,yo1 (xs.getD j.val 0) (ys.getD j.val 0)=0)↔xs=ys:=by
 constructor
 ·intro h
  apply List.ext_getElem?
  intro i
  by_cases hi:i<12
  ·have:=zW9.1 (h ⟨i,hi⟩ (zJ4 _))
   simp only [List.getD_eq_getElem?_getD,List.getElem?_eq_getElem (show i<xs.length by omega),List.getElem?_eq_getElem (show i<ys.length by omega),Option.getD_some] at this
   rw [List.getElem?_eq_getElem (show i<xs.length by omega),List.getElem?_eq_getElem (show i<ys.length by omega),this]
  ·rw [List.getElem?_eq_none (by omega),List.getElem?_eq_none (by omega)]
 ·rintro rfl j _
  exact zW9.2 rfl
set_option maxRecDepth 100000 in
set_option maxHeartbeats 4000000 in
theorem mequal {k m:Nat} {bL bp bm bQ bt bU a9 bJ bu bw bS bd bR bn a7 a6 bG a8 bk bH bE bv bF bj bO bh bo bg bM bN a5 bb bc a2 a3 bC bi bP ba bT bx bA bf bD bK bq a4 bz:Value} {cD cP cQ cJ cS cO cX cB cY cN cG cL:Rat} {aB al aV ae aK aG aA aN ac ar a0 aD aR aw aq ap ad az aM ab av aX aY aW aO aU aE aL aF aJ af aj au ah aT ak aZ a1 aa aC aQ aP ai ay aH aS aI ax:Value} {cZ cH cT cF cK cM cW cE cR cV cU cC:Rat} {w:World} (ck:IsRat w k bL bp bm bQ cD) (b5:IsRat w k bt bU a9 bJ cP) (cm:IsRat w k bu bw bS bd cQ) (ce:IsRat w k bR bn a7 a6 cJ) (cj:IsRat w k bG a8 bk bH cS) (cl:IsRat w k bE bv bF bj cO) (co:IsRat w k bO bh bo bg cX) (cd:IsRat w k bM bN a5 bb cB) (cu:IsRat w k bc a2 a3 bC cY) (cq:IsRat w k bi bP ba bT cN) (bX:IsRat w k bx bA bf bD cG) (b9:IsRat w k bK bq a4 bz cL) (bV:IsRat w m aB al aV ae cZ) (b7:IsRat w m aK aG aA aN cH) (ch:IsRat w m ac ar a0 aD cT) (cg:IsRat w m aR aw aq ap cF) (bW:IsRat w m ad az aM ab cK) (bY:IsRat w m av aX aY aW cM) (cn:IsRat w m aO aU aE aL cW) (ct:IsRat w m aF aJ af aj cE) (ca:IsRat w m au ah aT ak cR) (bZ:IsRat w m aZ a1 aa aC cV) (b8:IsRat w m aQ aP ai ay cU) (cc:IsRat w m aH aS aI ax cC) (_hk:k+m≤90000):
    Calls Tryz.prog 16 #[(.agg #[bL,bp,bm,bQ,bt,bU,a9,bJ,bu,bw,bS,bd,bR,bn,a7,a6,bG,a8,bk,bH,bE,bv,bF,bj,bO,bh,bo,bg,bM,bN,a5,bb,bc,a2,a3,bC,bi,bP,ba,bT,bx,bA,bf,bD,bK,bq,a4,bz]),(.agg #[aB,al,aV,ae,aK,aG,aA,aN,ac,ar,a0,aD,aR,aw,aq,ap,ad,az,aM,ab,av,aX,aY,aW,aO,aU,aE,aL,aF,aJ,af,aj,au,ah,aT,ak,aZ,a1,aa,aC,aQ,aP,ai,ay,aH,aS,aI,ax])] w fun e w'=>e=.returned (.bool (decide ([cD,cP,cQ,cJ,cS,cO,cX,cB,cY,cN,cG,cL]=[cZ,cH,cT,cF,cK,cM,cW,cE,cR,cV,cU,cC])))∧Gr w w':=by
 have hmaone:One1 [bL,bp,bm,bQ,bt,bU,a9,bJ,bu,bw,bS,bd,bR,bn,a7,a6,bG,a8,bk,bH,bE,bv,bF,bj,bO,bh,bo,bg,bM,bN,a5,bb,bc,a2,a3,bC,bi,bP,ba,bT,bx,bA,bf,bD,bK,bq,a4,bz]:=⟨ck.one0,ck.one1,ck.one2,ck.one3,b5.one0,b5.one1,b5.one2,b5.one3,cm.one0,cm.one1,cm.one2,cm.one3,ce.one0,ce.one1,ce.one2,ce.one3,cj.one0,cj.one1,cj.one2,cj.one3,cl.one0,cl.one1,cl.one2,cl.one3,co.one0,co.one1,co.one2,co.one3,cd.one0,cd.one1,cd.one2,cd.one3,cu.one0,cu.one1,cu.one2,cu.one3,cq.one0,cq.one1,cq.one2,cq.one3,bX.one0,bX.one1,bX.one2,bX.one3,b9.one0,b9.one1,b9.one2,b9.one3,trivial⟩
 have hmbone:One1 [aB,al,aV,ae,aK,aG,aA,aN,ac,ar,a0,aD,aR,aw,aq,ap,ad,az,aM,ab,av,aX,aY,aW,aO,aU,aE,aL,aF,aJ,af,aj,au,ah,aT,ak,aZ,a1,aa,aC,aQ,aP,ai,ay,aH,aS,aI,ax]:=⟨bV.one0,bV.one1,bV.one2,bV.one3,b7.one0,b7.one1,b7.one2,b7.one3,ch.one0,ch.one1,ch.one2,ch.one3,cg.one0,cg.one1,cg.one2,cg.one3,bW.one0,bW.one1,bW.one2,bW.one3,bY.one0,bY.one1,bY.one2,bY.one3,cn.one0,cn.one1,cn.one2,cn.one3,ct.one0,ct.one1,ct.one2,ct.one3,ca.one0,ca.one1,ca.one2,ca.one3,bZ.one0,bZ.one1,bZ.one2,bZ.one3,b8.one0,b8.one1,b8.one2,b8.one3,cc.one0,cc.one1,cc.one2,cc.one3,trivial⟩
 have qa:∀ j:Fin 12,IsRat w k ([bL,bp,bm,bQ,bt,bU,a9,bJ,bu,bw,bS,bd,bR,bn,a7,a6,bG,a8,bk,bH,bE,bv,bF,bj,bO,bh,bo,bg,bM,bN,a5,bb,bc,a2,a3,bC,bi,bP,ba,bT,bx,bA,bf,bD,bK,bq,a4,bz].getD (4*j.val) undef) ([bL,bp,bm,bQ,bt,bU,a9,bJ,bu,bw,bS,bd,bR,bn,a7,a6,bG,a8,bk,bH,bE,bv,bF,bj,bO,bh,bo,bg,bM,bN,a5,bb,bc,a2,a3,bC,bi,bP,ba,bT,bx,bA,bf,bD,bK,bq,a4,bz].getD (4*j.val+1) undef) ([bL,bp,bm,bQ,bt,bU,a9,bJ,bu,bw,bS,bd,bR,bn,a7,a6,bG,a8,bk,bH,bE,bv,bF,bj,bO,bh,bo,bg,bM,bN,a5,bb,bc,a2,a3,bC,bi,bP,ba,bT,bx,bA,bf,bD,bK,bq,a4,bz].getD (4*j.val+2) undef) ([bL,bp,bm,bQ,bt,bU,a9,bJ,bu,bw,bS,bd,bR,bn,a7,a6,bG,a8,bk,bH,bE,bv,bF,bj,bO,bh,bo,bg,bM,bN,a5,bb,bc,a2,a3,bC,bi,bP,ba,bT,bx,bA,bf,bD,bK,bq,a4,bz].getD (4*j.val+3) undef) ([cD,cP,cQ,cJ,cS,cO,cX,cB,cY,cN,cG,cL].getD j.val 0):=fin12 ck b5 cm ce cj cl co cd cu cq bX b9
 have qb:∀ j:Fin 12,IsRat w m ([aB,al,aV,ae,aK,aG,aA,aN,ac,ar,a0,aD,aR,aw,aq,ap,ad,az,aM,ab,av,aX,aY,aW,aO,aU,aE,aL,aF,aJ,af,aj,au,ah,aT,ak,aZ,a1,aa,aC,aQ,aP,ai,ay,aH,aS,aI,ax].getD (4*j.val) undef) ([aB,al,aV,ae,aK,aG,aA,aN,ac,ar,a0,aD,aR,aw,aq,ap,ad,az,aM,ab,av,aX,aY,aW,aO,aU,aE,aL,aF,aJ,af,aj,au,ah,aT,ak,aZ,a1,aa,aC,aQ,aP,ai,ay,aH,aS,aI,ax].getD (4*j.val+1) undef) ([aB,al,aV,ae,aK,aG,aA,aN,ac,ar,a0,aD,aR,aw,aq,ap,ad,az,aM,ab,av,aX,aY,aW,aO,aU,aE,aL,aF,aJ,af,aj,au,ah,aT,ak,aZ,a1,aa,aC,aQ,aP,ai,ay,aH,aS,aI,ax].getD (4*j.val+2) undef) ([aB,al,aV,ae,aK,aG,aA,aN,ac,ar,a0,aD,aR,aw,aq,ap,ad,az,aM,ab,av,aX,aY,aW,aO,aU,aE,aL,aF,aJ,af,aj,au,ah,aT,ak,aZ,a1,aa,aC,aQ,aP,ai,ay,aH,aS,aI,ax].getD (4*j.val+3) undef) ([cZ,cH,cT,cF,cK,cM,cW,cE,cR,cV,cU,cC].getD j.val 0):=fin12 bV b7 ch cg bW bY cn ct ca bZ b8 cc
 refine enterN Tryz.func16 rfl ?_
 simp only [Tryz.ntmps16,List.size_toArray,List.length_cons,List.length_nil,Nat.reduceAdd,Nat.reduceSub,Array.replicate_succ,Array.replicate_zero,List.push_toArray,List.append_toArray,List.nil_append,List.cons_append]
 have hB:=Gr.refl w
 refine wp_seq_k (fun K1 k1=>?_)
 refine rg [0,1,2] ?_
 refine se ?_
 refine eb 41 #[bL,bp,bm,bQ,bt,bU,a9,bJ,bu,bw,bS,bd,bR,bn,a7,a6,bG,a8,bk,bH,bE,bv,bF,bj,bO,bh,bo,bg,bM,bN,a5,bb,bc,a2,a3,bC,bi,bP,ba,bT,bx,bA,bf,bD,bK,bq,a4,bz] 2 hB fun b2 w2 g2 L2 o2 q2 hB=>?_
 simp only [p3,p4]
 refine se ?_
 refine eb 41 #[aB,al,aV,ae,aK,aG,aA,aN,ac,ar,a0,aD,aR,aw,aq,ap,ad,az,aM,ab,av,aX,aY,aW,aO,aU,aE,aL,aF,aJ,af,aj,au,ah,aT,ak,aZ,a1,aa,aC,aQ,aP,ai,ay,aH,aS,aI,ax] 3 hB fun b3 w3 g3 L3 o3 q3 hB=>?_
 simp only [p3,p4]
 refine se ?_
 refine zJ5 4 (.bool false) #[.bool false] (some 4) rfl rfl (by kernel_rfl) rfl (fun b4 w4 g4 L4 q4=>?_)
 replace L2:=L2.gr g3
 have dm:=L2.ne q4
 replace q4:=Nat.le_trans (Below.size hB) q4
 replace hB:=hB.trans g4
 simp only [zL2,p3,p4]
 refine za0 ?_
 refine k1 _ _ ?_
 try clear k1 K1
 refine wp_seq_k (fun K5 k5=>?_)
 refine rg [0] ?_
 refine se ?_
 refine ea 116 #[.bool false,.slice none 0 0,.bool false,.slice none 0 0,.bool false,.slice none 0 0,.bool false,.slice none 0 0,.bool false,.slice none 0 0,.bool false,.slice none 0 0,.bool false,.slice none 0 0,.bool false,.slice none 0 0,.bool false,.slice none 0 0,.bool false,.slice none 0 0,.bool false,.slice none 0 0,.bool false,.slice none 0 0,.bool false,.slice none 0 0,.bool false,.slice none 0 0,.bool false,.slice none 0 0,.bool false,.slice none 0 0,.bool false,.slice none 0 0,.bool false,.slice none 0 0,.bool false,.slice none 0 0,.bool false,.slice none 0 0,.bool false,.slice none 0 0,.bool false,.slice none 0 0,.bool false,.slice none 0 0,.bool false,.slice none 0 0] 5 hB fun b6 w6 g6 L6 o6 q6 hB=>?_
 replace L2:=L2.gr g4
 have df:=L2.ne o6
 replace L3:=L3.gr g4
 have dj:=L3.ne o6
 have c7:=L4.ne o6
 simp only [p3,p4]
 refine za0 ?_
 refine k5 _ _ ?_
 try clear k5 K5
 refine wp_seq_k (fun K7 k7=>?_)
 refine wp_seq_k (fun K8 k8=>?_)
 refine rg [0,1] ?_
 replace L3:=L3.gr g6
 refine sw 10 (.agg #[aB,al,aV,ae,aK,aG,aA,aN,ac,ar,a0,aD,aR,aw,aq,ap,ad,az,aM,ab,av,aX,aY,aW,aO,aU,aE,aL,aF,aJ,af,aj,au,ah,aT,ak,aZ,a1,aa,aC,aQ,aP,ai,ay,aH,aS,aI,ax]) rfl (rl 41 0 [aB,al,aV,ae,aK,aG,aA,aN,ac,ar,a0,aD,aR,aw,aq,ap,ad,az,aM,ab,av,aX,aY,aW,aO,aU,aE,aL,aF,aJ,af,aj,au,ah,aT,ak,aZ,a1,aa,aC,aQ,aP,ai,ay,aH,aS,aI,ax] L3) ?_
 refine se ?_
 refine ec 11 (ments _ bV.one0 bV.one1 bV.one2 bV.one3 b7.one0 b7.one1 b7.one2 b7.one3 ch.one0 ch.one1 ch.one2 ch.one3 cg.one0 cg.one1 cg.one2 cg.one3 bW.one0 bW.one1 bW.one2 bW.one3 bY.one0 bY.one1 bY.one2 bY.one3 cn.one0 cn.one1 cn.one2 cn.one3 ct.one0 ct.one1 ct.one2 ct.one3 ca.one0 ca.one1 ca.one2 ca.one3 bZ.one0 bZ.one1 bZ.one2 bZ.one3 b8.one0 b8.one1 b8.one2 b8.one3 cc.one0 cc.one1 cc.one2 cc.one3) ?_
 rintro e9 w9 ⟨⟨dK,rfl,dx⟩,g9⟩
 refine ⟨_,rfl,?_⟩
 replace hB:=hB.trans g9
 simp only [p3,p4]
 refine za0 ?_
 refine k8 _ _ ?_
 try clear k8 K8
 refine wp_block ?_
 replace L2:=L2.gr (g6.trans g9)
 replace L3:=L3.gr g9
 replace L4:=L4.gr (g6.trans g9)
 replace L6:=L6.gr g9
 refine yz0 (Ds:=[]) (d1:=6) (d2:=7) (zG9 _ dK aB al aV ae aK aG aA aN ac ar a0 aD aR aw aq ap ad az aM ab av aX aY aW aO aU aE aL aF aJ af aj au ah aT ak aZ a1 aa aC aQ aP ai ay aH aS aI ax bV.one0 bV.one1 bV.one2 bV.one3 b7.one0 b7.one1 b7.one2 b7.one3 ch.one0 ch.one1 ch.one2 ch.one3 cg.one0 cg.one1 cg.one2 cg.one3 bW.one0 bW.one1 bW.one2 bW.one3 bY.one0 bY.one1 bY.one2 bY.one3 cn.one0 cn.one1 cn.one2 cn.one3 ct.one0 ct.one1 ct.one2 ct.one3 ca.one0 ca.one1 ca.one2 ca.one3 bZ.one0 bZ.one1 bZ.one2 bZ.one3 b8.one0 b8.one1 b8.one2 b8.one3 cc.one0 cc.one1 cc.one2 cc.one3 _ dx) (fun prs W'=>Gr w W'∧Kp w9 W'∧Lc W' b2 #[bL,bp,bm,bQ,bt,bU,a9,bJ,bu,bw,bS,bd,bR,bn,a7,a6,bG,a8,bk,bH,bE,bv,bF,bj,bO,bh,bo,bg,bM,bN,a5,bb,bc,a2,a3,bC,bi,bP,ba,bT,bx,bA,bf,bD,bK,bq,a4,bz] 41∧Lc W' b3 #[aB,al,aV,ae,aK,aG,aA,aN,ac,ar,a0,aD,aR,aw,aq,ap,ad,az,aM,ab,av,aX,aY,aW,aO,aU,aE,aL,aF,aJ,af,aj,au,ah,aT,ak,aZ,a1,aa,aC,aQ,aP,ai,ay,aH,aS,aI,ax] 41∧Lc W' b4 #[.bool false] 4∧∃ xs,Fills 12 [aB,al,aV,ae,aK,aG,aA,aN,ac,ar,a0,aD,aR,aw,aq,ap,ad,az,aM,ab,av,aX,aY,aW,aO,aU,aE,aL,aF,aJ,af,aj,au,ah,aT,ak,aZ,a1,aa,aC,aQ,aP,ai,ay,aH,aS,aI,ax] prs xs∧Lc W' b6 xs.toArray 116) (fun _ _ _=>False) ((yj6 hB.size).and ((yf9 _ _).and ((zk7 _ _ _ _).and ((zk7 _ _ _ _).and ((zk7 _ _ _ _).and (yy8 fun xs=>(ownFrom_pure _ _).and (zk7 _ _ _ _))))))) (fun _ _ _ _ _ h _ _=>h) ⟨hB,Kp.refl _,L2,L3,L4,⟨_,⟨rfl,zP6 (by decide),fun _ h=>absurd h (by simp)⟩,L6⟩⟩ ?_ ?_ ?_ ?_ rfl (enters_of Tryz.func98 (by kernel_rfl) rfl)
 ·intro ll kk W K hK
  try simp only [p3,p4]
  refine wpIn_seq_k (fun K1 k1=>?_)
  refine rgI (zd8 ll) [0] ?_
  refine sv 6 (.int .i64 (kk.val:Int)) ?_
  try simp only [p3,p4]
  refine za0 ?_
  refine k1 _ _ ?_
  refine rgY [0,1] ?_
  refine zm8 (zd8 ll) 7 36 (.agg #[.bool false,.slice none 0 0,.bool false,.slice none 0 0]) (ent [aB,al,aV,ae,aK,aG,aA,aN,ac,ar,a0,aD,aR,aw,aq,ap,ad,az,aM,ab,av,aX,aY,aW,aO,aU,aE,aL,aF,aJ,af,aj,au,ah,aT,ak,aZ,a1,aa,aC,aQ,aP,ai,ay,aH,aS,aI,ax] kk) ?_ (zz7 hmbone rfl kk)
  try simp only [p3,p4]
  refine zc7 ?_
  exact hK
 ·rintro ll bB prs kk W ⟨hB,hkW,L2,L3,L4,xs,hF,L6⟩ hqB hLB
  try simp only [p3,p4]
  have hlt:=kk.isLt
  refine wpIn_block ?_
  refine rgI (zd8 ll) [0,1,2,3] ?_
  refine sv 14 (.int .i64 (kk.val:Int)) ?_
  try simp only [p3,p4]
  refine sw 15 (.agg (ent [aB,al,aV,ae,aK,aG,aA,aN,ac,ar,a0,aD,aR,aw,aq,ap,ad,az,aM,ab,av,aX,aY,aW,aO,aU,aE,aL,aF,aJ,af,aj,au,ah,aT,ak,aZ,a1,aa,aC,aQ,aP,ai,ay,aH,aS,aI,ax] kk).toArray) rfl (rl 36 0 (ent [aB,al,aV,ae,aK,aG,aA,aN,ac,ar,a0,aD,aR,aw,aq,ap,ad,az,aM,ab,av,aX,aY,aW,aO,aU,aE,aL,aF,aJ,af,aj,au,ah,aT,ak,aZ,a1,aa,aC,aQ,aP,ai,ay,aH,aS,aI,ax] kk) hLB) ?_
  try simp only [p3,p4]
  refine sw 16 (.pointer (some ⟨b6,4*kk.val,none⟩)) rfl (yq3 116 _ _ b6 12 36 4 kk.val hlt) ?_
  try simp only [p3,p4]
  obtain ⟨ys,hys,dM⟩:=hF.step hmbone rfl hlt
  refine se ?_
  refine es 36 (4*kk.val) _ (ent [aB,al,aV,ae,aK,aG,aA,aN,ac,ar,a0,aD,aR,aw,aq,ap,ad,az,aM,ab,av,aX,aY,aW,aO,aU,aE,aL,aF,aJ,af,aj,au,ah,aT,ak,aZ,a1,aa,aC,aQ,aP,ai,ay,aH,aS,aI,ax] kk) ys.toArray L6 hB q6 (zz7 hmbone rfl kk) ?_ (hoff:=by simp [hF.len,ent];omega) (hcs:=hys)
  intro w1 st kp N g
  refine za0 ?_
  have ho:=zJ3 st L6 (Nat.le_of_eq (by rw [st.size]))
  exact ⟨ho.from _,ho.walks,g,hkW.trans kp,st.lc L2 df,st.lc L3 dj,st.lc L4 c7,ys,dM,N⟩
 ·rintro da dC dh ⟨de,dO,db,dB,dn,xs,hF,dk⟩ cy
  have dA:=hF.done (by decide) rfl
  subst dA
  clear hF
  have c4:=L4.ne dh
  replace dh:=Nat.le_trans (Below.size hB) dh
  replace hB:=de
  replace L2:=db
  replace L4:=dn
  replace L6:=dk
  change IsMk dC da at cy
  change Lc dC b6 #[aB,al,aV,ae,aK,aG,aA,aN,ac,ar,a0,aD,aR,aw,aq,ap,ad,az,aM,ab,av,aX,aY,aW,aO,aU,aE,aL,aF,aJ,af,aj,au,ah,aT,ak,aZ,a1,aa,aC,aQ,aP,ai,ay,aH,aS,aI,ax] 116 at L6
  refine k7 _ _ ?_
  try clear k7 K7
  refine wp_seq_k (fun dN dD=>?_)
  refine wp_seq_k (fun dJ dE=>?_)
  refine rg [0,1] ?_
  refine sw 17 (.agg #[bL,bp,bm,bQ,bt,bU,a9,bJ,bu,bw,bS,bd,bR,bn,a7,a6,bG,a8,bk,bH,bE,bv,bF,bj,bO,bh,bo,bg,bM,bN,a5,bb,bc,a2,a3,bC,bi,bP,ba,bT,bx,bA,bf,bD,bK,bq,a4,bz]) rfl (rl 41 0 [bL,bp,bm,bQ,bt,bU,a9,bJ,bu,bw,bS,bd,bR,bn,a7,a6,bG,a8,bk,bH,bE,bv,bF,bj,bO,bh,bo,bg,bM,bN,a5,bb,bc,a2,a3,bC,bi,bP,ba,bT,bx,bA,bf,bD,bK,bq,a4,bz] L2) ?_
  refine se ?_
  refine ec 18 (ments _ ck.one0 ck.one1 ck.one2 ck.one3 b5.one0 b5.one1 b5.one2 b5.one3 cm.one0 cm.one1 cm.one2 cm.one3 ce.one0 ce.one1 ce.one2 ce.one3 cj.one0 cj.one1 cj.one2 cj.one3 cl.one0 cl.one1 cl.one2 cl.one3 co.one0 co.one1 co.one2 co.one3 cd.one0 cd.one1 cd.one2 cd.one3 cu.one0 cu.one1 cu.one2 cu.one3 cq.one0 cq.one1 cq.one2 cq.one3 bX.one0 bX.one1 bX.one2 bX.one3 b9.one0 b9.one1 b9.one2 b9.one3) ?_
  rintro e13 dF ⟨⟨du,rfl,dc⟩,di⟩
  refine ⟨_,rfl,?_⟩
  replace hB:=hB.trans di
  simp only [p3,p4]
  refine za0 ?_
  refine dE _ _ ?_
  try clear dE dJ
  refine wp_block ?_
  replace L2:=L2.gr di
  replace L4:=L4.gr di
  replace L6:=L6.gr di
  replace cy:=cy.gr di
  refine yz0 (Ds:=[da]) (d1:=8) (d2:=9) (zG9 _ du bL bp bm bQ bt bU a9 bJ bu bw bS bd bR bn a7 a6 bG a8 bk bH bE bv bF bj bO bh bo bg bM bN a5 bb bc a2 a3 bC bi bP ba bT bx bA bf bD bK bq a4 bz ck.one0 ck.one1 ck.one2 ck.one3 b5.one0 b5.one1 b5.one2 b5.one3 cm.one0 cm.one1 cm.one2 cm.one3 ce.one0 ce.one1 ce.one2 ce.one3 cj.one0 cj.one1 cj.one2 cj.one3 cl.one0 cl.one1 cl.one2 cl.one3 co.one0 co.one1 co.one2 co.one3 cd.one0 cd.one1 cd.one2 cd.one3 cu.one0 cu.one1 cu.one2 cu.one3 cq.one0 cq.one1 cq.one2 cq.one3 bX.one0 bX.one1 bX.one2 bX.one3 b9.one0 b9.one1 b9.one2 b9.one3 _ dc) (fun prs W'=>Gr w W'∧Kp dF W'∧Lc W' b2 #[bL,bp,bm,bQ,bt,bU,a9,bJ,bu,bw,bS,bd,bR,bn,a7,a6,bG,a8,bk,bH,bE,bv,bF,bj,bO,bh,bo,bg,bM,bN,a5,bb,bc,a2,a3,bC,bi,bP,ba,bT,bx,bA,bf,bD,bK,bq,a4,bz] 41∧Lc W' b4 #[.bool false] 4∧Lc W' b6 #[aB,al,aV,ae,aK,aG,aA,aN,ac,ar,a0,aD,aR,aw,aq,ap,ad,az,aM,ab,av,aX,aY,aW,aO,aU,aE,aL,aF,aJ,af,aj,au,ah,aT,ak,aZ,a1,aa,aC,aQ,aP,ai,ay,aH,aS,aI,ax] 116∧IsMk W' da∧(∀ j ∈ prs,yo1 ([cD,cP,cQ,cJ,cS,cO,cX,cB,cY,cN,cG,cL].getD j.val 0) ([cZ,cH,cT,cF,cK,cM,cW,cE,cR,cV,cU,cC].getD j.val 0)=0)) (fun c prs W'=>c=.ret∧Gr w W'∧Kp dF W'∧Lc W' b2 #[bL,bp,bm,bQ,bt,bU,a9,bJ,bu,bw,bS,bd,bR,bn,a7,a6,bG,a8,bk,bH,bE,bv,bF,bj,bO,bh,bo,bg,bM,bN,a5,bb,bc,a2,a3,bC,bi,bP,ba,bT,bx,bA,bf,bD,bK,bq,a4,bz] 41∧Lc W' b4 #[.bool false] 4∧Lc W' b6 #[aB,al,aV,ae,aK,aG,aA,aN,ac,ar,a0,aD,aR,aw,aq,ap,ad,az,aM,ab,av,aX,aY,aW,aO,aU,aE,aL,aF,aJ,af,aj,au,ah,aT,ak,aZ,a1,aa,aC,aQ,aP,ai,ay,aH,aS,aI,ax] 116∧IsMk W' da∧(∃ j:Fin 12,yo1 ([cD,cP,cQ,cJ,cS,cO,cX,cB,cY,cN,cG,cL].getD j.val 0) ([cZ,cH,cT,cF,cK,cM,cW,cE,cR,cV,cU,cC].getD j.val 0)≠0)) ((yj6 hB.size).and ((yf9 _ _).and ((zk7 _ _ _ _).and ((zk7 _ _ _ _).and ((zk7 _ _ _ _).and ((own_mk cy).and (ownFrom_pure _ _))))))) (fun c=>((ownFrom_pure _ _).and ((yj6 hB.size).and ((yf9 _ _).and ((zk7 _ _ _ _).and ((zk7 _ _ _ _).and ((zk7 _ _ _ _).and ((own_mk cy).and (ownFrom_pure _ _))))))))) ⟨hB,Kp.refl _,L2,L4,L6,cy,fun _ h=>absurd h (by simp)⟩ ?_ ?_ ?_ ?_ rfl (enters_of Tryz.func98 (by kernel_rfl) rfl)
  ·intro ll kk W K hK
   try simp only [p3,p4]
   refine wpIn_seq_k (fun K1 k1=>?_)
   refine rgI (zd8 ll) [0] ?_
   refine sv 8 (.int .i64 (kk.val:Int)) ?_
   try simp only [p3,p4]
   refine za0 ?_
   refine k1 _ _ ?_
   refine rgY [0,1] ?_
   refine zm8 (zd8 ll) 9 36 (.agg #[.bool false,.slice none 0 0,.bool false,.slice none 0 0]) (ent [bL,bp,bm,bQ,bt,bU,a9,bJ,bu,bw,bS,bd,bR,bn,a7,a6,bG,a8,bk,bH,bE,bv,bF,bj,bO,bh,bo,bg,bM,bN,a5,bb,bc,a2,a3,bC,bi,bP,ba,bT,bx,bA,bf,bD,bK,bq,a4,bz] kk) ?_ (zz7 hmaone rfl kk)
   try simp only [p3,p4]
   refine zc7 ?_
   exact hK
  ·rintro ll bB prs kk W ⟨hB,hkW,L2,L4,L6,cy,hq⟩ hqB hLB
   try simp only [p3,p4]
   refine wpIn_block ?_
   refine wpIn_seq_k (fun K1 k1=>?_)
   have gd:=Gr.drew W
   refine ordI (zd8 ll) (fun w'=>Lc w' bB (ent [bL,bp,bm,bQ,bt,bU,a9,bJ,bu,bw,bS,bd,bR,bn,a7,a6,bG,a8,bk,bH,bE,bv,bF,bj,bO,bh,bo,bg,bM,bN,a5,bb,bc,a2,a3,bC,bi,bP,ba,bT,bx,bA,bf,bD,bK,bq,a4,bz] kk).toArray 36∧Lc w' b6 [aB,al,aV,ae,aK,aG,aA,aN,ac,ar,a0,aD,aR,aw,aq,ap,ad,az,aM,ab,av,aX,aY,aW,aO,aU,aE,aL,aF,aJ,af,aj,au,ah,aT,ak,aZ,a1,aa,aC,aQ,aP,ai,ay,aH,aS,aI,ax].toArray 116) [(true,0),(true,1),(true,2),(true,3),(false,4),(true,5)] (by kernel_rfl) (by kernel_rfl) (by kernel_rfl) (by decide) (fun _ _ _ _ _ h=>h) ⟨hLB.gr gd,L6.gr gd⟩ ?_
   refine ow 21 (.agg (ent [bL,bp,bm,bQ,bt,bU,a9,bJ,bu,bw,bS,bd,bR,bn,a7,a6,bG,a8,bk,bH,bE,bv,bF,bj,bO,bh,bo,bg,bM,bN,a5,bb,bc,a2,a3,bC,bi,bP,ba,bT,bx,bA,bf,bD,bK,bq,a4,bz] kk).toArray) rfl (fun w' hS=>rl 36 0 (ent [bL,bp,bm,bQ,bt,bU,a9,bJ,bu,bw,bS,bd,bR,bn,a7,a6,bG,a8,bk,bH,bE,bv,bF,bj,bO,bh,bo,bg,bM,bN,a5,bb,bc,a2,a3,bC,bi,bP,ba,bT,bx,bA,bf,bD,bK,bq,a4,bz] kk) hS.1) ?_
   refine ov 22 (.int .i64 (kk.val:Int)) ?_
   refine ow 23 (.pointer (some ⟨b6,4*kk.val,none⟩)) rfl (fun w' hS=>yq3 116 _ _ b6 12 36 4 kk.val kk.isLt) ?_
   refine ow 24 (.agg (ent [aB,al,aV,ae,aK,aG,aA,aN,ac,ar,a0,aD,aR,aw,aq,ap,ad,az,aM,ab,av,aX,aY,aW,aO,aU,aE,aL,aF,aJ,af,aj,au,ah,aT,ak,aZ,a1,aa,aC,aQ,aP,ai,ay,aH,aS,aI,ax] kk).toArray) rfl (fun w' hS=>rl 36 (4*kk.val) (ent [aB,al,aV,ae,aK,aG,aA,aN,ac,ar,a0,aD,aR,aw,aq,ap,ad,az,aM,ab,av,aX,aY,aW,aO,aU,aE,aL,aF,aJ,af,aj,au,ah,aT,ak,aZ,a1,aa,aC,aQ,aP,ai,ay,aH,aS,aI,ax] kk) hS.2 (hv:=yf8 rfl kk)) ?_
   refine oe ?_
   refine ec 25 (zV1 ((qa kk).kp (hB.trans gd).kp) ((qb kk).kp (hB.trans gd).kp) (by omega)) ?_
   rintro e1 w1 ⟨rfl,g1⟩
   refine ⟨_,rfl,?_⟩
   refine ⟨⟨hLB.gr (gd.trans g1),L6.gr (gd.trans g1)⟩,?_⟩
   refine ov 26 (.bool (yo1 ([cD,cP,cQ,cJ,cS,cO,cX,cB,cY,cN,cG,cL].getD kk.val 0) ([cZ,cH,cT,cF,cK,cM,cW,cE,cR,cV,cU,cC].getD kk.val 0) !=0)) ?_
   refine zb8 ?_
   refine k1 _ _ ?_
   clear k1 K1
   have g:=gd.trans g1
   have ho:=yy9 g
   refine wpIn_cond_split rfl (fun hb=>?_) (fun hb=>?_)
   ·refine wpIn_seq_k (fun K1 k1=>?_)
    refine rgI (zd8 ll) [0] ?_
    refine se ?_
    refine es 4 0 _ [.bool false] #[.bool false] (L4.gr g) (hB.trans g) q4 ⟨rfl,trivial⟩ ?_
    intro w2 st kp N g2
    refine za0 ?_
    refine k1 _ _ ?_
    clear k1 K1
    refine wpIn_ret ?_
    have dL:=zJ3 st (L4.gr g) (Nat.le_of_eq (by rw [st.size]))
    exact ⟨(ho.trans dL).from _,rfl,g2,(hkW.trans g.kp).trans kp,st.lc (L2.gr g) dm,N,st.lc (L6.gr g) (Ne.symm c7),(cy.gr g).st st (Ne.symm c4),⟨kk,by simpa using hb⟩⟩
   ·refine wpIn_skip ?_
    refine ⟨ho.from _,ho.walks,hB.trans g,hkW.trans g.kp,L2.gr g,L4.gr g,L6.gr g,cy.gr g,fun j hj=>?_⟩
    rcases List.mem_append.1 hj with hj | hj
    · exact hq j hj
    · simp only [List.mem_singleton] at hj;subst hj;simpa using hb
  ·rintro dp dt c6 ⟨de,dy,dl,c5,dd,cA,hqd⟩ c9
   have c8:=L4.ne c6
   have cx:=cy.ne c6
   replace c6:=Nat.le_trans (Below.size hB) c6
   replace hB:=de
   replace L4:=c5
   replace cy:=cA
   change IsMk dt dp at c9
   refine dD _ _ ?_
   try clear dD dN
   refine wp_seq_k (fun dH dG=>?_)
   refine rg [0] ?_
   refine se ?_
   refine es 4 0 (.bool true) [.bool true] #[.bool true] L4 hB q4 ⟨rfl,trivial⟩ fun dP dq dI L4 hB=>?_
   refine za0 ?_
   refine dG _ _ ?_
   try clear dG dH
   refine wp_ret ?_
   replace c9:=c9.st dq (Ne.symm c8)
   replace cy:=cy.st dq (Ne.symm c4)
   refine endN [dp,da] _ (List.Pairwise.cons (List.forall_mem_cons.2 ⟨(Ne.symm cx),(fun _ h=>absurd h (by simp))⟩) (List.Pairwise.cons (fun _ h=>absurd h (by simp)) List.Pairwise.nil)) (List.forall_mem_cons.2 ⟨⟨c6,c9⟩,(List.forall_mem_cons.2 ⟨⟨dh,cy⟩,(fun _ h=>absurd h (by simp))⟩)⟩) hB (fun dQ dv hB=>?_)
   replace L4:=dv.lc L4 (by decide)
   refine ⟨(.bool true),(zU5 _ _ _ rfl rfl L4 (by kernel_rfl)),?_,hB⟩
   exact (by rw [show decide (_=_)=true from decide_eq_true ((rcmp12 rfl rfl).1 hqd)])
  ·rintro dp c prs dt c6 ⟨rfl,de,dy,dl,c5,dd,cA,hleft⟩ c9
   have cx:=cy.ne c6
   replace c6:=Nat.le_trans (Below.size hB) c6
   replace hB:=de
   replace L4:=c5
   replace cy:=cA
   change IsMk dt dp at c9
   refine wp_ret ?_
   simp only [Exit.then,Exit.inBlock]
   refine endN [dp,da] _ (List.Pairwise.cons (List.forall_mem_cons.2 ⟨(Ne.symm cx),(fun _ h=>absurd h (by simp))⟩) (List.Pairwise.cons (fun _ h=>absurd h (by simp)) List.Pairwise.nil)) (List.forall_mem_cons.2 ⟨⟨c6,c9⟩,(List.forall_mem_cons.2 ⟨⟨dh,cy⟩,(fun _ h=>absurd h (by simp))⟩)⟩) hB (fun dR dw hB=>?_)
   replace L4:=dw.lc L4 (by decide)
   refine ⟨(.bool false),(zU5 _ _ _ rfl rfl L4 (by kernel_rfl)),?_,hB⟩
   exact (by obtain ⟨j,hj⟩:=hleft;rw [show decide (_=_)=false from decide_eq_false (fun h=>hj ((rcmp12 rfl rfl).2 h j (zJ4 j)))])
 ·intro D c prs W _ h;exact h.elim

end Go.Proofs.YtaldbfflkpgfoaaGreatDoor
namespace Go.Proofs.YtaldbfflkpgfoaaGreatDoor
def tz (M:Int) (a:Rat):Int:=a.num*(M/(a.den:Int))
end Go.Proofs.YtaldbfflkpgfoaaGreatDoor
namespace Go.Proofs.YtaldbfflkpgfoaaGreatDoor
open Go.RowKit
section
variable {P:Program} {a:Act} {o:Oper} {w:World} {Q:Exit→Act→World→Prop}
theorem rv_rem (t t2:TypeId) (x y:Operand) (A B:Int) (hop:o.op=.binOp .rem t x y t2) (hx:a.eval x=.int .i64 A) (hy:a.eval y=.int .i64 B) (hA:0≤A) (hB:0<B):RunV P a o w (.int .i64 (A % B)):=by
 have h0:¬ B=0:=by omega
 have e:Int.tmod A B=A % B:=Int.tmod_eq_emod_of_nonneg hA
 unfold RunV execOp
 simp only [hop,hx,hy]
 simp [go_sem,binOp,eqGuard,Op.intDiv,h0,e]
theorem yz5 (t t2:TypeId) (x y:Operand) (A B C:Int) (hop:o.op=.binOp .quo t x y t2) (hx:a.eval x=.int .i64 A) (hy:a.eval y=.int .i64 B) (hC:Int.tdiv A B=C) (h1:-9223372036854775808≤C) (h2:C≤9223372036854775807) (hB:0<B):RunV P a o w (.int .i64 C):=by
 have h0:¬ B=0:=by omega
 have e2:IntKind.i64.wrap C=C:=by rw [IntKind.wrap_i64];omega
 unfold RunV execOp
 simp only [hop,hx,hy]
 simp [go_sem,binOp,eqGuard,Op.intDiv,h0,hC,e2]
end

theorem IsRat.small {w:World} {K:Nat} {c0 c1 c2 c3:Value} {z:Int} (h:IsRat w K c0 c1 c2 c3 (z:Rat)) (h0:-9223372036854775808≤z) (h1:z≤9223372036854775807):IsRat w 64 c0 c1 c2 c3 (z:Rat):=by
 obtain ⟨hn,⟨D,hd,hD⟩,_⟩:=h
 have e1:((z:Rat)).num=z:=Rat.num_intCast z
 have e2:((z:Rat)).den=1:=Rat.den_intCast z
 rw [e1] at hn
 refine ⟨by rw [e1];exact hn.resz (Sz.i64 h0 h1),⟨D,hd.resz ?_,hD⟩,Nat.le_refl 64⟩
 unfold Sz
 rw [e2] at hD
 rcases hD with h | ⟨h,_⟩<;>subst h<;>decide
theorem zX7 {g n:Int} (hg:0≤g) (hn:0<n):Int.gcd n (g % n)=Int.gcd g n:=by
 obtain ⟨a,rfl⟩:=Int.eq_ofNat_of_zero_le hg
 obtain ⟨b,rfl⟩:=Int.eq_ofNat_of_zero_le (Int.le_of_lt hn)
 rw [← Int.natCast_emod,Int.gcd_natCast_natCast,Int.gcd_natCast_natCast,Nat.gcd_comm b,← Nat.gcd_rec,Nat.gcd_comm]
def zp2 (a1 a2 a3 a4:Rat):Int:=zC7 (zC7 (zC7 (zC7 1 (a1.den:Int)) (a2.den:Int)) (a3.den:Int)) (a4.den:Int)
def zP4 (a1 a2 a3 a4:Rat):Int:=if sgn a1.num=0 then (if sgn a2.num=0 then (if sgn a3.num=0 then sgn a4.num else sgn a3.num) else sgn a2.num) else sgn a1.num
def yo8 (a1 a2 a3 a4 x:Rat):Int:=x.num*(zp2 a1 a2 a3 a4/(x.den:Int))*zP4 a1 a2 a3 a4
def yl3 (a1 a2 a3 a4:Rat):Int:=
 (Int.gcd (Int.gcd (Int.gcd (Int.gcd 0 (yo8 a1 a2 a3 a4 a1):Int) (yo8 a1 a2 a3 a4 a2):Int) (yo8 a1 a2 a3 a4 a3):Int) (yo8 a1 a2 a3 a4 a4):Int)
def wz (a1 a2 a3 a4 x:Rat):Int:=yo8 a1 a2 a3 a4 x/yl3 a1 a2 a3 a4
theorem zp3 (a:Rat):0<(a.den:Int):=by have:=a.den_pos;omega
end Go.Proofs.YtaldbfflkpgfoaaGreatDoor
